/- QA -/
import GoSem.Core.Next
import Derived.Test.YthchnhoalhbkcaaGreatDoorM4
open Go.IntKind (i64)
set_option linter.unusedVariables false
set_option linter.unusedSimpArgs false
namespace Go.Proofs.YthchnhoalhbkcaaGreatDoor.P
open Go Go.Proofs
def Ok{α:Type}(m:Option α)(Q:α->Prop):Prop:=∃x,m=some x/\Q x
theorem Ok.some{α:Type}{x:α}{Q:α->Prop}(h:Q x):Ok (some x) Q:=⟨x,rfl,h⟩
theorem Ok.mono{α:Type}{m:Option α}{P Q:α->Prop}(h:Ok m P)(k:∀x,P x->Q x):Ok m Q:=by
 obtain⟨x,h1,h2⟩:=h;exact⟨x,h1,k x h2⟩
theorem Ok.bind{α β:Type}{m:Option α}{f:α->Option β}{P:α->Prop}{Q:β->Prop}(h:Ok m P)(k:∀x,P x->Ok (f x) Q):Ok (m.bind f) Q:=by
 obtain⟨x,h1,h2⟩:=h;rw[h1];exact k x h2
theorem Ok.eq{α:Type}{m:Option α}{x:α}(h:m=Option.some x):Ok m (·=x):=⟨x,h,rfl⟩
theorem Ok.val{α:Type}{m:Option α}{x:α}(h:Ok m (·=x)):m=Option.some x:=by
 obtain⟨y,h1,rfl⟩:=h;exact h1
theorem Ok.bindE{α β:Type}{m:Option α}{f:α->Option β}{x:α}{Q:β->Prop}(h:m=Option.some x)(k:Ok (f x) Q):Ok (m.bind f) Q:=by rw[h];exact k
theorem Ok.gd{α:Type}{b:Bool}{x:Option α}{Q:α->Prop}(h:b=true)(k:Ok x Q):Ok (bif b then x else none) Q:=by rw[h];exact k
theorem Ok.no{α:Type}{b:Bool}{x y:Option α}{Q:α->Prop}(h:b=false)(k:Ok y Q):Ok (bif b then x else y) Q:=by rw[h];exact k
theorem Ok.yes{α:Type}{b:Bool}{x y:Option α}{Q:α->Prop}(h:b=true)(k:Ok x Q):Ok (bif b then x else y) Q:=by rw[h];exact k
theorem Ok.gdd{α:Type}{p:Prop}[Decidable p]{x:Option α}{Q:α->Prop}(h:p)(k:Ok x Q):Ok (bif decide p then x else none) Q:=by rw[qh h];exact k
theorem Ok.br{α:Type}{b:Bool}{x y:Option α}{Q:α->Prop}(h1:b=true->Ok x Q)(h2:b=false->Ok y Q):Ok (bif b then x else y) Q:=by
 cases b
 ·exact h2 rfl
 ·exact h1 rfl
theorem Ok.brd{α:Type}{p:Prop}[Decidable p]{x y:Option α}{Q:α->Prop}(h1:p->Ok x Q)(h2:¬p->Ok y Q):Ok (bif decide p then x else y) Q:=by
 by_cases h:p
 ·rw[qh h];exact h1 h
 ·rw[qC h];exact h2 h
theorem He{α:Type}{l:List α}{i:Int}(h0:0<=i)(h:i.toNat<l.length):idx l i=some l[i.toNat]:=by
 unfold idx;rw[qf h0,P2 h]
theorem FA{α:Type}{l:List α}{i:Nat}(h:i<l.length):idx l (i:Int)=some l[i]:=by
 unfold idx;rw[qf (by omega),qu,P2 h]
theorem Ok.idx{α β:Type}{l:List α}{i:Int}{f:α->Option β}{Q:β->Prop}(h0:0<=i)(h:i.toNat<l.length)(k:Ok (f l[i.toNat]) Q):Ok ((P.idx l i).bind f) Q:=by
 rw[He h0 h];exact k
theorem Ok.idxn{α β:Type}{l:List α}{i:Nat}{f:α->Option β}{Q:β->Prop}(h:i<l.length)(k:Ok (f l[i]) Q):Ok ((P.idx l (i:Int)).bind f) Q:=by
 rw[FA h];exact k
theorem Ok.iter{σ ρ:Type}{body:(σ->Option ρ)->σ->Option ρ}{Q:ρ->Prop}(I:σ->Prop)(μ:σ->Nat)(h:∀rec s,I s->(∀s',I s'->μ s'<μ s->Ok (rec s') Q)->Ok (body rec s) Q) :
 ∀n s,I s->μ s<n->Ok (iter body n s) Q
 | 0,_,_,hn=>by omega
 | n+1,s,hs,hn=>h _ s hs λs' hs' hlt=>Ok.iter I μ h n s' hs' (by omega)
theorem Ok.loop{σ ρ:Type}{body:(σ->Option ρ)->σ->Option ρ}{Q:ρ->Prop}{s:σ}(I:σ->Prop)(μ:σ->Nat)(hs:I s)(hμ:μ s<AD)(h:∀rec s,I s->(∀s',I s'->μ s'<μ s->Ok (rec s') Q)->Ok (body rec s) Q):Ok (P.iter body AD s) Q:=Ok.iter I μ h AD s hs hμ
theorem Ok.for{σ ρ:Type}{body:(σ->Option ρ)->σ->Option ρ}{Q:ρ->Prop}{s:σ}(ix:σ->Int)(len:Nat)(I:Nat->σ->Prop)(k:Nat)(hk:k<=len)(h0:ix s=k)(hI:I k s)(hlen:len<=1000000000000)
 (hend:∀rec s,ix s=(len:Int)->I len s->Ok (body rec s) Q)
 (hstep:∀rec (i:Nat) s,i<len->ix s=(i:Int)->I i s->(∀s',ix s'=((i+1:Nat):Int)->I (i+1) s'->Ok (rec s') Q)->Ok (body rec s) Q):Ok (P.iter body AD s) Q:=by
 refine Ok.loop (λs=>∃i:Nat,ix s=i/\i<=len/\I i s) (λs=>len-(ix s).toNat) ⟨k,h0,hk,hI⟩ (by unfold AD;omega) λrec s ⟨i,h1,h2,h3⟩ ih=>?_;by_cases e:i<len
 ·refine hstep rec i s e h1 h3 λs' h4 h5=>ih s' ⟨i+1,h4,by omega,h5⟩ ?_;rw[h4,h1];omega
 ·obtain rfl:i=len:=by omega
  exact hend rec s h1 h3
theorem df{p:Prop}[Decidable p](h:¬p:=by omega):decide p=false:=qC h
theorem dt{p:Prop}[Decidable p](h:p:=by omega):decide p=true:=qh h
theorem wr{n:Int}(h0:-9223372036854775808<=n:=by omega)(h1:n<=9223372036854775807:=by omega):i64.wrap n=n:=by
 unfold IntKind.wrap;simp only[IntKind.signed,IntKind.bits]
 first|omega|(simp;omega)
theorem VG{n m:Nat}(h:n+m<=137438953472):rm n m=true:=qh h
theorem Ok.rm{α:Type}{n m:Nat}{x:Option α}{Q:α->Prop}(h:n+m<=137438953472)(k:Ok x Q):Ok (bif P.rm n m then x else none) Q:=Ok.gd (VG h) k
theorem Co{α:Type}{p:Prop}[Decidable p]{x y:α}(h:p:=by omega):(bif decide p then x else y)=x:=by rw[qh h];rfl
theorem Dz{α:Type}{p:Prop}[Decidable p]{x y:α}(h:¬p:=by omega):(bif decide p then x else y)=y:=by rw[qC h];rfl
open Go.Abs
set_option maxRecDepth 100000
def Ht(c:Ab):Prop:=(∀x∈c.Ak,0<=x/\x<=255)/\c.Ak.length<=400/\0<=c.Ai/\c.Ai<=c.Ak.length
theorem Ht.at{c:Ab}(h:Ht c){i:Int}(h0:0<=i)(h1:i<c.Ak.length):∃x,idx c.Ak i=some x/\0<=x/\x<=255:=by
 have hl:i.toNat<c.Ak.length:=by omega
 exact⟨_,He h0 hl,h.1 _ (qa hl)⟩
theorem fQ{v n:Int}(hv:0<=v)(hn:1<=n):0<=Int.tmod v n/\Int.tmod v n<n:=by
 rw[Int.tmod_eq_emod_of_nonneg hv];exact⟨sK _ (by omega),sw _ (by omega)⟩
theorem Dy{c:Ab}(h:Ht c){n:Int}(hn:1<=n)(hn2:n<=100000):Ok (A8 c n) λr=>Ht r.2/\0<=r.1/\r.1<n:=by
 obtain⟨hx,hl,h0,h1⟩:=h;have h':Ht c:=⟨hx,hl,h0,h1⟩;unfold A8;refine Ok.brd (λh=>by omega) λ_=>Ok.brd (λh=>Ok.some ⟨h',by show(0:Int)<=0/\(0:Int)<n;omega⟩) λhlt=>?_;have e1:i64.wrap (c.Ai+1)=c.Ai+1:=wr;have e2:i64.wrap (c.Ai+1-1)=c.Ai:=by rw[wr];omega
 obtain⟨x,hx1,hx2,hx3⟩:=h'.at h0 (by omega);unfold Jj;rw[e1,e2];refine Ok.bindE hx1 ?_;have ex:i64.wrap x=x:=wr
 have one:Ok (some (Int.tmod x n,({ Ak:=c.Ak,Ai:=c.Ai+1 }:Ab))) λr=>Ht r.2/\0<=r.1/\r.1<n :=
  Ok.some ⟨⟨hx,hl,by show 0<=c.Ai+1;omega,by show c.Ai+1<=(c.Ak.length:Int);omega⟩,fQ hx2 hn⟩
 rw[ex];refine Ok.brd (λ_=>Ok.brd (λh2=>?_) λ_=>Ok.gdd (by omega) one) λ_=>Ok.gdd (by omega) one;obtain⟨y,hy1,hy2,hy3⟩:=h'.at (i:=c.Ai+1) (by omega) h2;refine Ok.bindE hy1 (Ok.gdd (by omega) (Ok.some ⟨⟨hx,hl,?_,?_⟩,?_⟩))
 ·show 0<=i64.wrap (c.Ai+1+1);rw[wr];omega
 ·show i64.wrap (c.Ai+1+1)<=(c.Ak.length:Int);rw[wr];omega
 ·have:i64.wrap (i64.wrap (x*256)+i64.wrap y)=x*256+y:=by
   rw[wr (n:=x*256) (by omega) (by omega),wr (n:=y) (by omega) (by omega),wr]
  show 0<=Int.tmod _ n/\Int.tmod _ n<n;rw[this];exact fQ (by omega) hn
theorem Pp{c:Ab}(h:Ht c){n:Int}(hn:1<=n)(hn2:n<=100000):Ok (BL c n) λr=>Ht r.2 :=
 Ok.bind (Dy h hn hn2) λ_ hx=>Ok.some hx.1
theorem IB{c:Ab}(h:Ht c){a b:Int}(hab:a<=b)(ha:-100000000<=a)(hb:b<=100000000)(hd:b-a<100000):Ok (AR c a b) λr=>Ht r.2/\a<=r.1/\r.1<=b:=by
 unfold AR;have e:i64.wrap (i64.wrap (b-a)+1)=b-a+1:=by rw[wr (n:=b-a) (by omega) (by omega),wr]
 rw[e];refine Ok.bind (Dy h (by omega) (by omega)) λx hx=>Ok.some ⟨hx.1,?_⟩;show a<=i64.wrap (a+x.1)/\i64.wrap (a+x.1)<=b;rw[wr];omega
theorem iu{c:Ab}(h:Ht c):Ok (F8 c) λr=>Ht r.2/\0<=r.1/\r.1<1152921504606846976:=by
 unfold F8;refine Ok.bind (Dy h (by omega) (by omega)) λx hx=>Ok.bind (Dy hx.1 (by omega) (by omega)) λy hy=>Ok.bind (Dy hy.1 (by omega) (by omega)) λz hz=>Ok.some ⟨hz.1,?_⟩;show 0<=i64.wrap (i64.wrap (x.1*y.1)+z.1)/\i64.wrap (i64.wrap (x.1*y.1)+z.1)<1152921504606846976;have h1:0<=x.1*y.1:=Int.mul_nonneg hx.2.1 hy.2.1;have h2:x.1*y.1<=60000*60000:=Int.mul_le_mul (by omega) (by omega) hy.2.1 (by omega);rw[wr (n:=x.1*y.1) (by omega) (by omega),wr];omega
theorem od(l:List Int)(h:∀x∈l,0<=x/\x<=255)(hl:l.length<=9223372036854775807):Ok (Qo l) Ht:=by
 unfold Qo;refine Ok.gdd ?_ (Ok.some ⟨λx hx=>?_,?_,?_,?_⟩)
 ·grind
 ·exact h x (ri (qV hx))
 ·show(LZ l 0 _).length<=400;unfold LZ;grind
 all_goals grind
def jj(n:Nat):ByteArray:=⟨#[UInt8.ofNat (48+n)]⟩
theorem TJ(n:Nat)(h:n<10):Ew (n:Int)=some (jj n):=by
 unfold Ew jj;rw[Co,qu];unfold Go.Lib.decDigits;grind
theorem lY(n:Int)(h0:0<=n)(h:n<10):Ew n=some (jj n.toNat):=by
 have:=TJ n.toNat (by omega);grind
def kc(i:Nat):DG:={ H:=({ data:=#[107] }:ByteArray)++jj i,A7:=0 }
def lc(n:Nat)(p:Int):DG:={ H:=({ data:=#[108] }:ByteArray)++jj n,A7:=p }
def top:DG:={ H:=({ data:=#[116,111,112] }:ByteArray),A7:=-1 }
def cJ:List DG->List Int->List DG
 | b,[]=>b
 | b,p :: r=>cJ (b++[lc b.length p]) r
def base(kids:Nat):List DG:=top :: (List.range kids).map kc
def NI(kids:Nat)(ps:List Int):List DG:=cJ (base kids) ps
def XM:Nat->List (List Int)
 | 0=>[[]]
 | n+1=>(XM n).flatMap λl=>[l++[(n:Int)+1],l++[(n:Int)+1,(n:Int)+1]]
def Ol:List (List DG):=[1,2,3].flatMap λk=>NI k [] :: (XM k).map (NI k)
theorem Vb:∀(b:List DG)(p q:List Int),cJ b (p++q)=cJ (cJ b p) q
 | _,[],_=>rfl
 | b,_ :: r,q=>Vb _ r q
theorem Vd:∀(b:List DG)(p:List Int),(cJ b p).length=b.length+p.length
 | _,[]=>rfl
 | b,x :: r=>by rw[cJ,Vd];simp;omega
theorem Vf:∀n,∀l∈XM n,n<=l.length/\l.length<=2*n
 | 0,l,h=>by simp[XM]at h;subst h;simp
 | n+1,l,h=>by
   simp only[XM,rG]at h;obtain⟨q,hq,h⟩:=h;have:=Vf n q hq;grind
theorem gj{n:Nat}{q:List Int}(hq:q∈XM n)(k:Nat)(h1:1<=k)(h2:k<=2):q++List.replicate k ((n:Int)+1)∈XM (n+1):=by
 simp only[XM,rG];refine⟨q,hq,?_⟩;rcases(by omega:k=1\/k=2)with rfl|rfl
 all_goals grind
theorem ft{c:Ab}(h:Ht c)(name:ByteArray):Ok (Fs c name) λr=>Ht r.2/\∃l∈Ol,r.1={ H:=name,Q:=l }:=by
 unfold Fs;refine Ok.bind (IB h (by omega) (by omega) (by omega) (by omega)) λx hx=>?_;obtain⟨kids,hk⟩:∃k:Nat,x.1=k:=⟨x.1.toNat,by omega⟩;obtain⟨hc,hk1,hk2⟩:=hx;rw[hk]at hk1 hk2;have hkm:kids∈[1,2,3]:=by grind
 refine Ok.for (λs=>s.1) kids (λi s=>s.2=base i) 0 (pY _) rfl rfl (by omega) (λrec s hs hI=>?_) λrec i s hi hs hI ih=>?_
 ·simp only[G1,hs,hk,hI];rw[Dz];unfold Ji;refine Ok.bind (Pp hc (by omega) (by omega)) λy hy=>Ok.br (λ_=>Ok.some ⟨hy,base kids,?_,rfl⟩) λ_=>?_
  ·simp only[Ol,rG];exact⟨kids,hkm,rD ..⟩
  refine Ok.for (λs=>s.1) kids (λi s=>Ht s.2.1/\∃p∈XM i,s.2.2=NI kids p) 0 (pY _) rfl ⟨hy,[],by simp[XM],rfl⟩ (by omega) (λrec s hs hI=>?_) λrec i s hi hs hI ih=>?_
  ·obtain⟨h1,p,h2,h3⟩:=hI;simp only[G2,hs,hk];rw[Dz];refine Ok.some ⟨h1,NI kids p,?_,by rw[h3]⟩;simp only[Ol,rG];grind
  ·obtain⟨h1,p,h2,h3⟩:=hI;simp only[G2,hs,hk];rw[Co];refine Ok.bind (IB h1 (by omega) (by omega) (by omega) (by omega)) λz hz=>?_;have hpl:=Vf i p h2;obtain⟨m,hm⟩:∃k:Nat,z.1=k:=⟨z.1.toNat,by omega⟩;refine Ok.loop (λs=>∃j:Nat,j<=m/\s.1=(m:Int)-j/\s.2=NI kids (p++List.replicate j ((i:Int)+1))) (λs=>s.1.toNat) ⟨0,by omega,by simp[hm],by simp[h3]⟩ (by unfold AD;show z.1.toNat<_;omega) λrec s hs ih2=>?_;obtain⟨j,hj,e1,e2⟩:=hs
   have hml:s.2.length=1+kids+p.length+j:=by
    rw[e2,NI,Vd];simp[base];omega
   simp only[Jh];refine Ok.brd (λhpos=>?_) λhneg=>?_
   ·have hitoa:=TJ s.2.length (by omega);refine Ok.bindE hitoa (Ok.gdd (by simp[jj,ByteArray.size]) (Ok.rm (by grind) (ih2 _ ⟨j+1,by omega,?_,?_⟩ ?_)))
    ·show i64.wrap (s.1-1)=_;rw[wr];omega
    ·have hw:i64.wrap (1+(i:Int))=(i:Int)+1:=by rw[wr];omega
     show s.2++[({ H:=({ data:=#[108] }:ByteArray)++jj s.2.length,A7:=i64.wrap (1+(i:Int)) }:DG)]=_;rw[hw,List.replicate_succ',<-rN,NI,Vb,<-NI,<-e2];rfl
    ·show(i64.wrap (s.1-1)).toNat<s.1.toNat;rw[wr];omega
   ·obtain rfl:j=m:=by omega
    refine ih _ ?_ ⟨hz.1,p++List.replicate j ((i:Int)+1),gj h2 j (by omega) (by omega),e2⟩;show i64.wrap ((i:Int)+1)=_;rw[wr];omega
 ·simp only[G1,hs,hk];rw[Co];have hl:s.2.length=1+i:=by rw[hI];simp[base];omega
  refine Ok.bindE (TJ i (by omega)) (Ok.gdd (by simp[jj,ByteArray.size]) (Ok.rm (by grind) (ih _ ?_ ?_)))
  ·show i64.wrap ((i:Int)+1)=_;rw[wr];omega
  ·show s.2++[_]=_;rw[hI];simp[base,List.range_succ,kc]
def OW:List (List Int):=[[1],[1,5],[1,5,20],[1,2,4,12]]
structure FQ(c:Ar):Prop where
 kind:c.Kind=3
 list:c.Al=0
 low:-4<=c.C/\c.C<=2
 high:c.C<=c.D/\c.D<=c.C+44
 widths:c.T∈OW
theorem dD{c:Ab}(h:Ht c)(name:ByteArray):Ok (D8 c name) λr=>Ht r.2/\FQ r.1/\r.1.H=name:=by
 unfold D8;refine Ok.bind (IB h (by omega) (by omega) (by omega) (by omega)) λx hx=>Ok.bind (Dy hx.1 (by omega) (by omega)) λy hy=>?_;have hl:y.1.toNat<OW.length:=by simp[OW];omega
 refine Ok.idx hy.2.1 hl (Ok.bind (Pp hy.1 (by omega) (by omega)) λz hz=>Ok.bind (Dy hz (by omega) (by omega)) λu hu=>Ok.some ⟨hu.1,⟨rfl,rfl,hx.2,?_,qa hl⟩,rfl⟩);show x.1<=i64.wrap (x.1+u.1)/\i64.wrap (x.1+u.1)<=x.1+44;rw[wr];omega
def o6:Ar:={ H:=({ data:=#[119,104,111] }:ByteArray),Kind:=1,Al:=0,C:=0,D:=0,T:=[],Az:=false }
def pI:Ar:={ H:=({ data:=#[115,101,120] }:ByteArray),Kind:=2,Al:=0,C:=0,D:=0,T:=[],Az:=false }
def pA:Ar:={ H:=({ data:=#[106,111,98] }:ByteArray),Kind:=2,Al:=1,C:=0,D:=0,T:=[],Az:=false }
def FO(j:Bool):List Ar:=[o6,pI]++(if j then[pA]else[])
def jX(i:Nat):ByteArray:=({ data:=#[109] }:ByteArray)++jj i
def ZB:ByteArray:={ data:=#[111,110,101] }
def em:ByteArray:={ data:=#[116,119,111] }
def Ms(k:Nat)(ms:List Ar):Prop:=∀i (h:i<ms.length),FQ ms[i]/\ms[i].H=jX (k+i)
structure DS(s:Aa):Prop where
 lists:∃a∈Ol,∃b∈Ol,s.J=[{ H:=ZB,Q:=a },{ H:=em,Q:=b }]
 cols:∃j ms,s.A=FO j++ms/\1<=ms.length/\ms.length<=3/\Ms (FO j).length ms
theorem Ms.snoc{k:Nat}{ms:List Ar}(h:Ms k ms){c:Ar}(hc:FQ c)(hn:c.H=jX (k+ms.length)):Ms k (ms++[c]):=by
 intro i hi;by_cases e:i<ms.length
 ·rw[List.getElem_append_left e];exact h i e
 ·grind
theorem LY(j:Bool):2<=(FO j).length/\(FO j).length<=3:=by cases j<;>simp[FO]
theorem VI{body:((Int×Ab×List Ar)->Option (Aa×Ab))->(Int×Ab×List Ar)->Option (Aa×Ab)}{L:List Am}(hL:∃a∈Ol,∃b∈Ol,L=[{ H:=ZB,Q:=a },{ H:=em,Q:=b }])
 (hb:body=λrec s=>F7 (λv4_1 w0_1 b12_1=>some (({ J:=L,A:=b12_1 }:Aa),w0_1)) rec s.1 s.2.1 s.2.2) (j:Bool) {n:Int} (h1:1<=n) (h2:n<=3) {c:Ab} (hc:Ht c) :
 Ok (iter body AD (n,c,FO j)) λr=>Ht r.2/\DS r.1:=by
 subst hb;have hcl:=LY j;refine Ok.loop (λs=>0<=s.1/\Ht s.2.1/\∃ms,s.2.2=FO j++ms/\(ms.length:Int)=n-s.1/\Ms (FO j).length ms) (λs=>s.1.toNat) ⟨by show 0<=n;omega,hc,[],by simp,by simp,λi hi=>by simp at hi⟩ (by unfold AD;show n.toNat<_;omega) λrec s hs ih=>?_;obtain⟨h0,hcs,ms,e1,e2,e3⟩:=hs;simp only[F7];refine Ok.brd (λhpos=>?_) λhneg=>?_
 ·have hl:s.2.2.length=(FO j).length+ms.length:=by rw[e1];simp
  refine Ok.bindE (TJ _ (by omega)) (Ok.gdd (by simp[jj,ByteArray.size]) (Ok.bind (dD hcs _) λx hx=>Ok.rm (by grind) (ih _ ⟨?_,hx.1,ms++[x.1],by rw[e1];simp,?_,e3.snoc hx.2.1 ?_⟩ ?_)))
  ·show 0<=i64.wrap (s.1-1);rw[wr];omega
  ·show _=n-i64.wrap (s.1-1);rw[wr];simp;omega
  ·rw[hx.2.2,hl];rfl
  ·show(i64.wrap (s.1-1)).toNat<s.1.toNat;rw[wr];omega
 ·exact Ok.some ⟨hcs,⟨hL,j,ms,e1,by omega,by omega,e3⟩⟩
theorem it{c:Ab}(h:Ht c):Ok (F6 c) λr=>Ht r.2/\DS r.1:=by
 unfold F6;refine Ok.bind (ft h _) λx hx=>Ok.bind (ft hx.1 _) λy hy=>Ok.bind (Pp hy.1 (by omega) (by omega)) λz hz=>?_;obtain⟨_,a,ha,ea⟩:=hx;obtain⟨_,b,hb,eb⟩:=hy;have hL:∃a∈Ol,∃b∈Ol,[x.1,y.1]=[{ H:=ZB,Q:=a },{ H:=em,Q:=b }]:=⟨a,ha,b,hb,by rw[ea,eb];rfl⟩;refine Ok.br (λ_=>Ok.rm (by simp) (Ok.bind (IB hz (by omega) (by omega) (by omega) (by omega)) λu hu=>?_)) λ_=>Ok.bind (IB hz (by omega) (by omega) (by omega) (by omega)) λu hu=>?_
 ·exact VI hL rfl true hu.2.1 hu.2.2 hu.1
 ·exact VI hL rfl false hu.2.1 hu.2.2 hu.1
def YR:List Am:=[ZB,em].flatMap λn=>Ol.map λl=>{ H:=n,Q:=l }
variable {s:Aa}
theorem DS.list(h:DS s){i:Nat}(hi:i<s.J.length):s.J[i]∈YR:=by
 obtain⟨a,ha,b,hb,e⟩:=h.lists
 have h1:∀(k:Nat)(hk:k<2),([{ H:=ZB,Q:=a },{ H:=em,Q:=b }]:List Am)[k]'hk∈YR:=by
  intro k hk;simp only[YR,rG];grind
 grind
theorem DS.lists2(h:DS s):s.J.length=2:=by
 obtain⟨a,ha,b,hb,e⟩:=h.lists;rw[e];rfl
def Is(l:Am):Int:=(FF l).getD 0
def Et(l:Am):List Int:=(OF l (Is l-1)).getD []
theorem bI:(YR.all λl=>FE l==some 0&&Gu l==some 0&&(FF l==some (Is l))&&(Eo l==some (Is l))&&decide (2<=Is l)&&decide (Is l<=3) &&
 OF l (Is l-1)==some (Et l)&&Hx l (Is l-1)==some (Et l)&&!(Et l).isEmpty&&(Et l).all λx=>decide (0<=x)&&decide (x<l.Q.length)&&HW l x==some (Is l-1)&&Hy l x (Is l-1)==some x&&JQ l x (Is l-1)==some x)=true:=by decide +kernel
structure CL(l:Am):Prop where
 rcheck:FE l=some 0
 check:Gu l=some 0
 rlev:FF l=some (Is l)
 lev:Eo l=some (Is l)
 lev2:2<=Is l
 lev3:Is l<=3
 rleaves:OF l (Is l-1)=some (Et l)
 leaves:Hx l (Is l-1)=some (Et l)
 some_:Et l≠[]
 leaf:∀x∈Et l,0<=x/\x<l.Q.length/\HW l x=some (Is l-1)/\Hy l x (Is l-1)=some x/\JQ l x (Is l-1)=some x
theorem MD{l:Am}(h:l∈YR):CL l:=by
 have:=List.all_eq_true.1 bI l h;simp only[qX,beq_iff_eq,decide_eq_true_eq,rQ,sY,List.isEmpty_eq_false_iff]at this;obtain⟨⟨⟨⟨⟨⟨⟨⟨⟨h1,h2⟩,h3⟩,h4⟩,h5⟩,h6⟩,h7⟩,h8⟩,h9⟩,h10⟩:=this;exact⟨h1,h2,h3,h4,h5,h6,h7,h8,h9,λx hx=>by have:=h10 x hx;obtain⟨⟨⟨⟨a,b⟩,c⟩,d⟩,e⟩:=this;exact⟨a,b,c,d,e⟩⟩
def Po(j:Bool)(n:Nat):List ByteArray:=(FO j).map (·.H)++(List.range n).map λi=>jX ((FO j).length+i)
theorem V8:([true,false].all λj=>[1,2,3].all λn=>(Po j n).all (λx=>EX x==some true&&CN x==some true) &&
 (List.range (Po j n).length).all λi=>(List.range i).all λk=>match (Po j n)[i]?,(Po j n)[k]? with|some x,some y=>!(x.toList==y.toList)&&!(y.toList==x.toList)|_,_=>false)=true:=by decide +kernel
structure M5(c:Ar):Prop where
 kind:c.Kind=2
 list:c.Al=0\/c.Al=1
 low:c.C=0
 high:c.D=0
 widths:c.T=[]
 opt:c.Az=false
theorem DS.cols_length(h:DS s):3<=s.A.length/\s.A.length<=6:=by
 obtain⟨j,ms,e,h1,h2,h3⟩:=h.cols;have:=LY j;grind
theorem DS.col0(h:DS s)(hi:0<s.A.length):s.A[0]=o6:=by
 obtain⟨j,ms,e,h1,h2,h3⟩:=h.cols;have:s.A[0]?=some o6:=by rw[e];cases j<;>rfl
 grind
theorem DS.col(h:DS s){i:Nat}(h0:1<=i)(hi:i<s.A.length):M5 s.A[i]\/FQ s.A[i]:=by
 obtain⟨j,ms,e,h1,h2,h3⟩:=h.cols;have hg:s.A[i]?=some s.A[i]:=P2 hi;generalize hc:s.A[i]=c at hg ⊢;rw[e]at hg;by_cases hl:i<(FO j).length
 ·rw[qj hl]at hg;left
  cases j with
  | true =>
    rcases(by simp[FO]at hl;omega:i=1\/i=2)with rfl|rfl
    ·cases hg;exact⟨rfl,.inl rfl,rfl,rfl,rfl,rfl⟩
    ·cases hg;exact⟨rfl,.inr rfl,rfl,rfl,rfl,rfl⟩
  | false =>
    obtain rfl:i=1:=by simp[FO]at hl;omega
    cases hg;exact⟨rfl,.inl rfl,rfl,rfl,rfl,rfl⟩
 ·right
  rw[qg (by omega)]at hg;obtain⟨hlt,rfl⟩:=List.getElem?_eq_some_iff.1 hg;exact(h3 _ hlt).1
theorem DS.names(h:DS s):∃j n,n∈[1,2,3]/\s.A.map (·.H)=Po j n:=by
 obtain⟨j,ms,e,h1,h2,h3⟩:=h.cols;refine⟨j,ms.length,by simp;omega,?_⟩;rw[e,qx,Po];congr 1;apply List.ext_getElem (by simp);intro i hi hi2;simp only[List.getElem_map,List.getElem_range];exact(h3 i (by grind)).2
theorem DS.name(h:DS s){i:Nat}(hi:i<s.A.length):EX s.A[i].H=some true/\CN s.A[i].H=some true:=by
 obtain⟨j,n,hn,e⟩:=h.names;have hf:=List.all_eq_true.1 (List.all_eq_true.1 V8 j (by grind)) n hn;grind
theorem DS.name_ne(h:DS s){i k:Nat}(hi:i<s.A.length)(hk:k<i):(s.A[k].H.toList==s.A[i].H.toList)=false/\(s.A[i].H.toList==s.A[k].H.toList)=false:=by
 obtain⟨j,n,hn,e⟩:=h.names;have hf:=List.all_eq_true.1 (List.all_eq_true.1 V8 j (by grind)) n hn;simp only[qX,rQ]at hf;have hl:s.A.length=(Po j n).length:=by grind
 have:=hf.2 i (List.mem_range.2 (by omega)) k (List.mem_range.2 hk);grind
def Gi{α:Type}(q:α->Bool)(l:List α):Int:=match l.findIdx? q with|some i=>(i:Int)|none=>-1
theorem Jp{α:Type}{l:List α}{p:α->Option Bool}{q:α->Bool}(hp:∀x∈l,p x=some (q x))(hl:l.length<=1000000000) :
 iter (λrec1 v=>bif(decide (v<(l.length:Int)))then(idx l v).bind λx14=>(p x14).bind λx16=>bif x16 then some v else rec1 (i64.wrap (v+1))else some (-1)) AD 0=some (Gi q l):=by
 refine Ok.val (Ok.for (λs=>s) l.length (λi _=>∀k (hk:k<l.length),k<i->q l[k]=false) 0 (pY _) rfl (λ_ _ h=>by omega) (by omega) (λrec s hs hI=>?_) λrec i s hi hs hI ih=>?_)
 ·rw[hs,Dz];refine Ok.some ?_
  have:l.findIdx? q=none:=by
   rw[List.findIdx?_eq_none_iff];intro x hx;obtain⟨k,hk,rfl⟩:=List.mem_iff_getElem.1 hx;grind
  simp[Gi,this]
 ·rw[hs,Co];refine Ok.idxn hi (Ok.bindE (hp _ (qa hi)) (Ok.br (λh=>Ok.some ?_) λh=>ih _ ?_ λk hk hk2=>?_))
  ·have:l.findIdx? q=some i:=by
    rw[rW];grind
   simp[Gi,this]
  ·show i64.wrap ((i:Int)+1)=_;rw[wr];omega
  ·grind
theorem KB{α:Type}(q:α->Bool)(l:List α):decide (Gi q l>=0)=l.any q:=by
 unfold Gi;grind
theorem gu{l:List Ar}{p:Ar->Option Bool}(q:Ar->Bool)(hp:∀x∈l,p x=some (q x))(hl:l.length<=1000000000):Be l p=some (l.any q):=by
 unfold Be;rw[show BF l p=some (Gi q l)from Jp hp hl,qd,KB]
theorem au{l:List Am}{p:Am->Option Bool}(q:Am->Bool)(hp:∀x∈l,p x=some (q x))(hl:l.length<=1000000000):AT l p=some (l.any q):=by
 unfold AT;rw[show B3 l p=some (Gi q l)from Jp hp hl,qd,KB]
end Go.Proofs.YthchnhoalhbkcaaGreatDoor.P
