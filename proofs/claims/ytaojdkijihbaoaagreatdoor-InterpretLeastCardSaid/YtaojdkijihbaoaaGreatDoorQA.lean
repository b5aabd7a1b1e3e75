/- QA -/
import GoSem.Core.Next
import Derived.Test.YtaojdkijihbaoaaGreatDoorM4
open Go.IntKind (i64)
set_option linter.all false
namespace Go.Proofs.YtaojdkijihbaoaaGreatDoor.P
open Go Go.Proofs
def Ok{α:Type}(m:Option α)(Q:α->Prop):Prop:=∃x,m=some x/\Q x
theorem y3{α:Type}{x:α}{Q:α->Prop}(h:Q x):Ok (some x) Q:=⟨x,rfl,h⟩
theorem Ok.mono{α:Type}{m:Option α}{P Q:α->Prop}(h:Ok m P)(k:∀x,P x->Q x):Ok m Q:=by
 obtain⟨x,a,b⟩:=h;exact⟨x,a,k x b⟩
theorem Ok.bind{α β:Type}{m:Option α}{f:α->Option β}{P:α->Prop}{Q:β->Prop}(h:Ok m P)(k:∀x,P x->Ok (f x) Q):Ok (m.bind f) Q:=by
 obtain⟨x,a,b⟩:=h;rw[a];exact k x b
theorem Ok.eq{α:Type}{m:Option α}{x:α}(h:m=Option.some x):Ok m (·=x):=⟨x,h,rfl⟩
theorem Ok.val{α:Type}{m:Option α}{x:α}(h:Ok m (·=x)):m=Option.some x:=by
 obtain⟨y,a,rfl⟩:=h;exact a
theorem qr{α β:Type}{m:Option α}{f:α->Option β}{x:α}{Q:β->Prop}(h:m=Option.some x)(k:Ok (f x) Q):Ok (m.bind f) Q:=by rw[h];exact k
theorem ye{α:Type}{b:Bool}{x:Option α}{Q:α->Prop}(h:b=true)(k:Ok x Q):Ok (bif b then x else none) Q:=by rw[h];exact k
theorem y4{α:Type}{b:Bool}{x y:Option α}{Q:α->Prop}(h:b=false)(k:Ok y Q):Ok (bif b then x else y) Q:=by rw[h];exact k
theorem y7{α:Type}{b:Bool}{x y:Option α}{Q:α->Prop}(h:b=true)(k:Ok x Q):Ok (bif b then x else y) Q:=by rw[h];exact k
theorem yb{α:Type}{p:Prop}[Decidable p]{x:Option α}{Q:α->Prop}(h:p)(k:Ok x Q):Ok (bif decide p then x else none) Q:=by rw[un h];exact k
theorem y6{α:Type}{b:Bool}{x y:Option α}{Q:α->Prop}(a:b=true->Ok x Q)(c:b=false->Ok y Q):Ok (bif b then x else y) Q:=by
 cases b
 ·exact c rfl
 ·exact a rfl
theorem y9{α:Type}{p:Prop}[Decidable p]{x y:Option α}{Q:α->Prop}(a:p->Ok x Q)(b:¬p->Ok y Q):Ok (bif decide p then x else y) Q:=by
 by_cases h:p
 ·rw[un h];exact a h
 ·rw[uB h];exact b h
theorem JE{α:Type}{l:List α}{i:Int}(a:0<=i)(h:i.toNat<l.length):idx l i=some l[i.toNat]:=by
 unfold idx;rw[uk a,P3 h]
theorem Cf{α:Type}{l:List α}{i:Nat}(h:i<l.length):idx l (i:Int)=some l[i]:=by
 unfold idx;rw[uk (by omega),uv,P3 h]
theorem Ok.idx{α β:Type}{l:List α}{i:Int}{f:α->Option β}{Q:β->Prop}(a:0<=i)(h:i.toNat<l.length)(k:Ok (f l[i.toNat]) Q):Ok ((P.idx l i).bind f) Q:=by
 rw[JE a h];exact k
theorem y5{α β:Type}{l:List α}{i:Nat}{f:α->Option β}{Q:β->Prop}(h:i<l.length)(k:Ok (f l[i]) Q):Ok ((P.idx l (i:Int)).bind f) Q:=by
 rw[Cf h];exact k
theorem Ok.iter{σ ρ:Type}{body:(σ->Option ρ)->σ->Option ρ}{Q:ρ->Prop}(I:σ->Prop)(μ:σ->Nat)(h:∀rec s,I s->(∀a,I a->μ a<μ s->Ok (rec a) Q)->Ok (body rec s) Q) :
 ∀n s,I s->μ s<n->Ok (iter body n s) Q
 | 0,_,_,hn=>by omega
 | n+1,s,hs,hn=>h _ s hs λa b c=>Ok.iter I μ h n a b (by omega)
theorem Ok.loop{σ ρ:Type}{body:(σ->Option ρ)->σ->Option ρ}{Q:ρ->Prop}{s:σ}(I:σ->Prop)(μ:σ->Nat)(b:I s)(c:μ s<A9)(h:∀rec s,I s->(∀a,I a->μ a<μ s->Ok (rec a) Q)->Ok (body rec s) Q):Ok (P.iter body A9 s) Q:=Ok.iter I μ h A9 s b c
theorem y8{σ ρ:Type}{body:(σ->Option ρ)->σ->Option ρ}{Q:ρ->Prop}{s:σ}(b:σ->Int)(len:Nat)(I:Nat->σ->Prop)(k:Nat)(hk:k<=len)(l:b s=k)(m:I k s)(g:len<=1000000000000)
 (c:∀rec s,b s=(len:Int)->I len s->Ok (body rec s) Q)
 (a:∀rec (i:Nat) s,i<len->b s=(i:Int)->I i s->(∀d,b d=((i+1:Nat):Int)->I (i+1) d->Ok (rec d) Q)->Ok (body rec s) Q):Ok (P.iter body A9 s) Q:=by
 refine Ok.loop (λs=>∃i:Nat,b s=i/\i<=len/\I i s) (λs=>len-(b s).toNat) ⟨k,l,hk,m⟩ (by unfold A9;omega) λrec s ⟨i,f,o,h⟩ ih=>?_;by_cases e:i<len
 ·refine a rec i s e f h λd j n=>ih d ⟨i+1,j,by omega,n⟩ ?_;rw[j,f];omega
 ·obtain rfl:i=len:=by omega
  exact c rec s f h
theorem df{p:Prop}[Decidable p](h:¬p:=by omega):decide p=false:=uB h
theorem dt{p:Prop}[Decidable p](h:p:=by omega):decide p=true:=un h
theorem wr{n:Int}(a:-9223372036854775808<=n:=by omega)(b:n<=9223372036854775807:=by omega):i64.wrap n=n:=by
 unfold IntKind.wrap;simp only[IntKind.signed,IntKind.bits]
 first|omega|(simp;omega)
theorem Wz{n m:Nat}(h:n+m<=137438953472):rm n m=true:=un h
theorem Ok.rm{α:Type}{n m:Nat}{x:Option α}{Q:α->Prop}(h:n+m<=137438953472)(k:Ok x Q):Ok (bif P.rm n m then x else none) Q:=ye (Wz h) k
theorem Cg{α:Type}{p:Prop}[Decidable p]{x y:α}(h:p:=by omega):(bif decide p then x else y)=x:=by rw[un h];rfl
theorem CW{α:Type}{p:Prop}[Decidable p]{x y:α}(h:¬p:=by omega):(bif decide p then x else y)=y:=by rw[uB h];rfl
open Go.Abs
set_option maxRecDepth 100000
def IT(c:Ab):Prop:=(∀x∈c.A0,0<=x/\x<=255)/\c.A0.length<=400/\0<=c.Ax/\c.Ax<=c.A0.length
theorem IT.at{c:Ab}(h:IT c){i:Int}(b:0<=i)(d:i<c.A0.length):∃x,idx c.A0 i=some x/\0<=x/\x<=255:=by
 have a:i.toNat<c.A0.length:=by omega
 exact⟨_,JE b a,h.1 _ (ud a)⟩
theorem je{v n:Int}(a:0<=v)(b:1<=n):0<=Int.tmod v n/\Int.tmod v n<n:=by
 rw[Int.tmod_eq_emod_of_nonneg a];exact⟨vO _ (by omega),vN _ (by omega)⟩
theorem Ey{c:Ab}(h:IT c){n:Int}(g:1<=n)(k:n<=100000):Ok (AA c n) λr=>IT r.2/\0<=r.1/\r.1<n:=by
 obtain⟨hx,a,j,l⟩:=h;have b:IT c:=⟨hx,a,j,l⟩;unfold AA;refine y9 (λh=>by omega) λ_=>y9 (λh=>y3 ⟨b,by show(0:Int)<=0/\(0:Int)<n;omega⟩) λm=>?_;have o:i64.wrap (c.Ax+1)=c.Ax+1:=wr;have p:i64.wrap (c.Ax+1-1)=c.Ax:=by rw[wr];omega
 obtain⟨x,d,e,q⟩:=b.at j (by omega);unfold J6;rw[o,p];refine qr d ?_;have s:i64.wrap x=x:=wr
 have one:Ok (some (Int.tmod x n,({ A0:=c.A0,Ax:=c.Ax+1 }:Ab))) λr=>IT r.2/\0<=r.1/\r.1<n :=
  y3 ⟨⟨hx,a,by show 0<=c.Ax+1;omega,by show c.Ax+1<=(c.A0.length:Int);omega⟩,je e g⟩
 rw[s];refine y9 (λ_=>y9 (λt=>?_) λ_=>yb (by omega) one) λ_=>yb (by omega) one;obtain⟨y,f,u,v⟩:=b.at (i:=c.Ax+1) (by omega) t;refine qr f (yb (by omega) (y3 ⟨⟨hx,a,?_,?_⟩,?_⟩))
 ·show 0<=i64.wrap (c.Ax+1+1);rw[wr];omega
 ·show i64.wrap (c.Ax+1+1)<=(c.A0.length:Int);rw[wr];omega
 ·have:i64.wrap (i64.wrap (x*256)+i64.wrap y)=x*256+y:=by
   rw[wr (n:=x*256) (by omega) (by omega),wr (n:=y) (by omega) (by omega),wr]
  show 0<=Int.tmod _ n/\Int.tmod _ n<n;rw[this];exact je (by omega) g
theorem QZ{c:Ab}(h:IT c){n:Int}(b:1<=n)(a:n<=100000):Ok (CC c n) λr=>IT r.2 :=
 Ok.bind (Ey h b a) λ_ hx=>y3 hx.1
theorem Hx{c:Ab}(h:IT c){a b:Int}(d:a<=b)(f:-100000000<=a)(g:b<=100000000)(hd:b-a<100000):Ok (AN c a b) λr=>IT r.2/\a<=r.1/\r.1<=b:=by
 unfold AN;have e:i64.wrap (i64.wrap (b-a)+1)=b-a+1:=by rw[wr (n:=b-a) (by omega) (by omega),wr]
 rw[e];refine Ok.bind (Ey h (by omega) (by omega)) λx hx=>y3 ⟨hx.1,?_⟩;show a<=i64.wrap (a+x.1)/\i64.wrap (a+x.1)<=b;rw[wr];omega
theorem kB{c:Ab}(h:IT c):Ok (Gh c) λr=>IT r.2/\0<=r.1/\r.1<1152921504606846976:=by
 unfold Gh;refine Ok.bind (Ey h (by omega) (by omega)) λx hx=>Ok.bind (Ey hx.1 (by omega) (by omega)) λy hy=>Ok.bind (Ey hy.1 (by omega) (by omega)) λz a=>y3 ⟨a.1,?_⟩;show 0<=i64.wrap (i64.wrap (x.1*y.1)+z.1)/\i64.wrap (i64.wrap (x.1*y.1)+z.1)<1152921504606846976;have b:0<=x.1*y.1:=Int.mul_nonneg hx.2.1 hy.2.1;have d:x.1*y.1<=60000*60000:=Int.mul_le_mul (by omega) (by omega) hy.2.1 (by omega);rw[wr (n:=x.1*y.1) (by omega) (by omega),wr];omega
theorem rx(l:List Int)(h:∀x∈l,0<=x/\x<=255)(a:l.length<=9223372036854775807):Ok (QE l) IT:=by
 unfold QE;refine yb ?_ (y3 ⟨λx hx=>?_,?_,?_,?_⟩)
 ·grind
 ·exact h x (vL (vz hx))
 ·show(M1 l 0 _).length<=400;unfold M1;grind
 all_goals grind
def oW(n:Nat):ByteArray:=⟨#[UInt8.ofNat (48+n)]⟩
theorem XU(n:Nat)(h:n<10):Dh (n:Int)=some (oW n):=by
 unfold Dh oW;rw[Cg,uv];unfold Go.Lib.decDigits;grind
def kc(i:Nat):Eu:={ I:=({ data:=#[107] }:ByteArray)++oW i,Bd:=0 }
def lc(n:Nat)(p:Int):Eu:={ I:=({ data:=#[108] }:ByteArray)++oW n,Bd:=p }
def top:Eu:={ I:=({ data:=#[116,111,112] }:ByteArray),Bd:=-1 }
def eO:List Eu->List Int->List Eu
 | b,[]=>b
 | b,p :: r=>eO (b++[lc b.length p]) r
def base(kids:Nat):List Eu:=top :: (List.range kids).map kc
def O6(kids:Nat)(ps:List Int):List Eu:=eO (base kids) ps
def YE:Nat->List (List Int)
 | 0=>[[]]
 | n+1=>(YE n).flatMap λl=>[l++[(n:Int)+1],l++[(n:Int)+1,(n:Int)+1]]
def OR:List (List Eu):=[1,2,3].flatMap λk=>O6 k [] :: (YE k).map (O6 k)
theorem VM:∀(b:List Eu)(p q:List Int),eO b (p++q)=eO (eO b p) q
 | _,[],_=>rfl
 | b,_ :: r,q=>VM _ r q
theorem VN:∀(b:List Eu)(p:List Int),(eO b p).length=b.length+p.length
 | _,[]=>rfl
 | b,x :: r=>by rw[eO,VN];simp;omega
theorem VP:∀n,∀l∈YE n,n<=l.length/\l.length<=2*n
 | 0,l,h=>by simp[YE]at h;subst h;simp
 | n+1,l,h=>by
   simp only[YE,wn]at h;obtain⟨q,a,h⟩:=h;have:=VP n q a;grind
theorem jo{n:Nat}{q:List Int}(a:q∈YE n)(k:Nat)(b:1<=k)(c:k<=2):q++List.replicate k ((n:Int)+1)∈YE (n+1):=by
 simp only[YE,wn];refine⟨q,a,?_⟩;rcases(by omega:k=1\/k=2)with rfl|rfl
 all_goals grind
theorem iH{c:Ab}(h:IT c)(d:ByteArray):Ok (FK c d) λr=>IT r.2/\∃l∈OR,r.1={ I:=d,Q:=l }:=by
 unfold FK;refine Ok.bind (Hx h (by omega) (by omega) (by omega) (by omega)) λx hx=>?_;obtain⟨a,hk⟩:∃k:Nat,x.1=k:=⟨x.1.toNat,by omega⟩;obtain⟨B,g,n⟩:=hx;rw[hk]at g n;have o:a∈[1,2,3]:=by grind
 refine y8 (λs=>s.1) a (λi s=>s.2=base i) 0 (ug _) rfl rfl (by omega) (λrec s b e=>?_) λrec i s C b e ih=>?_
 ·simp only[Hd,b,hk,e];rw[CW];unfold J5;refine Ok.bind (QZ B (by omega) (by omega)) λy hy=>y6 (λ_=>y3 ⟨hy,base a,?_,rfl⟩) λ_=>?_
  ·simp only[OR,wn];exact⟨a,o,wh ..⟩
  refine y8 (λs=>s.1) a (λi s=>IT s.2.1/\∃p∈YE i,s.2.2=O6 a p) 0 (ug _) rfl ⟨hy,[],by simp[YE],rfl⟩ (by omega) (λrec s b e=>?_) λrec i s C b e ih=>?_
  ·obtain⟨q,p,t,u⟩:=e;simp only[He,b,hk];rw[CW];refine y3 ⟨q,O6 a p,?_,by rw[u]⟩;simp only[OR,wn];grind
  ·obtain⟨q,p,t,u⟩:=e;simp only[He,b,hk];rw[Cg];refine Ok.bind (Hx q (by omega) (by omega) (by omega) (by omega)) λz D=>?_;have E:=VP i p t;obtain⟨m,F⟩:∃k:Nat,z.1=k:=⟨z.1.toNat,by omega⟩;refine Ok.loop (λs=>∃j:Nat,j<=m/\s.1=(m:Int)-j/\s.2=O6 a (p++List.replicate j ((i:Int)+1))) (λs=>s.1.toNat) ⟨0,by omega,by simp[F],by simp[u]⟩ (by unfold A9;show z.1.toNat<_;omega) λrec s b ih2=>?_;obtain⟨j,J,K,v⟩:=b
   have G:s.2.length=1+a+p.length+j:=by
    rw[v,O6,VN];simp[base];omega
   simp only[J4];refine y9 (λw=>?_) λA=>?_
   ·have f:=XU s.2.length (by omega);refine qr f (yb (by simp[oW,ByteArray.size]) (Ok.rm (by grind) (ih2 _ ⟨j+1,by omega,?_,?_⟩ ?_)))
    ·show i64.wrap (s.1-1)=_;rw[wr];omega
    ·have H:i64.wrap (1+(i:Int))=(i:Int)+1:=by rw[wr];omega
     show s.2++[({ I:=({ data:=#[108] }:ByteArray)++oW s.2.length,Bd:=i64.wrap (1+(i:Int)) }:Eu)]=_;rw[H,List.replicate_succ',<-w6,O6,VM,<-O6,<-v];rfl
    ·show(i64.wrap (s.1-1)).toNat<s.1.toNat;rw[wr];omega
   ·obtain rfl:j=m:=by omega
    refine ih _ ?_ ⟨D.1,p++List.replicate j ((i:Int)+1),jo t j (by omega) (by omega),v⟩;show i64.wrap ((i:Int)+1)=_;rw[wr];omega
 ·simp only[Hd,b,hk];rw[Cg];have L:s.2.length=1+i:=by rw[e];simp[base];omega
  refine qr (XU i (by omega)) (yb (by simp[oW,ByteArray.size]) (Ok.rm (by grind) (ih _ ?_ ?_)))
  ·show i64.wrap ((i:Int)+1)=_;rw[wr];omega
  ·show s.2++[_]=_;rw[e];simp[base,List.range_succ,kc]
def Nq:List (List Int):=[[1],[1,5],[1,5,20],[1,2,4,12]]
structure Dl(c:As):Prop where
 kind:c.Kind=3
 list:c.Ak=0
 low:-4<=c.C/\c.C<=2
 high:c.C<=c.D/\c.D<=c.C+44
 widths:c.N∈Nq
theorem fT{c:Ab}(h:IT c)(a:ByteArray):Ok (Ek c a) λr=>IT r.2/\Dl r.1/\r.1.I=a:=by
 unfold Ek;refine Ok.bind (Hx h (by omega) (by omega) (by omega) (by omega)) λx hx=>Ok.bind (Ey hx.1 (by omega) (by omega)) λy hy=>?_;have b:y.1.toNat<Nq.length:=by simp[Nq];omega
 refine Ok.idx hy.2.1 b (Ok.bind (QZ hy.1 (by omega) (by omega)) λz d=>Ok.bind (Ey d (by omega) (by omega)) λu e=>y3 ⟨e.1,⟨rfl,rfl,hx.2,?_,ud b⟩,rfl⟩);show x.1<=i64.wrap (x.1+u.1)/\i64.wrap (x.1+u.1)<=x.1+44;rw[wr];omega
def oz:As:={ I:=({ data:=#[119,104,111] }:ByteArray),Kind:=1,Ak:=0,C:=0,D:=0,N:=[],Al:=false }
def tS:As:={ I:=({ data:=#[115,101,120] }:ByteArray),Kind:=2,Ak:=0,C:=0,D:=0,N:=[],Al:=false }
def tn:As:={ I:=({ data:=#[106,111,98] }:ByteArray),Kind:=2,Ak:=1,C:=0,D:=0,N:=[],Al:=false }
def G3(j:Bool):List As:=[oz,tS]++(if j then[tn]else[])
def mU(i:Nat):ByteArray:=({ data:=#[109] }:ByteArray)++oW i
def YM:ByteArray:={ data:=#[111,110,101] }
def gM:ByteArray:={ data:=#[116,119,111] }
def Ms(k:Nat)(ms:List As):Prop:=∀i (h:i<ms.length),Dl ms[i]/\ms[i].I=mU (k+i)
structure DS(s:Aa):Prop where
 lists:∃a∈OR,∃b∈OR,s.K=[{ I:=YM,Q:=a },{ I:=gM,Q:=b }]
 cols:∃j ms,s.A=G3 j++ms/\1<=ms.length/\ms.length<=3/\Ms (G3 j).length ms
theorem Ms.snoc{k:Nat}{a:List As}(h:Ms k a){c:As}(b:Dl c)(d:c.I=mU (k+a.length)):Ms k (a++[c]):=by
 intro i f;by_cases e:i<a.length
 ·rw[List.getElem_append_left e];exact h i e
 ·grind
theorem MN(j:Bool):2<=(G3 j).length/\(G3 j).length<=3:=by cases j<;>simp[G3]
theorem W8{body:((Int×Ab×List As)->Option (Aa×Ab))->(Int×Ab×List As)->Option (Aa×Ab)}{L:List Aj}(p:∃a∈OR,∃b∈OR,L=[{ I:=YM,Q:=a },{ I:=gM,Q:=b }])
 (q:body=λrec s=>Gg (λk f d=>some (({ K:=L,A:=d }:Aa),f)) rec s.1 s.2.1 s.2.2) (j:Bool) {n:Int} (z:1<=n) (B:n<=3) {c:Ab} (t:IT c) :
 Ok (iter body A9 (n,c,G3 j)) λr=>IT r.2/\DS r.1:=by
 subst q;have u:=MN j;refine Ok.loop (λs=>0<=s.1/\IT s.2.1/\∃e,s.2.2=G3 j++e/\(e.length:Int)=n-s.1/\Ms (G3 j).length e) (λs=>s.1.toNat) ⟨by show 0<=n;omega,t,[],by simp,by simp,λi v=>by simp at v⟩ (by unfold A9;show n.toNat<_;omega) λrec s w ih=>?_;obtain⟨C,g,e,h,D,l⟩:=w;simp only[Gg];refine y9 (λm=>?_) λo=>?_
 ·have y:s.2.2.length=(G3 j).length+e.length:=by rw[h];simp
  refine qr (XU _ (by omega)) (yb (by simp[oW,ByteArray.size]) (Ok.bind (fT g _) λx hx=>Ok.rm (by grind) (ih _ ⟨?_,hx.1,e++[x.1],by rw[h];simp,?_,l.snoc hx.2.1 ?_⟩ ?_)))
  ·show 0<=i64.wrap (s.1-1);rw[wr];omega
  ·show _=n-i64.wrap (s.1-1);rw[wr];simp;omega
  ·rw[hx.2.2,y];rfl
  ·show(i64.wrap (s.1-1)).toNat<s.1.toNat;rw[wr];omega
 ·exact y3 ⟨g,⟨p,j,e,h,by omega,by omega,l⟩⟩
theorem kA{c:Ab}(h:IT c):Ok (Ge c) λr=>IT r.2/\DS r.1:=by
 unfold Ge;refine Ok.bind (iH h _) λx hx=>Ok.bind (iH hx.1 _) λy hy=>Ok.bind (QZ hy.1 (by omega) (by omega)) λz e=>?_;obtain⟨_,a,g,i⟩:=hx;obtain⟨_,b,j,k⟩:=hy;have f:∃a∈OR,∃b∈OR,[x.1,y.1]=[{ I:=YM,Q:=a },{ I:=gM,Q:=b }]:=⟨a,g,b,j,by rw[i,k];rfl⟩;refine y6 (λ_=>Ok.rm (by simp) (Ok.bind (Hx e (by omega) (by omega) (by omega) (by omega)) λu d=>?_)) λ_=>Ok.bind (Hx e (by omega) (by omega) (by omega) (by omega)) λu d=>?_
 ·exact W8 f rfl true d.2.1 d.2.2 d.1
 ·exact W8 f rfl false d.2.1 d.2.2 d.1
def Sc:List Aj:=[YM,gM].flatMap λn=>OR.map λl=>{ I:=n,Q:=l }
variable {s:Aa}
theorem DS.list(h:DS s){i:Nat}(c:i<s.K.length):s.K[i]∈Sc:=by
 obtain⟨a,d,b,f,e⟩:=h.lists
 have g:∀(k:Nat)(hk:k<2),([{ I:=YM,Q:=a },{ I:=gM,Q:=b }]:List Aj)[k]'hk∈Sc:=by
  intro k hk;simp only[Sc,wn];grind
 grind
theorem DS.lists2(h:DS s):s.K.length=2:=by
 obtain⟨a,c,b,d,e⟩:=h.lists;rw[e];rfl
def Gl(l:Aj):Int:=(Gq l).getD 0
def Bu(l:Aj):List Int:=(Pw l (Gl l-1)).getD []
theorem dy:(Sc.all λl=>Gp l==some 0&&GR l==some 0&&(Gq l==some (Gl l))&&(EW l==some (Gl l))&&decide (2<=Gl l)&&decide (Gl l<=3) &&
 Pw l (Gl l-1)==some (Bu l)&&FT l (Gl l-1)==some (Bu l)&&!(Bu l).isEmpty&&(Bu l).all λx=>decide (0<=x)&&decide (x<l.Q.length)&&Iy l x==some (Gl l-1)&&Hp l x (Gl l-1)==some x&&Kr l x (Gl l-1)==some x)=true:=by decide +kernel
structure CL(l:Aj):Prop where
 rcheck:Gp l=some 0
 check:GR l=some 0
 rlev:Gq l=some (Gl l)
 lev:EW l=some (Gl l)
 lev2:2<=Gl l
 lev3:Gl l<=3
 rleaves:Pw l (Gl l-1)=some (Bu l)
 leaves:FT l (Gl l-1)=some (Bu l)
 some_:Bu l≠[]
 leaf:∀x∈Bu l,0<=x/\x<l.Q.length/\Iy l x=some (Gl l-1)/\Hp l x (Gl l-1)=some x/\Kr l x (Gl l-1)=some x
theorem Kd{l:Aj}(h:l∈Sc):CL l:=by
 have:=List.all_eq_true.1 dy l h;simp only[vi,wU,decide_eq_true_eq,w3,Bool.not_eq_true',List.isEmpty_eq_false_iff]at this;obtain⟨⟨⟨⟨⟨⟨⟨⟨⟨g,i⟩,j⟩,k⟩,m⟩,n⟩,o⟩,p⟩,q⟩,f⟩:=this;exact⟨g,i,j,k,m,n,o,p,q,λx hx=>by have:=f x hx;obtain⟨⟨⟨⟨a,b⟩,c⟩,d⟩,e⟩:=this;exact⟨a,b,c,d,e⟩⟩
def PU(j:Bool)(n:Nat):List ByteArray:=(G3 j).map (·.I)++(List.range n).map λi=>mU ((G3 j).length+i)
theorem Wt:([true,false].all λj=>[1,2,3].all λn=>(PU j n).all (λx=>BU x==some true&&Bz x==some true) &&
 (List.range (PU j n).length).all λi=>(List.range i).all λk=>match (PU j n)[i]?,(PU j n)[k]? with|some x,some y=>!(x.toList==y.toList)&&!(y.toList==x.toList)|_,_=>false)=true:=by decide +kernel
structure IR(c:As):Prop where
 kind:c.Kind=2
 list:c.Ak=0\/c.Ak=1
 low:c.C=0
 high:c.D=0
 widths:c.N=[]
 opt:c.Al=false
theorem DS.cols_length(h:DS s):3<=s.A.length/\s.A.length<=6:=by
 obtain⟨j,a,e,b,c,d⟩:=h.cols;have:=MN j;grind
theorem DS.col0(h:DS s)(a:0<s.A.length):s.A[0]=oz:=by
 obtain⟨j,b,e,c,d,f⟩:=h.cols;have:s.A[0]?=some oz:=by rw[e];cases j<;>rfl
 grind
theorem DS.col(h:DS s){i:Nat}(k:1<=i)(f:i<s.A.length):IR s.A[i]\/Dl s.A[i]:=by
 obtain⟨j,l,e,m,n,g⟩:=h.cols;have a:s.A[i]?=some s.A[i]:=P3 f;generalize o:s.A[i]=c at a ⊢;rw[e]at a;by_cases b:i<(G3 j).length
 ·rw[ut b]at a;left
  cases j with
  | true =>
    rcases(by simp[G3]at b;omega:i=1\/i=2)with rfl|rfl
    ·cases a;exact⟨rfl,.inl rfl,rfl,rfl,rfl,rfl⟩
    ·cases a;exact⟨rfl,.inr rfl,rfl,rfl,rfl,rfl⟩
  | false =>
    obtain rfl:i=1:=by simp[G3]at b;omega
    cases a;exact⟨rfl,.inl rfl,rfl,rfl,rfl,rfl⟩
 ·right
  rw[uq (by omega)]at a;obtain⟨d,rfl⟩:=List.getElem?_eq_some_iff.1 a;exact(g _ d).1
theorem DS.names(h:DS s):∃j n,n∈[1,2,3]/\s.A.map (·.I)=PU j n:=by
 obtain⟨j,a,e,d,f,b⟩:=h.cols;refine⟨j,a.length,by simp;omega,?_⟩;rw[e,uI,PU];congr 1;apply List.ext_getElem (by simp);intro i g c;simp only[List.getElem_map,List.getElem_range];exact(b i (by grind)).2
theorem DS.name(h:DS s){i:Nat}(b:i<s.A.length):BU s.A[i].I=some true/\Bz s.A[i].I=some true:=by
 obtain⟨j,n,a,e⟩:=h.names;have c:=List.all_eq_true.1 (List.all_eq_true.1 Wt j (by grind)) n a;grind
theorem DS.name_ne(h:DS s){i k:Nat}(c:i<s.A.length)(hk:k<i):(s.A[k].I.toList==s.A[i].I.toList)=false/\(s.A[i].I.toList==s.A[k].I.toList)=false:=by
 obtain⟨j,n,b,e⟩:=h.names;have a:=List.all_eq_true.1 (List.all_eq_true.1 Wt j (by grind)) n b;simp only[vi,w3]at a;have d:s.A.length=(PU j n).length:=by grind
 have:=a.2 i (List.mem_range.2 (by omega)) k (List.mem_range.2 hk);grind
def GT{α:Type}(q:α->Bool)(l:List α):Int:=match l.findIdx? q with|some i=>(i:Int)|none=>-1
theorem IB{α:Type}{l:List α}{p:α->Option Bool}{q:α->Bool}(hp:∀x∈l,p x=some (q x))(j:l.length<=1000000000) :
 iter (λa v=>bif(decide (v<(l.length:Int)))then(idx l v).bind λb=>(p b).bind λc=>bif c then some v else a (i64.wrap (v+1))else some (-1)) A9 0=some (GT q l):=by
 refine Ok.val (y8 (λs=>s) l.length (λi _=>∀k (hk:k<l.length),k<i->q l[k]=false) 0 (ug _) rfl (λ_ _ h=>by omega) (by omega) (λrec s d f=>?_) λrec i s e d f ih=>?_)
 ·rw[d,CW];refine y3 ?_
  have:l.findIdx? q=none:=by
   rw[List.findIdx?_eq_none_iff];intro x hx;obtain⟨k,hk,rfl⟩:=List.mem_iff_getElem.1 hx;grind
  simp[GT,this]
 ·rw[d,Cg];refine y5 e (qr (hp _ (ud e)) (y6 (λh=>y3 ?_) λh=>ih _ ?_ λk hk g=>?_))
  ·have:l.findIdx? q=some i:=by
    rw[List.findIdx?_eq_some_iff_getElem];grind
   simp[GT,this]
  ·show i64.wrap ((i:Int)+1)=_;rw[wr];omega
  ·grind
theorem Lv{α:Type}(q:α->Bool)(l:List α):decide (GT q l>=0)=l.any q:=by
 unfold GT;grind
theorem jw{l:List As}{p:As->Option Bool}(q:As->Bool)(hp:∀x∈l,p x=some (q x))(a:l.length<=1000000000):Bp l p=some (l.any q):=by
 unfold Bp;rw[show BS l p=some (GT q l)from IB hp a,ue,Lv]
theorem bV{l:List Aj}{p:Aj->Option Bool}(q:Aj->Bool)(hp:∀x∈l,p x=some (q x))(a:l.length<=1000000000):Bd l p=some (l.any q):=by
 unfold Bd;rw[show BB l p=some (GT q l)from IB hp a,ue,Lv]
