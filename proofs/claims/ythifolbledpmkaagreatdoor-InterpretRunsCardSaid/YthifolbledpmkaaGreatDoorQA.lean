/- QA -/
import GoSem.Core.Next
import Derived.Test.YthifolbledpmkaaGreatDoorM4
open Option renaming some → θ
open Bool renaming true → ν, false → ξ
open Decidable renaming decide → υ
open List renaming length → Ξ
open Go.IntKind (i64 u64)
set_option linter.all false
namespace Go.Proofs.YthifolbledpmkaaGreatDoor.P
open Go Go.Proofs
def Ok{α:Type}m(Q:α->Prop):=∃x,m=θ x/\Q x
def KK{α}{x:α}{Q}(h:Q x):Ok (θ x) Q:=⟨x,rfl,h⟩
def Ok.mono{α}{m:Option α}{P Q}(h:Ok m P)(k:∀x,P x->Q x):Ok m Q:=by
 have⟨x,h1,h2⟩:=h;exact⟨x,h1,k x h2⟩
def Ok.bind{α β}{m}{f}{P:α->Prop}{Q:β->Prop}(h:Ok m P)(k:∀x,P x->Ok (f x) Q):Ok (m.bind f) Q:=by
 have⟨x,h1,h2⟩:=h;grind
def Ok.eq{α}{m}{x:α}(h:m=Option.some x):Ok m (·=x):=⟨x,h,rfl⟩
def Ok.val{α}{m}{x:α}(h:Ok m (·=x)):m=Option.some x:=by
 obtain⟨y,h1,rfl⟩:=h;exact h1
def qr{α β:Type}{m}{f}{x:α}{Q:β->Prop}(h:m=Option.some x)(k:Ok (f x) Q):Ok (m.bind f) Q:=by grind
def is{α}{b}{x}{Q:α->Prop}(h:b=ν)(k:Ok x Q):Ok (bif b then x else none) Q:=by grind
def Ok.no{α}{b}{x y}{Q:α->Prop}(h:b=ξ)(k:Ok y Q):Ok (bif b then x else y) Q:=by grind
def Vc{α}{b}{x y}{Q:α->Prop}(h:b=ν)(k:Ok x Q):Ok (bif b then x else y) Q:=by grind
def dg{α}{p}[Decidable p]{x}{Q:α->Prop}(h:p)(k:Ok x Q):Ok (bif decide p then x else none) Q:=by grind
def Ok.br{α}{b}{x y}{Q:α->Prop}(h1:b=ν->Ok x Q)(h2:b=ξ->Ok y Q):Ok (bif b then x else y) Q:=by grind
def bt{α}{p}[Decidable p]{x y}{Q:α->Prop}(h1:p->Ok x Q)(h2:¬p->Ok y Q):Ok (bif decide p then x else y) Q:=by grind
def XW{α}{l:List α}{i}(a:0<=i)h:idx l i=θ l[i.toNat]:=by
 unfold idx;grind
def AY{α}{l:List α}{i:Nat}h:idx l i=θ l[i]:=by
 unfold idx;grind
def Ok.idx{α β}{l:List α}{i:Int}{f}{Q:β->Prop}(a:0<=i)h(k:Ok (f l[i.toNat]) Q):Ok ((P.idx l i).bind f) Q:=by
 rw[XW a h];exact k
def JT{α β}{l:List α}{i}{f}{Q:β->Prop}(h:i<Ξ l)(k:Ok (f l[i]) Q):Ok ((P.idx l i).bind f) Q:=by
 rw[AY h];exact k
theorem Ok.iter{σ ρ:Type}{a:(σ->Option ρ)->σ->Option ρ}{Q:ρ->Prop}(I:σ->Prop)(μ:σ->Nat)(h:∀rec s,I s->(∀b,I b->μ b<μ s->Ok (rec b) Q)->Ok (a rec s) Q):
 ∀n s,I s->μ s<n->Ok (iter a n s) Q
 | 0,_,_,hn=>by omega
 | n+1,s,hs,hn=>h _ s hs λb c d=>Ok.iter I μ h n b c z0
def Ok.loop{σ ρ:Type}{a}{Q:ρ->Prop}{s}(I:σ->Prop)(μ:σ->Nat)(c:I s)(d:μ s<Ay)(h:∀rec s,I s->(∀b,I b->μ b<μ s->Ok (rec b) Q)->Ok (a rec s) Q):Ok (P.iter a Ay s) Q:=Ok.iter I μ h Ay s c d
def Wf{σ ρ:Type}{a}{Q:ρ->Prop}{s}(c:σ->Int)len(I:Nat->σ->Prop)(k:Nat)(l:k<=len)(m:c s=k)(n:I k s)(g:len<=1000000000000)(d:∀rec s,c s=(len:Int)->I len s->Ok (a rec s) Q)(b:∀rec (i:Nat) s,i<len->c s=(i:Int)->I i s->(∀f,c f=((i+1:Nat):Int)->I (i+1) f->Ok (rec f) Q)->Ok (a rec s) Q):Ok (P.iter a Ay s) Q:=by
 refine Ok.loop (λs=>∃i:Nat,c s=i/\i<=len/\I i s) (λs=>len-(c s).toNat) ⟨k,m,l,n⟩ (by unfold Ay;omega) λrec s ⟨i,h1,h2,h⟩ ih=>?_;by_cases e:i<len;refine b rec i s e h1 h λf j o=>ih f ⟨i+1,j,z0,o⟩ ?_;rw[j,h1];omega;grind
def df{p:Prop}[Decidable p](h:¬p:=by omega):decide p=false:=Zap h
def dt{p:Prop}[Decidable p](h:p:=by omega):decide p=true:=Zak h
def wr{n:Int}(a:-9223372036854775808<=n:=by omega)(h1:n<=9223372036854775807:=by omega):i64.wrap n=n:=by
 unfold IntKind.wrap;rw[IntKind.signed,IntKind.bits]
 grind
def BE{i:Nat}(h:i<=1000000000000:=by omega):i64.wrap ((i:Int)+1)=((i+1:Nat):Int):=by rw[wr]<;>omega
def II{n m}(h:n+m<=137438953472):rm n m=ν:=Zak h
def Ok.rm{α}{n m}{x}{Q:α->Prop}(h:n+m<=137438953472)(k:Ok x Q):Ok (bif P.rm n m then x else none) Q:=is (II h) k
def AK{α:Type}{p:Prop}[Decidable p]{x y:α}(h:p:=by omega):(bif decide p then x else y)=x:=by grind
def Bl{α:Type}{p:Prop}[Decidable p]{x y:α}(h:¬p:=by omega):(bif decide p then x else y)=y:=by grind
def Ok.t{α:Type}{p:Prop}[Decidable p]{x y:Option α}{Q:α->Prop}(k:Ok x Q)(h:p:=by omega):Ok (bif decide p then x else y) Q:=z5
def Ok.f{α:Type}{p:Prop}[Decidable p]{x y:Option α}{Q:α->Prop}(k:Ok y Q)(h:¬p:=by omega):Ok (bif decide p then x else y) Q:=z5
def Ok.any{α}{m}{P:α->Prop}(h:Ok m P):Ok m λ_=>True:=h.mono λ_ _=>trivial
open Go.Abs
set_option maxRecDepth 100000
def Me(c:Ac):=(∀x∈c.Ay,0<=x/\x<=255)/\Ξ c.Ay<=400/\0<=c.Aw/\c.Aw<=Ξ c.Ay
def Me.at{c}(h:Me c){i:Int}(b:0<=i)(h1:i<Ξ c.Ay):∃x,idx c.Ay i=θ x/\0<=x/\x<=255:=by
 have a:i.toNat<Ξ c.Ay:=z0;exact⟨_,XW b a,h.1 _ (Zae a)⟩
def sD{v n:Int}(a:0<=v)(b:1<=n):0<=Int.tmod v n/\Int.tmod v n<n:=by
 rw[Zgf a];exact⟨Zdb _ z0,Zcv _ z0⟩
def Fe{c}(h:Me c){n}(g:1<=n)(k:n<=100000):Ok (AB c n) λr=>Me r.2/\0<=r.1/\r.1<n:=by
 have⟨hx,a,j,h1⟩:=h;have b:Me c:=⟨hx,a,j,h1⟩;unfold AB;refine bt (λh=>z0) λ_=>bt (λh=>KK ⟨b,by show(0:Int)<=0/\(0:Int)<n;omega⟩) λl=>?_;have m:i64.wrap (c.Aw+1)=c.Aw+1:=wr;have o:i64.wrap (c.Aw+1-1)=c.Aw:=by rw[wr];omega
 have⟨x,d,e,p⟩:=b.at j z0;unfold Nj;rw[m,o];refine qr d ?_;have q:i64.wrap x=x:=wr
 have one:Ok (θ (Int.tmod x n,({ Ay:=c.Ay,Aw:=c.Aw+1 }:Ac))) λr=>Me r.2/\0<=r.1/\r.1<n:=
  KK ⟨⟨hx,a,by show 0<=c.Aw+1;omega,by show c.Aw+1<=(Ξ c.Ay:Int);omega⟩,sD e g⟩
 rw[q];refine bt (λ_=>bt (λh2=>?_) λ_=>dg z0 one) λ_=>dg z0 one;have⟨y,f,s,t⟩:=b.at (i:=c.Aw+1) z0 h2;refine qr f (dg z0 (KK ⟨⟨hx,a,?_,?_⟩,?_⟩));show 0<=i64.wrap (c.Aw+1+1);rw[wr];omega;show i64.wrap (c.Aw+1+1)<=(Ξ c.Ay:Int);rw[wr];omega
 have:i64.wrap (i64.wrap (x*256)+i64.wrap y)=x*256+y:=by
  rw[wr (n:=x*256) z0 z0,wr (n:=y) z0 z0,wr]
 show 0<=Int.tmod _ n/\Int.tmod _ n<n;rw[this];exact sD z0 g
def U0{c}(h:Me c){n}(b:1<=n)(a:n<=100000):Ok (CW c n) λr=>Me r.2:=
 Ok.bind (Fe h b a) λ_ hx=>KK hx.1
def Mj{c}(h:Me c){a b}(d:a<=b)(f:-100000000<=a)(g:b<=100000000)(hd:b-a<100000):Ok (Bw c a b) λr=>Me r.2/\a<=r.1/\r.1<=b:=by
 unfold Bw;have e:i64.wrap (i64.wrap (b-a)+1)=b-a+1:=by rw[wr (n:=b-a) z0 z0,wr]
 rw[e];refine Ok.bind (Fe h z0 z0) λx hx=>KK ⟨hx.1,?_⟩;show a<=i64.wrap (a+x.1)/\i64.wrap (a+x.1)<=b;rw[wr];omega
def uy{c}(h:Me c):Ok (H1 c) λr=>Me r.2/\0<=r.1/\r.1<1152921504606846976:=by
 unfold H1;refine Ok.bind (Fe h z0 z0) λx hx=>Ok.bind (Fe hx.1 z0 z0) λy hy=>Ok.bind (Fe hy.1 z0 z0) λz a=>KK ⟨a.1,?_⟩;show 0<=i64.wrap (i64.wrap (x.1*y.1)+z.1)/\i64.wrap (i64.wrap (x.1*y.1)+z.1)<1152921504606846976;have h1:=Int.mul_nonneg hx.2.1 hy.2.1;have h2:x.1*y.1<=60000*60000:=Int.mul_le_mul z0 z0 hy.2.1 z0;rw[wr (n:=x.1*y.1) z0 z0,wr];omega
def Acc l(h:∀x∈l,0<=x/\x<=255)(a:Ξ l<=9223372036854775807):Ok (WF l) Me:=by
 unfold WF;refine dg ?_ (KK ⟨λx hx=>?_,?_,?_,?_⟩);grind;exact h x (Zdf (Zbo hx));show(Ξ (Ia l 0 _))<=400;unfold Ia;grind
 all_goals grind
def yX(n:Nat):ByteArray:=⟨#[UInt8.ofNat (48+n)]⟩
def gj(n:Nat)(h:n<10):FB n=θ (yX n):=by
 unfold FB yX;rw[AK,Zaw];unfold Go.Lib.decDigits;grind
def kc(i:Nat):Fx:={ J:={ data:=#[107] }++yX i,Bt:=0 }
def lc(n:Nat)(p:Int):Fx:={ J:={ data:=#[108] }++yX n,Bt:=p }
def top:Fx:={ J:={ data:=#[116,111,112] },Bt:=-1 }
def oY:List Fx->List Int->List Fx| b,[]=>b| b,p::r=>oY (b++[lc (Ξ b) p]) r
def base kids:=top::(List.range kids).map kc
def Ud kids ps:=oY (base kids) ps
def iH:Nat->List (List Int)| 0=>[[]]| n+1=>(iH n).flatMap λl=>[l++[(n:Int)+1],l++[(n:Int)+1,(n:Int)+1]]
def U7:=[1,2,3].flatMap λk=>Ud k []::(iH k).map (Ud k)
theorem cP:∀b p q,oY b (p++q)=oY (oY b p) q
 | _,[],_=>rfl
 | b,_::r,q=>cP _ r q
theorem cQ:∀b p,Ξ (oY b p)=Ξ b+Ξ p
 | _,[]=>rfl
 | b,x::r=>by rw[oY,cQ];grind
theorem cS:∀n,∀l∈iH n,n<=Ξ l/\Ξ l<=2*n
 | 0,l,h=>by simp[iH]at h;grind
 | n+1,l,h=>by
   rw[iH,Zdz]at h;have⟨q,a,h⟩:=h;have:=cS n q a;grind
def sV{n}{q}(a:q∈iH n)k(h1:1<=k)(h2:k<=2):q++List.replicate k ((n:Int)+1)∈iH (n+1):=by
 rw[iH,Zdz];refine⟨q,a,?_⟩;rcases(by omega:k=1\/k=2)with rfl|rfl
 all_goals grind
def rN{c}(h:Me c)d:Ok (He c d) λr=>Me r.2/\∃l∈U7,r.1={ J:=d,X:=l }:=by
 unfold He;refine Ok.bind (Mj h z0 z0 z0 z0) λx hx=>?_;obtain⟨a,g⟩:∃k:Nat,x.1=k:=⟨x.1.toNat,z0⟩;have⟨A,n,o⟩:=hx;rw[g]at n o;have q:a∈[1,2,3]:=z5;refine Wf (λs=>s.1) a (λi s=>s.2=base i) 0 (Zag _) rfl rfl z0 (λrec s b e=>?_) λrec i s B b e ih=>?_;rw[Jf,b,g,e];rw[Bl];unfold Ni;refine Ok.bind (U0 A z0 z0) λy hy=>Ok.br (λ_=>KK ⟨hy,base a,?_,rfl⟩) λ_=>?_;rw[U7,Zdz];exact⟨a,q,Zdg ..⟩;refine Wf (λs=>s.1) a (λi s=>Me s.2.1/\∃p∈iH i,s.2.2=Ud a p) 0 (Zag _) rfl ⟨hy,[],by simp[iH],rfl⟩ z0 (λrec s b e=>?_) λrec i s B b e ih=>?_;have⟨h1,p,h2,t⟩:=e;rw[Jg,b,g];rw[Bl];refine KK ⟨h1,Ud a p,?_,by rw[t]⟩;rw[U7,Zdz];grind;have⟨h1,p,h2,t⟩:=e;rw[Jg,b,g];rw[AK];refine Ok.bind (Mj h1 z0 z0 z0 z0) λz C=>?_;have D:=cS i p h2;obtain⟨m,E⟩:∃k:Nat,z.1=k:=⟨z.1.toNat,z0⟩;refine Ok.loop (λs=>∃j:Nat,j<=m/\s.1=m-j/\s.2=Ud a (p++List.replicate j ((i:Int)+1))) (λs=>s.1.toNat) ⟨0,z0,by simp[E],by simp[t]⟩ (by unfold Ay;show z.1.toNat<_;omega) λrec s b ih2=>?_;have⟨j,H,I,u⟩:=b
 have F:Ξ s.2=1+a+Ξ p+j:=by
  rw[u,Ud,cQ];simp[base];omega
 rw[Nh];refine bt (λv=>?_) λw=>?_;have f:=gj (Ξ s.2) z0;refine qr f (dg (by simp[yX,ByteArray.size]) (Ok.rm z5 (ih2 _ ⟨j+1,z0,?_,?_⟩ ?_)));show i64.wrap (s.1-1)=_;rw[wr];omega;have G:i64.wrap (1+i)=i+1:=by rw[wr];omega
 show s.2++[({ J:={ data:=#[108] }++yX (Ξ s.2),Bt:=i64.wrap (1+i) }:Fx)]=_;rw[G,List.replicate_succ',<-Zcn,Ud,cP,<-Ud,<-u];rfl;show(i64.wrap (s.1-1)).toNat<s.1.toNat;rw[wr];omega;obtain rfl:j=m:=z0;refine ih _ ?_ ⟨C.1,p++List.replicate j ((i:Int)+1),sV h2 j z0 z0,u⟩;show i64.wrap (i+1)=_;rw[wr];omega;rw[Jf,b,g];rw[AK];have K:Ξ s.2=1+i:=by rw[e];simp[base];omega
 refine qr (gj i z0) (dg (by simp[yX,ByteArray.size]) (Ok.rm z5 (ih _ ?_ ?_)));show i64.wrap (i+1)=_;rw[wr];omega;show s.2++[_]=_;rw[e];simp[base,Zfv,kc]
def SB:List (List Int):=[[1],[1,5],[1,5,20],[1,2,4,12]]
structure Do(c:Ax):Prop where
 kind:c.Kind=3
 list:c.Al=0
 low:-4<=c.C/\c.C<=2
 high:c.C<=c.E/\c.E<=c.C+44
 widths:c.L∈SB
def qf{c}(h:Me c)a:Ok (Fl c a) λr=>Me r.2/\Do r.1/\r.1.J=a:=by
 unfold Fl;refine Ok.bind (Mj h z0 z0 z0 z0) λx hx=>Ok.bind (Fe hx.1 z0 z0) λy hy=>?_;have b:y.1.toNat<Ξ SB:=by simp[SB];omega
 refine Ok.idx hy.2.1 b (Ok.bind (U0 hy.1 z0 z0) λz d=>Ok.bind (Fe d z0 z0) λu e=>KK ⟨e.1,⟨rfl,rfl,hx.2,?_,Zae b⟩,rfl⟩);show x.1<=i64.wrap (x.1+u.1)/\i64.wrap (x.1+u.1)<=x.1+44;rw[wr];omega
def who:Ax:={ J:={ data:=#[119,104,111] },Kind:=1,Al:=0,C:=0,E:=0,L:=[],An:=ξ }
def sex:Ax:={ J:={ data:=#[115,101,120] },Kind:=2,Al:=0,C:=0,E:=0,L:=[],An:=ξ }
def Afc:Ax:={ J:={ data:=#[106,111,98] },Kind:=2,Al:=1,C:=0,E:=0,L:=[],An:=ξ }
def QJ(j:Bool):=[who,sex]++if j then[Afc]else[]
def xf i:={ data:=#[109] }++yX i
def iR:ByteArray:={ data:=#[111,110,101] }
def qG:ByteArray:={ data:=#[116,119,111] }
def Ms k(ms:List Ax):=∀i h,Do ms[i]/\ms[i].J=xf (k+i)
structure DS(s:Aa):Prop where
 lists:∃a∈U7,∃b∈U7,s.S=[{ J:=iR,X:=a },{ J:=qG,X:=b }]
 cols:∃j ms,s.A=QJ j++ms/\1<=Ξ ms/\Ξ ms<=3/\Ms (Ξ (QJ j)) ms
def Ms.snoc{k}{a}(h:Ms k a){c}(b:Do c)(d:c.J=xf (k+Ξ a)):Ms k (a++[c]):=by
 intro i f;by_cases e:i<Ξ a;rw[Zgl e];exact h i e;grind
def Vu j:2<=Ξ (QJ j)/\Ξ (QJ j)<=3:=by cases j<;>simp[QJ]
def dN{d}{L}(q:∃a∈U7,∃b∈U7,L=[{ J:=iR,X:=a },{ J:=qG,X:=b }])(t:d=λrec s=>Hz (λl g e=>θ (({ S:=L,A:=e }:Aa),g)) rec s.1 s.2.1 s.2.2)j{n}(h1:1<=n)(h2:n<=3){c}(u:Me c):
 Ok (iter d Ay (n,c,QJ j)) λr=>Me r.2/\DS r.1:=by
 subst t;have v:=Vu j;refine Ok.loop (λs=>0<=s.1/\Me s.2.1/\∃f,s.2.2=QJ j++f/\Ξ f=n-s.1/\Ms (Ξ (QJ j)) f) (λs=>s.1.toNat) ⟨by show 0<=n;omega,u,[],zs,zs,λi w=>by simp at w⟩ (by unfold Ay;show n.toNat<_;omega) λrec s y ih=>?_;have⟨B,h,f,k,C,m⟩:=y;rw[Hz];refine bt (λo=>?_) λp=>?_;have z:Ξ s.2.2=Ξ (QJ j)+Ξ f:=by grind
 refine qr (gj _ z0) (dg (by simp[yX,ByteArray.size]) (Ok.bind (qf h _) λx hx=>Ok.rm z5 (ih _ ⟨?_,hx.1,f++[x.1],by rw[k];simp,?_,m.snoc hx.2.1 ?_⟩ ?_)));show 0<=i64.wrap (s.1-1);rw[wr];omega;show _=n-i64.wrap (s.1-1);rw[wr];simp;omega;rw[hx.2.2,z];rfl;show(i64.wrap (s.1-1)).toNat<s.1.toNat;rw[wr];omega;exact KK ⟨h,⟨q,j,f,k,z0,z0,m⟩⟩
def ux{c}(h:Me c):Ok (Hy c) λr=>Me r.2/\DS r.1:=by
 unfold Hy;refine Ok.bind (rN h _) λx hx=>Ok.bind (rN hx.1 _) λy hy=>Ok.bind (U0 hy.1 z0 z0) λz e=>?_;have⟨_,a,g,i⟩:=hx;have⟨_,b,j,k⟩:=hy;have f:∃a∈U7,∃b∈U7,[x.1,y.1]=[{ J:=iR,X:=a },{ J:=qG,X:=b }]:=⟨a,g,b,j,by rw[i,k];rfl⟩;refine Ok.br (λ_=>Ok.rm zs (Ok.bind (Mj e z0 z0 z0 z0) λu d=>?_)) λ_=>Ok.bind (Mj e z0 z0 z0 z0) λu d=>?_;exact dN f rfl ν d.2.1 d.2.2 d.1;exact dN f rfl ξ d.2.1 d.2.2 d.1
def Ym:List Am:=[iR,qG].flatMap λn=>U7.map λl=>{ J:=n,X:=l }
variable {s:Aa}
def DS.list(h:DS s){i:Nat}d:s.S[i]∈Ym:=by
 have⟨a,f,b,g,e⟩:=h.lists
 have h1:∀(k:Nat)c,([{ J:=iR,X:=a },{ J:=qG,X:=b }])[k]'c∈Ym:=by
  intro k c;rw[Ym,Zdz];grind
 grind
def DS.lists2(h:DS s):Ξ s.S=2:=by
 have⟨a,c,b,d,e⟩:=h.lists;grind
def KF l:=(HA l).getD 0
def AW l:=(Mk l (KF l-1)).getD []
def od:(Ym.all λl=>H9 l==θ 0&&IN l==θ 0&&(HA l==θ (KF l))&&(Hr l==θ (KF l))&&2<=KF l&&(KF l<=3) &&
 Mk l (KF l-1)==θ (AW l)&&Ex l (KF l-1)==θ (AW l)&&!(AW l).isEmpty&&(AW l).all λx=>0<=x&&x<Ξ l.X&&KN l x==θ (KF l-1)&&J5 l x (KF l-1)==θ x&&Oj l x (KF l-1)==θ x)=ν:=by decide +kernel
structure CL(l:Am):Prop where
 rcheck:H9 l=some 0
 check:IN l=some 0
 rlev:HA l=some (KF l)
 lev:Hr l=some (KF l)
 lev2:2<=KF l
 lev3:KF l<=3
 rleaves:Mk l (KF l-1)=some (AW l)
 leaves:Ex l (KF l-1)=some (AW l)
 some_:AW l≠[]
 leaf:∀x∈AW l,0<=x/\x<Ξ l.X/\KN l x=some (KF l-1)/\J5 l x (KF l-1)=some x/\Oj l x (KF l-1)=some x
def QH{l}(h:l∈Ym):CL l:=by
 have:=List.all_eq_true.1 od l h;simp[Zax,Zdk,decide_eq_true_eq,Zem,Zgc,List.isEmpty_eq_false_iff]at this;obtain⟨⟨⟨⟨⟨⟨⟨⟨⟨h1,h2⟩,g⟩,i⟩,j⟩,k⟩,m⟩,n⟩,o⟩,f⟩:=this;exact⟨h1,h2,g,i,j,k,m,n,o,λx hx=>by have:=f x hx;obtain⟨⟨⟨⟨a,b⟩,c⟩,d⟩,e⟩:=this;exact⟨a,b,c,d,e⟩⟩
def VE j n:=(QJ j).map (·.J)++(List.range n).map λi=>xf (Ξ (QJ j)+i)
def dE:([ν,ξ].all λj=>[1,2,3].all λn=>(VE j n).all (λx=>D8 x==θ ν&&CQ x==θ ν) &&
 (List.range (Ξ (VE j n))).all λi=>(List.range i).all λk=>match (VE j n)[i]?,(VE j n)[k]? with|θ x,θ y=>!(x.toList==y.toList)&&!(y.toList==x.toList)|_,_=>ξ)=ν:=by decide +kernel
structure Iy(c:Ax):Prop where
 kind:c.Kind=2
 list:c.Al=0\/c.Al=1
 low:c.C=0
 high:c.E=0
 widths:c.L=[]
 opt:c.An=false
def DS.cols_length(h:DS s):3<=Ξ s.A/\Ξ s.A<=6:=by
 have⟨j,a,e,h1,h2,b⟩:=h.cols;have:=Vu j;grind
def DS.col0(h:DS s)a:s.A[0]=who:=by
 have⟨j,b,e,h1,h2,c⟩:=h.cols;have:s.A[0]?=θ who:=by rw[e];cases j<;>rfl
 grind
theorem DS.col(h:DS s){i}(k:1<=i)f:Iy s.A[i]\/Do s.A[i]:=by
 have⟨j,l,e,h1,h2,g⟩:=h.cols;have a:=Zaa f;generalize m:s.A[i]=c at a ⊢;rw[e]at a;by_cases b:i<Ξ (QJ j);rw[Zba b]at a;left
 cases j with
 | true=>
   rcases(by simp[QJ]at b;omega:i=1\/i=2)with rfl|rfl
   cases a;exact⟨rfl,.inl rfl,rfl,rfl,rfl,rfl⟩
   cases a;exact⟨rfl,.inr rfl,rfl,rfl,rfl,rfl⟩
 | false=>
   obtain rfl:i=1:=by simp[QJ]at b;omega
   cases a;exact⟨rfl,.inl rfl,rfl,rfl,rfl,rfl⟩
 right;rw[Zat z0]at a;obtain⟨d,rfl⟩:=List.getElem?_eq_some_iff.1 a;exact(g _ d).1
def DS.names(h:DS s):∃j n,n∈[1,2,3]/\s.A.map (·.J)=VE j n:=by
 have⟨j,a,e,h1,h2,b⟩:=h.cols;refine⟨j,Ξ a,zv,?_⟩;rw[e,Zay,VE];congr 1;apply Zen zs;intro i d c;simp[Zbu,Zfp];exact(b i z5).2
def DS.name(h:DS s){i:Nat}b:D8 s.A[i].J=θ ν/\CQ s.A[i].J=θ ν:=by
 have⟨j,n,a,e⟩:=h.names;have c:=List.all_eq_true.1 (List.all_eq_true.1 dE j z5) n a;grind
def DS.name_ne(h:DS s){i k:Nat}(d:i<Ξ s.A)(b:k<i):(s.A[k].J.toList==s.A[i].J.toList)=ξ/\(s.A[i].J.toList==s.A[k].J.toList)=ξ:=by
 have⟨j,n,c,e⟩:=h.names;have a:=List.all_eq_true.1 (List.all_eq_true.1 dE j z5) n c;simp only[Zax,Zem]at a;have f:Ξ s.A=Ξ (VE j n):=z5;have:=a.2 i (List.mem_range.2 z0) k (List.mem_range.2 b);grind
def Gb{α:Type}(q:α->Bool)(l:List α):Int:=match l.findIdx? q with|θ i=>(i:Int)|none=>-1
def JY{α}{l}{p:α->Option Bool}{q}(g:∀x∈l,p x=θ (q x))(n:Ξ l<=1000000000):
 iter (λa v=>bif(v<(Ξ l:Int))then(idx l v).bind λb=>(p b).bind λc=>bif c then θ v else a (i64.wrap (v+1))else θ (-1)) Ay 0=θ (Gb q l):=by
 refine Ok.val (Wf (λs=>s) (Ξ l) (λi _=>∀k e,k<i->q l[k]=ξ) 0 (Zag _) rfl (λ_ _ h=>z0) z0 (λrec s d j=>?_) λrec i s f d j ih=>?_);rw[d,Bl];apply KK
 have:l.findIdx? q=none:=by
  rw[List.findIdx?_eq_none_iff];intro x hx;obtain⟨k,e,rfl⟩:=List.mem_iff_getElem.1 hx;grind
 simp[Gb,this];rw[d,AK];refine JT f (qr (g _ (Zae f)) (Ok.br (λh=>KK ?_) λh=>ih _ ?_ λk e m=>?_))
 have:l.findIdx? q=θ i:=by
  rw[List.findIdx?_eq_some_iff_getElem];grind
 simp[Gb,this];show i64.wrap (i+1)=_;rw[wr];omega;grind
def Pu{α}q(l:List α):υ (Gb q l>=0)=l.any q:=by
 unfold Gb;grind
def ti{l}{p}q(a:∀x∈l,p x=θ (q x))(b:Ξ l<=1000000000):BA l p=θ (l.any q):=by
 unfold BA;rw[show Cp l p=θ (Gb q l)from JY a b,Zad,Pu]
def mP{l}{p}q(a:∀x∈l,p x=θ (q x))(b:Ξ l<=1000000000):Bz l p=θ (l.any q):=by
 unfold Bz;rw[show BZ l p=θ (Gb q l)from JY a b,Zad,Pu]
variable {s:Aa}
def JC n a b:EL n a b=θ (υ (a<=n/\n<=b)):=by
 unfold EL;grind
def lI{w}(h:w∈SB):w=[1]\/w=[1,5]\/w=[1,5,20]\/w=[1,2,4,12]:=by simpa [SB] using h
def xT{c}(h:Do c):Mn c=θ 0:=by
 have a:PD c=θ 0:=by
  have⟨n,k,b,lo,d,w,o⟩:=c;rcases lI h.widths with e|e|e|e<;>(simp only at e;subst e;rfl)
 have⟨h1,h2⟩:=h.low;have⟨f,g⟩:=h.high;unfold Mn;rw[JC,Zad,dt,JC,Zad,dt,df,a];rfl
def xC{c}(h:Do c):Gg c=θ 0:=by
 have f:(bif(bif(Ξ c.L==0)then ν else(υ (Ξ c.L>4)))then θ 1 else iter (λa s=>Jw c (λd b=>θ 0) a s.1 s.2) Ay (1,0))=θ 0:=by
  have⟨n,k,g,lo,i,w,o⟩:=c;rcases lI h.widths with e|e|e|e<;>(simp only at e;subst e;rfl)
 have⟨h1,h2⟩:=h.low;have⟨j,l⟩:=h.high;unfold Gg;grind
def Col i c:=(i=0/\c=who)\/(1<=i/\(Iy c\/Do c))
def DS.cl(h:DS s){i}a:Col i s.A[i]:=by
 rcases Nat.eq_zero_or_pos i with rfl|b;exact .inl ⟨rfl,h.col0 a⟩;exact .inr ⟨b,h.col b a⟩
def Col.kinds{i}{c}(h:Col i c):(c.Kind=1\/c.Kind=2\/c.Kind=3)/\(c.Kind=1->i=0):=by
 rcases h with⟨rfl,rfl⟩|⟨a,h|h⟩;exact⟨.inl rfl,λ_=>rfl⟩;rw[h.kind];exact⟨.inr (.inl rfl),λe=>z0⟩;rw[h.kind];grind
def gK{i}{c}(h:Col i c):JK c=θ 0:=by
 rcases h with⟨rfl,rfl⟩|⟨f,h|h⟩;rfl;have⟨n,k,g,lo,j,w,o⟩:=c;have⟨h1,h2,a,b,d,e⟩:=h;simp only at h1 h2 a b d e;subst h1;subst a;subst b;subst d;subst e;rfl;unfold JK;rw[xT h,h.kind,h.list];rfl
def zA(h:DS s){i}(b:i<Ξ s.A):Oo s i=θ 0:=by
 have a:=h.cl b;have g:=a.kinds;have j:=h.lists2;apply Ok.val;unfold Oo;refine JT b (qr (h.name b).1 ?_);simp[Zfy,Bool.not_false,Zav,Zaq];refine Wf (λs=>s) i (λ_ _=>True) 0 (Zag _) rfl trivial (by have:=h.cols_length;omega) (λrec q c _=>?_) λrec k q d c _ ih=>?_;rw[MF,c];rw[Bl];unfold MG;rw[JC,Zad,dt]
 have l:(bif υ ((i:Int)>0)then s.A[i].Kind==1 else ξ)=ξ:=by grind
 rw[l];show Ok (bif(s.A[i].Kind==2)then _ else _) _;refine Ok.br (λhe=>?_) λ_=>Ok.eq (gK a);have he:s.A[i].Kind=2:=by grind
 have f:s.A[i].Al=0\/s.A[i].Al=1:=by
  rcases a with⟨rfl,e⟩|⟨_,h|h⟩;rw[e];exact .inl rfl;exact h.list;exact .inl h.list
 rw[JC,Zad,j,Zak (by rw[wr];omega)];exact Ok.eq (gK a);rw[MF,c];rw[AK];apply JT (by grind);rw[(h.name_ne b d).1];refine ih _ ?_ trivial;show i64.wrap (k+1)=_;have:=h.cols_length;rw[wr];omega
def DS.lname(h:DS s)c(h1:1<Ξ s.S):s.S[0].J=iR/\s.S[1].J=qG:=by
 have⟨a,d,b,f,e⟩:=h.lists;grind
def rX:(iR.toList==qG.toList)=ξ:=by decide +kernel
def DS.rcheck(h:DS s):D9 s=θ 0:=by
 have f:=h.lists2;have g:=h.cols_length;apply Ok.val;unfold D9;rw[df,df];simp[Zfy,Bool.not_false,Zav,Zaq];refine Wf (λs=>s) (Ξ s.S) (λ_ _=>True) 0 (Zag _) rfl trivial z0 (λrec q a _=>?_) λrec i q b a _ ih=>?_;rw[Ol,a];rw[Bl];unfold Tg;have e:((Ξ s.A:Int)==0)=ξ:=by grind
 rw[e];show Ok ((idx s.A 0).bind _) _;apply JT (i:=0) z0;rw[h.col0];apply Ok.no rfl;refine Wf (λs=>s) (Ξ s.A) (λ_ _=>True) 0 (Zag _) rfl trivial z0 (λrec q a _=>?_) λrec i q b a _ ih=>?_;rw[On,a];rw[Bl];exact KK rfl;rw[On,a];rw[AK];refine qr (zA h b) (ih _ ?_ trivial);show i64.wrap (i+1)=_;rw[wr];omega;rw[Ol,a];rw[AK];refine JT b (qr (QH (h.list b)).rcheck ?_);apply Ok.no rfl;refine Wf (λs=>s) i (λ_ _=>True) 0 (Zag _) rfl trivial z0 (λc q a _=>?_) λc k q j a _ ih2=>?_;rw[Om,a];rw[Bl];refine ih _ ?_ trivial;show i64.wrap (i+1)=_;rw[wr];omega;rw[Om,a];rw[AK];refine JT (by grind) (JT b ?_);obtain rfl:k=0:=z0;obtain rfl:i=1:=z0;have d:=h.lname z0 z0;rw[d.1,d.2,rX];refine ih2 _ ?_ trivial;show i64.wrap ((0:Nat)+1)=_;rw[wr];omega
def Abn{α}(l:List α){i}(a:i<=Ξ l):Ia l 0 i=l.take i:=by simp[Ia]
def z8{i}{c}(h:Col i c):G4 c=θ ν:=by
 rcases h with⟨rfl,rfl⟩|⟨f,h|h⟩;rfl;have⟨n,k,g,lo,j,w,o⟩:=c;have⟨h1,h2,a,b,d,e⟩:=h;simp only at h1 h2 a b d e;subst h1;subst a;subst b;subst d;subst e;rfl;unfold G4;rw[h.kind,h.list];rfl
def zx(h:DS s){i}(c:i<Ξ s.A):GR s i=θ 0:=by
 have b:=h.cl c;have g:=h.lists2;have j:=h.cols_length;apply Ok.val;unfold GR;refine JT c (qr (h.name c).2 (dg z0 ?_));rw[Abn _ z0];apply qr (ti (λa=>a.J.toList==s.A[i].J.toList) (λx _=>rfl) z5)
 have:(s.A.take i).any (λa=>a.J.toList==s.A[i].J.toList)=ξ:=by
  rw[Zfb];intro x hx;obtain⟨k,l,rfl⟩:=List.mem_iff_getElem.1 hx;have d:k<i:=z5;rw[Zbs,(h.name_ne c d).1];simp
 rw[this];show Ok (bif(s.A[i].Kind==1)then _ else _) _;have fin:Ok ((G4 s.A[i]).bind λf=>bif(!f)then θ 11 else θ 0) (·=(0:Int)):=qr (z8 b) (KK rfl);rcases b with⟨rfl,e⟩|⟨m,h1|h1⟩
 rw[e];rw[e]at fin;exact fin;rw[h1.kind]
 have:(bif υ (s.A[i].Al<0)then ν else υ (s.A[i].Al>=Ξ s.S))=ξ:=by
  rcases h1.list with e|e <;> grind
 grind;rw[h1.kind];exact qr (xC h1) fin
def DS.check(h:DS s):DT s=θ 0:=by
 have g:=h.lists2;have j:=h.cols_length;apply Ok.val;unfold DT;rw[df,df];simp[Zfy,Bool.not_false,Zav,Zaq];refine Wf (λs=>s) (Ξ s.S) (λ_ _=>True) 0 (Zag _) rfl trivial z0 (λrec q b _=>?_) λrec i q c b _ ih=>?_;rw[MR,b];rw[Bl];unfold Rw;have e:((Ξ s.A:Int)==0)=ξ:=z5;rw[e];show Ok ((idx s.A 0).bind _) _;apply JT (i:=0) z0;rw[h.col0];apply Ok.no rfl;refine Wf (λs=>s) (Ξ s.A) (λ_ _=>True) 0 (Zag _) rfl trivial z0 (λrec q b _=>?_) λrec i q c b _ ih=>?_;rw[MU,b];rw[Bl];exact KK rfl;rw[MU,b];rw[AK];refine qr (zx h c) (ih _ ?_ trivial);show i64.wrap (i+1)=_;rw[wr];omega;rw[MR,b];rw[AK];refine JT c (qr (QH (h.list c)).check ?_);show Ok (bif decide _ then _ else none) _;apply dg z0;rw[Abn _ z0];apply qr (mP (λa=>a.J.toList==s.S[i].J.toList) (λx _=>rfl) z5)
 have:(s.S.take i).any (λa=>a.J.toList==s.S[i].J.toList)=ξ:=by
  rw[Zfb];intro x hx;obtain⟨k,l,rfl⟩:=List.mem_iff_getElem.1 hx;have f:k<i:=z5;obtain rfl:k=0:=z0;obtain rfl:i=1:=z0;have d:=h.lname z0 z0;rw[Zbs,d.1,d.2,rX];simp
 rw[this];refine ih _ ?_ trivial;show i64.wrap (i+1)=_;rw[wr];omega
def B0:=-1099511627776
def iE(s:Aa)(c:Ax)v:=(c.Kind=1/\1<=v/\v<=1000)\/(c.Kind=2/\∃L,L∈Ym/\idx s.S c.Al=θ L/\v∈AW L)\/(c.Kind=3/\((c.C<=v/\v<=c.E)\/(c.An=ν/\v=B0)))
def Z6 s(r:List Int):=Ξ r=Ξ s.A/\∀(i:Nat) c v,s.A[i]?=θ c->r[i]?=θ v->iE s c v
def DS.clist(h:DS s){c}(b:Iy c):∃L,L∈Ym/\idx s.S c.Al=θ L:=by
 have d:=h.lists2;rcases b.list with e|e;have a:0<Ξ s.S:=z0;exact⟨_,h.list a,by rw[e];exact AY (i:=0) a⟩;have h1:1<Ξ s.S:=z0;exact⟨_,h.list h1,by rw[e];exact AY (i:=1) h1⟩
def jT{s}{i}{c}{L}(b:idx s.A i=θ c)(d:idx s.S c.Al=θ L)(a:L∈Ym):Dk s i=θ (AW L):=by
 have h:=QH a;have h2:=h.lev2;have e:=h.lev3;unfold Dk;rw[b,Zad,d,Zad,h.rlev,Zad,wr,h.rleaves];rfl
def Od:(Ym.all λl=>Ξ (AW l)<=10)=ν:=by decide +kernel
def yx(h:DS s){c}(g:Me c){i:Nat}k:Ok (I4 c s i) λr=>Me r.2/\iE s s.A[i] r.1:=by
 unfold I4;apply JT k;have a:=AY k;generalize l:s.A[i]=cl at a ⊢;have b:=h.cl k;rw[l]at b;rcases b with⟨rfl,e⟩|⟨t,h1|h1⟩;subst e;refine Vc rfl (Ok.bind (Mj g z0 z0 z0 z0) λx hx=>KK ⟨hx.1,.inl ⟨rfl,hx.2.1,by show x.1<=1000;omega⟩⟩);have⟨L,j,d⟩:=h.clist h1;have m:=QH j;refine Ok.no (by rw[h1.kind];rfl) (Vc (by rw[h1.kind];rfl) (qr (jT a d j) ?_));have u:Ξ (AW L)<=10:=by have:=List.all_eq_true.1 Od L j;simpa using this
 have p:=List.length_pos_iff.2 m.some_;refine Ok.bind (Fe g z0 z0) λx hx=>?_;refine Ok.idx hx.2.1 z0 (KK ⟨hx.1,.inr (.inl ⟨h1.kind,L,j,d,Zae _⟩)⟩);have⟨h2,v⟩:=h1.low;have⟨q,w⟩:=h1.high;refine Ok.no (by rw[h1.kind];rfl) (Ok.no (by rw[h1.kind];rfl) ?_)
 have o:∀{c':Ac},Me c'->Ok ((Bw c' cl.C cl.E).bind λf=>θ (f.1,f.2)) λr=>Me r.2/\iE s cl r.1:=λn=>
  Ok.bind (Mj n q z0 z0 z0) λx hx=>KK ⟨hx.1,.inr (.inr ⟨h1.kind,.inl hx.2⟩)⟩
 refine Ok.br (λho=>Ok.bind (U0 g z0 z0) λx hx=>Ok.br (λ_=>KK ⟨hx,.inr (.inr ⟨h1.kind,.inr ⟨ho,rfl⟩⟩)⟩) λ_=>o hx) λ_=>o g
def Acu(h:DS s){c}(d:Me c):Ok (K9 c s) λr=>Me r.2/\Z6 s r.1:=by
 have f:=h.cols_length;unfold K9;refine Wf (λq=>q.1) (Ξ s.A) (λi q=>Me q.2.1/\Ξ q.2.2=i/\∀(k:Nat) c v,s.A[k]?=θ c->q.2.2[k]?=θ v->iE s c v) 0 (Zag _) rfl ⟨d,rfl,λk c v _ h=>by simp at h⟩ z0 (λrec q b a=>?_) λrec i q e b a ih=>?_;rw[Kq,b];rw[Bl];exact KK ⟨a.1,a.2.1,a.2.2⟩;rw[Kq,b];rw[AK];refine Ok.bind (yx h a.1 e) λx hx=>Ok.rm z5 (ih _ BE ⟨hx.1,by simp[a.2.1],λk g v j l=>?_⟩);grind
def hd(r:List Int):=r.headD 0
theorem FV{r}(h:r≠[]):idx r 0=θ (hd r):=by
 cases r with
 | nil=>grind
 | cons a q=>rfl
def sQ(l:List (List Int)):=l.Pairwise λa b=>hd a<hd b
def gI(l:List (List Int))row:=l.filter (λx=>hd x<hd row)++row::l.filter λx=>hd row<hd x
def oy{l}{row}(h:sQ l):sQ (gI l row):=by
 unfold sQ gI;rw[Zea,List.pairwise_cons];refine⟨h.sublist List.filter_sublist,⟨λx hx=>?_,h.sublist List.filter_sublist⟩,λx hx y hy=>?_⟩
 all_goals grind
def oz{l}{row x}(h:x∈gI l row):x=row\/x∈l:=by
 unfold gI at h;grind
def WY l row:Ξ (gI l row)<=Ξ l+1:=by
 unfold gI;rw[Zar,Zbq]
 have:Ξ (l.filter λx=>υ (hd x<hd row))+Ξ (l.filter λx=>υ (hd row<hd x))<=Ξ l:=by
  induction l with
  | nil=>simp
  | cons a r ih=>grind
 omega
def PW{α:Type}(l:List α)p{i}a:(l.take (i+1)).filter p=(l.take i).filter p++if p l[i]then[l[i]]else[]:=by
 rw[Zab a,Zew];grind
def xF{l}{row}(w:∀x∈l,x≠[])(hr:row≠[])(y:sQ l)(t:Ξ l<=1000000):S5 l row=θ (gI l row):=by
 apply Ok.val;unfold S5
 refine Wf (λq=>q.2.1) (Ξ l) (λi q=>(q.1=ξ/\(∀x∈l.take i,hd x<=hd row)/\q.2.2=(l.take i).filter λx=>υ (hd x<hd row)) \/
  (q.1=ν/\(∃x∈l.take i,hd row<hd x)/\q.2.2=(l.take i).filter (λx=>υ (hd x<hd row))++row::(l.take i).filter λx=>υ (hd row<hd x))) 0 (Zag _) rfl (.inl ⟨rfl,zs,zs⟩) z0 (λrec q m d=>?_) λrec i q b m d ih=>?_
 ·rw[Sa,m];rw[Bl];rw[Zaj]at d;rcases d with⟨h1,h2,a⟩|⟨h1,h2,a⟩
  ·rw[h1];refine Vc rfl (Ok.rm ?_ (KK ?_));grind;rw[a,gI];congr 2;symm;rw[List.filter_eq_nil_iff];grind
  rw[h1];exact Ok.no rfl (KK a)
 ·rw[Sa,m];rw[AK];have g:=w _ (Zae b)
  have u:∀x∈l.take i,hd x<hd l[i]:=by
   intro x hx;obtain⟨k,C,rfl⟩:=List.mem_iff_getElem.1 hx;have n:k<i:=z5;rw[Zbs];exact(List.pairwise_iff_getElem.1 y) k i z0 b n
  have e:=PW l (λx=>υ (hd x<hd row)) b;have f:=PW l (λx=>υ (hd row<hd x)) b
  have o:Ξ q.2.2<=i+1:=by
   have D:Ξ (l.take i)=i:=z5
   have v:Ξ ((l.take i).filter λx=>υ (hd x<hd row))+Ξ ((l.take i).filter λx=>υ (hd row<hd x))<=i:=by
    have:=WY (l.take i) row;unfold gI at this;grind
   rcases d with⟨_,_,a⟩|⟨_,_,a⟩
   all_goals grind
  refine JT b (qr (FV g) (qr (FV hr) (Ok.br (λh=>ih _ BE ?_) λc=>?_)))
  ·have h:hd l[i]=hd row:=by simpa using h
   rw[e,f];have v:υ (hd l[i]<hd row)=ξ:=df;have z:=df;simp[v,z,Zcz,if_false,Zcq];rcases d with⟨h1,h2,a⟩|⟨h1,h2,a⟩;refine .inl ⟨h1,λx hx=>?_,a⟩;rw[Zab b]at hx;grind;have⟨x,hx,p⟩:=h2;grind
  ·have c:hd l[i]≠hd row:=by simpa using c
   refine JT b (qr (FV g) (qr (FV hr) (Ok.br (λA=>?_) λA=>?_)))
   ·
     obtain⟨j,B⟩:hd row<hd l[i]/\q.1=ξ:=z5;rcases d with⟨h1,h2,a⟩|⟨h1,h2,a⟩
     ·refine Ok.rm z5 (JT b (Ok.rm zv (ih _ BE (.inr ⟨rfl,⟨l[i],?_,j⟩,?_⟩))));rw[Zab b];exact Zbp _ (List.mem_singleton.2 rfl);rw[e,f,df,Zak j,a]
      have:(l.take i).filter (λx=>υ (hd row<hd x))=[]:=by
       rw[List.filter_eq_nil_iff];grind
      grind
     grind
   ·refine JT b (Ok.rm z5 (ih _ BE ?_));rw[e,f];rcases d with⟨h1,h2,a⟩|⟨h1,h2,a⟩
    have r:hd l[i]<hd row:=by
     by_cases E:hd l[i]>hd row
     all_goals grind
    refine .inl ⟨h1,λx hx=>?_,by rw[Zak r,a];simp⟩;rw[Zab b]at hx;grind;grind
structure jl(x:CH)(n:Nat):Prop where
 schema:DS x.Bi
 rows:∀r∈x.G,Z6 x.Bi r
 asc:sQ x.G
 len:Ξ x.G<=n
 gone:x.B6=[]
 version:x.As=0
def Z6.ne(h:DS s){r}(hr:Z6 s r):r≠[]:=by
 intro e;have:=hr.1;have:=h.cols_length;grind
def uS{c}(h:Me c){n:Nat}(o:n<=50):Ok (H3 c n) λr=>Me r.2/\jl r.1 n:=by
 unfold H3;refine Ok.bind (ux h) λx hx=>?_;have e:i64.wrap (n+1)=n+1:=wr;rw[e];refine Ok.bind (Fe hx.1 z0 z0) λy hy=>?_;obtain⟨b,d,i⟩:=hy;refine Ok.loop (λq=>0<=q.1/\Me q.2.1/\(∀r∈q.2.2,Z6 x.1 r)/\sQ q.2.2/\Ξ q.2.2+q.1<=n) (λq=>q.1.toNat) ⟨d,b,(λr hr=>by cases hr),List.Pairwise.nil,by show(0:Int)+y.1<=n;omega⟩ (by unfold Ay;show y.1.toNat<_;omega) λrec q j ih=>?_;obtain⟨p,h1,h2,f,t⟩:=j;rw[KA];refine bt (λk=>Ok.bind (Acu hx.2 h1) λz g=>?_) λk=>?_
 ·have a:=xF (l:=q.2.2) (row:=z.1) (λr hr=>(h2 r hr).ne hx.2) (g.2.ne hx.2) f z0;have m:=WY q.2.2 z.1;refine qr a (ih _ ⟨?_,g.1,λr hr=>?_,oy f,?_⟩ ?_)
  ·show 0<=i64.wrap (q.1-1);rw[wr];omega
  ·rcases oz hr with rfl|hr
   all_goals grind
  ·show (Ξ (gI q.2.2 z.1))+i64.wrap (q.1-1)<=n;rw[wr];omega
  ·show(i64.wrap (q.1-1)).toNat<q.1.toNat;rw[wr];omega
 ·exact KK ⟨h1,hx.2,h2,f,by show Ξ q.2.2<=n;omega,rfl,rfl⟩
abbrev DD:=100
def ZA:Ae:={ Op:=1,B:=0,Af:=0,C:=0,E:=0,D:=[] }
def R5:Ae:={ Op:=0,B:=0,Af:=0,C:=0,E:=0,D:=[] }
def DS.rcond_all(h:DS s):BY DD s ZA=θ 0:=by unfold BY;rw[h.rcheck];rfl
def tH(s:Aa)(c:Ax):=if c.Kind=2 then KF ((idx s.S c.Al).getD { J:=iR,X:=[] })-1 else Ξ c.L
def fin s(i:Nat):=tH s (s.A[i]?.getD who)
def E8{i}a:fin s i=tH s s.A[i]:=by unfold fin;rw[Zaa a];rfl
def B6{c}(h:Do c):1<=Ξ c.L/\Ξ c.L<=4:=by rcases lI h.widths with e|e|e|e<;>(rw[e];decide)
def Nv{c}(h:Iy c){L}(a:idx s.S c.Al=θ L):tH s c=KF L-1:=by unfold tH;rw[Zai h.kind,a];rfl
def Cs{c}(h:Do c):tH s c=Ξ c.L:=by unfold tH;rw[Zah (by rw[h.kind];decide)]
def DS.fin_ok(h:DS s){i}(d:1<=i)(b:i<Ξ s.A):1<=fin s i/\fin s i<=4:=by
 rw[E8 b];rcases h.col d b with h1|h1;have⟨L,c,a⟩:=h.clist h1;have:=QH c;rw[Nv h1 a];have:=this.lev2;have:=(QH c).lev3;omega;have:=B6 h1;rw[Cs h1];omega
def DS.rfinest(h:DS s){i}(c:1<=i)(b:i<Ξ s.A):B3 s i=θ (fin s i):=by
 have e:=h.cols_length;unfold B3;rw[h.rcheck,Zad,df,df];show(idx s.A i).bind _=_;rw[AY b,Zad,E8 b];rcases h.col c b with h1|h1;have⟨L,d,a⟩:=h.clist h1;have:=QH d;have h2:=this.lev2;have f:=this.lev3;rw[h1.kind,Nv h1 a];show(idx s.S _).bind _=_;rw[a,Zad,this.rlev,Zad,wr];rw[h1.kind,Cs h1];rfl
def DS.pfinest(h:DS s){i}(c:1<=i)(b:i<Ξ s.A):G2 s i=θ (fin s i):=by
 have e:=h.cols_length;unfold G2;rw[df,df];show(idx s.A i).bind _=_;rw[AY b,Zad,E8 b];rcases h.col c b with h1|h1;have⟨L,d,a⟩:=h.clist h1;have:=QH d;have h2:=this.lev2;have f:=this.lev3;rw[h1.kind,Nv h1 a];show(idx s.S _).bind _=_;rw[a,Zad,this.lev,Zad,wr];rw[h1.kind,Cs h1];rfl
def DS.pFinest(h:DS s){i}(a:1<=i)(b:i<Ξ s.A):Ek s i=θ (fin s i):=by
 unfold Ek;rw[h.check,Zad,h.pfinest a b];rfl
def um:BF:={ J:={ data:=#[113] },Kind:=1,Bu:=ZA,V:=[{ B:=1,H:=0 }],Ah:=(-1),A0:=[],Y:=R5 }
def tq:B2:={ Aq:={ data:=#[97,108,108,95,114,111,119,115] },B9:={ data:=#[115,114,99] },Bw:=ZA,Bx:={ B0:=1,Of:=1,B1:=0 },B5:=[um] }
def GF(s:Aa):List Ab:=(List.range (Ξ s.A-1)).map λk=>{ B:=(k+1:Nat),H:=fin s (k+1) }
def Abd(h:DS s):WC s=θ (tq,GF s):=by
 have e:=h.cols_length;apply Ok.val;unfold WC;refine Wf (λq=>q.1) (Ξ s.A) (λi q=>1<=i/\q.2=(List.range (i-1)).map λk=>{ B:=(k+1:Nat),H:=fin s (k+1) }) 1 z0 rfl ⟨z0,rfl⟩ z0 (λrec q b a=>?_) λrec i q c b a ih=>?_;rw[TP,b];rw[Bl,a.2];exact KK rfl;have⟨d,a⟩:=a;rw[TP,b];rw[AK];refine qr (h.rfinest d c) (Ok.rm (by grind) (ih _ BE ⟨z0,?_⟩));show q.2++[_]=_;rw[a];obtain⟨j,rfl⟩:∃j,i=j+1:=⟨i-1,z0⟩;simp[Zfv]
def xZ{p:Ab}(h:DS s){i}(b:1<=i)(c:i<Ξ s.A)(d:p.B=i)(e:0<=p.H)(a:p.H<=fin s i):FW s p=θ 0:=by
 unfold FW;rw[h.rcheck,Zad,d,df,df];show(B3 s i).bind _=_;rw[h.rfinest b c,Zad,JC,Zad,Zak ⟨e,a⟩];rfl
def F0{k:Nat}a:(GF s)[k]={ B:=(k+1:Nat),H:=fin s (k+1) }:=by simp[GF]
def Rm:Ξ (GF s)=Ξ s.A-1:=by simp[GF]
def hZ(h:DS s):DC s (GF s)=θ 0:=by
 have c:=h.cols_length;have d:=Rm (s:=s);apply Ok.val;unfold DC;refine qr h.rcheck (Ok.no rfl ?_);refine Wf (λq=>q) (Ξ (GF s)) (λ_ _=>True) 0 (Zag _) rfl trivial z0 (λrec q b _=>?_) λrec i q a b _ ih=>?_;rw[IC,b];rw[Bl];exact KK rfl;rw[IC,b];rw[AK];have f:=h.fin_ok (i:=i+1) z0 z0;refine JT a (qr (xZ h (i:=i+1) z0 z0 (by rw[F0 a]) (by rw[F0 a];show 0<=fin s (i+1);omega) (by rw[F0 a];exact Zbh _)) (Ok.no rfl (bt (λh1=>JT a ?_) λ_=>ih _ BE trivial)));have e:i64.wrap (i-1)=(i-1:Nat):=by rw[wr];omega
 rw[e];refine JT (by grind) (bt (λh2=>?_) λ_=>ih _ BE trivial);rw[F0 a,F0 (by grind)]at h2;grind
def Aea(h:DS s):KT s [{ B:=1,H:=0 }]=θ 0:=by
 have d:=h.cols_length;have f:=h.fin_ok (i:=1) z0 z0
 have c:s.A[1].Kind=2:=by
  have⟨j,g,e,_⟩:=h.cols;have:s.A[1]?=θ sex:=by rw[e];cases j<;>rfl
  rw[Zaa z0]at this;rw[Zaf this];rfl
 apply Ok.val;unfold KT;apply Ok.no rfl;refine Wf (λq=>q) 1 (λ_ _=>True) 0 (Zag _) rfl trivial z0 (λrec q a _=>?_) λrec i q b a _ ih=>?_;rw[Qi,a];exact Ok.no rfl (KK rfl);obtain rfl:i=0:=z0;rw[Qi,a];refine Vc rfl (qr (x:={ B:=1,H:=0 }) rfl (qr (xZ h (i:=1) z0 z0 rfl (by grind) (by grind)) (Ok.no rfl (qr (x:={ B:=1,H:=0 }) rfl (qr (x:=ν) ?_ (Ok.no rfl ?_))))));unfold Mp;rw[Zak j0,Zak (by grind)];show(idx s.A (1:Nat)).bind _=_;rw[AY (by grind),Zad,c];rfl;refine Wf (λq=>q) 0 (λ_ _=>True) 0 (Zag _) rfl trivial z0 (λrec q a _=>?_) λrec i q b a _ ih=>absurd b z0;rw[Ig,a];exact Ok.no rfl (ih _ rfl trivial)
def cw(h:DS s):Ei DD s um=θ 0:=by
 apply Ok.val;unfold Ei;refine qr h.rcheck (Ok.no rfl (qr (x:=ν) (by decide +kernel) (Ok.no rfl (Ok.no rfl (qr h.rcond_all (Ok.no rfl (qr (x:=0) ?_ (Ok.no rfl (Ok.no rfl (Vc rfl (qr (x:=ν) rfl (Ok.no rfl (KK rfl)))))))))))));unfold Ra;refine Ok.val (qr (x:=ξ) ?_ (Vc rfl (qr (Aea h) (Ok.no rfl (Ok.no rfl (KK rfl))))));unfold Mp;rfl
def ba(h:DS s):NA DD s tq=θ 0:=by
 apply Ok.val;unfold NA;refine qr h.rcheck (Ok.no rfl (qr (x:=ν) (by decide +kernel) (Ok.no rfl (qr (x:=ν) (by decide +kernel) (Ok.no rfl ?_)))));unfold Tr;refine qr h.rcond_all (Ok.no rfl (Ok.no rfl (Ok.no rfl ?_)));refine Wf (λq=>q) 1 (λ_ _=>True) 0 (Zag _) rfl trivial z0 (λrec q a _=>?_) λrec i q b a _ ih=>?_;rw[O6,a];exact Ok.no rfl (KK rfl);obtain rfl:i=0:=z0;rw[O6,a];refine Vc rfl (qr (x:=um) rfl (qr (cw h) (Ok.no rfl ?_)));refine Wf (λq=>q) 0 (λ_ _=>True) 0 (Zag _) rfl trivial z0 (λrec q a _=>?_) λrec i q b a _ ih=>absurd b z0;rw[Tq,a];exact Ok.no rfl (ih _ rfl trivial)
def o6(h:DS s):DF DD s ZA=θ []:=by
 unfold DF;rw[h.rcond_all];rfl
def zG(h:DS s):CE s 1 0=θ 0:=by
 have b:=h.cols_length;have c:=h.fin_ok (i:=1) z0 z0;apply Ok.val;unfold CE;apply qr (h.rfinest (i:=1) z0 z0);rw[JC,Zad,dt];apply Ok.no rfl;refine Ok.loop (λq=>q=0) (λ_=>0) rfl (by unfold Ay;omega) λrec q a ih=>?_;subst a;unfold GQ;refine qr (x:=ν) ?_ (Ok.no rfl (KK rfl));unfold F7;refine Ok.val (JT (i:=1) z0 (Vc rfl (KK rfl)))
def rneeds(h:DS s):Rb DD s um=θ []:=by
 have d:=h.cols_length;apply Ok.val;unfold Rb;refine qr (cw h) (Ok.no rfl (qr (o6 h) (Ok.no rfl ?_)));unfold O9;refine Wf (λq=>q.2) 1 (λ_ q=>q.1=[]) 0 (Zag _) rfl rfl z0 (λrec q a b=>?_) λrec i q c a b ih=>?_;rw[O7,a,b];apply Ok.no rfl;refine Wf (λq=>q.2) (Ξ s.A) (λ_ q=>q.1=[]) 1 z0 rfl rfl z0 (λrec q a b=>?_) λrec i q c a b ih=>?_;rw[O8,a,b];rw[Bl];exact KK rfl;rw[O8,a,b];rw[AK];refine qr (x:=ξ) ?_ (Ok.no rfl (ih _ BE rfl));unfold VO
 have e:(um.Ah==i)=ξ:=by
  rw[Zbt];show (-1)≠_;omega
 rw[e];rfl;obtain rfl:i=0:=z0;rw[O7,a,b];refine Vc rfl (qr (x:={ B:=1,H:=0 }) rfl (qr (x:={ B:=1,H:=0 }) rfl (qr (x:={ B:=1,H:=0 }) rfl (qr (zG h) (qr (x:=[]) rfl (ih _ rfl rfl))))))
def qm(h:DS s):Rc DD s tq (GF s)=θ 0:=by
 apply Ok.val;unfold Rc;refine qr (ba h) (Ok.no rfl (qr (hZ h) (Ok.no rfl ?_)));refine Wf (λq=>q) 1 (λ_ _=>True) 0 (Zag _) rfl trivial z0 (λrec q a _=>?_) λrec i q b a _ ih=>?_;rw[OA,a];exact Ok.no rfl (KK rfl);obtain rfl:i=0:=z0;rw[OA,a];refine Vc rfl (qr (x:=um) rfl (qr (x:=ν) ?_ (Ok.no rfl (ih _ rfl trivial))));unfold Qj;refine Ok.val (qr (cw h) (Vc rfl (qr (hZ h) (Vc rfl (qr (rneeds h) (qr (x:=ν) rfl (KK rfl)))))))
def yl:Lt:={ B0:=1,Of:=1,B1:=0 }
def Aby id(b:1<=id)(h1:id<=1048575):Xr yl id=θ ν:=by
 apply Ok.val;unfold Xr;refine qr (x:=0) rfl (Vc z5 ?_);obtain⟨v,a⟩:∃v,VP yl.B1 id=θ v:=⟨_,rfl⟩;refine qr a (dg j0 (KK ?_));show υ (Int.tmod v 1<1)=ν;grind
def pG{n}(a:0<=n)(h1:n<18446744073709551616):0<=Int.fdiv n 18014398509481984/\Int.fdiv n 18014398509481984<=1023:=z5
def kA n:0<=u64.wrap n/\u64.wrap n<18446744073709551616:=by
 unfold IntKind.wrap;simp only[IntKind.signed,IntKind.bits];grind
def xV a r c:Ok (Re a r c) λx=>0<=x/\x<=1023:=by
 unfold Re;refine Ok.br (λ_=>KK z0) λ_=>?_;refine Wf (λq=>q.2) 3 (λ_ q=>0<=q.1/\q.1<18446744073709551616) 0 (Zag _) rfl (kA _) z0 (λrec q b d=>?_) λrec i q f b d ih=>?_;rw[OB,b];refine Ok.no rfl (KK ?_);have e:(2:Int)^(min (54:Int).toNat u64.bits)=18014398509481984:=j0;rw[e];have:=pG d.1 d.2;rw[wr];exact this;rw[OB,b];rw[AK];exact ih _ BE (kA _)
def vi{a b}(c:0<=a/\a<=1023)(d:0<=b/\b<=1023):0<=i64.wrap ((BitVec.ofInt i64.bits a ^^^ BitVec.ofInt i64.bits b).toNat:Nat)/\i64.wrap ((BitVec.ofInt i64.bits a ^^^ BitVec.ofInt i64.bits b).toNat:Nat)<=1023:=by
 obtain⟨m,rfl⟩:∃m:Nat,a=m:=⟨a.toNat,z0⟩;obtain⟨n,rfl⟩:∃n:Nat,b=n:=⟨b.toNat,z0⟩
 have e:(BitVec.ofInt i64.bits m ^^^ BitVec.ofInt i64.bits n).toNat=m ^^^ n:=by
  rw[BitVec.toNat_xor,BitVec.ofInt_natCast,BitVec.ofInt_natCast,BitVec.toNat_ofNat,BitVec.toNat_ofNat];have h1:m%2^i64.bits=m:=Zdy (by show m<2^64;omega);have h2:n%2^i64.bits=n:=Zdy (by show n<2^64;omega);grind
 rw[e];have:m ^^^ n<2^10:=Nat.xor_lt_two_pow z0 z0;rw[wr];omega
def Ab0{a id}(d:0<=a)(e:a<1152921504606846976)(f:0<=id)(h1:id<1048576):Ok (Vg a id) λx=>0<=x/\x<=1048575:=by
 unfold Vg;refine qr (x:=ν) ?_ (Ok.no rfl ?_);unfold Ul;grind;have g:0<=Int.tdiv id 1024/\Int.tdiv id 1024<=1023:=by grind
 have h:0<=Int.tmod id 1024/\Int.tmod id 1024<=1023:=z5;refine Wf (λq=>q.2.2) 8 (λ_ q=>(0<=q.1/\q.1<=1023)/\(0<=q.2.1/\q.2.1<=1023)) 0 (Zag _) rfl ⟨by show 0<=i64.wrap _/\i64.wrap _<=1023;rw[wr];exact g,h⟩ z0 (λrec q c b=>?_) λrec i q j c b ih=>?_;have⟨⟨k,l⟩,m,o⟩:=b;rw[Sc,c];refine Ok.no rfl (KK ?_);rw[wr (n:=q.1*1024) z0 z0,wr];omega;rw[Sc,c];rw[AK];refine Ok.bind (xV _ _ _) λx hx=>ih _ BE ⟨b.2,vi b.1 hx⟩
def gh(h:DS s){i:Nat}f{v}(g:iE s s.A[i] v):N5 s i v=θ ν:=by
 apply Ok.val;unfold N5;apply JT f;rcases g with⟨a,h1,h2⟩|⟨a,L,j,c,h1⟩|⟨a,h1⟩;apply Vc z5;rw[JC,dt];exact KK rfl;have b:=QH j;have⟨h2,m,k,_,_⟩:=b.leaf v h1;have n:=b.lev2;have o:=b.lev3
 have d:Ξ L.X<=100:=by
  have:(Ym.all λl=>υ (Ξ l.X<=100))=ν:=by decide +kernel
  grind
 refine Ok.no z5 (Vc (by grind) (qr c ?_));rw[JC,Zad,Zak (by rw[wr];omega)];refine Vc rfl (qr k (qr b.rlev (KK ?_)));rw[wr];grind;refine Ok.no z5 (Ok.no (by grind) (Ok.br (λ_=>KK rfl) λe=>?_));rcases h1 with h1|⟨ho,rfl⟩;rw[JC,dt];exact KK rfl;rw[ho]at e
 cases e
def Aee(h:DS s){r}(hr:Z6 s r):P7 s r=θ 0:=by
 have d:=h.cols_length;apply Ok.val;unfold P7;refine qr h.rcheck (Ok.no rfl (Ok.no (by rw[hr.1];simp) ?_));refine Wf (λq=>q) (Ξ r) (λ_ _=>True) 0 (Zag _) rfl trivial (by rw[hr.1];omega) (λrec q c _=>?_) λrec i q b c _ ih=>?_;rw[RZ,c];rw[Bl];exact KK rfl;rw[RZ,c];rw[AK];have a:i<Ξ s.A:=by rw[<-hr.1];exact b
 refine JT b (qr (gh h a (hr.2 i _ _ (Zaa a) (Zaa b))) (Ok.no rfl (ih _ (BE (by grind)) trivial)))
def yg{x}{n}(h:jl x n)(f:n<=100):N6 x=θ ν:=by
 have g:=h.len;apply Ok.val;unfold N6;refine qr h.schema.rcheck (Ok.no ?_ ?_);rw[h.gone,h.version,df];rfl;refine Wf (λq=>q) (Ξ x.G) (λ_ _=>True) 0 (Zag _) rfl trivial z0 (λrec q b _=>?_) λrec i q c b _ ih=>?_;rw[Oq,b];rw[Bl];unfold Tk;refine Wf (λq=>q) 0 (λ_ _=>True) 0 (Zag _) rfl trivial z0 (λrec q b _=>?_) λrec i q c b _ ih=>absurd c z0;rw[Tj,b,h.gone];exact Ok.no rfl (KK rfl);rw[Oq,b];rw[AK];have hr:=h.rows _ (Zae c);refine JT c (qr (Aee h.schema hr) (Ok.no rfl (bt (λh1=>?_) λ_=>ih _ BE trivial)));have e:i64.wrap (i-1)=(i-1:Nat):=by rw[wr];omega
 rw[e];have a:i-1<Ξ x.G:=z0;have d:=(List.pairwise_iff_getElem.1 h.asc) (i-1) i a c z0;refine JT c (qr (FV (hr.ne h.schema)) (JT a (qr (FV ((h.rows _ (Zae a)).ne h.schema)) (bt (λh2=>z0) λ_=>ih _ BE trivial))))
def uu(h:DS s){r}(hr:Z6 s r):Tl DD s ZA r=θ 1:=by
 unfold Tl;rw[h.rcond_all];show(P7 s r).bind _=_;rw[Aee h hr];rfl
def Z6.hd(h:DS s){r:List Int}(hr:Z6 s r):1<=hd r/\hd r<=1000:=by
 have f:=h.cols_length;have c:0<Ξ s.A:=z0
 have h1:0<Ξ r:=by rw[hr.1];exact c
 have:=hr.2 0 who r[0] (by rw[Zaa c,h.col0]) (Zaa h1);have e:P.hd r=r[0]:=by cases r with|nil=>simp at h1|cons a q=>rfl
 rw[e];rcases this with⟨_,h2,d⟩|⟨b,_⟩|⟨b,_⟩
 ·exact⟨h2,d⟩
 ·exact absurd b j0
 ·exact absurd b j0
def zK{x}{n}(h:jl x n)(d:n<=100):OF DD x tq=θ (x.G.map hd):=by
 have f:=h.len;apply Ok.val;unfold OF;refine qr (yg h d) (Ok.no rfl (qr (ba h.schema) (Ok.no rfl ?_)));unfold Rt;refine Wf (λq=>q.1) (Ξ x.G) (λi q=>q.2=(x.G.take i).map hd) 0 (Zag _) rfl rfl z0 (λrec q c b=>?_) λrec i q a c b ih=>?_;rw[ML,c];rw[Bl,b,Zaj];exact KK rfl;rw[ML,c];rw[AK];have hr:=h.rows _ (Zae a);have e:=hr.hd h.schema;refine JT a (qr (uu h.schema hr) (Vc rfl (JT a (qr (FV (hr.ne h.schema)) (qr (Aby _ e.1 z0) (Vc rfl (JT a (qr (FV (hr.ne h.schema)) (Ok.rm ?_ (ih _ BE ?_))))))))));rw[b];simp;omega;show q.2++[_]=_;rw[b,Zab a,Zay];rfl
def Aed{x}{n}(h:jl x n)(d:n<=100){i:Nat}f:No x (hd x.G[i])=θ (i:Int):=by
 have j:=h.len;apply Ok.val;unfold No;refine Wf (λq=>q) (Ξ x.G) (λk _=>k<=i) 0 (Zag _) rfl (Zag _) z0 (λrec q c g=>z0) λrec k q b c g ih=>?_;rw[U1,c];rw[AK];have hr:=h.rows _ (Zae b);have a:=hr.ne h.schema;refine JT b (bt (λ_=>JT b (qr (FV a) (Ok.br (λhe=>KK ?_) λd=>ih _ BE ?_))) λl=>?_);by_cases e:k=i;rw[e];have he:hd x.G[k]=hd x.G[i]:=by grind
 have:=(List.pairwise_iff_getElem.1 h.asc) k i b f z0;omega;grind;have:=List.length_pos_iff.2 a;omega
def tP{v}(a:-1000000<=v)(h1:v<=1000000):Gx v 1=θ v:=by
 unfold Gx;rw[AK j0,AK j0,Int.tmod_one,Bl j0,Int.tdiv_one,wr]
def fA(h:DS s){i}(j:1<=i)d{v}(k:iE s s.A[i] v):Bt s i (fin s i) v=θ v:=by
 have u:=h.fin_ok j d;apply Ok.val;unfold Bt;apply qr (h.rfinest j d);rw[JC,Zad,dt];refine Ok.no rfl (JT d ?_);rcases h.col j d with h1|h1;have⟨L,n,f⟩:=h.clist h1;have l:=QH n
 have b:v∈AW L:=by
  rcases k with⟨a,_⟩|⟨a,w,o,c,g⟩|⟨a,_⟩;rw[h1.kind]at a;cases a;rw[f]at c;cases c;exact g;rw[h1.kind]at a;cases a
 refine Vc (by rw[h1.kind];rfl) (qr (gh h d k) (Ok.no rfl (qr f (qr (x:=v) ?_ (KK rfl)))));rw[E8 d,Nv h1 f];exact(l.leaf v b).2.2.2.2;have⟨y,z⟩:=h1.low;have⟨A,B⟩:=h1.high
 have b:(s.A[i].C<=v/\v<=s.A[i].E)\/v=B0:=by
  rcases k with⟨a,_⟩|⟨a,_⟩|⟨a,g|g⟩;rw[h1.kind]at a;cases a;rw[h1.kind]at a;cases a;exact .inl g;grind
 have p:Ec s.A[i] (fin s i)=θ 1:=by
  rw[E8 d,Cs h1];unfold Ec;have q:=B6 h1;rw[wr,Int.sub_self];rcases lI h1.widths with e|e|e|e<;>(rw[e];rfl)
 refine Ok.no (by rw[h1.kind];rfl) ?_;have m:(fin s i==0)=ξ:=by grind
 rcases b with b|rfl;have r:(v != -1099511627776)=ν:=by grind
 have t:(v==-1099511627776)=ξ:=by grind
 apply Vc r;rw[JC,Zad,dt];refine Ok.no rfl (Ok.no m (Ok.no t (qr p (qr (tP z0 z0) (KK ?_)))));rw[wr];omega;exact Ok.no rfl (Ok.no m (Vc rfl (KK rfl)))
def v7 s r:=Ξ r=Ξ s.A/\0<=hd r/\hd r<=1048575/\∀i c v,1<=i->s.A[i]?=θ c->r[i]?=θ v->iE s c v
structure XOK(s:Aa)(x:Ad)(n:Nat):Prop where
 project:x.Aq=tq.Aq
 version:x.As=0
 picks:x.I=GF s
 rows:∀r∈x.G,v7 s r
 asc:sQ x.G
 len:Ξ x.G<=n
def v7.ne(h:DS s){r}(hr:v7 s r):r≠[]:=by
 intro e;have h1:=hr.1;have:=h.cols_length;grind
def vR{x}{n}(h:jl x n)(w:n<=100){d}(y:0<=d)(z:d<1152921504606846976):Ok (Rf DD x tq (GF x.Bi) d) λr=>XOK x.Bi r.1 n:=by
 have G:=h.len;have H:=h.schema.cols_length;have E:=Rm (s:=x.Bi);unfold Rf;refine qr (yg h w) (Ok.no rfl (qr (qm h.schema) (Ok.no rfl (Ok.no ?_ (Ok.rm z0 (qr (zK h w) ?_))))));rw[df,df];rfl;refine Wf (λq=>q.1) (Ξ x.G) (λi q=>(∀r∈q.2,v7 x.Bi r)/\sQ q.2/\Ξ q.2<=i) 0 (Zag _) rfl ⟨(λr hr=>by cases hr),List.Pairwise.nil,Zag _⟩ z0 (λrec q A p=>?_) λrec i q t A p ih=>?_;rw[Ts,A];rw[Zac,Bl];exact KK ⟨rfl,h.version,rfl,p.1,p.2.1,by show Ξ q.2<=n;omega⟩;have⟨h1,h2,I⟩:=p;rw[Ts,A];rw[Zac,AK];have hr:=h.rows _ (Zae t);have J:=hr.hd h.schema;have hid:idx (x.G.map hd) i=θ (hd x.G[i]):=by rw[AY (by grind),Zbu]
 refine qr hid (qr (Aed h w t) (JT t (qr hid (Ok.bind (Ab0 y z z0 z0) λkey b=>?_))));refine Wf (λq=>q.1) (Ξ (GF x.Bi)) (λk q=>q.2=key::(x.G[i].drop 1).take k) 0 (Zag _) rfl rfl z0 (λl D f a=>?_) λl k D u f a ih2=>?_;rw[OC,f];rw[Bl];have e:(x.G[i].drop 1).take (Ξ (GF x.Bi))=x.G[i].drop 1:=Zbe (by rw[Zcd,hr.1];omega);rw[a,e]
 have hx:v7 x.Bi (key::x.G[i].drop 1):=by
  refine⟨by rw[Zbq,Zcd,hr.1];omega,b.1,b.2,λk c v F B m=>?_⟩;obtain⟨j,rfl⟩:∃j,k=j+1:=⟨k-1,z0⟩;rw[Zcg,Zca,Nat.add_comm]at m;exact hr.2 _ c v B m
 refine qr (xF (λr hr=>(h1 r hr).ne h.schema) zs h2 z0) (ih _ BE ⟨λr hr=>?_,oy h2,?_⟩);rcases oz hr with rfl|hr;exact hx;exact h1 r hr;have:=WY q.2 (key::x.G[i].drop 1);show(Ξ (gI q.2 _))<=i+1;omega;rw[OC,f];rw[AK];have g:k+1<Ξ x.Bi.A:=z0;have o:k+1<Ξ x.G[i]:=by rw[hr.1];exact g
 refine JT u (JT u (JT u ?_));rw[F0 u];refine JT o (qr (fA h.schema z0 g (hr.2 (k+1) _ _ (Zaa g) (Zaa o))) (Ok.rm ?_ (ih2 _ BE ?_)));rw[a];simp;omega;show D.2++[_]=_;have C:k<Ξ (x.G[i].drop 1):=by grind
 rw[a,Zab C,Zgg,List.getElem_drop];grind
def Fb(c:Ax)(l:Int):=c.L.getD (Ξ c.L-l).toNat 1
def mr{c}(h:Do c){l:Int}(a:1<=l)(h1:l<=Ξ c.L):idx c.L (i64.wrap (Ξ c.L-l))=θ (Fb c l):=by
 have b:=B6 h;rw[wr,XW z0 z0];unfold Fb;grind
def lT{c}(h:Do c){l:Int}(a:1<=l)(h1:l<=Ξ c.L):Jy c l=θ (Fb c l):=by unfold Jy;rw[mr h a h1];rfl
def lY{c}(h:Do c){l:Int}(a:1<=l)(h1:l<=Ξ c.L):Ec c l=θ (Fb c l):=by unfold Ec;rw[mr h a h1];rfl
def mt{c}(h:Do c){a b:Int}(g:1<=b)(f:b<=a)(d:a<=Ξ c.L):
 (Fb c a,Fb c b)∈[(1,1),(1,5),(5,5),(1,20),(5,20),(20,20),(1,2),(2,2),(1,4),(2,4),(4,4),(1,12),(2,12),(4,12),(12,12)]:=by
 unfold Fb;rcases lI h.widths with e|e|e|e;rw[e]at d ⊢;obtain⟨rfl,rfl⟩:a=1/\b=1:=by grind
 decide;rw[e]at d ⊢;have d:a<=2:=by grind
 rcases(by omega:(a=1/\b=1)\/(a=2/\b=1)\/(a=2/\b=2))with⟨rfl,rfl⟩|⟨rfl,rfl⟩|⟨rfl,rfl⟩<;>decide;rw[e]at d ⊢;have d:a<=3:=by grind
 rcases(by omega:(a=1/\b=1)\/(a=2/\b=1)\/(a=2/\b=2)\/(a=3/\b=1)\/(a=3/\b=2)\/(a=3/\b=3))with⟨rfl,rfl⟩|⟨rfl,rfl⟩|⟨rfl,rfl⟩|⟨rfl,rfl⟩|⟨rfl,rfl⟩|⟨rfl,rfl⟩<;>decide;rw[e]at d ⊢;have d:a<=4:=by grind
 rcases(by omega:(a=1/\b=1)\/(a=2/\b=1)\/(a=2/\b=2)\/(a=3/\b=1)\/(a=3/\b=2)\/(a=3/\b=3)\/(a=4/\b=1)\/(a=4/\b=2)\/(a=4/\b=3)\/(a=4/\b=4))with⟨rfl,rfl⟩|⟨rfl,rfl⟩|⟨rfl,rfl⟩|⟨rfl,rfl⟩|⟨rfl,rfl⟩|⟨rfl,rfl⟩|⟨rfl,rfl⟩|⟨rfl,rfl⟩|⟨rfl,rfl⟩|⟨rfl,rfl⟩<;>decide
def Fw{c}(h:Do c){l:Int}(a:1<=l)(h1:l<=Ξ c.L):1<=Fb c l/\Fb c l<=20:=by
 have:=mt h a (Zbh l) h1;generalize Fb c l=x at *;simp[Zdd,Zdc,or_false,Prod.mk.injEq]at this;omega
def T9(n:Int){w:Int}(a:1<=w):(Int.tmod n w=n%w/\0<=Int.tmod n w)\/(Int.tmod n w=n%w-w/\Int.tmod n w<0):=by
 have h1:=Zdb n (by omega:w≠0);have h2:=Zcv n (by omega:0<w);grind
def TO{n w}(a:1<=w)(b:w<=1000000)(c:-100000000<=n)(h1:n<=100000000):G1 n w=θ (n-n%w):=by
 have d:=Zdb n (by omega:w≠0);have f:=Zcv n (by omega:0<w);unfold G1;rw[AK];rcases T9 n a with⟨e,h⟩|⟨e,h⟩;rw[Bl,e,wr];rw[AK h,e,wr (n:=n%w-w+w) z0 z0,wr];grind
def nE{n w}(a:1<=w)(b:w<=1000000)(c:-100000000<=n)(h1:n<=100000000):∃q,Gx n w=θ q/\q*w=n-n%w:=by
 have d:=Zdb n (by omega:w≠0);have f:=Zcv n (by omega:0<w);have g:=Int.mul_tdiv_add_tmod n w
 have i:-100000000<=Int.tdiv n w/\Int.tdiv n w<=100000000:=by
  have:=Int.natAbs_tdiv_le_natAbs n w;omega
 unfold Gx;rw[AK,AK];rcases T9 n a with⟨e,h⟩|⟨e,h⟩;rw[Bl,wr];exact⟨_,rfl,by rw[Int.mul_comm];omega⟩;rw[AK h,wr (n:=Int.tdiv n w) z0 z0,wr];grind
def mv c l v:=if l=0 then 0 else if v=B0 then B0 else v-v%Fb c l
def MV(c:Ax)v:=(c.C<=v/\v<=c.E)\/(c.An=ν/\v=B0)
def iE.meas{c}(h:Do c){v}(b:iE s c v):MV c v:=by
 rcases b with⟨a,_⟩|⟨a,_⟩|⟨_,b⟩;rw[h.kind]at a;cases a;rw[h.kind]at a;cases a;exact b
def I8{c}(h:Do c){l v:Int}(a:1<=l)(h1:l<=Ξ c.L)(f:c.C<=v/\v<=c.E):mv c l v=v-v%Fb c l/\0<=v%Fb c l/\v%Fb c l<Fb c l/\mv c l v≠B0/\-4<=v/\v<=46:=by
 have g:=Fw h a h1;have⟨i,j⟩:=h.low;have⟨k,m⟩:=h.high;have b:=Zdb v (by omega:Fb c l≠0);have d:=Zcv v (by omega:0<Fb c l)
 have e:mv c l v=v-v%Fb c l:=by
  unfold mv;rw[Zah z0,Zah (by unfold B0;omega)]
 exact⟨e,b,d,by rw[e];unfold B0;omega,z0,z0⟩
def cm(g:DS s){i}(j:1<=i)b(h:Do s.A[i]){l v}(c:0<=l)(d:l<=fin s i)(e:MV s.A[i] v):Bt s i l v=θ (mv s.A[i] l v):=by
 have⟨t,u⟩:=h.low;have⟨w,x⟩:=h.high;have y:fin s i=Ξ s.A[i].L:=by rw[E8 b,Cs h]
 apply Ok.val;unfold Bt;apply qr (g.rfinest j b);rw[JC,Zad,Zak ⟨c,d⟩];refine Ok.no rfl (JT b (Ok.no (by rw[h.kind];rfl) ?_));rcases e with e|⟨_,rfl⟩;have k:(v != -1099511627776)=ν:=by grind
 have m:(v==-1099511627776)=ξ:=by grind
 apply Vc k;rw[JC,Zad,dt];refine Ok.no rfl (Ok.br (λa=>?_) λa=>Ok.no m ?_);have a:l=0:=by grind
 subst a;exact KK rfl;have a:l≠0:=by grind
 have o:=I8 h (l:=l) (v:=v) z0 z0 e;have p:=Fw h (l:=l) z0 z0;have⟨q,r,f⟩:=nE (n:=v) p.1 z0 z0 z0;refine qr (lY h z0 z0) (qr r (KK ?_));rw[f,o.1,wr];refine Ok.no rfl (Ok.br (λa=>?_) λa=>Vc rfl ?_);have a:l=0:=by grind
 subst a;exact KK rfl;have a:l≠0:=by grind
 exact KK (by unfold mv;rw[Zah a,Zai rfl])
def Vr c l v:=if l=0 then c.C else max c.C (v-v%Fb c l)
def jq c l v:=if l=0 then c.E else min c.E (v-v%Fb c l+Fb c l-1)
def xE{c}(h:Do c){l v:Int}(m:0<=l)(h1:l<=Ξ c.L)(f:c.C<=v/\v<=c.E):IU c l (mv c l v)=θ (Vr c l v,jq c l v,ν):=by
 have⟨o,p⟩:=h.low;have⟨q,r⟩:=h.high;unfold IU Vr jq;by_cases a:l=0;subst a;rfl;have b:=I8 h (l:=l) (v:=v) z0 h1 f;have g:=Fw h (l:=l) z0 h1
 have d:(mv c l v)%Fb c l=0:=by
  rw[b.1];have:=Int.emod_add_mul_ediv v (Fb c l);have e:v-v%Fb c l=Fb c l*(v/Fb c l):=z0;rw[e];exact Int.mul_emod_right _ _
 have i:(l==0)=ξ:=by grind
 rw[i,b.1,Zah a,Zah a];rw[b.1]at d;rw[Zaq];rw[df,df];simp only[Zaq];rw[lT h z0 h1,Zad,TO g.1 z0 z0 z0,d,Zad,wr (n:=v-v%Fb c l+Fb c l) z0 z0,wr,Int.sub_zero,Zbd];rw[Zav];have j:(if c.C>v-v%Fb c l then c.C else v-v%Fb c l)=max c.C (v-v%Fb c l):=by grind
 have k:(if c.E<v-v%Fb c l+Fb c l-1 then c.E else v-v%Fb c l+Fb c l-1)=min c.E (v-v%Fb c l+Fb c l-1):=by grind
 rw[j,k,dt]
def ql{c}(h:Do c){l v:Int}(p:0<=l)(h1:l<=Ξ c.L)(f:c.C<=v/\v<=c.E):Gw c l (mv c l v)=θ (Vr c l v,jq c l v,ν):=by
 have⟨q,r⟩:=h.low;have⟨t,u⟩:=h.high;unfold Gw Vr jq;by_cases a:l=0;subst a;rfl;have b:=I8 h (l:=l) (v:=v) z0 h1 f;have g:=Fw h (l:=l) z0 h1
 have d:(mv c l v)%Fb c l=0:=by
  rw[b.1];have:=Int.emod_add_mul_ediv v (Fb c l);have e:v-v%Fb c l=Fb c l*(v/Fb c l):=z0;rw[e];exact Int.mul_emod_right _ _
 have i:Int.tmod (mv c l v) (Fb c l)=0:=by
  rcases T9 (mv c l v) g.1 with⟨e,_⟩|⟨e,h2⟩;rw[e,d];rw[Int.tmod_eq_emod]at h2;have hd:=Zfh d;grind
 have j:(l==0)=ξ:=by grind
 have k:(mv c l v==-1099511627776)=ξ:=by grind
 rw[j,Zah a,Zah a];rw[Zaq];rw[lY h z0 h1,Zad,k];rw[Zaq];rw[JC,Zad,Zak (by grind),i];rw[Zfy,Zaq];rw[AK];show(bif 0 != 0 then _ else KO (mv c l v) c (Fb c l))=_;unfold KO;rw[b.1,wr (n:=v-v%Fb c l+Fb c l) z0 z0,wr];have m:(if v-v%Fb c l>c.C then v-v%Fb c l else c.C)=max c.C (v-v%Fb c l):=by grind
 have o:(if v-v%Fb c l+Fb c l-1<c.E then v-v%Fb c l+Fb c l-1 else c.E)=min c.E (v-v%Fb c l+Fb c l-1):=by grind
 rw[m,o,dt];rfl
def KG:B0=-1099511627776:=rfl
def zz{i:Nat}d(h:Do s.A[i]){l v:Int}(f:0<=l)(h1:l<=Ξ s.A[i].L)(a:MV s.A[i] v):∃u,Bi s i l (mv s.A[i] l v)=θ (u,ν):=by
 refine Exists.elim (?_:Ok (Bi s i l (mv s.A[i] l v)) λr=>r.2=ν) λr hr=>⟨r.1,by rw[hr.1,<-hr.2]⟩;unfold Bi;refine JT d (Vc (by rw[h.kind];rfl) (Ok.br (λb=>KK ?_) λb=>?_));by_cases g:0<l;rw[dt]at b;have b:mv s.A[i] l v=B0:=by rw[KG];simpa using b
 rcases a with a|a;exact absurd b (I8 h z0 h1 a).2.2.2.1;exact a.1;rw[df]at b;cases b
 have c:(s.A[i].C<=v/\v<=s.A[i].E)\/(l=0):=by
  rcases a with a|⟨_,rfl⟩;exact .inl a;right;by_cases g:0<l;rw[dt]at b;have e:mv s.A[i] l B0=B0:=by unfold mv;rw[Zah z0,Zai rfl]
  rw[e]at b
  cases b
  omega
 rcases c with a|rfl;exact qr (xE h f h1 a) (KK rfl);exact qr (x:=(s.A[i].C,s.A[i].E,ν)) rfl (KK rfl)
def xK(g:DS s){i}(c:1<=i)d(h:Do s.A[i]){l v:Int}(j:0<=l)(h1:l<=Ξ s.A[i].L)(a:MV s.A[i] v):D5 s i l (mv s.A[i] l v)=θ ν:=by
 have m:fin s i=Ξ s.A[i].L:=by rw[E8 d,Cs h]
 apply Ok.val;unfold D5;apply qr (g.rfinest c d);rw[JC,Zad,dt];refine Ok.no rfl (JT d (Ok.no (by rw[h.kind];rfl) (Ok.br (λb=>KK ?_) λb=>?_)));by_cases k:0<l;rw[dt]at b;have b:mv s.A[i] l v=B0:=by rw[KG];simpa using b
 rcases a with a|a;exact absurd b (I8 h z0 h1 a).2.2.2.1;exact a.1;rw[df]at b;cases b
 have f:(s.A[i].C<=v/\v<=s.A[i].E)\/(l=0):=by
  rcases a with a|⟨_,rfl⟩;exact .inl a;right;by_cases k:0<l;rw[dt]at b;have e:mv s.A[i] l B0=B0:=by unfold mv;rw[Zah z0,Zai rfl]
  rw[e]at b
  cases b
  omega
 rcases f with a|rfl;exact qr (ql h j h1 a) (KK rfl);exact qr (x:=(s.A[i].C,s.A[i].E,ν)) rfl (KK rfl)
def kx L l v:=iter (λrec1 s=>T7 (AW L) L l v (λv56_1=>θ (0,ξ)) rec1 s) Ay 0
def cv L l v:=(Oj L v l).getD 0
def mT:(Ym.all λL=>(List.range (KF L).toNat).all λl=>(kx L l 0).isSome&&(AW L).all λv=>Oj L v l==θ (cv L l v)&&J5 L v l==θ (cv L l v)&&0<=cv L l v&&((kx L l (cv L l v)).map (·.2)==θ ν))=ν:=by decide +kernel
def SN{L}(h:L∈Ym){l}(f:0<=l)(h1:l<KF L):(∃r,kx L l 0=θ r)/\∀v∈AW L,Oj L v l=θ (cv L l v)/\J5 L v l=θ (cv L l v)/\0<=cv L l v/\∃u,kx L l (cv L l v)=θ (u,ν):=by
 have:=List.all_eq_true.1 (List.all_eq_true.1 mT L h) l.toNat (List.mem_range.2 z0);rw[Zdh f]at this;simp only[Zax,Zem,Zdk,decide_eq_true_eq,Option.isSome_iff_exists]at this;refine⟨this.1,λv g=>?_⟩;have⟨⟨⟨a,b⟩,c⟩,d⟩:=this.2 v g;have⟨r,hr,e⟩:=Option.map_eq_some_iff.1 d;grind
def CV(s:Aa)c l v:=if c.Kind=2 then cv ((idx s.S c.Al).getD { J:=iR,X:=[] }) l v else mv c l v
def Kl{c}(h:Iy c){L}(a:idx s.S c.Al=θ L)l v:CV s c l v=cv L l v:=by unfold CV;rw[Zai h.kind,a];rfl
def Vn{c}(h:Do c)l v:CV s c l v=mv c l v:=by unfold CV;rw[Zah (by rw[h.kind];decide)]
def iE.code{c}(h:Iy c){L}(e:idx s.S c.Al=θ L){v}(d:iE s c v):v∈AW L:=by
 rcases d with⟨a,_⟩|⟨_,f,_,b,d⟩|⟨a,_⟩;rw[h.kind]at a;cases a;rw[e]at b;cases b;exact d;rw[h.kind]at a;cases a
def lV(d:DS s){i}(f:1<=i)c{l v}(b:0<=l)(e:l<=fin s i)(g:iE s s.A[i] v):Bt s i l v=θ (CV s s.A[i] l v):=by
 rcases d.col f c with h1|h1;have⟨L,h,a⟩:=d.clist h1;have k:fin s i=KF L-1:=by rw[E8 c,Nv h1 a]
 have j:=SN h (l:=l) b z0;rw[Kl h1 a];apply Ok.val;unfold Bt;apply qr (d.rfinest f c);rw[JC,Zad,Zak ⟨b,e⟩];exact Ok.no rfl (JT c (Vc (by rw[h1.kind];rfl) (qr (gh d c g) (Ok.no rfl (qr a (qr (j.2 v (g.code h1 a)).1 (KK rfl)))))));rw[Vn h1];exact cm d f c h1 b e (g.meas h1)
def Yi{i:Nat}c(h:Iy s.A[i]){L}(d:L∈Ym)(b:idx s.S s.A[i].Al=θ L)l v:Bi s i l v=kx L l v:=by
 have a:=QH d;have h2:=a.lev2;have e:=a.lev3;unfold Bi;rw[AY c,Zad,h.kind];show(idx s.S _).bind _=_;rw[b,Zad,a.lev,Zad,wr,a.leaves];rfl
def Aaz(d:DS s){i}(g:1<=i)b{l v}(c:0<=l)(h:l<=fin s i)(e:iE s s.A[i] v):∃u,Bi s i l (CV s s.A[i] l v)=θ (u,ν):=by
 rcases d.col g b with h1|h1;have⟨L,f,a⟩:=d.clist h1;have j:fin s i=KF L-1:=by rw[E8 b,Nv h1 a]
 rw[Kl h1 a,Yi b h1 f a];exact((SN f (l:=l) c z0).2 v (e.code h1 a)).2.2.2;have j:fin s i=Ξ s.A[i].L:=by rw[E8 b,Cs h1]
 rw[Vn h1];exact zz b h1 c z0 (e.meas h1)
def Acn(d:DS s){i}(e:1<=i)(a:i<Ξ s.A):∃r,Bi s i 0 0=θ r:=by
 rcases d.col e a with h1|h1;have⟨L,b,c⟩:=d.clist h1;have:=QH b;rw[Yi a h1 b c];exact(SN b (l:=0) z0 (by have:=this.lev2;omega)).1;refine Exists.elim (?_:Ok (Bi s i 0 0) λ_=>True) λr hr=>⟨r,hr.1⟩;unfold Bi;exact JT a (Vc (by rw[h1.kind];rfl) (Ok.no rfl (qr (x:=(s.A[i].C,s.A[i].E,ν)) rfl (KK trivial))))
def Afn(d:DS s){i}(h:1<=i)b{l v}(c:0<=l)(f:l<=fin s i)(p:iE s s.A[i] v):D5 s i l (CV s s.A[i] l v)=θ ν:=by
 rcases d.col h b with h1|h1;have⟨L,m,a⟩:=d.clist h1;have u:fin s i=KF L-1:=by rw[E8 b,Nv h1 a]
 have w:=p.code h1 a;have x:Ξ (AW L)<=10:=by have:=List.all_eq_true.1 Od L m;simpa using this
 have⟨j,z,n⟩:=List.mem_iff_getElem.1 w;apply Ok.val;unfold D5;apply qr (d.rfinest h b);rw[JC,Zad,Zak ⟨c,f⟩];refine Ok.no rfl (JT b (Vc (by rw[h1.kind];rfl) (qr (jT (AY b) a m) ?_)));refine Wf (λq=>q) (Ξ (AW L)) (λk _=>k<=j) 0 (Zag _) rfl (Zag _) z0 (λrec q r y=>z0) λrec k q t r y ih=>?_;rw[VK,r];rw[AK];have o:iE s s.A[i] (AW L)[k]:=.inr (.inl ⟨h1.kind,L,m,a,Zae t⟩);refine JT t (qr (lV d h b c f o) (Ok.br (λ_=>KK rfl) λg=>ih _ BE ?_));by_cases e:k=j;subst e;rw[n,Zbd]at g;cases g;omega;have u:fin s i=Ξ s.A[i].L:=by rw[E8 b,Cs h1]
 rw[Vn h1];exact xK d h b h1 c z0 (p.meas h1)
def XK s(p:Ab):=∃i:Nat,1<=i/\i<Ξ s.A/\p.B=i/\0<=p.H/\p.H<=fin s i
def XV s(p:Ab)v:=∃(i:Nat)(hi:i<Ξ s.A)(w:Int),1<=i/\p.B=i/\iE s s.A[i] w/\v=CV s s.A[i] p.H w
structure GX(s:Aa)(x:Ad):Prop where
 project:D8 x.Aq=some true/\CQ x.Aq=some true
 version:0<=x.As/\x.As<=300
 picks:∀p∈x.I,XK s p
 order:x.I.Pairwise λa b=>a.B<b.B
 rows:∀r∈x.G,Ξ r=Ξ x.I+1/\0<=hd r/\hd r<=1048575/\∀(k:Nat) p v,x.I[k]?=some p->r[k+1]?=some v->XV s p v
 asc:sQ x.G
 len:Ξ x.G<=200
def GX.picks_len{x}(b:DS s)(h:GX s x):Ξ x.I<=6:=by
 have d:=b.cols_length
 have key:∀(k:Nat)a,k+1<=x.I[k].B:=by
  intro k
  induction k with
  | zero=>intro a;have⟨i,h1,_,h2,_⟩:=h.picks _ (Zae a);grind
  | succ k ih=>
    intro a;have:=ih z0;have h2:=(List.pairwise_iff_getElem.1 h.order) k (k+1) z0 a z0;omega
 rcases Zbk (Ξ x.I) 7 with c|c;omega;have:=key 6 z0;have⟨i,h1,h2,e,_⟩:=h.picks _ (Zae (by omega:6<Ξ x.I));omega
def Ad4{p}(a:DS s)(h:XK s p):G3 s p=θ 0:=by
 have⟨i,b,c,d,e,f⟩:=h;have g:=a.fin_ok b c;apply Ok.val;unfold G3;rw[d];refine qr (a.pfinest b c) (bt (λh=>z0) λ_=>Ok.no ?_ (KK rfl));grind
def Acv{p}(c:DS s)(h:XK s p):FW s p=θ 0:=by
 have⟨i,d,e,f,a,b⟩:=h;exact xZ c d e f a b
def Acl{l}(f:DS s)(h:∀p∈l,XK s p)(ho:l.Pairwise λa b=>a.B<b.B)(g:Ξ l<=1000):HQ s l=θ 0:=by
 apply Ok.val;unfold HQ;refine qr f.check (Ok.no rfl ?_);refine Wf (λq=>q) (Ξ l) (λ_ _=>True) 0 (Zag _) rfl trivial z0 (λrec q c _=>?_) λrec i q d c _ ih=>?_;rw[MW,c];rw[Bl];exact KK rfl;rw[MW,c];rw[AK];refine JT d (qr (Ad4 f (h _ (Zae d))) (Ok.no rfl (bt (λh1=>?_) λ_=>ih _ BE trivial)));have e:i64.wrap (i-1)=(i-1:Nat):=by rw[wr];omega
 rw[e];have:=(List.pairwise_iff_getElem.1 ho) (i-1) i z0 d z0;exact JT (by grind) (bt (λh2=>z0) λ_=>ih _ BE trivial)
def qu{l}(f:DS s)(h:∀p∈l,XK s p)(ho:l.Pairwise λa b=>a.B<b.B)(g:Ξ l<=1000):DC s l=θ 0:=by
 apply Ok.val;unfold DC;refine qr f.rcheck (Ok.no rfl ?_);refine Wf (λq=>q) (Ξ l) (λ_ _=>True) 0 (Zag _) rfl trivial z0 (λrec q d _=>?_) λrec i q c d _ ih=>?_;rw[IC,d];rw[Bl];exact KK rfl;rw[IC,d];rw[AK];refine JT c (qr (Acv f (h _ (Zae c))) (Ok.no rfl (bt (λh1=>JT c ?_) λ_=>ih _ BE trivial)));have e:i64.wrap (i-1)=(i-1:Nat):=by rw[wr];omega
 rw[e];have:=(List.pairwise_iff_getElem.1 ho) (i-1) i z0 c z0;exact JT (by grind) (bt (λh2=>z0) λ_=>ih _ BE trivial)
def GX.atP{x}(j:DS s)(h:GX s x){r}(hr:r∈x.G){k}f(a:k+1<Ξ r):
 ∃u,Bi s x.I[k].B x.I[k].H r[k+1]=θ (u,ν):=by
 have⟨i,l,w,m,g,n,e⟩:=(h.rows r hr).2.2.2 k _ _ (Zaa f) (Zaa a);have⟨o,p,q,b,c,d⟩:=h.picks _ (Zae f);have:o=i:=by grind
 subst this;rw[e,g];exact Aaz j m l c d n
def GX.at{x}(f:DS s)(h:GX s x){r}(hr:r∈x.G){k}g(c:k+1<Ξ r):
 (∃u,Bi s x.I[k].B x.I[k].H r[k+1]=θ (u,ν))/\D5 s x.I[k].B x.I[k].H r[k+1]=θ ν:=by
 have⟨i,j,w,l,m,n,e⟩:=(h.rows r hr).2.2.2 k _ _ (Zaa g) (Zaa c);have⟨o,p,q,d,a,b⟩:=h.picks _ (Zae g);have:o=i:=by grind
 subst this;rw[e,m];exact⟨Aaz f l j a b n,Afn f l j a b n⟩
def GX.ne{x}(h:GX s x){r}(hr:r∈x.G):r≠[]:=by
 intro e;have:=(h.rows r hr).1;grind
def Ad3{x}(c:DS s)(h:GX s x){r}(hr:r∈x.G):L1 s x.I r=θ ν:=by
 have f:=h.picks_len c;have⟨h1,h2,g,_⟩:=h.rows r hr;apply Ok.val;unfold L1;refine Ok.no ?_ (qr (FV (h.ne hr)) (bt (λh=>z0) λ_=>qr (FV (h.ne hr)) (bt (λh=>z0) λ_=>?_)));rw[wr,h1];simp;unfold J9;refine Wf (λq=>q) (Ξ x.I) (λ_ _=>True) 0 (Zag _) rfl trivial z0 (λrec q b _=>?_) λrec i q d b _ ih=>?_;rw[Hh,b];rw[Bl];exact KK rfl;rw[Hh,b];rw[AK];have a:i+1<Ξ r:=z0;have⟨u,e⟩:=h.atP c hr d a;apply JT d;rw[BE];exact JT a (qr e (Ok.no rfl (ih _ rfl trivial)))
def GX.check{x}(b:DS s)(h:GX s x):DK s x=θ 0:=by
 have j:=h.len;have f:=h.picks_len b;have k:=h.version;apply Ok.val;unfold DK;refine qr b.check (Ok.no rfl (qr h.project.2 (Ok.no rfl (Ok.no ?_ (qr (Acl b h.picks h.order z0) (Ok.no rfl (bt (λh=>z0) λ_=>?_)))))));rw[df,df];rfl;refine Wf (λq=>q) (Ξ x.G) (λ_ _=>True) 0 (Zag _) rfl trivial z0 (λrec q d _=>?_) λrec i q c d _ ih=>?_;rw[Lz,d];rw[Bl];exact KK rfl;rw[Lz,d];rw[AK];refine JT c (qr (Ad3 b h (Zae c)) (Ok.no rfl (bt (λh1=>?_) λ_=>ih _ BE trivial)));have e:i64.wrap (i-1)=(i-1:Nat):=by rw[wr];omega
 rw[e];have a:i-1<Ξ x.G:=z0;have g:=(List.pairwise_iff_getElem.1 h.asc) (i-1) i a c z0;exact qr (FV (h.ne (Zae c))) (JT a (qr (FV (h.ne (Zae a))) (bt (λh2=>z0) λ_=>ih _ BE trivial)))
def GX.rcheck{x}(f:DS s)(h:GX s x):FI s x=θ 0:=by
 have p:=h.len;have m:=h.picks_len f;have r:=h.version;apply Ok.val;unfold FI;refine qr f.rcheck (Ok.no rfl (qr h.project.1 (Ok.no rfl (Ok.no ?_ (qr (qu f h.picks h.order z0) (Ok.no rfl (bt (λh=>z0) λ_=>?_)))))));rw[df,df];rfl;refine Wf (λq=>q) (Ξ x.G) (λ_ _=>True) 0 (Zag _) rfl trivial z0 (λrec q g _=>?_) λrec i q j g _ ih=>?_;rw[OD,g];rw[Bl];exact KK rfl;rw[OD,g];rw[AK];have hr:=Zae j;have⟨h1,h2,t,_⟩:=h.rows _ hr;refine JT j (Ok.no ?_ (qr (FV (h.ne hr)) (bt (λh=>z0) λ_=>qr (FV (h.ne hr)) (bt (λh=>z0) λ_=>?_))));rw[wr,h1];simp;unfold KU;refine Wf (λq=>q) (Ξ x.I) (λ_ _=>True) 0 (Zag _) rfl trivial z0 (λc n a _=>?_) λc k n l a _ ih2=>?_;rw[IF,a];rw[Bl];unfold OE;refine bt (λh1=>?_) λ_=>ih _ BE trivial;have e:i64.wrap (i-1)=(i-1:Nat):=by rw[wr];omega
 rw[e];have b:i-1<Ξ x.G:=z0;have o:=(List.pairwise_iff_getElem.1 h.asc) (i-1) i b j z0;exact qr (FV (h.ne hr)) (JT b (qr (FV (h.ne (Zae b))) (bt (λh2=>z0) λ_=>ih _ BE trivial)));rw[IF,a];rw[AK];have d:k+1<Ξ x.G[i]:=z0;refine JT l (JT l ?_);rw[BE];exact JT d (qr (h.at f hr l d).2 (Ok.no rfl (ih2 _ rfl trivial)))
def Aa9(a:DS s){i}(b:1<=i)c{v}(d:iE s s.A[i] v):CV s s.A[i] (fin s i) v=v:=by
 have e:=a.fin_ok b c;have h1:=fA a b c d;have h2:=lV a b c (l:=fin s i) z0 (Zbh _) d;grind
def XOK.gx{x}{n}(e:DS s)(h:XOK s x n)(y:n<=200):GX s x:=by
 have z:=e.cols_length;have l:=Rm (s:=s);have j:=h.len;refine⟨?_,by rw[h.version];omega,?_,?_,?_,h.asc,z0⟩;rw[h.project];exact⟨by decide +kernel,by decide +kernel⟩;intro p d;rw[h.picks]at d;obtain⟨k,f,rfl⟩:=List.mem_iff_getElem.1 d;rw[F0 f];have A:=e.fin_ok (i:=k+1) z0 z0;exact⟨k+1,z0,z0,rfl,by show 0<=fin s (k+1);omega,Zbh _⟩;rw[h.picks,List.pairwise_iff_getElem];intro a b m o q;rw[F0 m,F0 o];show((a+1:Nat):Int)<(b+1:Nat);omega;intro r hr;have⟨h1,h2,t,u⟩:=h.rows r hr;rw[h.picks];refine⟨z0,h2,t,λk p v d w=>?_⟩;obtain⟨f,rfl⟩:=List.getElem?_eq_some_iff.1 d;rw[F0 f];have g:k+1<Ξ s.A:=z0;have c:=u (k+1) _ v z0 (Zaa g) w;exact⟨k+1,g,v,z0,rfl,c,(Aa9 e z0 g c).symm⟩
def DS.pcond_zero(h:DS s)d:Bm (d+1) s R5=θ 4:=by unfold Bm;rw[h.check];rfl
def DS.pneeds_zero(h:DS s)d:CP (d+1) s R5=θ []:=by unfold CP;rw[h.pcond_zero];rfl
def ul{i:Nat}a(h:Do s.A[i]):BJ s i=θ ν:=by
 unfold BJ;rw[dt,dt];show(idx s.A i).bind _=_;rw[AY a,Zad,h.kind];rfl
def nZ{i:Nat}m(h:Do s.A[i]){n}(o:n<Ξ s.A[i].L):G5 s i s.A[i].L[n]=θ ((Ξ s.A[i].L:Int)-n):=by
 have p:=B6 h
 have hd:∀a b (f:a<Ξ s.A[i].L) (g:b<Ξ s.A[i].L),a<b->s.A[i].L[a]≠s.A[i].L[b]:=by
  have r:s.A[i].L.Pairwise (·≠·):=by rcases lI h.widths with e|e|e|e<;>(rw[e];decide)
  intro a b f g d;exact(List.pairwise_iff_getElem.1 r) a b f g d
 apply Ok.val;unfold G5;apply JT m;refine Wf (λq=>q) (Ξ s.A[i].L) (λk _=>k<=n) 0 (Zag _) rfl (Zag _) z0 (λrec q j t=>z0) λrec k q l j t ih=>?_;rw[PX,j];rw[AK];refine JT l (Ok.br (λhe=>KK ?_) λc=>ih _ BE ?_);have he:s.A[i].L[k]=s.A[i].L[n]:=by grind
 have:k=n:=by grind
 rw[this,wr];grind
def eF{l}{p}q(a:∀x∈l,p x=θ (q x))(b:Ξ l<=1000000000):AD l p=θ (l.any q):=by
 unfold AD;rw[show AZ l p=θ (Gb q l)from JY a b,Zad,Pu]
def covers(picks needs:List Ab):=needs.all λn=>picks.any λp=>bif p.B==n.B then (p.H>=n.H)else ξ
def lQ picks a(h1:Ξ picks<=1000000)(h2:Ξ a<=1000000):CU picks a=θ (covers picks a):=by
 unfold CU;rw[eF (λn=>!(picks.any λp=>bif p.B==n.B then υ (p.H>=n.H)else ξ)) (λn _=>?_) z0];rw[Zad,covers,List.any_eq_not_all_not];simp;unfold Iq;have:=eF (l:=picks) (p:=λa0=>Gj a0 n) (λp=>bif p.B==n.B then υ (p.H>=n.H)else ξ) (λ_ _=>rfl) z0;grind
def yR(l:List Int):Ia l 1 (Ξ l)=l.drop 1:=by
 unfold Ia;rw[Zbe];rfl;grind
def GX.vals{x}(b:DS s)(hx:GX s x){r}(hr:r∈x.G)k c(a:k<Ξ (r.drop 1)):
 (∃u,Bi s x.I[k].B x.I[k].H (r.drop 1)[k]=θ (u,ν))/\D5 s x.I[k].B x.I[k].H (r.drop 1)[k]=θ ν:=by
 have e:(r.drop 1)[k]=r[k+1]'(by grind):=by grind
 rw[e];exact hx.at b hr c _
def bF{l}{p}q(a:∀x∈l,p x=θ (q x))(b:Ξ l<=1000000000):AR l p=θ (l.any q):=by
 unfold AR;rw[show DX l p=θ (Gb q l)from JY a b,Zad,Pu]
def xB{n w}(b:1<=w)(a:w<=1000000)(c:-100000000<=n)(h1:n<=100000000):Yd n w=θ (n-n%w):=TO b a c h1
def sc{x}{l:List Nat}(f:Ξ l<=1000)(h:∀j∈l,j<Ξ x.G)(a:∀r∈x.G,r≠[]):Db x (l.map λj:Nat=>(j:Int))=θ (l.map λj=>hd (x.G.getD j [])):=by
 apply Ok.val;unfold Db;refine Wf (λq=>q.1) (Ξ l) (λk q=>q.2=(l.take k).map λj=>hd (x.G.getD j [])) 0 (Zag _) rfl rfl z0 (λrec q b c=>?_) λrec k q d b c ih=>?_;rw[LO,b,c,Zac];rw[Bl,Zaj];exact KK rfl;rw[LO,b,c,Zac];rw[AK];have e:=h _ (Zae d);refine JT (by grind) ?_;rw[Zbu];refine JT e (qr (FV (a _ (Zae e))) (Ok.rm zv (ih _ BE ?_)));show _++[_]=_;rw[Zab d,Zay,Zas,Zbm,Zao,Zaa e];rfl
def sp{x}{l:List Nat}(b:Ξ l<=1000)(h:∀j∈l,j<Ξ x.G)(a:∀r∈x.G,r≠[]):Jt x (l.map λj:Nat=>(j:Int))=θ (l.map λj=>hd (x.G.getD j [])):=sc b h a
def keep(w:Nat->Int)n:=(List.range n).filter λj=>w j != B0
def ints(l:List Nat):=l.map λj:Nat=>(j:Int)
def y4{c}(h:Do c){n:Nat}a:1<=c.L[n]/\c.L[n]<=20:=by
 have:∀v∈c.L,1<=v/\v<=20:=by rcases lI h.widths with e|e|e|e<;>(rw[e];decide)
 exact this _ (Zae a)
def DS.last(h:DS s):∃i:Nat,1<=i/\∃g:i<Ξ s.A,Do s.A[i]:=by
 have⟨j,a,e,h1,h2,d⟩:=h.cols;have k:=Vu j;have b:Ξ s.A=Ξ (QJ j)+Ξ a:=by grind
 refine⟨Ξ (QJ j),z0,z0,?_⟩;have f:=(d 0 z0).1
 grind
def fC(f:DS s):Ok (F1 s 3) λl=>l≠[]/\Ξ l<=6/\∀v∈l,∃i:Nat,v=i/\1<=i/\∃d:i<Ξ s.A,Do s.A[i]:=by
 have t:=f.cols_length;unfold F1
 refine Wf (λq=>q.1) (Ξ s.A) (λk q=>Ξ q.2<=k/\(∀v∈q.2,∃i:Nat,v=i/\1<=i/\∃d:i<Ξ s.A,Do s.A[i])/\∀i d,i<k->Do s.A[i]->(i:Int)∈q.2) 0 (Zag _) rfl
  ⟨Zam _,(λv b=>by cases b),λi _ h=>z0⟩ z0 (λrec q g a=>?_) λrec k q m g a ih=>?_
 rw[Hf,g];rw[Bl];have⟨i,_,d,c⟩:=f.last;exact KK ⟨(λe=>by have:=a.2.2 i d d c;rw[e]at this;cases this),by have:=a.1;omega,a.2.1⟩;rw[Hf,g];rw[AK];have p:=a.1;refine JT m (Ok.br (λe=>Ok.rm zv (ih _ BE ⟨zv,λv b=>?_,λj n o c=>?_⟩)) λe=>ih _ BE ⟨by show Ξ q.2<=k+1;omega,a.2.1,λj n o c=>?_⟩);rcases List.mem_append.1 b with b|b;exact a.2.1 v b;rw[Zbb]at b;have e:s.A[k].Kind=3:=by grind
 rcases f.cl m with⟨_,h1⟩|⟨r,h1|h1⟩;rw[h1]at e;cases e;rw[h1.kind]at e;cases e;exact⟨k,b,r,m,h1⟩;show _∈q.2++[_];rcases Zbk j k with h1|h1;exact Zby _ (a.2.2 j n h1 c);obtain rfl:j=k:=z0;exact Zbp _ (List.mem_singleton.2 rfl);rcases Zbk j k with h1|h1;exact a.2.2 j n h1 c;obtain rfl:j=k:=z0;rw[c.kind]at e
 cases e
def QW{c}(b:Me c)(d:DS s):Ok (BH c s) λr=>Me r.2/\∃i:Nat,r.1=i/\1<=i/\∃g:i<Ξ s.A,Do s.A[i]:=by
 unfold BH;refine Ok.bind (fC d) λl a=>?_;have:Ξ l≠0:=λe=>a.1 (Zau e);have f:=a.2.1;refine Ok.bind (Fe b z0 z0) λy hy=>Ok.idx hy.2.1 z0 (KK ⟨hy.1,a.2.2 _ (Zae _)⟩)
