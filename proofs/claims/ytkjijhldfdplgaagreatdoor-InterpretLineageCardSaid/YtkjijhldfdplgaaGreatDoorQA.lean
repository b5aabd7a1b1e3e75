/- QA -/
import GoSem.Core.Next
import Derived.Test.YtkjijhldfdplgaaGreatDoorM4
open Go.IntKind (i64)
set_option linter.all false
namespace Go.Proofs.YtkjijhldfdplgaaGreatDoor.P
open Go Go.Proofs
def Ok{α:Type}(m:Option α)(Q:α->Prop):Prop:=∃x,m=some x/\Q x
theorem ur{α:Type}{x:α}{Q:α->Prop}(h:Q x):Ok (some x) Q:=⟨x,rfl,h⟩
theorem Ok.mono{α:Type}{m:Option α}{P Q:α->Prop}(h:Ok m P)(k:∀x,P x->Q x):Ok m Q:=by
 obtain⟨x,a,b⟩:=h;exact⟨x,a,k x b⟩
theorem Ok.bind{α β:Type}{m:Option α}{f:α->Option β}{P:α->Prop}{Q:β->Prop}(h:Ok m P)(k:∀x,P x->Ok (f x) Q):Ok (m.bind f) Q:=by
 obtain⟨x,a,b⟩:=h;rw[a];exact k x b
theorem Ok.eq{α:Type}{m:Option α}{x:α}(h:m=Option.some x):Ok m (·=x):=⟨x,h,rfl⟩
theorem Ok.val{α:Type}{m:Option α}{x:α}(h:Ok m (·=x)):m=Option.some x:=by
 obtain⟨y,a,rfl⟩:=h;exact a
theorem qr{α β:Type}{m:Option α}{f:α->Option β}{x:α}{Q:β->Prop}(h:m=Option.some x)(k:Ok (f x) Q):Ok (m.bind f) Q:=by rw[h];exact k
theorem yc{α:Type}{b:Bool}{x:Option α}{Q:α->Prop}(h:b=true)(k:Ok x Q):Ok (bif b then x else none) Q:=by rw[h];exact k
theorem y3{α:Type}{b:Bool}{x y:Option α}{Q:α->Prop}(h:b=false)(k:Ok y Q):Ok (bif b then x else y) Q:=by rw[h];exact k
theorem y6{α:Type}{b:Bool}{x y:Option α}{Q:α->Prop}(h:b=true)(k:Ok x Q):Ok (bif b then x else y) Q:=by rw[h];exact k
theorem yb{α:Type}{p:Prop}[Decidable p]{x:Option α}{Q:α->Prop}(h:p)(k:Ok x Q):Ok (bif decide p then x else none) Q:=by rw[ti h];exact k
theorem y5{α:Type}{b:Bool}{x y:Option α}{Q:α->Prop}(a:b=true->Ok x Q)(c:b=false->Ok y Q):Ok (bif b then x else y) Q:=by
 cases b
 ·exact c rfl
 ·exact a rfl
theorem y8{α:Type}{p:Prop}[Decidable p]{x y:Option α}{Q:α->Prop}(a:p->Ok x Q)(b:¬p->Ok y Q):Ok (bif decide p then x else y) Q:=by
 by_cases h:p
 ·rw[ti h];exact a h
 ·rw[tD h];exact b h
theorem GN{α:Type}{l:List α}{i:Int}(a:0<=i)(h:i.toNat<l.length):idx l i=some l[i.toNat]:=by
 unfold idx;rw[tf a,P3 h]
theorem DG{α:Type}{l:List α}{i:Nat}(h:i<l.length):idx l (i:Int)=some l[i]:=by
 unfold idx;rw[tf (by omega),tu,P3 h]
theorem Ok.idx{α β:Type}{l:List α}{i:Int}{f:α->Option β}{Q:β->Prop}(a:0<=i)(h:i.toNat<l.length)(k:Ok (f l[i.toNat]) Q):Ok ((P.idx l i).bind f) Q:=by
 rw[GN a h];exact k
theorem y4{α β:Type}{l:List α}{i:Nat}{f:α->Option β}{Q:β->Prop}(h:i<l.length)(k:Ok (f l[i]) Q):Ok ((P.idx l (i:Int)).bind f) Q:=by
 rw[DG h];exact k
theorem Ok.iter{σ ρ:Type}{body:(σ->Option ρ)->σ->Option ρ}{Q:ρ->Prop}(I:σ->Prop)(μ:σ->Nat)(h:∀rec s,I s->(∀a,I a->μ a<μ s->Ok (rec a) Q)->Ok (body rec s) Q) :
 ∀n s,I s->μ s<n->Ok (iter body n s) Q
 | 0,_,_,hn=>by omega
 | n+1,s,hs,hn=>h _ s hs λa b c=>Ok.iter I μ h n a b (by omega)
theorem Ok.loop{σ ρ:Type}{body:(σ->Option ρ)->σ->Option ρ}{Q:ρ->Prop}{s:σ}(I:σ->Prop)(μ:σ->Nat)(b:I s)(c:μ s<AC)(h:∀rec s,I s->(∀a,I a->μ a<μ s->Ok (rec a) Q)->Ok (body rec s) Q):Ok (P.iter body AC s) Q:=Ok.iter I μ h AC s b c
theorem y7{σ ρ:Type}{body:(σ->Option ρ)->σ->Option ρ}{Q:ρ->Prop}{s:σ}(b:σ->Int)(len:Nat)(I:Nat->σ->Prop)(k:Nat)(hk:k<=len)(l:b s=k)(m:I k s)(g:len<=1000000000000)
 (c:∀rec s,b s=(len:Int)->I len s->Ok (body rec s) Q)
 (a:∀rec (i:Nat) s,i<len->b s=(i:Int)->I i s->(∀d,b d=((i+1:Nat):Int)->I (i+1) d->Ok (rec d) Q)->Ok (body rec s) Q):Ok (P.iter body AC s) Q:=by
 refine Ok.loop (λs=>∃i:Nat,b s=i/\i<=len/\I i s) (λs=>len-(b s).toNat) ⟨k,l,hk,m⟩ (by unfold AC;omega) λrec s ⟨i,f,o,h⟩ ih=>?_;by_cases e:i<len
 ·refine a rec i s e f h λd j n=>ih d ⟨i+1,j,by omega,n⟩ ?_;rw[j,f];omega
 ·obtain rfl:i=len:=by omega
  exact c rec s f h
theorem df{p:Prop}[Decidable p](h:¬p:=by omega):decide p=false:=tD h
theorem dt{p:Prop}[Decidable p](h:p:=by omega):decide p=true:=ti h
theorem wr{n:Int}(a:-9223372036854775808<=n:=by omega)(b:n<=9223372036854775807:=by omega):i64.wrap n=n:=by
 unfold IntKind.wrap;simp only[IntKind.signed,IntKind.bits]
 first|omega|(simp;omega)
theorem Sd{n m:Nat}(h:n+m<=137438953472):rm n m=true:=ti h
theorem Ok.rm{α:Type}{n m:Nat}{x:Option α}{Q:α->Prop}(h:n+m<=137438953472)(k:Ok x Q):Ok (bif P.rm n m then x else none) Q:=yc (Sd h) k
theorem C4{α:Type}{p:Prop}[Decidable p]{x y:α}(h:p:=by omega):(bif decide p then x else y)=x:=by rw[ti h];rfl
theorem EL{α:Type}{p:Prop}[Decidable p]{x y:α}(h:¬p:=by omega):(bif decide p then x else y)=y:=by rw[tD h];rfl
open Go.Abs
set_option maxRecDepth 100000
def GW(c:Ab):Prop:=(∀x∈c.Ak,0<=x/\x<=255)/\c.Ak.length<=400/\0<=c.Aj/\c.Aj<=c.Ak.length
theorem GW.at{c:Ab}(h:GW c){i:Int}(b:0<=i)(d:i<c.Ak.length):∃x,idx c.Ak i=some x/\0<=x/\x<=255:=by
 have a:i.toNat<c.Ak.length:=by omega
 exact⟨_,GN b a,h.1 _ (ta a)⟩
theorem jp{v n:Int}(a:0<=v)(b:1<=n):0<=Int.tmod v n/\Int.tmod v n<n:=by
 rw[Int.tmod_eq_emod_of_nonneg a];exact⟨vO _ (by omega),vj _ (by omega)⟩
theorem Di{c:Ab}(h:GW c){n:Int}(g:1<=n)(k:n<=100000):Ok (A6 c n) λr=>GW r.2/\0<=r.1/\r.1<n:=by
 obtain⟨hx,a,j,l⟩:=h;have b:GW c:=⟨hx,a,j,l⟩;unfold A6;refine y8 (λh=>by omega) λ_=>y8 (λh=>ur ⟨b,by show(0:Int)<=0/\(0:Int)<n;omega⟩) λm=>?_;have o:i64.wrap (c.Aj+1)=c.Aj+1:=wr;have p:i64.wrap (c.Aj+1-1)=c.Aj:=by rw[wr];omega
 obtain⟨x,d,e,q⟩:=b.at j (by omega);unfold JF;rw[o,p];refine qr d ?_;have s:i64.wrap x=x:=wr
 have one:Ok (some (Int.tmod x n,({ Ak:=c.Ak,Aj:=c.Aj+1 }:Ab))) λr=>GW r.2/\0<=r.1/\r.1<n :=
  ur ⟨⟨hx,a,by show 0<=c.Aj+1;omega,by show c.Aj+1<=(c.Ak.length:Int);omega⟩,jp e g⟩
 rw[s];refine y8 (λ_=>y8 (λt=>?_) λ_=>yb (by omega) one) λ_=>yb (by omega) one;obtain⟨y,f,u,v⟩:=b.at (i:=c.Aj+1) (by omega) t;refine qr f (yb (by omega) (ur ⟨⟨hx,a,?_,?_⟩,?_⟩))
 ·show 0<=i64.wrap (c.Aj+1+1);rw[wr];omega
 ·show i64.wrap (c.Aj+1+1)<=(c.Ak.length:Int);rw[wr];omega
 ·have:i64.wrap (i64.wrap (x*256)+i64.wrap y)=x*256+y:=by
   rw[wr (n:=x*256) (by omega) (by omega),wr (n:=y) (by omega) (by omega),wr]
  show 0<=Int.tmod _ n/\Int.tmod _ n<n;rw[this];exact jp (by omega) g
theorem NT{c:Ab}(h:GW c){n:Int}(b:1<=n)(a:n<=100000):Ok (B9 c n) λr=>GW r.2 :=
 Ok.bind (Di h b a) λ_ hx=>ur hx.1
theorem Gq{c:Ab}(h:GW c){a b:Int}(d:a<=b)(f:-100000000<=a)(g:b<=100000000)(hd:b-a<100000):Ok (AK c a b) λr=>GW r.2/\a<=r.1/\r.1<=b:=by
 unfold AK;have e:i64.wrap (i64.wrap (b-a)+1)=b-a+1:=by rw[wr (n:=b-a) (by omega) (by omega),wr]
 rw[e];refine Ok.bind (Di h (by omega) (by omega)) λx hx=>ur ⟨hx.1,?_⟩;show a<=i64.wrap (a+x.1)/\i64.wrap (a+x.1)<=b;rw[wr];omega
theorem ac{c:Ab}(h:GW c):Ok (EB c) λr=>GW r.2/\0<=r.1/\r.1<1152921504606846976:=by
 unfold EB;refine Ok.bind (Di h (by omega) (by omega)) λx hx=>Ok.bind (Di hx.1 (by omega) (by omega)) λy hy=>Ok.bind (Di hy.1 (by omega) (by omega)) λz a=>ur ⟨a.1,?_⟩;show 0<=i64.wrap (i64.wrap (x.1*y.1)+z.1)/\i64.wrap (i64.wrap (x.1*y.1)+z.1)<1152921504606846976;have b:0<=x.1*y.1:=Int.mul_nonneg hx.2.1 hy.2.1;have d:x.1*y.1<=60000*60000:=Int.mul_le_mul (by omega) (by omega) hy.2.1 (by omega);rw[wr (n:=x.1*y.1) (by omega) (by omega),wr];omega
theorem qR(l:List Int)(h:∀x∈l,0<=x/\x<=255)(a:l.length<=9223372036854775807):Ok (Rm l) GW:=by
 unfold Rm;refine yb ?_ (ur ⟨λx hx=>?_,?_,?_,?_⟩)
 ·grind
 ·exact h x (uu (uf hx))
 ·show(NB l 0 _).length<=400;unfold NB;grind
 all_goals grind
def oz(n:Nat):ByteArray:=⟨#[UInt8.ofNat (48+n)]⟩
theorem Yn(n:Nat)(h:n<10):Dl (n:Int)=some (oz n):=by
 unfold Dl oz;rw[C4,tu];unfold Go.Lib.decDigits;grind
def kc(i:Nat):Ev:={ J:=({ data:=#[107] }:ByteArray)++oz i,A7:=0 }
def lc(n:Nat)(p:Int):Ev:={ J:=({ data:=#[108] }:ByteArray)++oz n,A7:=p }
def top:Ev:={ J:=({ data:=#[116,111,112] }:ByteArray),A7:=-1 }
def fH:List Ev->List Int->List Ev
 | b,[]=>b
 | b,p :: r=>fH (b++[lc b.length p]) r
def base(kids:Nat):List Ev:=top :: (List.range kids).map kc
def OD(kids:Nat)(ps:List Int):List Ev:=fH (base kids) ps
def Zb:Nat->List (List Int)
 | 0=>[[]]
 | n+1=>(Zb n).flatMap λl=>[l++[(n:Int)+1],l++[(n:Int)+1,(n:Int)+1]]
def Pj:List (List Ev):=[1,2,3].flatMap λk=>OD k [] :: (Zb k).map (OD k)
theorem Wm:∀(b:List Ev)(p q:List Int),fH b (p++q)=fH (fH b p) q
 | _,[],_=>rfl
 | b,_ :: r,q=>Wm _ r q
theorem Wn:∀(b:List Ev)(p:List Int),(fH b p).length=b.length+p.length
 | _,[]=>rfl
 | b,x :: r=>by rw[fH,Wn];simp;omega
theorem Wp:∀n,∀l∈Zb n,n<=l.length/\l.length<=2*n
 | 0,l,h=>by simp[Zb]at h;subst h;simp
 | n+1,l,h=>by
   simp only[Zb,uK]at h;obtain⟨q,hq,h⟩:=h;have:=Wp n q hq;grind
theorem j8{n:Nat}{q:List Int}(hq:q∈Zb n)(k:Nat)(a:1<=k)(b:k<=2):q++List.replicate k ((n:Int)+1)∈Zb (n+1):=by
 simp only[Zb,uK];refine⟨q,hq,?_⟩;rcases(by omega:k=1\/k=2)with rfl|rfl
 all_goals grind
theorem iT{c:Ab}(h:GW c)(d:ByteArray):Ok (FN c d) λr=>GW r.2/\∃l∈Pj,r.1={ J:=d,U:=l }:=by
 unfold FN;refine Ok.bind (Gq h (by omega) (by omega) (by omega) (by omega)) λx hx=>?_;obtain⟨a,hk⟩:∃k:Nat,x.1=k:=⟨x.1.toNat,by omega⟩;obtain⟨B,g,n⟩:=hx;rw[hk]at g n;have o:a∈[1,2,3]:=by grind
 refine y7 (λs=>s.1) a (λi s=>s.2=base i) 0 (sZ _) rfl rfl (by omega) (λrec s b e=>?_) λrec i s C b e ih=>?_
 ·simp only[Hk,b,hk,e];rw[EL];unfold JE;refine Ok.bind (NT B (by omega) (by omega)) λy hy=>y5 (λ_=>ur ⟨hy,base a,?_,rfl⟩) λ_=>?_
  ·simp only[Pj,uK];exact⟨a,o,uH ..⟩
  refine y7 (λs=>s.1) a (λi s=>GW s.2.1/\∃p∈Zb i,s.2.2=OD a p) 0 (sZ _) rfl ⟨hy,[],by simp[Zb],rfl⟩ (by omega) (λrec s b e=>?_) λrec i s C b e ih=>?_
  ·obtain⟨q,p,t,u⟩:=e;simp only[Hl,b,hk];rw[EL];refine ur ⟨q,OD a p,?_,by rw[u]⟩;simp only[Pj,uK];grind
  ·obtain⟨q,p,t,u⟩:=e;simp only[Hl,b,hk];rw[C4];refine Ok.bind (Gq q (by omega) (by omega) (by omega) (by omega)) λz D=>?_;have E:=Wp i p t;obtain⟨m,F⟩:∃k:Nat,z.1=k:=⟨z.1.toNat,by omega⟩;refine Ok.loop (λs=>∃j:Nat,j<=m/\s.1=(m:Int)-j/\s.2=OD a (p++List.replicate j ((i:Int)+1))) (λs=>s.1.toNat) ⟨0,by omega,by simp[F],by simp[u]⟩ (by unfold AC;show z.1.toNat<_;omega) λrec s b ih2=>?_;obtain⟨j,I,K,v⟩:=b
   have G:s.2.length=1+a+p.length+j:=by
    rw[v,OD,Wn];simp[base];omega
   simp only[JD];refine y8 (λw=>?_) λA=>?_
   ·have f:=Yn s.2.length (by omega);refine qr f (yb (by simp[oz,ByteArray.size]) (Ok.rm (by grind) (ih2 _ ⟨j+1,by omega,?_,?_⟩ ?_)))
    ·show i64.wrap (s.1-1)=_;rw[wr];omega
    ·have H:i64.wrap (1+(i:Int))=(i:Int)+1:=by rw[wr];omega
     show s.2++[({ J:=({ data:=#[108] }:ByteArray)++oz s.2.length,A7:=i64.wrap (1+(i:Int)) }:Ev)]=_;rw[H,List.replicate_succ',<-uZ,OD,Wm,<-OD,<-v];rfl
    ·show(i64.wrap (s.1-1)).toNat<s.1.toNat;rw[wr];omega
   ·obtain rfl:j=m:=by omega
    refine ih _ ?_ ⟨D.1,p++List.replicate j ((i:Int)+1),j8 t j (by omega) (by omega),v⟩;show i64.wrap ((i:Int)+1)=_;rw[wr];omega
 ·simp only[Hk,b,hk];rw[C4];have L:s.2.length=1+i:=by rw[e];simp[base];omega
  refine qr (Yn i (by omega)) (yb (by simp[oz,ByteArray.size]) (Ok.rm (by grind) (ih _ ?_ ?_)))
  ·show i64.wrap ((i:Int)+1)=_;rw[wr];omega
  ·show s.2++[_]=_;rw[e];simp[base,List.range_succ,kc]
def Qa:List (List Int):=[[1],[1,5],[1,5,20],[1,2,4,12]]
structure ER(c:Au):Prop where
 kind:c.Kind=3
 list:c.Am=0
 low:-4<=c.D/\c.D<=2
 high:c.D<=c.E/\c.E<=c.D+44
 widths:c.S∈Qa
theorem gH{c:Ab}(h:GW c)(a:ByteArray):Ok (Ep c a) λr=>GW r.2/\ER r.1/\r.1.J=a:=by
 unfold Ep;refine Ok.bind (Gq h (by omega) (by omega) (by omega) (by omega)) λx hx=>Ok.bind (Di hx.1 (by omega) (by omega)) λy hy=>?_;have b:y.1.toNat<Qa.length:=by simp[Qa];omega
 refine Ok.idx hy.2.1 b (Ok.bind (NT hy.1 (by omega) (by omega)) λz d=>Ok.bind (Di d (by omega) (by omega)) λu e=>ur ⟨e.1,⟨rfl,rfl,hx.2,?_,ta b⟩,rfl⟩);show x.1<=i64.wrap (x.1+u.1)/\i64.wrap (x.1+u.1)<=x.1+44;rw[wr];omega
def ri:Au:={ J:=({ data:=#[119,104,111] }:ByteArray),Kind:=1,Am:=0,D:=0,E:=0,S:=[],A2:=false }
def sH:Au:={ J:=({ data:=#[115,101,120] }:ByteArray),Kind:=2,Am:=0,D:=0,E:=0,S:=[],A2:=false }
def s4:Au:={ J:=({ data:=#[106,111,98] }:ByteArray),Kind:=2,Am:=1,D:=0,E:=0,S:=[],A2:=false }
def G5(j:Bool):List Au:=[ri,sH]++(if j then[s4]else[])
def mR(i:Nat):ByteArray:=({ data:=#[109] }:ByteArray)++oz i
def bL:ByteArray:={ data:=#[111,110,101] }
def hZ:ByteArray:={ data:=#[116,119,111] }
def Ms(k:Nat)(ms:List Au):Prop:=∀i (h:i<ms.length),ER ms[i]/\ms[i].J=mR (k+i)
structure DS(s:Aa):Prop where
 lists:∃a∈Pj,∃b∈Pj,s.K=[{ J:=bL,U:=a },{ J:=hZ,U:=b }]
 cols:∃j ms,s.A=G5 j++ms/\1<=ms.length/\ms.length<=3/\Ms (G5 j).length ms
theorem Ms.snoc{k:Nat}{a:List Au}(h:Ms k a){c:Au}(b:ER c)(d:c.J=mR (k+a.length)):Ms k (a++[c]):=by
 intro i f;by_cases e:i<a.length
 ·rw[List.getElem_append_left e];exact h i e
 ·grind
theorem MI(j:Bool):2<=(G5 j).length/\(G5 j).length<=3:=by cases j<;>simp[G5]
theorem WY{body:((Int×Ab×List Au)->Option (Aa×Ab))->(Int×Ab×List Au)->Option (Aa×Ab)}{L:List Aq}(p:∃a∈Pj,∃b∈Pj,L=[{ J:=bL,U:=a },{ J:=hZ,U:=b }])
 (q:body=λrec s=>Gh (λk f d=>some (({ K:=L,A:=d }:Aa),f)) rec s.1 s.2.1 s.2.2) (j:Bool) {n:Int} (z:1<=n) (B:n<=3) {c:Ab} (t:GW c) :
 Ok (iter body AC (n,c,G5 j)) λr=>GW r.2/\DS r.1:=by
 subst q;have u:=MI j;refine Ok.loop (λs=>0<=s.1/\GW s.2.1/\∃e,s.2.2=G5 j++e/\(e.length:Int)=n-s.1/\Ms (G5 j).length e) (λs=>s.1.toNat) ⟨by show 0<=n;omega,t,[],by simp,by simp,λi v=>by simp at v⟩ (by unfold AC;show n.toNat<_;omega) λrec s w ih=>?_;obtain⟨C,g,e,h,D,l⟩:=w;simp only[Gh];refine y8 (λm=>?_) λo=>?_
 ·have y:s.2.2.length=(G5 j).length+e.length:=by rw[h];simp
  refine qr (Yn _ (by omega)) (yb (by simp[oz,ByteArray.size]) (Ok.bind (gH g _) λx hx=>Ok.rm (by grind) (ih _ ⟨?_,hx.1,e++[x.1],by rw[h];simp,?_,l.snoc hx.2.1 ?_⟩ ?_)))
  ·show 0<=i64.wrap (s.1-1);rw[wr];omega
  ·show _=n-i64.wrap (s.1-1);rw[wr];simp;omega
  ·rw[hx.2.2,y];rfl
  ·show(i64.wrap (s.1-1)).toNat<s.1.toNat;rw[wr];omega
 ·exact ur ⟨g,⟨p,j,e,h,by omega,by omega,l⟩⟩
theorem kJ{c:Ab}(h:GW c):Ok (Gg c) λr=>GW r.2/\DS r.1:=by
 unfold Gg;refine Ok.bind (iT h _) λx hx=>Ok.bind (iT hx.1 _) λy hy=>Ok.bind (NT hy.1 (by omega) (by omega)) λz e=>?_;obtain⟨_,a,g,i⟩:=hx;obtain⟨_,b,j,k⟩:=hy;have f:∃a∈Pj,∃b∈Pj,[x.1,y.1]=[{ J:=bL,U:=a },{ J:=hZ,U:=b }]:=⟨a,g,b,j,by rw[i,k];rfl⟩;refine y5 (λ_=>Ok.rm (by simp) (Ok.bind (Gq e (by omega) (by omega) (by omega) (by omega)) λu d=>?_)) λ_=>Ok.bind (Gq e (by omega) (by omega) (by omega) (by omega)) λu d=>?_
 ·exact WY f rfl true d.2.1 d.2.2 d.1
 ·exact WY f rfl false d.2.1 d.2.2 d.1
def YZ:List Aq:=[bL,hZ].flatMap λn=>Pj.map λl=>{ J:=n,U:=l }
variable {s:Aa}
theorem DS.list(h:DS s){i:Nat}(c:i<s.K.length):s.K[i]∈YZ:=by
 obtain⟨a,d,b,f,e⟩:=h.lists
 have g:∀(k:Nat)(hk:k<2),([{ J:=bL,U:=a },{ J:=hZ,U:=b }]:List Aq)[k]'hk∈YZ:=by
  intro k hk;simp only[YZ,uK];grind
 grind
theorem DS.lists2(h:DS s):s.K.length=2:=by
 obtain⟨a,c,b,d,e⟩:=h.lists;rw[e];rfl
def H5(l:Aq):Int:=(Gs l).getD 0
def Cr(l:Aq):List Int:=(PH l (H5 l-1)).getD []
theorem ez:(YZ.all λl=>Gr l==some 0&&GY l==some 0&&(Gs l==some (H5 l))&&(EW l==some (H5 l))&&decide (2<=H5 l)&&decide (H5 l<=3) &&
 PH l (H5 l-1)==some (Cr l)&&Iz l (H5 l-1)==some (Cr l)&&!(Cr l).isEmpty&&(Cr l).all λx=>decide (0<=x)&&decide (x<l.U.length)&&ID l x==some (H5 l-1)&&I0 l x (H5 l-1)==some x&&Ky l x (H5 l-1)==some x)=true:=by decide +kernel
structure CL(l:Aq):Prop where
 rcheck:Gr l=some 0
 check:GY l=some 0
 rlev:Gs l=some (H5 l)
 lev:EW l=some (H5 l)
 lev2:2<=H5 l
 lev3:H5 l<=3
 rleaves:PH l (H5 l-1)=some (Cr l)
 leaves:Iz l (H5 l-1)=some (Cr l)
 some_:Cr l≠[]
 leaf:∀x∈Cr l,0<=x/\x<l.U.length/\ID l x=some (H5 l-1)/\I0 l x (H5 l-1)=some x/\Ky l x (H5 l-1)=some x
theorem N1{l:Aq}(h:l∈YZ):CL l:=by
 have:=List.all_eq_true.1 ez l h;simp only[uh,beq_iff_eq,decide_eq_true_eq,vg,wz,List.isEmpty_eq_false_iff]at this;obtain⟨⟨⟨⟨⟨⟨⟨⟨⟨g,i⟩,j⟩,k⟩,m⟩,n⟩,o⟩,p⟩,q⟩,f⟩:=this;exact⟨g,i,j,k,m,n,o,p,q,λx hx=>by have:=f x hx;obtain⟨⟨⟨⟨a,b⟩,c⟩,d⟩,e⟩:=this;exact⟨a,b,c,d,e⟩⟩
def Qs(j:Bool)(n:Nat):List ByteArray:=(G5 j).map (·.J)++(List.range n).map λi=>mR ((G5 j).length+i)
theorem WQ:([true,false].all λj=>[1,2,3].all λn=>(Qs j n).all (λx=>C0 x==some true&&Cz x==some true) &&
 (List.range (Qs j n).length).all λi=>(List.range i).all λk=>match (Qs j n)[i]?,(Qs j n)[k]? with|some x,some y=>!(x.toList==y.toList)&&!(y.toList==x.toList)|_,_=>false)=true:=by decide +kernel
structure Nt(c:Au):Prop where
 kind:c.Kind=2
 list:c.Am=0\/c.Am=1
 low:c.D=0
 high:c.E=0
 widths:c.S=[]
 opt:c.A2=false
theorem DS.cols_length(h:DS s):3<=s.A.length/\s.A.length<=6:=by
 obtain⟨j,a,e,b,c,d⟩:=h.cols;have:=MI j;grind
theorem DS.col0(h:DS s)(a:0<s.A.length):s.A[0]=ri:=by
 obtain⟨j,b,e,c,d,f⟩:=h.cols;have:s.A[0]?=some ri:=by rw[e];cases j<;>rfl
 grind
theorem DS.col(h:DS s){i:Nat}(k:1<=i)(f:i<s.A.length):Nt s.A[i]\/ER s.A[i]:=by
 obtain⟨j,l,e,m,n,g⟩:=h.cols;have a:s.A[i]?=some s.A[i]:=P3 f;generalize o:s.A[i]=c at a ⊢;rw[e]at a;by_cases b:i<(G5 j).length
 ·rw[tq b]at a;left
  cases j with
  | true =>
    rcases(by simp[G5]at b;omega:i=1\/i=2)with rfl|rfl
    ·cases a;exact⟨rfl,.inl rfl,rfl,rfl,rfl,rfl⟩
    ·cases a;exact⟨rfl,.inr rfl,rfl,rfl,rfl,rfl⟩
  | false =>
    obtain rfl:i=1:=by simp[G5]at b;omega
    cases a;exact⟨rfl,.inl rfl,rfl,rfl,rfl,rfl⟩
 ·right
  rw[tj (by omega)]at a;obtain⟨d,rfl⟩:=List.getElem?_eq_some_iff.1 a;exact(g _ d).1
theorem DS.names(h:DS s):∃j n,n∈[1,2,3]/\s.A.map (·.J)=Qs j n:=by
 obtain⟨j,a,e,d,f,b⟩:=h.cols;refine⟨j,a.length,by simp;omega,?_⟩;rw[e,tA,Qs];congr 1;apply List.ext_getElem (by simp);intro i g c;simp only[List.getElem_map,List.getElem_range];exact(b i (by grind)).2
theorem DS.name(h:DS s){i:Nat}(b:i<s.A.length):C0 s.A[i].J=some true/\Cz s.A[i].J=some true:=by
 obtain⟨j,n,a,e⟩:=h.names;have c:=List.all_eq_true.1 (List.all_eq_true.1 WQ j (by grind)) n a;grind
theorem DS.name_ne(h:DS s){i k:Nat}(c:i<s.A.length)(hk:k<i):(s.A[k].J.toList==s.A[i].J.toList)=false/\(s.A[i].J.toList==s.A[k].J.toList)=false:=by
 obtain⟨j,n,b,e⟩:=h.names;have a:=List.all_eq_true.1 (List.all_eq_true.1 WQ j (by grind)) n b;simp only[uh,vg]at a;have d:s.A.length=(Qs j n).length:=by grind
 have:=a.2 i (List.mem_range.2 (by omega)) k (List.mem_range.2 hk);grind
def G6{α:Type}(q:α->Bool)(l:List α):Int:=match l.findIdx? q with|some i=>(i:Int)|none=>-1
theorem IS{α:Type}{l:List α}{p:α->Option Bool}{q:α->Bool}(hp:∀x∈l,p x=some (q x))(j:l.length<=1000000000) :
 iter (λa v=>bif(decide (v<(l.length:Int)))then(idx l v).bind λb=>(p b).bind λc=>bif c then some v else a (i64.wrap (v+1))else some (-1)) AC 0=some (G6 q l):=by
 refine Ok.val (y7 (λs=>s) l.length (λi _=>∀k (hk:k<l.length),k<i->q l[k]=false) 0 (sZ _) rfl (λ_ _ h=>by omega) (by omega) (λrec s d f=>?_) λrec i s e d f ih=>?_)
 ·rw[d,EL];refine ur ?_
  have:l.findIdx? q=none:=by
   rw[List.findIdx?_eq_none_iff];intro x hx;obtain⟨k,hk,rfl⟩:=List.mem_iff_getElem.1 hx;grind
  simp[G6,this]
 ·rw[d,C4];refine y4 e (qr (hp _ (ta e)) (y5 (λh=>ur ?_) λh=>ih _ ?_ λk hk g=>?_))
  ·have:l.findIdx? q=some i:=by
    rw[vu];grind
   simp[G6,this]
  ·show i64.wrap ((i:Int)+1)=_;rw[wr];omega
  ·grind
theorem Ls{α:Type}(q:α->Bool)(l:List α):decide (G6 q l>=0)=l.any q:=by
 unfold G6;grind
theorem jF{l:List Au}{p:Au->Option Bool}(q:Au->Bool)(hp:∀x∈l,p x=some (q x))(a:l.length<=1000000000):Bq l p=some (l.any q):=by
 unfold Bq;rw[show BJ l p=some (G6 q l)from IS hp a,tc,Ls]
theorem cR{l:List Aq}{p:Aq->Option Bool}(q:Aq->Bool)(hp:∀x∈l,p x=some (q x))(a:l.length<=1000000000):Bf l p=some (l.any q):=by
 unfold Bf;rw[show B8 l p=some (G6 q l)from IS hp a,tc,Ls]
