/- QC -/
import Derived.Test.YtaojdkijihbaoaaGreatDoorQB
open Go.IntKind (i64)
set_option linter.all false
namespace Go.Proofs.YtaojdkijihbaoaaGreatDoor.P
open Go Go.Abs Go.Proofs
set_option maxRecDepth 100000
variable {s:Aa}
inductive RC(s:Aa):Nat->Ad->Prop
 | all (n:Nat):RC s n eP
 | under (n:Nat) (i:Nat) (hi0:1<=i) (hi:i<s.A.length) (h:IR s.A[i]) (L:Aj) (hL:L∈Sc) (hL2:idx s.K s.A[i].Ak=some L) (k:Int) (h0:0<=k) (h1:k<L.Q.length):RC s n { Op:=2,B:=i,Z:=k,C:=0,D:=0,H:=[] }
 | between (n:Nat) (i:Nat) (hi0:1<=i) (hi:i<s.A.length) (h:Dl s.A[i]) (l u:Int) (h0:-1000000<=l) (h1:l<=u) (h2:u<=1000000):RC s n { Op:=3,B:=i,Z:=0,C:=l,D:=u,H:=[] }
 | miss (n:Nat) (i:Nat) (hi0:1<=i) (hi:i<s.A.length) (h:Dl s.A[i]) (ho:s.A[i].Al=true):RC s n { Op:=4,B:=i,Z:=0,C:=0,D:=0,H:=[] }
 | and (n na nb:Nat) (hn:na+nb+2<=n) (a b:Ad) (ha:RC s na a) (hb:RC s nb b):RC s n { Op:=5,B:=0,Z:=0,C:=0,D:=0,H:=[a,b] }
 | or (n na nb:Nat) (hn:na+nb+2<=n) (a b:Ad) (ha:RC s na a) (hb:RC s nb b):RC s n { Op:=6,B:=0,Z:=0,C:=0,D:=0,H:=[a,b] }
 | not (n na:Nat) (hn:na+1<=n) (a:Ad) (ha:RC s na a):RC s n { Op:=7,B:=0,Z:=0,C:=0,D:=0,H:=[a] }
theorem RC.mono{n:Nat}{c:Ad}(h:RC s n c){m:Nat}(q:n<=m):RC s m c:=by
 cases h with
 | all n=>exact .all _
 | under n i d e h L o f k g j=>exact .under _ i d e h L o f k g j
 | between n i d e h l u g j p=>exact .between _ i d e h l u g j p
 | miss n i d e h ho=>exact .miss _ i d e h ho
 | and n na nb hn a b ha hb=>exact .and _ na nb (by omega) a b ha hb
 | or n na nb hn a b ha hb=>exact .or _ na nb (by omega) a b ha hb
 | not n na hn a ha=>exact .not _ na (by omega) a ha
def sm(l:List Nat):Nat:=(l.map (·+1)).sum
theorem RC.sizes{n:Nat}{c:Ad}(h:RC s n c):∃ns:List Nat,ns.length=c.H.length/\ns.length<=2/\(∀(k:Nat)(hk:k<ns.length)(d:k<c.H.length),RC s ns[k] c.H[k])/\sm ns<=n:=by
 have none:c.H=[]->∃ns:List Nat,ns.length=c.H.length/\ns.length<=2/\(∀(k:Nat)(hk:k<ns.length)(d:k<c.H.length),RC s ns[k] c.H[k])/\sm ns<=n:=λe=>⟨[],by rw[e];rfl,by simp,(λk hk=>by simp at hk),by simp[sm]⟩
 have m:∀{f g:Nat}{a b:Ad},f+g+2<=n->RC s f a->RC s g b->c.H=[a,b]->∃ns:List Nat,ns.length=c.H.length/\ns.length<=2/\(∀(k:Nat)(hk:k<ns.length)(d:k<c.H.length),RC s ns[k] c.H[k])/\sm ns<=n:=by
  intro f g a b i j l e;refine⟨[f,g],by rw[e];rfl,by simp,λk hk d=>?_,by simp[sm];omega⟩;grind
 cases h with
 | and n f g i a b j l=>grind
 | or n f g i a b j l=>grind
 | not n f i a j =>
   refine⟨[f],rfl,by simp,λk hk d=>?_,by simp[sm];omega⟩;grind
 | _=>exact none rfl
theorem RC.kids{n:Nat}{c:Ad}(h:RC s n c):c.H.length<=2/\∀k∈c.H,∃m,n=m+1/\RC s m k:=by
 cases h with
 | and n na nb hn a b ha hb=>exact⟨by simp,λk hk=>by simp at hk;rcases hk with rfl|rfl<;>exact⟨n-1,by omega,RC.mono (by assumption) (by omega)⟩⟩
 | or n na nb hn a b ha hb=>exact⟨by simp,λk hk=>by simp at hk;rcases hk with rfl|rfl<;>exact⟨n-1,by omega,RC.mono (by assumption) (by omega)⟩⟩
 | not n na hn a ha=>exact⟨by simp,λk hk=>by simp at hk;subst hk;exact⟨n-1,by omega,ha.mono (by omega)⟩⟩
 | _=>exact⟨by simp[eP],λk hk=>by simp[eP]at hk⟩
def DP:Nat->Ad->Prop
 | 0,c=>c.H=[]
 | k+1,c=>∀x∈c.H,DP k x
theorem DP.leaf:∀{k:Nat}{c:Ad},c.H=[]->DP k c
 | 0,_,h=>h
 | k+1,c,h=>λx hx=>by rw[h]at hx;cases hx
theorem DP.mono:∀{k:Nat}{c:Ad},DP k c->∀{m:Nat},k<=m->DP m c
 | 0,_,h,_,_=>.leaf h
 | k+1,c,h,0,hm=>by omega
 | k+1,c,h,m+1,hm=>λx hx=>DP.mono (h x hx) (by omega)
theorem X3(f:DS s):Ok (C0 s 2) λl=>l≠[]/\l.length<=6/\∀v∈l,∃i:Nat,v=i/\1<=i/\∃n:i<s.A.length,IR s.A[i]:=by
 have p:=f.cols_length
 have a:∃n:1<s.A.length,IR s.A[1]:=by
  refine⟨by omega,?_⟩;obtain⟨j,r,e,_⟩:=f.cols;have d:s.A[1]?=some tS:=by rw[e];cases j<;>rfl
  rw[P3 (by omega)]at d;rw[uc d];exact⟨rfl,.inl rfl,rfl,rfl,rfl,rfl⟩
 unfold C0
 refine y8 (λq=>q.1) s.A.length (λk q=>q.2.length<=k/\(∀v∈q.2,∃i:Nat,v=i/\1<=i/\∃n:i<s.A.length,IR s.A[i])/\(1<k->(1:Int)∈q.2)) 0 (ug _) rfl
  ⟨uh _,(λv b=>by cases b),λh=>by omega⟩ (by omega) (λrec q g c=>?_) λrec k q hk g c ih=>?_
 ·simp only[DL,g];rw[CW];exact y3 ⟨(λe=>by have:=c.2.2 (by omega);rw[e]at this;cases this),by have:=c.1;omega,c.2.1⟩
 ·simp only[DL,g];rw[Cg];have o:=c.1;refine y5 hk (y6 (λe=>Ok.rm (by grind) (ih _ C7 ⟨by simp;omega,λv b=>?_,λm=>?_⟩)) λe=>ih _ C7 ⟨by show q.2.length<=k+1;omega,c.2.1,λm=>?_⟩)
  ·rcases List.mem_append.1 b with b|b
   ·grind
   ·rw[vR]at b;have e:s.A[k].Kind=2:=by grind
    rcases f.cl hk with⟨_,a⟩|⟨t,a|a⟩
    ·rw[a]at e;cases e
    ·grind
    ·rw[a.kind]at e;cases e
  ·grind
  ·by_cases d:k=1
   ·subst d;obtain⟨_,a⟩:=a;rw[a.kind]at e
    cases e
   ·grind
theorem lM{c:Ab}(b:IT c)(d:DS s):Ok (GA c s) λr=>IT r.2/\∃i:Nat,r.1=i/\1<=i/\∃g:i<s.A.length,IR s.A[i]:=by
 unfold GA;refine Ok.bind (X3 d) λl a=>?_;have:l.length≠0:=λe=>a.1 (uJ e);have f:=a.2.1;refine Ok.bind (Ey b (by omega) (by omega)) λy hy=>Ok.idx hy.2.1 (by omega) (y3 ⟨hy.1,a.2.2 _ (ud _)⟩)
theorem Xx{c:Ab}(q:IT c)(t:DS s)(n:Nat):Ok ((BQ c s).bind λd =>
        (idx s.A d.1).bind λf =>
        (AN d.2 (-3) 40).bind λe =>
        (AA e.2 30).bind λg =>
        some (({ Op:=3,B:=d.1,Z:=0,C:=(i64.wrap (f.C+e.1)),D:=(i64.wrap ((i64.wrap (f.C+e.1))+g.1)),H:=[] }:Ad),g.2)) λr=>IT r.2/\RC s n r.1/\r.1.H=[]:=by
 refine Ok.bind (QX q t) λz u=>?_;obtain⟨v,x⟩:=z;obtain⟨h,i,j,k,l,m⟩:=u;obtain rfl:v=(i:Int):=j;refine y5 l (Ok.bind (Hx h (by omega) (by omega) (by omega) (by omega)) λa o=>Ok.bind (Ey o.1 (by omega) (by omega)) λb p=>y3 ⟨p.1,?_⟩);obtain⟨y,A⟩:=m.low;obtain⟨_,E,F⟩:=o;obtain⟨_,G,I⟩:=p;have w:i64.wrap (s.A[i].C+a.1)=s.A[i].C+a.1:=wr;rw[w,wr];exact⟨.between n i k l m _ _ (by omega) (by omega) (by omega),rfl⟩
theorem il{c:Ab}(m:IT c)(f:DS s)(n:Nat):Ok (F3 s c) λr=>IT r.2/\RC s n r.1/\r.1.H=[]:=by
 have g:∀{c:Ab},IT c->Ok ((BQ c s).bind λa =>
  (idx s.A a.1).bind λh =>
  bif h.Al then
   some (({ Op:=4,B:=a.1,Z:=0,C:=0,D:=0,H:=[] }:Ad),a.2)
  else
   some (({ Op:=1,B:=0,Z:=0,C:=0,D:=0,H:=[] }:Ad),a.2)) λr=>IT r.2/\RC s n r.1/\r.1.H=[]:=by
  intro c m;refine Ok.bind (QX m f) λz o=>?_;obtain⟨p,w⟩:=z;obtain⟨b,i,d,e,j,l⟩:=o;obtain rfl:p=(i:Int):=d;exact y5 j (y6 (λho=>y3 ⟨b,.miss n i e j l ho,rfl⟩) λ_=>y3 ⟨b,.all n,rfl⟩)
 unfold F3;refine Ok.bind (Ey m (by omega) (by omega)) λy hy=>y6 (λ_=>?_) λ_=>y6 (λ_=>Xx hy.1 f n) λ_=>y6 (λ_=>Xx hy.1 f n) λ_=>y6 (λ_=>g hy.1) λ_=>y3 ⟨hy.1,.all n,rfl⟩;refine Ok.bind (lM hy.1 f) λz o=>?_;obtain⟨p,w⟩:=z;obtain⟨b,i,d,e,j,l⟩:=o;obtain rfl:p=(i:Int):=d;obtain⟨L,t,k⟩:=f.clist l;have x:=(Kd t).some_
 have v:1<=L.Q.length/\L.Q.length<=1000:=by
  have:Sc.all (λL=>decide (1<=L.Q.length)&&decide (L.Q.length<=1000))=true:=by decide +kernel
  grind
 refine y5 j (qr k (Ok.bind (Ey b (by omega) (by omega)) λu q=>y3 ⟨q.1,.under n i e j l L t k _ q.2.1 q.2.2,rfl⟩))
def bw:Nat->Nat
 | 0=>0
 | n+1=>2*bw n+2
theorem io(i:DS s):∀(n d:Nat){c:Ab},IT c->n<d->n<=1000->Ok (CI d c s n) λr=>IT r.2/\RC s (bw n) r.1/\DP n r.1
 | 0,d+1,c,h,_,_=>by
   show Ok (D3 d (CI d) c s 0) _;unfold D3;exact y4 rfl ((il h i 0).mono λr hr=>⟨hr.1,hr.2.1,.leaf hr.2.2⟩)
 | n+1,d+1,c,h,hd,hn=>by
   have ih:=λ{c:Ab}(h:IT c)=>io i n d h (by omega) (by omega);show Ok (D3 d (CI d) c s ((n+1:Nat):Int)) _;have e:i64.wrap (((n+1:Nat):Int)-1)=(n:Int):=by rw[wr];omega
   have g:bw (n+1)=2*bw n+2:=rfl;unfold D3;rw[e];refine y7 dt (Ok.bind (Ey h (by omega) (by omega)) λy hy=>y6 (λ_=>?_) λ_=>y6 (λ_=>?_) λ_=>y6 (λ_=>?_) λ_=>(il hy.1 i _).mono λr hr=>⟨hr.1,hr.2.1,.leaf hr.2.2⟩)
   ·exact Ok.bind (ih hy.1) λa f=>y3 ⟨f.1,.not _ _ (by omega) _ f.2.1,λx hx=>by rw[List.mem_singleton.1 hx];exact f.2.2⟩
   ·exact Ok.bind (ih hy.1) λa f=>Ok.bind (ih f.1) λb g=>y3 ⟨g.1,.and _ _ _ (by omega) _ _ f.2.1 g.2.1,λx hx=>by
     simp only[w9,wQ,or_false]at hx;rcases hx with rfl|rfl
     ·exact f.2.2
     ·exact g.2.2⟩
   ·exact Ok.bind (ih hy.1) λa f=>Ok.bind (ih f.1) λb g=>y3 ⟨g.1,.or _ _ _ (by omega) _ _ f.2.1 g.2.1,λx hx=>by
     simp only[w9,wQ,or_false]at hx;rcases hx with rfl|rfl
     ·exact f.2.2
     ·exact g.2.2⟩
theorem Y3{ns:List Nat}{k:Nat}(hk:k<ns.length):sm (ns.take (k+1))=sm (ns.take k)+(ns[k]+1):=by
 unfold sm;rw[ui hk,uI,List.sum_append];simp
theorem JU(ns:List Nat)(k:Nat):sm (ns.take k)<=sm ns:=by
 have:sm ns=sm (ns.take k)+sm (ns.drop k):=by
  unfold sm;rw[<-List.sum_append,<-uI,List.take_append_drop]
 omega
theorem np:∀(n d:Nat){c:Ad}{m:Int},RC s n c->n<d->n<=1000->-10000<=m->m<=1000->Ok (FJ d c m) λr=>1<=r/\r<=n+1
 | n,d+1,c,m,h,hd,hn,hm0,hm1=>by
   obtain⟨ns,t,i,hk,g⟩:=h.sizes;show Ok (FV d (FJ d) c m) _;unfold FV;refine y8 (λq=>q.2) c.H.length (λk q=>1<=q.1/\q.1<=1+(sm (ns.take k):Nat)) 0 (ug _) rfl ⟨by omega,by simp[sm]⟩ (by omega) (λrec q f e=>?_) λrec k q a f e ih=>?_
   ·have:=JU ns c.H.length;simp only[Hc,f];rw[CW];exact y3 ⟨e.1,by have:=e.2;omega⟩
   ·have b:k<ns.length:=by omega
    have u:=JU ns k;have v:=JU ns (k+1);have j:=Y3 b;obtain⟨l,w⟩:=e;simp only[Hc,f];rw[Cg];refine y5 a (y9 (λ_=>y3 ⟨l,by omega⟩) λo=>?_);have p:i64.wrap (m-q.1)=m-q.1:=wr;rw[p];refine Ok.bind (np ns[k] d (hk k b a) (by omega) (by omega) (by omega) (by omega)) λr hr=>ih _ C7 ?_;show 1<=i64.wrap (q.1+r)/\i64.wrap (q.1+r)<=1+(sm (ns.take (k+1)):Nat);rw[wr,j];omega
theorem DP.zero_kids{c:Ad}(h:DP 0 c):c.H=[]:=h
theorem nt:∀(n d k:Nat){c:Ad},RC s n c->n<d->DP k c->k<=100->Ok (D2 d c) λr=>1<=r/\r<=k+1
 | n,d+1,k0,c,h,hd,hp,hk0=>by
   obtain⟨e,a⟩:=h.kids;show Ok (Fp d (D2 d) c) _;unfold Fp;refine y8 (λq=>q.2) c.H.length (λk q=>0<=q.1/\q.1<=k0) 0 (ug _) rfl ⟨uU _,by show(0:Int)<=k0;omega⟩ (by omega) (λrec q b f=>?_) λrec k q hk b f ih=>?_
   ·simp only[Ib,b];rw[CW,wr];exact y3 ⟨by omega,by omega⟩
   ·obtain⟨m,g,hr⟩:=a _ (ud hk);subst g
    cases k0 with
    | zero=>have:=hp.zero_kids;rw[this]at hk;simp at hk
    | succ j =>
      simp only[Ib,b];rw[Cg];refine y5 hk (Ok.bind (nt m d j hr (by omega) (hp _ (ud hk)) (by omega)) λr hr=>ih _ C7 ?_);grind
theorem bX(f:DS s){n:Nat}{c:Ad}(h:RC s n c):F2 s c=some 0:=by
 have m:=f.cols_length;refine Ok.val ?_;unfold F2;have b:∀(i:Nat),i<s.A.length->(bif decide ((i:Int)<0)then true else decide ((i:Int)>=(s.A.length:Int)))=false:=by grind
 cases h with
 | all=>exact y4 rfl (qr (x:=0) rfl (y4 rfl (qr (x:=true) rfl (y4 rfl (y7 rfl (y3 rfl))))))
 | and=>exact y4 rfl (qr (x:=2) rfl (y4 rfl (qr (x:=true) rfl (y4 rfl (y7 rfl (y3 rfl))))))
 | or=>exact y4 rfl (qr (x:=2) rfl (y4 rfl (qr (x:=true) rfl (y4 rfl (y7 rfl (y3 rfl))))))
 | not=>exact y4 rfl (qr (x:=1) rfl (y4 rfl (qr (x:=true) rfl (y4 rfl (y7 rfl (y3 rfl))))))
 | under n i d a h L o e k g j =>
   refine y4 rfl (qr (x:=0) rfl (y4 rfl (qr (x:=true) rfl (y4 rfl (y4 rfl (y4 (b i a) ?_))))));unfold Ef;exact y5 a (y7 rfl (y4 (by rw[h.kind];rfl) (y4 (uB (by show ¬k<0;omega)) (qr e (y4 (uB (by grind)) (y3 rfl))))))
 | between n i d a h l u g j p =>
   refine y4 rfl (qr (x:=0) rfl (y4 rfl (qr (x:=true) rfl (y4 rfl (y4 rfl (y4 (b i a) ?_))))));unfold Ef;refine y5 a (y4 rfl (y7 rfl (y4 (by rw[h.kind];rfl) (y4 ?_ (y3 rfl)))));grind
 | miss n i d a h ho =>
   refine y4 rfl (qr (x:=0) rfl (y4 rfl (qr (x:=true) rfl (y4 rfl (y4 rfl (y4 (b i a) ?_))))));unfold Ef;exact y5 a (y4 rfl (y4 rfl (y7 rfl (y4 (by rw[h.kind,ho];rfl) (y3 rfl)))))
theorem VY(e:DS s):∀(n d:Nat){c:Ad},RC s n c->n<d->Ej d s c=some 0
 | n,d+1,c,h,hd=>by
   obtain⟨f,a⟩:=h.kids;refine Ok.val ?_;show Ok (E3 d (Ej d) s c) _;unfold E3;refine qr (bX e h) (y4 rfl ?_);refine y8 (λq=>q) c.H.length (λ_ _=>True) 0 (ug _) rfl trivial (by omega) (λrec q b g=>?_) λrec k q hk b g ih=>?_
   ·simp only[FE,b];rw[CW];exact y3 rfl
   ·obtain⟨m,i,hr⟩:=a _ (ud hk);subst i;simp only[FE,b];rw[Cg];exact y5 hk (qr (VY e m d hr (by omega)) (y4 rfl (ih _ C7 trivial)))
theorem RC.check(a:DS s){n:Nat}{c:Ad}(h:RC s n c)(b:n<=39/\DP 9 c){d:Nat}(hd:n<d):B8 d s c=some 0:=by
 refine Ok.val ?_;unfold B8;exact qr a.check (y4 rfl (Ok.bind (np n d h hd (by omega) (by omega) (by omega)) λr hr=>y4 df (Ok.bind (nt n d 9 h hd b.2 (by omega)) λr hr=>y4 df (qr (VY a n d h hd) (y3 rfl)))))
theorem X6:∀(d:Nat)(c:Ad),D2 d c=I1 d c
 | 0,_=>rfl
 | d+1,c=>by
   show Fp d (D2 d) c=LW d (I1 d) c;rw[show D2 d=I1 d from funext (X6 d)];rfl
theorem nE:∀(n d:Nat){c:Ad}{m:Int},RC s n c->n<d->n<=1000->-10000<=m->m<=1000->Ok (JN d c m) λr=>1<=r/\r<=n+1
 | n,d+1,c,m,h,hd,hn,hm0,hm1=>by
   obtain⟨ns,t,i,hk,g⟩:=h.sizes;show Ok (Je d (JN d) c m) _;unfold Je;refine y8 (λq=>q.2) c.H.length (λk q=>1<=q.1/\q.1<=1+(sm (ns.take k):Nat)) 0 (ug _) rfl ⟨by omega,by simp[sm]⟩ (by omega) (λrec q f e=>?_) λrec k q a f e ih=>?_
   ·have:=JU ns c.H.length;simp only[K4,f];refine y4 ?_ (y3 ⟨e.1,by have:=e.2;omega⟩);rw[df];rfl
   ·have b:k<ns.length:=by omega
    have u:=JU ns k;have v:=JU ns (k+1);have j:=Y3 b;obtain⟨l,w⟩:=e;simp only[K4,f];rw[un (show((k:Nat):Int)<c.H.length by omega),uY];refine y9 (λ_=>y5 a ?_) λo=>y3 ⟨l,by omega⟩;have p:i64.wrap (m-q.1)=m-q.1:=wr;rw[p];refine Ok.bind (nE ns[k] d (hk k b a) (by omega) (by omega) (by omega) (by omega)) λr hr=>ih _ C7 ?_;show 1<=i64.wrap (q.1+r)/\i64.wrap (q.1+r)<=1+(sm (ns.take (k+1)):Nat);rw[wr,j];omega
theorem iC{i:Nat}(a:i<s.A.length)(k:Int):NU s i k=some (s.A[i].Kind==k):=by
 refine Ok.val ?_;unfold NU;refine y7 ?_ (y5 a (y3 rfl));grind
theorem kn{self:Aa->Ad->Option Int}{c:Ad}(h:c.H.length<=2)(hk:∀k∈c.H,self s k=some 0):iter (λa d=>Jf c self s (λf=>some 0) a d) A9 0=some 0:=by
 refine Ok.val ?_;refine y8 (λq=>q) c.H.length (λ_ _=>True) 0 (ug _) rfl trivial (by omega) (λrec q e g=>?_) λrec k q b e g ih=>?_
 ·simp only[Jf,e];rw[CW];exact y3 rfl
 ·simp only[Jf,e];rw[Cg];exact y5 b (qr (hk _ (ud b)) (y4 rfl (ih _ C7 trivial)))
theorem qE(p:DS s):∀(n d:Nat){c:Ad},RC s n c->n<d->I3 d s c=some 0
 | n,d+1,c,h,hd=>by
   obtain⟨g,j⟩:=h.kids
   have e:∀k∈c.H,I3 d s k=some 0:=λk hk=>by
    obtain⟨m,q,hr⟩:=j k hk;subst q;exact qE p m d hr (by omega)
   have a:=kn (s:=s) (self:=I3 d) g e;refine Ok.val ?_;show Ok (K6 d (I3 d) s c) _;unfold K6
   cases h with
   | all =>
     refine y7 rfl ?_;unfold BR;refine y4 rfl (y4 rfl (y4 rfl (y4 rfl ?_)));unfold Cz;refine y4 rfl ?_;unfold CY;exact y4 rfl (Ok.eq a)
   | and =>
     refine y4 rfl (y4 rfl (y4 rfl (y4 rfl (y7 rfl ?_))));unfold BR;refine y4 rfl (y4 rfl (y4 rfl (y4 rfl ?_)));unfold Cz;refine y4 rfl ?_;unfold CY;exact y4 rfl (Ok.eq a)
   | or =>
     refine y4 rfl (y4 rfl (y4 rfl (y4 rfl (y4 rfl (y7 rfl ?_)))));unfold BR;refine y4 rfl (y4 rfl (y4 rfl (y4 rfl ?_)));unfold Cz;refine y4 rfl ?_;unfold CY;exact y4 rfl (Ok.eq a)
   | not =>
     refine y4 rfl (y4 rfl (y4 rfl (y4 rfl (y4 rfl (y4 rfl (y7 rfl ?_))))));unfold BR;refine y4 rfl (y4 rfl (y4 rfl (y4 rfl ?_)));unfold Cz;refine y4 rfl ?_;unfold CY;exact y4 rfl (Ok.eq a)
   | under n i f b h L v o k r t =>
     refine y4 rfl (y7 rfl ?_);unfold BR;refine y4 (by simp) (y7 rfl (qr (iC b 2) (y4 (by rw[h.kind];rfl) ?_)));unfold Cz;refine y7 rfl (y4 (uB (by show ¬k<0;omega)) (y5 b (qr o (y4 (uB (by grind)) ?_))));unfold CY;exact y4 rfl (Ok.eq a)
   | between n i f b h l u r t w =>
     refine y4 rfl (y4 rfl (y7 rfl ?_));unfold BR;refine y4 (by simp) (y4 rfl (y7 rfl (qr (iC b 3) (y4 (by rw[h.kind];rfl) ?_))));unfold Cz;refine y4 rfl ?_;unfold CY;refine y4 ?_ (Ok.eq a);grind
   | miss n i f b h ho =>
     refine y4 rfl (y4 rfl (y4 rfl (y7 rfl ?_)));unfold BR;refine y4 (by simp) (y4 rfl (y4 rfl (y7 rfl (qr (iC b 3) (y4 (by rw[h.kind];rfl) (y5 b (y4 (by grind) ?_)))))));unfold Cz;refine y4 rfl ?_;unfold CY;exact y4 rfl (Ok.eq a)
theorem RC.rcheck(a:DS s){n:Nat}{c:Ad}(h:RC s n c)(b:n<=39/\DP 9 c){d:Nat}(hd:n<d):Fh d s c=some 0:=by
 refine Ok.val ?_;unfold Fh;exact qr a.rcheck (y4 rfl (Ok.bind (nE n d h hd (by omega) (by omega) (by omega)) λr hr=>y4 df (Ok.bind (X6 d c▸nt n d 9 h hd b.2 (by omega)) λr hr=>y4 df (qr (qE a n d h hd) (y3 rfl)))))
def GC(s:Aa)(c:Ad):Prop:=∃n,RC s n c/\n<=39/\DP 9 c
theorem GC.check(a:DS s){c:Ad}(h:GC s c){d:Nat}(hd:40<=d):B8 d s c=some 0:=by
 obtain⟨n,b,e⟩:=h;exact b.check a e (by omega)
theorem GC.rcheck(a:DS s){c:Ad}(h:GC s c){d:Nat}(hd:40<=d):Fh d s c=some 0:=by
 obtain⟨n,b,e⟩:=h;exact b.rcheck a e (by omega)
theorem GC.op{c:Ad}(h:GC s c):(c.Op != 0)=true:=by
 obtain⟨n,a,_⟩:=h
 cases a<;>rfl
theorem GC.all:GC s eP:=⟨0,.all 0,by omega,.leaf rfl⟩
theorem GC.drawn{n:Nat}{c:Ad}(h:RC s (bw n) c/\DP n c)(a:n<=3):GC s c:=by
 refine⟨bw n,h.1,?_,h.2.mono (by omega)⟩;rcases(by omega:n=0\/n=1\/n=2\/n=3)with rfl|rfl|rfl|rfl<;>decide
theorem Ok.t{α:Type}{p:Prop}[Decidable p]{x y:Option α}{Q:α->Prop}(k:Ok x Q)(h:p:=by omega):Ok (bif decide p then x else y) Q:=by grind
theorem Ok.f{α:Type}{p:Prop}[Decidable p]{x y:Option α}{Q:α->Prop}(k:Ok y Q)(h:¬p:=by omega):Ok (bif decide p then x else y) Q:=by grind
theorem yc{ρ:Type}{body:(Int->Option ρ)->Int->Option ρ}{Q:ρ->Prop}(len:Nat)(b:∀rec,Ok (body rec (len:Int)) Q)(d:∀rec (i:Nat),i<len->(∀v,v=((i+1:Nat):Int)->Ok (rec v) Q)->Ok (body rec (i:Int)) Q)(c:len<=1000000000000:=by omega):Ok (P.iter body A9 0) Q :=
 y8 (λq=>q) len (λ_ _=>True) 0 (ug _) rfl trivial c (λrec q a _=>by rw[show q=_ from a];exact b rec) λrec i q e a _ ih=>by grind
theorem ya{β ρ:Type}{body:(Int×β->Option ρ)->Int->β->Option ρ}{Q:ρ->Prop}(len:Nat)(I:Nat->β->Prop){a:β}(g:I 0 a)(h:∀rec b,I len b->Ok (body rec (len:Int) b) Q)(k:∀rec (i:Nat) b,i<len->I i b->(∀v c,v=((i+1:Nat):Int)->I (i+1) c->Ok (rec (v,c)) Q)->Ok (body rec (i:Int) b) Q)(j:len<=1000000000000:=by omega):Ok (P.iter (λrec d=>body rec d.1 d.2) A9 (0,a)) Q :=
 y8 (λq=>q.1) len (λi q=>I i q.2) 0 (ug _) rfl g j (λrec q e f=>by rw[show q.1=_ from e];exact h rec _ f) λrec i q l e f ih=>by grind
theorem Ok.any{α:Type}{m:Option α}{P:α->Prop}(h:Ok m P):Ok m λ_=>True:=h.mono λ_ _=>trivial
def sC(L:Aj):Aa:={ K:=[L],A:=[{ oz with Kind:=2 }] }
def aC(k:Int):Ad:={ Op:=2,B:=0,Z:=k,C:=0,D:=0,H:=[] }
theorem WB:(Sc.all λL=>(List.range L.Q.length).all λk=>(List.range (Gl L).toNat).all (λl=>(AB (sC L) (aC k) l).isSome)&&AB (sC L) (aC k) (Gl L-1)==some true&&(List.range L.Q.length).all λv=>(Fb L (v:Int) (k:Int)).isSome)=true:=by decide +kernel
theorem ou{L:Aj}(b:L∈Sc)(v k:Int):Ok (Fb L v k) λ_=>True:=by
 have c:=(Kd b).check
 have a:∀v,Lq L v=some (decide (0<=v/\v<L.Q.length)):=by
  intro v;refine Ok.val ?_;unfold Lq;by_cases h:0<=v/\v<L.Q.length
  ·refine y7 (by grind) (qr c (y3 ?_));grind
  ·refine y4 ?_ (y3 (by rw[df h]));grind
 by_cases h:0<=v/\v<L.Q.length
 ·by_cases d:0<=k/\k<L.Q.length
  ·have:=List.all_eq_true.1 WB L b;have:=(Bool.and_eq_true_iff.1 (List.all_eq_true.1 this k.toNat (List.mem_range.2 (by omega)))).2;have:=List.all_eq_true.1 this v.toNat (List.mem_range.2 (by omega));rw[show((v.toNat:Nat):Int)=v by omega,show((k.toNat:Nat):Int)=k by omega]at this;obtain⟨x,hx⟩:=Option.isSome_iff_exists.1 this;exact⟨x,hx,trivial⟩
  ·unfold Fb;exact qr (a v) (y4 (by rw[dt h];rfl) (qr (a k) (y7 (by grind) (y3 trivial))))
 ·unfold Fb;exact qr (a v) (y7 (by grind) (y3 trivial))
structure AL(s:Aa)(a:Ad):Prop where
 at_:a.Op=2\/a.Op=3\/a.Op=4
 col:∃i:Nat,a.B=i/\1<=i/\i<s.A.length/\∀l,0<=l->l<=fin s i->Ok (AB s a l) λb=>l=fin s i->b=true
 atom:∀v,Ok (Bl s a v) λt=>-1<=t/\t<=1
theorem Y6(b:Bool):Ok (Cy b) λt=>-1<=t/\t<=1:=by cases b<;>exact y3 (by decide)
theorem Xf{c:As}(h:Dl c):Fa c c.N.length=1:=by
 unfold Fa;rw[Int.sub_self];rcases fU h.widths with e|e|e|e<;>rw[e]<;>rfl
theorem gW(P:DS s){m:Nat}{c:Ad}(h:RC s m c)(ho:c.Op=2\/c.Op=3\/c.Op=4):AL s c:=by
 cases h with
 | under n i d a h L u g k Q R =>
   have j:=Kd u;have S:=j.lev2;have T:=j.lev3
   have J:∀v,Bl s { Op:=2,B:=i,Z:=k,C:=0,D:=0,H:=[] } v=(Fb L v k).bind λx=>(Cy x).bind λy=>some y:=by
    intro v;show(idx s.A (i:Int)).bind _=_;rw[Cf a,ue];grind
   have U:∀v,Bl (sC L) (aC k) v=(Fb L v k).bind λx=>(Cy x).bind λy=>some y:=λv=>rfl
   have K:∀l,AB s { Op:=2,B:=i,Z:=k,C:=0,D:=0,H:=[] } l=AB (sC L) (aC k) l:=by
    intro l;unfold AB;show(idx s.A (i:Int)).bind _=_;rw[Cf a,ue];show(idx s.K s.A[i].Ak).bind _=(EW L).bind _;rw[g,ue];unfold FF;grind
   refine⟨ho,⟨i,rfl,d,a,λl G w=>?_⟩,λv=>?_⟩
   ·have z:fin s i=Gl L-1:=by rw[EY a,GH h g]
    have:=List.all_eq_true.1 WB L u;have:=(Bool.and_eq_true_iff.1 (List.all_eq_true.1 this k.toNat (List.mem_range.2 (by omega)))).1;rw[show((k.toNat:Nat):Int)=k by omega]at this;obtain⟨f1,f2⟩:=Bool.and_eq_true_iff.1 this;have f1:=List.all_eq_true.1 f1 l.toNat (List.mem_range.2 (by omega));rw[show((l.toNat:Nat):Int)=l by omega]at f1;obtain⟨x,hx⟩:=Option.isSome_iff_exists.1 f1;refine⟨x,(K l).trans hx,λe=>?_⟩;grind
   ·rw[J];exact(ou u v k).bind λx _=>(Y6 x).bind λy hy=>y3 hy
 | between n i d a h lo f a0 V W =>
   obtain⟨w,X⟩:=h.low;obtain⟨Y,l4⟩:=h.high;have z:fin s i=s.A[i].N.length:=by rw[EY a,DI h]
   refine⟨ho,⟨i,rfl,d,a,λl G w=>?_⟩,λv=>?_⟩
   ·have A:=Dc h;unfold AB;refine y5 a (y4 rfl (y6 (λe=>y3 λE=>?_) λ_=>y4 rfl (y9 (λ_=>y3 λ_=>rfl) λ_=>y6 (λe=>y3 λE=>?_) λe=>?_)))
    ·grind
    ·grind
    ·have E:l≠0:=λo=>by rw[o]at e;cases e
     have M:=Fw h (l:=l) (by omega) (by omega);have F:EJ s.A[i] l=some (Fa s.A[i] l):=by unfold EJ;rw[Xg h (by omega) (by omega)];rfl
     have p:∀n:Int,-100000000<=n->n<=100000000->Ok (C9 n (Fa s.A[i] l)) λr=>l=fin s i->r=n:=λn N O=>by
      rw[show C9 n (Fa s.A[i] l)=some (n-n%Fa s.A[i] l)from LO M.1 (by omega) N O];exact y3 λo=>by rw[o,z,Xf h];omega
     have g1:-100<=(if s.A[i].C>lo then s.A[i].C else lo)\/True:=.inr trivial;have b1:-1000000<=(if s.A[i].C>lo then s.A[i].C else lo)/\(if s.A[i].C>lo then s.A[i].C else lo)<=1000000:=by grind
     have b2:-1000000<=(if s.A[i].D<f then s.A[i].D else f)/\(if s.A[i].D<f then s.A[i].D else f)<=1000000:=by grind
     have q:Ok ((C9 (i64.wrap ((if s.A[i].D<f then s.A[i].D else f)+1)) (Fa s.A[i] l)).bind λt=>some (t==(i64.wrap ((if s.A[i].D<f then s.A[i].D else f)+1)))) λb=>l=fin s i->b=true:=by
      rw[wr];exact(p _ (by omega) (by omega)).bind λr hr=>y3 λo=>by grind
     refine qr F (y6 (λ_=>y6 (λ_=>y3 λ_=>rfl) λ_=>q) λ_=>(p _ (by grind) (by show(if s.A[i].C>lo then s.A[i].C else lo)<=100000000;omega)).bind λr hr=>y6 (λ_=>y6 (λ_=>y3 λ_=>rfl) λ_=>q) λe3=>y3 λo=>?_);grind
   ·unfold Bl;refine y4 rfl (y4 rfl (y6 (λ_=>y3 (by decide)) λ_=>(Y6 _).bind λy hy=>y3 hy))
 | miss n i d a h I =>
   have z:fin s i=s.A[i].N.length:=by rw[EY a,DI h]
   refine⟨ho,⟨i,rfl,d,a,λl G w=>?_⟩,λv=>?_⟩
   ·have A:=Dc h;unfold AB;refine y5 a (y4 rfl (y6 (λe=>y3 λE=>?_) λ_=>y7 rfl (y3 λ_=>rfl)));grind
   ·unfold Bl;exact y4 rfl (y7 rfl ((Y6 _).bind λy hy=>y3 hy))
 | all=>rcases ho with h|h|h<;>cases h
 | and=>grind
 | or=>grind
 | not=>grind
theorem WW{c:Ad}(h:(bif(bif(c.Op==2)then true else(c.Op==3))then true else(c.Op==4))=true):c.Op=2\/c.Op=3\/c.Op=4:=by grind
theorem ib{A:Ad->Prop}(p:∀{m:Nat}{c:Ad},RC s m c->(c.Op=2\/c.Op=3\/c.Op=4)->A c):∀(n d m:Nat){c:Ad},RC s m c->DP n c->m<d->n<=20->Ok (Dd d c) λl=>l.length<=2 ^ n/\∀a∈l,A a
 | n,d+1,m,c,h,hp,hd,hn=>by
   obtain⟨i,j⟩:=h.kids;have r:2 ^ n<=2 ^ 20:=vw (by decide) hn;have o:2 ^ (n-1)<=2 ^ 20:=vw (by decide) (by omega);show Ok (D1 d (Dd d) c) _;unfold D1;refine y6 (λe=>y3 ⟨Nat.one_le_two_pow,λa g=>?_⟩) λe=>ya c.H.length (λk b=>b.length<=k*2 ^ (n-1)/\∀a∈b,A a) ⟨by simp,(λa g=>by cases g)⟩ (λrec b f=>Ok.f (y3 ⟨?_,f.2⟩)) λrec k b hk f ih=>?_
   ·rw[List.mem_singleton.1 g];exact p h (WW e)
   ·cases n with
    | zero=>have:=f.1;rw[show c.H=[]from hp]at this;simp at this;simp[this]
    | succ n=>refine uK f.1 (uK (vE _ i) ?_);rw[Nat.add_sub_cancel,Nat.pow_succ];omega
   ·obtain⟨q,t,hr⟩:=j _ (ud hk)
    cases n with
    | zero=>rw[show c.H=[]from hp]at hk;simp at hk
    | succ n =>
      rw[Nat.add_sub_cancel]at f o;have u:k*2 ^ n<=2*2 ^ n:=vE _ (by omega);refine Ok.t (y5 hk ((ib p n d q hr (hp _ (ud hk)) (by omega) (by omega)).bind λl v=>Ok.rm (by grind) (ih _ _ C7 ⟨?_,λa g=>?_⟩)))
      all_goals grind
theorem lE(b:DS s)(n d m:Nat){c:Ad}(h:RC s m c)(hp:DP n c)(hd:m<d)(e:n<=20):Ok (Dd d c) λl=>l.length<=2 ^ n/\∀a∈l,AL s a:=ib (gW b) n d m h hp hd e
def NA(s:Aa)(l:List Ac):Prop:=(∀p∈l,MC s p)/\l.length<=100
theorem NA.nil:NA s []:=⟨(λp hp=>by cases hp),by simp⟩
def LV(s:Aa)(b:List Int):Prop:=b.length=s.A.length/\∀(i:Nat)(hi:i<b.length),0<b[i]->1<=i/\b[i]<=fin s i
theorem GC.needs(o:DS s){c:Ad}(h:GC s c){d:Nat}(hd:40<=d):Ok (Bs d s c) (NA s):=by
 obtain⟨n,q,x,t⟩:=h;have y:=o.cols_length;unfold Bs;refine qr (q.check o ⟨x,t⟩ (by omega)) (y4 rfl (ye (by rw[dt,Wz (by omega)];rfl) ((lE o 9 d n q t (by omega) (by omega)).bind λl z=>?_)));refine ya l.length (λ_ b=>LV s b) ⟨by simp,λi H g=>by simp at g⟩ (λrec b a=>Ok.f ?_) (λrec k b hk a ih=>Ok.t (y5 hk ?_)) (by grind)
 ·have A:=a.1;refine ya b.length (λk r=>(∀p∈r,MC s p)/\r.length<=k) ⟨λp hp=>(by cases hp),by simp⟩ (λrec r hr=>Ok.f (y3 ⟨hr.1,by have:=a.1;have:=hr.2;omega⟩)) (λrec k r hk hr ih=>Ok.t (y5 hk (y9 (λe=>Ok.rm (by grind) (ih _ _ C7 ⟨λp hp=>?_,by simp;exact hr.2⟩)) λ_=>ih _ _ C7 ⟨hr.1,by have:=hr.2;omega⟩))) (by have:=a.1;omega);rcases List.mem_append.1 hp with hp|hp
  ·grind
  ·rw[List.mem_singleton.1 hp];obtain⟨B,C⟩:=a.2 k hk e;exact⟨k,B,by have:=a.1;omega,rfl,Int.le_of_lt e,C⟩
 ·have D:=z.2 _ (ud hk);obtain⟨i,E,F,u,m⟩:=D.col;have I:=o.fin_ok F u
  have hK:∀v:Int,0<=v->v<=fin s i->Ok (Hb b l[k] rec (k:Int) v) (NA s):=λv J K=>by
   unfold Hb;have f:i<b.length:=by rw[a.1];exact u
   rw[E];refine y5 f (y5 f (ih _ _ C7 ⟨by rw[w7];exact a.1,λj L g=>?_⟩));simp only[uv,List.getElem_set]at g ⊢;split at g
   ·rename_i e
    rw[uk e];refine⟨by omega,?_⟩;rw[<-e];split
    ·grind
    ·rename_i M
     by_cases G:0<b[i]
     ·exact(a.2 i f G).2
     ·omega
   ·rename_i e
    rw[uo e];exact a.2 j (by grind) g
  refine yc (fin s i).toNat (λrec=>?_) λrec v N ih2=>?_
  ·refine(m _ (by omega) (by omega)).bind λb w=>?_;rw[w (by omega)];exact y4 rfl (hK _ (by omega) (by omega))
  ·exact(m _ (by omega) (by omega)).bind λb w=>y6 (λ_=>ih2 _ C7) λ_=>hK _ (by omega) (by omega)
theorem Sa(g:DS s){f:Ad->Option Int}(j:∀a,AL s a->Ok (f a) λt=>-1<=t/\t<=1):∀(m d:Nat){c:Ad},RC s m c->m<d->Ok (AE d c f) λt=>-1<=t/\t<=1
 | m,d+1,c,h,hd=>by
   show Ok (Dm d (AE d) c f) _;unfold Dm;have e:∀{c:Ad},AL s c->Ok ((f c).bind λx=>some x) λt=>-1<=t/\t<=1:=λi=>(j _ i).bind λx hx=>y3 hx;have k:=h
   cases h with
   | all=>exact y7 rfl (y3 (by decide))
   | under=>exact y4 rfl (y4 rfl (y4 rfl (y4 rfl (e (gW g k (.inl rfl))))))
   | between=>exact y4 rfl (y4 rfl (y4 rfl (y4 rfl (e (gW g k (.inr (.inl rfl)))))))
   | miss=>exact y4 rfl (y4 rfl (y4 rfl (y4 rfl (e (gW g k (.inr (.inr rfl)))))))
   | and n na nb hn a b i hb =>
     exact y4 rfl (y7 rfl (qr (x:=a) rfl ((Sa g j na d i (by omega)).bind λp hp=>qr (x:=b) rfl ((Sa g j nb d hb (by omega)).bind λq l=>y3 (by grind)))))
   | or n na nb hn a b i hb =>
     exact y4 rfl (y4 rfl (y7 rfl (qr (x:=a) rfl ((Sa g j na d i (by omega)).bind λp hp=>qr (x:=b) rfl ((Sa g j nb d hb (by omega)).bind λq l=>y3 (by grind))))))
   | not n na hn a i =>
     exact y4 rfl (y4 rfl (y4 rfl (y7 rfl (qr (x:=a) rfl ((Sa g j na d i (by omega)).bind λp hp=>y3 (by show -1<=i64.wrap (0-p)/\i64.wrap (0-p)<=1;rw[wr];omega))))))
theorem pX{x:Au}(f:DS s)(hx:GX s x){r:List Int}(hr:r∈x.G){c:Ad}(h:GC s c){d:Nat}(hd:40<=d):Ok (C8 d s c x.E (r.drop 1)) λ_=>True:=by
 obtain⟨n,p,B,C⟩:=h;have v:=f.cols_length;have w:=hx.picks_len f;have y:=(hx.rows r hr).1;unfold C8;refine ye (by rw[dt,Wz (by omega)];rfl) (y8 (λq=>q.1) s.A.length (λk q=>q.2.length=s.A.length/\1<=k) 1 (by omega) rfl ⟨by simp,by omega⟩ (by omega) (λrec q g e=>?_) λrec k q hk g e ih=>?_)
 ·simp only[ED,g,e.1];rw[CW];refine ya x.E.length (λ_ b=>b.length=s.A.length) e.1 (λrec b l=>Ok.f ?_) λrec k b hk l ih=>Ok.t ?_
  ·unfold FI;refine(Ok.bind (Sa f (λa m=>?_) n d p (by omega)) λt _=>y3 trivial).bind λt _=>y3 trivial;obtain⟨i,j,D,o,_⟩:=m.col;show Ok ((idx b a.B).bind _) _;rw[j];exact y5 (by grind) ((m.atom _).bind λt z=>y3 z)
  ·obtain⟨u,A⟩:=hx.valsP f hr k hk (by grind);obtain⟨i,_,o,j,_⟩:=hx.picks _ (ud hk);refine y5 hk (y5 (by grind) (qr A (y4 rfl ?_)));rw[j];exact y5 (by rw[l];exact o) (ih _ _ C7 (by grind))
 ·simp only[ED,g,e.1];rw[Cg];obtain⟨r,hr⟩:=ny f e.2 hk;exact qr hr (y5 (by grind) (ih _ C7 ⟨by show(q.2.set _ _).length=_;rw[w7];exact e.1,by omega⟩))
def IX(x:Au)(r:List Int):Prop:=r.length<=x.G.length/\∀v∈r,∃j:Nat,v=(j:Int)/\j<x.G.length
theorem sR.covers{x:Au}{n:Nat}(a:DS s)(hx:sR s x n){r:List Ac}(h:NA s r):B5 x.E r=some true:=by
 have b:=a.cols_length;rw[UN _ _ (by rw[hx.picks,Jl];omega) (by have:=h.2;omega),hx.picks];refine congrArg _ (List.all_eq_true.2 λp hp=>List.any_eq_true.2 ?_);obtain⟨i,c,d,e,_,f⟩:=h.1 p hp;refine⟨{ B:=i,J:=fin s i },List.mem_map.2 ⟨i-1,List.mem_range.2 (by omega),by rw[show i-1+1=i by omega]⟩,?_⟩;grind
def IM(s:Aa)(v:Int):Prop:=∃i:Nat,v=i/\1<=i/\∃hi:i<s.A.length,Dl s.A[i]
theorem bM:(Sc.all λL=>(List.range (Gl L).toNat).all λl=>(FT L (l:Int)).isSome)=true:=by decide +kernel
theorem Xy(d:DS s){i:Nat}(c:1<=i)(a:i<s.A.length){l:Int}(f:0<=l)(e:l<=fin s i):Ok (AX s i l) λ_=>True:=by
 rcases d.col c a with h|h
 ·obtain⟨L,g,b⟩:=d.clist h;have j:fin s i=Gl L-1:=by rw[EY a,GH h b]
  have:=List.all_eq_true.1 (List.all_eq_true.1 bM L g) l.toNat (List.mem_range.2 (by omega));rw[show((l.toNat:Nat):Int)=l by omega]at this;obtain⟨x,hx⟩:=Option.isSome_iff_exists.1 this;unfold AX;exact y5 a (y7 (by rw[h.kind];rfl) (qr b (qr hx (y3 trivial))))
 ·exact Vg a h f (by rw[EY a,DI h]at e;exact e)
theorem jT(b:DS s){i:Nat}(a:1<=i)(c:i<s.A.length){l:Int}(f:0<=l)(g:l<=fin s i):Ok (BF s i l) λr=>0<=r/\r<=l:=by
 have h:=b.fin_ok a c;unfold BF;refine qr (b.pFinest a c) (y4 (by grind) (Ok.loop (λq=>0<=q/\q<=l) (λq=>q.toNat) ⟨f,uU _⟩ (by unfold A9;omega) λrec q d ih=>y9 (λhp=>?_) λ_=>y3 d));have e:i64.wrap (q-1)=q-1:=wr;rw[e];exact Ok.bind (Xy b a c (by omega) (by omega)) λx _=>Ok.bind (Xy b a c (by omega) (by omega)) λy _=>y6 (λ_=>ih _ (by omega) (by omega)) λ_=>y3 d
theorem MC.least(c:DS s){p:Ac}(h:MC s p):Ok (BF s p.B p.J) λr=>MC s { B:=p.B,J:=r }:=by
 obtain⟨i,a,b,d,e,f⟩:=h;rw[d];exact(jT c a b e f).mono λr hr=>⟨i,a,b,rfl,hr.1,by show r<=_;omega⟩
theorem SY{P:Ac->Prop}{b:List Ac}{p:Ac}(a:∀q∈b,P q)(hp:P p):∀q∈b++[p],P q:=by grind
theorem nd(a:DS s){v:Int}(f:IM s v){b:List Ac}{k:Nat}(e:(∀p∈b,MC s p)/\b.length<=k)(hk:k<=1000):Ok (Cv v b s) λr=>(∀p∈r,MC s p)/\r.length<=k+1:=by
 obtain⟨i,rfl,c,d,_⟩:=f;have g:=a.fin_ok c d;unfold Cv;exact qr (a.pFinest c d) ((MC.least a (p:={ B:=i,J:=fin s i }) ⟨i,c,d,rfl,by show 0<=fin s i;omega,uU _⟩).bind λr hr=>Ok.rm (by grind) (y3 ⟨SY e.1 hr,by simp;exact e.2⟩))
def WM(s:Aa)(v w:Int):Prop:=∃i:Nat,v=i/\1<=i/\∃hi:i<s.A.length,Dl s.A[i]/\w∈s.A[i].N
theorem aW(f:DS s){e:Av}(hd:e.V.length<=10/\∀p∈e.V,MC s p)(o:e.A.length<=10/\∀v∈e.A,IM s v)(q:0<e.B->IM s e.B)(t:e.Op=13->WM s e.B e.S):Ok (JV s e) (NA s):=by
 have g:∀{b:List Ac},(∀p∈b,MC s p)/\b.length<=11->Ok (Bi e s b) (NA s):=λa=>by
  unfold Bi;exact ya e.A.length (λk b=>(∀p∈b,MC s p)/\b.length<=11+k) a (λrec b a=>Ok.f (y3 ⟨a.1,by have:=a.2;omega⟩)) (λrec k b hk a ih=>Ok.t (y5 hk ((nd f (o.2 _ (ud hk)) a (by omega)).bind λr hr=>ih _ _ C7 hr))) (by omega)
 have d:∀{b:List Ac},(∀p∈b,MC s p)/\b.length<=10->Ok (bif(decide (e.B>0))then(Cv e.B b s).bind λx47=>Bi e s x47 else Bi e s b) (NA s):=λa=>y9 (λhp=>(nd f (q hp) a (by omega)).bind λr hr=>g hr) λ_=>g ⟨a.1,by have:=a.2;omega⟩;unfold JV;refine ya e.V.length (λk b=>(∀p∈b,MC s p)/\b.length<=k) ⟨(λp hp=>by cases hp),by simp⟩ (λrec b a=>Ok.f ?_) (λrec k b hk a ih=>Ok.t (y5 hk ((MC.least f (hd.2 _ (ud hk))).bind λr hr=>Ok.rm (by grind) (ih _ _ C7 ⟨SY a.1 hr,by simp;exact a.2⟩)))) (by omega);have c:(∀p∈b,MC s p)/\b.length<=10:=⟨a.1,by have:=a.2;omega⟩;unfold KY;refine y6 (λ_=>d c) λ_=>y6 (λ_=>d c) λ_=>y6 (λ_=>d c) λ_=>y6 (λ_=>d c) λ_=>y6 (λ_=>d c) λ_=>y6 (λ_=>d c) λ_=>y6 (λh=>?_) λ_=>g ⟨a.1,by have:=c.2;omega⟩;obtain⟨i,u,w,j,m,x⟩:=t (eq_of_beq h);obtain⟨n,y,l⟩:=List.mem_iff_getElem.1 x;have z:fin s i=s.A[i].N.length:=by rw[EY j,DI m]
 rw[u,<-l];exact qr (mJ j m y) ((MC.least f (p:={ B:=i,J:=(s.A[i].N.length:Int)-n }) ⟨i,w,j,rfl,by show 0<=(s.A[i].N.length:Int)-n;omega,by show(s.A[i].N.length:Int)-n<=_;omega⟩).bind λr hr=>Ok.rm (by grind) (g ⟨SY a.1 hr,by have:=c.2;simp;omega⟩))
theorem Vn(k c v:Int):∀b:List (Int×Int),JY c (VD k v b)=if c=k then some v else JY c b
 | []=>by
   simp only[VD,JY];grind
 | p :: r=>by
   have ih:=Vn k c v r;simp only[VD,JY];by_cases e:k=p.1
   ·rw[show(k==p.1)=true from beq_iff_eq.2 e,uY];simp only[JY];grind
   ·rw[beq_eq_false_iff_ne.2 e,ux];simp only[JY,ih];grind
def gl(c:Int)(b:List (Int×Int)):Int:=(JY c b).getD 0
def ME(s:Aa)(v:Int)(b:List (Int×Int)):Prop:=0<=v/\v<=10/\∀c,0<gl c b->MC s { B:=c,J:=gl c b }
theorem mR(u:DS s){a:List (List Ac)}(G:a.length<=1000)(h:∀l∈a,NA s l):Ok (EL a) (NA s):=by
 have v:=u.cols_length;unfold EL;refine y8 (λq=>q.2.1) a.length (λ_ q=>ME s q.1 q.2.2) 0 (ug _) rfl ⟨uU _,by decide,λc g=>absurd g (by show ¬(0:Int)<0;decide)⟩ (by omega) (λrec q b d=>?_) λrec k q hk b d ih=>?_
 ·obtain⟨w,x,m⟩:=d;obtain⟨n,y⟩:∃n:Nat,q.1=n:=⟨q.1.toNat,by omega⟩;have o:i64.wrap (q.1+1)=((n+1:Nat):Int):=by rw[y];exact C7
  simp only[Em,b];refine Ok.f (ya (n+1) (λk r=>(∀p∈r,MC s p)/\r.length<=k) ⟨(λp hp=>by cases hp),by simp⟩ (λrec r hr=>?_) λrec k r hk hr ih=>?_)
  ·simp only[Ep,o];exact Ok.f (y3 ⟨hr.1,by have:=hr.2;omega⟩)
  ·simp only[Ep,o];exact Ok.t (y9 (λhp=>Ok.rm (by grind) (ih _ _ C7 ⟨SY hr.1 (m k hp),by simp;exact hr.2⟩)) λ_=>ih _ _ C7 ⟨hr.1,by have:=hr.2;omega⟩)
 ·obtain⟨z,H⟩:=h _ (ud hk);simp only[Em,b];refine Ok.t (y5 hk (y8 (λq=>q.2.1) a[k].length (λ_ q=>ME s q.1 q.2.2) 0 (ug _) rfl d (by omega) (λrec q b d=>?_) λrec j q t b d ih=>?_))
  ·simp only[Eo,b];exact Ok.f (ih _ C7 d)
  ·obtain⟨i,A,C,g,D,E⟩:=z _ (ud t);obtain⟨w,x,m⟩:=d;simp only[Eo,b];refine Ok.t (y5 t (ih _ C7 ⟨by show 0<=(if a[k][j].B>q.1 then a[k][j].B else q.1);split<;>omega,by show(if a[k][j].B>q.1 then a[k][j].B else q.1)<=10;split<;>omega,λc f=>?_⟩))
   have F:gl c (VD a[k][j].B (if a[k][j].J>((JY a[k][j].B q.2.2).getD 0)then a[k][j].J else((JY a[k][j].B q.2.2).getD 0)) q.2.2)=if c=a[k][j].B then(if a[k][j].J>gl a[k][j].B q.2.2 then a[k][j].J else gl a[k][j].B q.2.2)else gl c q.2.2:=by
    unfold gl;rw[Vn];split<;>rfl
   change 0<gl c (VD _ _ _)at f;show MC s { B:=c,J:=gl c (VD _ _ _) };rw[F]at f ⊢;split
   ·rename_i e
    rw[uk e]at f;split
    ·exact⟨i,A,C,by show c=_;omega,D,E⟩
    ·grind
   ·grind
theorem aV(i:DS s){e:Av}{d:Nat}(ho:Ok (JV s e) (NA s))(h:Ok (Bs d s e.Ah) (NA s))(j:Ok (Bs d s e.U) (NA s))(hk:e.H.length<=2/\∀k∈e.H,Ok (CR d s k) (NA s)):Ok (CR (d+1) s e) (NA s):=by
 show Ok (G2 d (CR d) s e) _;unfold G2;refine ho.bind λa m=>h.bind λb n=>j.bind λc h=>ya e.H.length (λk l=>l.length<=3+k/\∀x∈l,NA s x) ⟨by simp,λx hx=>?_⟩ (λrec l g=>Ok.f ((mR i (by have:=g.1;omega) g.2).bind λr hr=>y3 hr)) (λrec k l f g ih=>Ok.t (y5 f ((hk.2 _ (ud f)).bind λr hr=>Ok.rm (by grind) (ih _ _ C7 ⟨by simp;have:=g.1;omega,λx hx=>?_⟩)))) (by omega)
 all_goals grind
theorem fV(a:DS s){d:Nat}(hd:1<=d):Ok (Bs d s Gv) (NA s):=by
 obtain⟨k,rfl⟩:∃k,d=k+1:=⟨d-1,by omega⟩;exact⟨_,a.pneeds_zero k,NA.nil⟩
def eX(op num:Int)(nm:ByteArray)(col:Int)(cols:List Int)(dims:List Ac)(c ev:Ad)(kids:List Av):Av:={ Op:=op,S:=num,I:=nm,B:=col,A:=cols,V:=dims,Ah:=c,U:=ev,H:=kids }
def IC(s:Aa)(v:Int):Prop:=∃i:Nat,v=i/\1<=i/\∃hi:i<s.A.length,IR s.A[i]
structure OX(s:Aa)(l:List Ac):Prop where
 pos:1<=l.length
 len:l.length<=3
 all:∀p∈l,IC s p.B/\MC s p
 asc:(l.map (·.B)).Pairwise (·<·)
structure Ns(s:Aa)(m:Int)(l:List Int):Prop where
 pos:1<=l.length
 len:l.length<=3
 all:∀v∈l,IM s v/\v≠m
 asc:l.Pairwise (·<·)
inductive ET(s:Aa):Av->Prop
 | table (m:Int) (dims:List Ac) (c:Ad) (hm:m=-1\/IM s m) (hd:OX s dims) (h:GC s c):ET s (eX 10 0 .empty m [] dims c Gv [])
 | model (m:Int) (cols:List Int) (c:Ad) (hm:IM s m) (hc:Ns s m cols) (h:GC s c):ET s (eX 11 0 .empty m cols [] c Gv [])
 | curve (m:Int) (ev c:Ad) (hm:IM s m) (hl:∀x,idx s.A m=some x->0<=x.C) (he:GC s ev) (h:GC s c):ET s (eX 12 0 .empty m [] [] c ev [])
theorem ET.kids{e:Av}(h:ET s e):e.H=[]:=by cases h<;>rfl
theorem oM{l:List Av}{p:Av->Option Bool}(q:Av->Bool)(hp:∀x∈l,p x=some (q x))(a:l.length<=1000000000):Aw l p=some (l.any q):=by
 unfold Aw;rw[show Co l p=some (GT q l)from IB hp a,ue,Lv]
theorem ig{l:List Av}{p:Av->Option Bool}(hp:∀x∈l,p x=some false)(a:l.length<=2):Aw l p=some false:=by
 rw[oM (λ_=>false) hp (by omega)];grind
theorem VC{e:Av}{u:Bf}(h:(bif(bif(bif(bif(bif u.Bw then true else(e.S==0))then(bif u.Bu then true else true)else false)then(bif u.Bs then true else(e.B==0))else false)then(bif u.Bx then true else((e.A.length:Int)==0))else false)then(bif u.By then true else((e.V.length:Int)==0))else false)=true)(d:u.Bu=true\/e.I=.empty)
 (n:u.Bk=true\/e.Ah=Gv) (j:u.Bt=true\/e.U=Gv) (hp:(Ca e.Op=some true)\/e.H=[]):GM e u=some true:=by
 have k:∃b,Ca e.Op=some b:=⟨_,rfl⟩
 have i:Ok ((Ca e.Op).bind λa=>some (bif a then true else((e.H.length:Int)==0))) (·=true):=by
  rcases hp with hp|hp
  ·exact qr hp (y3 rfl)
  ·obtain⟨b,l⟩:=k;exact qr l (y3 (by grind))
 have f:(bif u.Bu then true else(e.I.toList==({ data:=#[] }:ByteArray).toList))=(bif u.Bu then true else true):=by
  rcases d with d|d
  all_goals simp_all
 have m:∀{c:Ad},c=Gv->Gz c=some true:=λe=>by rw[e];rfl
 refine Ok.val ?_;unfold GM;rw[f];have o:Ok (bif u.Bt then(Ca e.Op).bind λa=>some (bif a then true else((e.H.length:Int)==0))else(Gz e.U).bind λg=>bif g then(Ca e.Op).bind λa=>some (bif a then true else((e.H.length:Int)==0))else some false) (·=true):=y6 (λ_=>i) λp=>qr (m (j.resolve_left (by grind))) (y7 rfl i);grind
theorem ba(b:DS s){e:Av}{u:Bf}{d:Nat}(hd:40<=d)(i:Kq e.Op=some (u,true))(j:GM e u=some true)(hp:MW s e=some true)(k:u.Bk=true->GC s e.Ah)(g:u.Bt=true->GC s e.U)(h:e.H=[])(l:Ca e.Op=some false):Fe (d+2) s e=some true:=by
 refine Ok.val ?_;show Ok (Hw (d+1) (Fe (d+1)) (Fu (d+1)) s e) _;unfold Hw;refine qr i (y4 rfl (qr j (y4 rfl (qr hp (y4 rfl ?_)))));have a:Ok ((Ca e.Op).bind λc=>bif(bif c then((e.H.length:Int) != 2)else false)then some false else(Aw e.H (λa0=>Fu (d+1) a0 s)).bind λx59=>some (!x59)) (·=true):=qr l (y4 rfl (qr (ig (λx hx=>by rw[h]at hx;cases hx) (by rw[h];simp)) (y3 rfl)));unfold II;exact y6 (λm=>qr ((k m).check b (by omega)) (y4 rfl (y6 (λf=>qr ((g f).check b (by omega)) (y4 rfl a)) λ_=>a))) λ_=>y6 (λf=>qr ((g f).check b (by omega)) (y4 rfl a)) λ_=>a
theorem IM.measure{v:Int}(h:IM s v):BX s v=some true:=by
 obtain⟨i,rfl,_,a,b⟩:=h;exact Z9 a b
theorem ZW{l:List Int}(h:l.Pairwise (·<·)){k:Nat}(hk:k<l.length):∀v∈l.take k,v≠l[k]:=λv a=>by
 obtain⟨j,b,rfl⟩:=List.mem_iff_getElem.1 a;rw[uO]at b;rw[wq];have:=List.pairwise_iff_getElem.1 h j k (by omega) hk (by omega);omega
theorem OX.ok(a:DS s){l:List Ac}(h:OX s l):Ko s l=some true:=by
 have e:=h.pos;have f:=h.len;refine Ok.val ?_;unfold Ko;refine yc l.length (λrec=>Ok.f (y3 (by grind))) λrec k hk ih=>Ok.t ?_;obtain⟨⟨i,b,g,c,d⟩,hp⟩:=h.all _ (ud hk);refine y5 hk (qr (x:=0) ?_ (y4 rfl ?_))
 ·refine Ok.val ?_;unfold Mz;exact qr a.check (y4 rfl (qr (nw a hp) (y3 rfl)))
 ·rw[b];refine y5 c (y4 (by rw[d.kind];rfl) (Ok.t ?_));rw[cu _ (by omega),WU (p:=λa0=>Jr a0 l[k]) (λp=>p.B==l[k].B) (λ_ _=>rfl) (by grind)];refine y4 (List.any_eq_false.2 λp hp=>?_) (ih _ C7);have:=ZW h.asc (k:=k) (by grind) p.B (by rw[<-List.map_take];exact wM hp);grind
theorem cn{l:List Int}{x:Int}(hx:x ∉ l)(a:l.length<=1000000):Bj l x=some false:=by
 unfold Bj
 have:CU l x=some (-1):=by
  refine Ok.val ?_;unfold CU;refine yc l.length (λrec=>Ok.f (y3 rfl)) λrec k hk ih=>Ok.t (y5 hk (y4 (beq_eq_false_iff_ne.2 λe=>hx ?_) (ih _ C7)));grind
 grind
theorem Ns.ok{m:Int}{l:List Int}(h:Ns s m l):Jb s m l=some true:=by
 have d:=h.pos;have e:=h.len;refine Ok.val ?_;unfold Jb;refine yc l.length (λrec=>Ok.f (y3 (by grind))) λrec k hk ih=>Ok.t ?_;obtain⟨a,b⟩:=h.all _ (ud hk);refine y5 hk (qr a.measure (y4 (by grind) (Ok.t ?_)));rw[cu _ (by omega),cn (λc=>ZW h.asc hk _ c rfl) (by grind)];exact qr rfl (y4 rfl (ih _ C7))
theorem ET.right(b:DS s){e:Av}(h:ET s e){d:Nat}(hd:40<=d):Fe (d+2) s e=some true:=by
 cases h with
 | table m g c a k h =>
   refine ba b hd rfl (VC rfl (.inr rfl) (.inl rfl) (.inr rfl) (.inr rfl)) (Ok.val ?_) (λ_=>h) (λh=>by cases h) rfl rfl
   iterate 5 refine y4 rfl ?_
   refine y7 rfl (qr (k.ok b) (y7 rfl (y6 (λ_=>y3 rfl) λe=>?_)));rcases a with rfl|a
   ·cases e
   ·exact qr a.measure (y3 rfl)
 | model m j c a l h =>
   refine ba b hd rfl (VC rfl (.inr rfl) (.inl rfl) (.inr rfl) (.inr rfl)) (Ok.val ?_) (λ_=>h) (λh=>by cases h) rfl rfl
   iterate 6 refine y4 rfl ?_
   exact y7 rfl (qr a.measure (y7 rfl (qr l.ok (y3 rfl))))
 | curve m ev c a n o h =>
   obtain⟨i,rfl,_,f,p⟩:=a;refine ba b hd rfl (VC rfl (.inr rfl) (.inl rfl) (.inl rfl) (.inr rfl)) (Ok.val ?_) (λ_=>h) (λ_=>o) rfl rfl
   iterate 7 refine y4 rfl ?_
   exact y7 rfl (qr (Z9 f p) (y7 rfl (y5 f (y3 (un (n _ (Cf f)))))))
def kd(e:Av):Int:=if e.Op<10 then 1 else e.Op-8
theorem ri(a:List AF){d:Nat}{e:Av}(h:ET s e)(hd:1<=d):LK d a e=some (kd e,0):=by
 obtain⟨d,rfl⟩:∃k,d=k+1:=⟨d-1,by omega⟩;have hk:=h.kids;refine Ok.val ?_;show Ok (KX d (LK d) a e) _;unfold KX;refine y8 (λq=>q.2) 0 (λk q=>q.1=true) 0 (ug _) rfl rfl (by omega) (λrec q b c=>?_) λrec k q hk b c ih=>absurd hk (by omega);simp only[OV,b,c,hk];refine y4 rfl ?_
 cases h<;>exact y4 rfl (y4 rfl (qr (x:=false) rfl (y4 rfl (y3 rfl))))
theorem pp(a:DS s){d:Nat}{e:Av}(h:ET s e)(hd:41<d):Ok (CR d s e) (NA s):=by
 obtain⟨d,rfl⟩:∃k,d=k+1:=⟨d-1,by omega⟩;have i:=fV a (d:=d) (by omega);have hk:e.H.length<=2/\∀k∈e.H,Ok (CR d s k) (NA s):=by rw[h.kids];exact⟨by simp,(λk hk=>by cases hk)⟩
 have d0:(([]:List Ac).length<=10/\∀p∈([]:List Ac),MC s p):=⟨by simp,(λp hp=>by cases hp)⟩;have j:(([]:List Int).length<=10/\∀p∈([]:List Int),IM s p):=⟨by simp,(λp hp=>by cases hp)⟩
 cases h with
 | table m b c f l h=>exact aV a (aW a ⟨by have:=l.len;show b.length<=10;omega,λp hp=>(l.all p hp).2⟩ j (λh=>f.resolve_left (λe=>absurd h (by show ¬(0:Int)<m;omega))) λh=>by cases h) (h.needs a (by omega)) i hk
 | model m g c f n h=>exact aV a (aW a d0 ⟨by have:=n.len;show g.length<=10;omega,λp hp=>(n.all p hp).1⟩ (λ_=>f) λh=>by cases h) (h.needs a (by omega)) i hk
 | curve m ev c f q o h=>exact aV a (aW a d0 j (λ_=>f) λh=>by cases h) (h.needs a (by omega)) (o.needs a (by omega)) hk
theorem ET.right'(a:DS s){e:Av}(h:ET s e){d:Nat}(hd:50<=d):Ez d s e=some true/\Ok (CR d s e) (NA s):=by
 obtain⟨d,rfl⟩:∃k,d=k+2:=⟨d-2,by omega⟩;refine⟨Ok.val ?_,pp a h (by omega)⟩;unfold Ez;exact qr a.check (y7 rfl (qr (h.right a (by omega)) (y3 rfl)))
theorem oN{l:List Az}{p:Az->Option Bool}(q:Az->Bool)(hp:∀x∈l,p x=some (q x))(a:l.length<=1000000000):AU l p=some (l.any q):=by
 unfold AU;rw[show B4 l p=some (GT q l)from IB hp a,ue,Lv]
theorem ry{l:List Az}(b:l.length<=4)(a:ByteArray):CP a l=some (l.any λx=>x.I.toList==a.toList):=by
 unfold CP;rw[oN (p:=λa0=>EZ a0 a) (λx=>x.I.toList==a.toList) (λ_ _=>rfl) (by omega)];rfl
theorem ET.sizes{e:Av}(h:ET s e){d:Nat}(hd:20<=d)(f:ByteArray->Option Bool):Ok (H8 d e 60) (λr=>r<=60)/\Ok (IH d e) (λr=>r<=10)/\G0 d e f=some true:=by
 obtain⟨d,rfl⟩:∃k,d=k+1:=⟨d-1,by omega⟩;have hk:=h.kids;refine⟨?_,?_,Ok.val ?_⟩
 ·show Ok (Hu d (H8 d) e 60) _;unfold Hu;refine y8 (λq=>q.2) 0 (λk q=>q.1<=60) 0 (ug _) rfl (by grind) (by omega) (λrec q a b=>?_) λrec k q hk a b ih=>absurd hk (by omega);simp only[L6,a,hk];exact y4 rfl (y3 b)
 ·show Ok (Iw d (IH d) e) _;unfold Iw;refine y8 (λq=>q.2) 0 (λk q=>q.1=0) 0 (ug _) rfl rfl (by omega) (λrec q a b=>?_) λrec k q hk a b ih=>absurd hk (by omega);simp only[M5,a,hk,b];exact y4 rfl (y3 (by decide))
 ·show Ok (Hv d (G0 d) (Ft d) e f) _;unfold Hv;have c:Ok ((Aw e.H (λa0=>Ft d a0 f)).bind λx18=>some (!x18)) (·=true):=qr (ig (λx hx=>by rw[hk]at hx;cases hx) (by grind)) (y3 rfl)
  cases h<;>exact y4 rfl c
