/- QC -/
import Derived.Test.YtkjijhldfdplgaaGreatDoorQB
open Go.IntKind (i64)
set_option linter.all false
namespace Go.Proofs.YtkjijhldfdplgaaGreatDoor.P
open Go Go.Abs Go.Proofs
set_option maxRecDepth 100000
section
variable {s:Aa}
inductive RC(s:Aa):Nat->Ah->Prop
 | all (n:Nat):RC s n aE
 | under (n:Nat) (i:Nat) (hi0:1<=i) (hi:i<s.A.length) (h:Nt s.A[i]) (L:Aq) (hL:L∈YZ) (hL2:idx s.K s.A[i].Am=some L) (k:Int) (h0:0<=k) (h1:k<L.U.length):RC s n { Op:=2,B:=i,Z:=k,D:=0,E:=0,G:=[] }
 | between (n:Nat) (i:Nat) (hi0:1<=i) (hi:i<s.A.length) (h:ER s.A[i]) (l u:Int) (h0:-1000000<=l) (h1:l<=u) (h2:u<=1000000):RC s n { Op:=3,B:=i,Z:=0,D:=l,E:=u,G:=[] }
 | miss (n:Nat) (i:Nat) (hi0:1<=i) (hi:i<s.A.length) (h:ER s.A[i]) (ho:s.A[i].A2=true):RC s n { Op:=4,B:=i,Z:=0,D:=0,E:=0,G:=[] }
 | and (n na nb:Nat) (hn:na+nb+2<=n) (a b:Ah) (ha:RC s na a) (hb:RC s nb b):RC s n { Op:=5,B:=0,Z:=0,D:=0,E:=0,G:=[a,b] }
 | or (n na nb:Nat) (hn:na+nb+2<=n) (a b:Ah) (ha:RC s na a) (hb:RC s nb b):RC s n { Op:=6,B:=0,Z:=0,D:=0,E:=0,G:=[a,b] }
 | not (n na:Nat) (hn:na+1<=n) (a:Ah) (ha:RC s na a):RC s n { Op:=7,B:=0,Z:=0,D:=0,E:=0,G:=[a] }
theorem RC.mono{n:Nat}{c:Ah}(h:RC s n c){m:Nat}(q:n<=m):RC s m c:=by
 cases h with
 | all n=>exact .all _
 | under n i d e h L o f k g j=>exact .under _ i d e h L o f k g j
 | between n i d e h l u g j p=>exact .between _ i d e h l u g j p
 | miss n i d e h ho=>exact .miss _ i d e h ho
 | and n na nb hn a b ha hb=>exact .and _ na nb (by omega) a b ha hb
 | or n na nb hn a b ha hb=>exact .or _ na nb (by omega) a b ha hb
 | not n na hn a ha=>exact .not _ na (by omega) a ha
def sm(l:List Nat):Nat:=(l.map (·+1)).sum
theorem RC.sizes{n:Nat}{c:Ah}(h:RC s n c):∃ns:List Nat,ns.length=c.G.length/\ns.length<=2/\(∀(k:Nat)(hk:k<ns.length)(d:k<c.G.length),RC s ns[k] c.G[k])/\sm ns<=n:=by
 have none:c.G=[]->∃ns:List Nat,ns.length=c.G.length/\ns.length<=2/\(∀(k:Nat)(hk:k<ns.length)(d:k<c.G.length),RC s ns[k] c.G[k])/\sm ns<=n:=λe=>⟨[],by rw[e];rfl,by simp,(λk hk=>by simp at hk),by simp[sm]⟩
 have m:∀{f g:Nat}{a b:Ah},f+g+2<=n->RC s f a->RC s g b->c.G=[a,b]->∃ns:List Nat,ns.length=c.G.length/\ns.length<=2/\(∀(k:Nat)(hk:k<ns.length)(d:k<c.G.length),RC s ns[k] c.G[k])/\sm ns<=n:=by
  intro f g a b i j l e;refine⟨[f,g],by rw[e];rfl,by simp,λk hk d=>?_,by simp[sm];omega⟩;grind
 cases h with
 | and n f g i a b j l=>grind
 | or n f g i a b j l=>grind
 | not n f i a j =>
   refine⟨[f],rfl,by simp,λk hk d=>?_,by simp[sm];omega⟩;grind
 | _=>exact none rfl
theorem RC.kids{n:Nat}{c:Ah}(h:RC s n c):c.G.length<=2/\∀k∈c.G,∃m,n=m+1/\RC s m k:=by
 cases h with
 | and n na nb hn a b ha hb=>exact⟨by simp,λk hk=>by simp at hk;rcases hk with rfl|rfl<;>exact⟨n-1,by omega,RC.mono (by assumption) (by omega)⟩⟩
 | or n na nb hn a b ha hb=>exact⟨by simp,λk hk=>by simp at hk;rcases hk with rfl|rfl<;>exact⟨n-1,by omega,RC.mono (by assumption) (by omega)⟩⟩
 | not n na hn a ha=>exact⟨by simp,λk hk=>by simp at hk;subst hk;exact⟨n-1,by omega,ha.mono (by omega)⟩⟩
 | _=>exact⟨by simp[aE],λk hk=>by simp[aE]at hk⟩
def DP:Nat->Ah->Prop
 | 0,c=>c.G=[]
 | k+1,c=>∀x∈c.G,DP k x
theorem DP.leaf:∀{k:Nat}{c:Ah},c.G=[]->DP k c
 | 0,_,h=>h
 | k+1,c,h=>λx hx=>by rw[h]at hx;cases hx
theorem DP.mono:∀{k:Nat}{c:Ah},DP k c->∀{m:Nat},k<=m->DP m c
 | 0,_,h,_,_=>.leaf h
 | k+1,c,h,0,hm=>by omega
 | k+1,c,h,m+1,hm=>λx hx=>DP.mono (h x hx) (by omega)
theorem XI(f:DS s):Ok (C6 s 2) λl=>l≠[]/\l.length<=6/\∀v∈l,∃i:Nat,v=i/\1<=i/\∃m:i<s.A.length,Nt s.A[i]:=by
 have o:=f.cols_length
 have a:∃m:1<s.A.length,Nt s.A[1]:=by
  refine⟨by omega,?_⟩;obtain⟨j,p,e,_⟩:=f.cols;have d:s.A[1]?=some sH:=by rw[e];cases j<;>rfl
  rw[P3 (by omega)]at d;rw[sY d];exact⟨rfl,.inl rfl,rfl,rfl,rfl,rfl⟩
 unfold C6
 refine y7 (λq=>q.1) s.A.length (λk q=>q.2.length<=k/\(∀v∈q.2,∃i:Nat,v=i/\1<=i/\∃m:i<s.A.length,Nt s.A[i])/\(1<k->(1:Int)∈q.2)) 0 (sZ _) rfl
  ⟨td _,(λv b=>by cases b),λh=>by omega⟩ (by omega) (λrec q hq c=>?_) λrec k q hk hq c ih=>?_
 ·simp only[DX,hq];rw[EL];exact ur ⟨(λe=>by have:=c.2.2 (by omega);rw[e]at this;cases this),by have:=c.1;omega,c.2.1⟩
 ·simp only[DX,hq];rw[C4];have n:=c.1;refine y4 hk (y5 (λe=>Ok.rm (by grind) (ih _ CB ⟨by simp;omega,λv b=>?_,λg=>?_⟩)) λe=>ih _ CB ⟨by show q.2.length<=k+1;omega,c.2.1,λg=>?_⟩)
  ·rcases List.mem_append.1 b with b|b
   ·grind
   ·rw[vi]at b;have e:s.A[k].Kind=2:=by grind
    rcases f.cl hk with⟨_,a⟩|⟨r,a|a⟩
    ·rw[a]at e;cases e
    ·grind
    ·rw[a.kind]at e;cases e
  ·grind
  ·by_cases d:k=1
   ·subst d;obtain⟨_,a⟩:=a;rw[a.kind]at e
    cases e
   ·grind
theorem lM{c:Ab}(b:GW c)(d:DS s):Ok (GI c s) λr=>GW r.2/\∃i:Nat,r.1=i/\1<=i/\∃g:i<s.A.length,Nt s.A[i]:=by
 unfold GI;refine Ok.bind (XI d) λl a=>?_;have:l.length≠0:=λe=>a.1 (tx e);have f:=a.2.1;refine Ok.bind (Di b (by omega) (by omega)) λy hy=>Ok.idx hy.2.1 (by omega) (ur ⟨hy.1,a.2.2 _ (ta _)⟩)
theorem XA{c:Ab}(q:GW c)(t:DS s)(n:Nat):Ok ((Bs c s).bind λd =>
        (idx s.A d.1).bind λf =>
        (AK d.2 (-3) 40).bind λe =>
        (A6 e.2 30).bind λg =>
        some (({ Op:=3,B:=d.1,Z:=0,D:=(i64.wrap (f.D+e.1)),E:=(i64.wrap ((i64.wrap (f.D+e.1))+g.1)),G:=[] }:Ah),g.2)) λr=>GW r.2/\RC s n r.1/\r.1.G=[]:=by
 refine Ok.bind (JP q t) λz u=>?_;obtain⟨v,x⟩:=z;obtain⟨h,i,j,k,l,m⟩:=u;obtain rfl:v=(i:Int):=j;refine y4 l (Ok.bind (Gq h (by omega) (by omega) (by omega) (by omega)) λa o=>Ok.bind (Di o.1 (by omega) (by omega)) λb p=>ur ⟨p.1,?_⟩);obtain⟨y,A⟩:=m.low;obtain⟨_,C,F⟩:=o;obtain⟨_,H,I⟩:=p;have w:i64.wrap (s.A[i].D+a.1)=s.A[i].D+a.1:=wr;rw[w,wr];exact⟨.between n i k l m _ _ (by omega) (by omega) (by omega),rfl⟩
theorem i6{c:Ab}(m:GW c)(f:DS s)(n:Nat):Ok (Fw s c) λr=>GW r.2/\RC s n r.1/\r.1.G=[]:=by
 have g:∀{c:Ab},GW c->Ok ((Bs c s).bind λa =>
  (idx s.A a.1).bind λh =>
  bif h.A2 then
   some (({ Op:=4,B:=a.1,Z:=0,D:=0,E:=0,G:=[] }:Ah),a.2)
  else
   some (({ Op:=1,B:=0,Z:=0,D:=0,E:=0,G:=[] }:Ah),a.2)) λr=>GW r.2/\RC s n r.1/\r.1.G=[]:=by
  intro c m;refine Ok.bind (JP m f) λz o=>?_;obtain⟨p,w⟩:=z;obtain⟨b,i,d,e,j,l⟩:=o;obtain rfl:p=(i:Int):=d;exact y4 j (y5 (λho=>ur ⟨b,.miss n i e j l ho,rfl⟩) λ_=>ur ⟨b,.all n,rfl⟩)
 unfold Fw;refine Ok.bind (Di m (by omega) (by omega)) λy hy=>y5 (λ_=>?_) λ_=>y5 (λ_=>XA hy.1 f n) λ_=>y5 (λ_=>XA hy.1 f n) λ_=>y5 (λ_=>g hy.1) λ_=>ur ⟨hy.1,.all n,rfl⟩;refine Ok.bind (lM hy.1 f) λz o=>?_;obtain⟨p,w⟩:=z;obtain⟨b,i,d,e,j,l⟩:=o;obtain rfl:p=(i:Int):=d;obtain⟨L,t,k⟩:=f.clist l;have x:=(N1 t).some_
 have v:1<=L.U.length/\L.U.length<=1000:=by
  have:YZ.all (λL=>decide (1<=L.U.length)&&decide (L.U.length<=1000))=true:=by decide +kernel
  grind
 refine y4 j (qr k (Ok.bind (Di b (by omega) (by omega)) λu q=>ur ⟨q.1,.under n i e j l L t k _ q.2.1 q.2.2,rfl⟩))
def bw:Nat->Nat
 | 0=>0
 | n+1=>2*bw n+2
theorem i7(i:DS s):∀(n d:Nat){c:Ab},GW c->n<d->n<=1000->Ok (AN d c s n) λr=>GW r.2/\RC s (bw n) r.1/\DP n r.1
 | 0,d+1,c,h,_,_=>by
   show Ok (DC d (AN d) c s 0) _;unfold DC;exact y3 rfl ((i6 h i 0).mono λr hr=>⟨hr.1,hr.2.1,.leaf hr.2.2⟩)
 | n+1,d+1,c,h,hd,hn=>by
   have ih:=λ{c:Ab}(h:GW c)=>i7 i n d h (by omega) (by omega);show Ok (DC d (AN d) c s ((n+1:Nat):Int)) _;have e:i64.wrap (((n+1:Nat):Int)-1)=(n:Int):=by rw[wr];omega
   have g:bw (n+1)=2*bw n+2:=rfl;unfold DC;rw[e];refine y6 dt (Ok.bind (Di h (by omega) (by omega)) λy hy=>y5 (λ_=>?_) λ_=>y5 (λ_=>?_) λ_=>y5 (λ_=>?_) λ_=>(i6 hy.1 i _).mono λr hr=>⟨hr.1,hr.2.1,.leaf hr.2.2⟩)
   ·exact Ok.bind (ih hy.1) λa f=>ur ⟨f.1,.not _ _ (by omega) _ f.2.1,λx hx=>by rw[List.mem_singleton.1 hx];exact f.2.2⟩
   ·exact Ok.bind (ih hy.1) λa f=>Ok.bind (ih f.1) λb g=>ur ⟨g.1,.and _ _ _ (by omega) _ _ f.2.1 g.2.1,λx hx=>by
     simp only[vA,vV,or_false]at hx;rcases hx with rfl|rfl
     ·exact f.2.2
     ·exact g.2.2⟩
   ·exact Ok.bind (ih hy.1) λa f=>Ok.bind (ih f.1) λb g=>ur ⟨g.1,.or _ _ _ (by omega) _ _ f.2.1 g.2.1,λx hx=>by
     simp only[vA,vV,or_false]at hx;rcases hx with rfl|rfl
     ·exact f.2.2
     ·exact g.2.2⟩
theorem fk{ns:List Nat}{k:Nat}(hk:k<ns.length):sm (ns.take (k+1))=sm (ns.take k)+(ns[k]+1):=by
 unfold sm;rw[tp hk,tA,List.sum_append];simp
theorem Ka(ns:List Nat)(k:Nat):sm (ns.take k)<=sm ns:=by
 have:sm ns=sm (ns.take k)+sm (ns.drop k):=by
  unfold sm;rw[<-List.sum_append,<-tA,w5]
 omega
theorem ni:∀(n d:Nat){c:Ah}{m:Int},RC s n c->n<d->n<=1000->-10000<=m->m<=1000->Ok (FM d c m) λr=>1<=r/\r<=n+1
 | n,d+1,c,m,h,hd,hn,hm0,hm1=>by
   obtain⟨ns,p,g,hk,f⟩:=h.sizes;show Ok (FY d (FM d) c m) _;unfold FY;refine y7 (λq=>q.2) c.G.length (λk q=>1<=q.1/\q.1<=1+(sm (ns.take k):Nat)) 0 (sZ _) rfl ⟨by omega,by simp[sm]⟩ (by omega) (λrec q hq e=>?_) λrec k q a hq e ih=>?_
   ·have:=Ka ns c.G.length;simp only[Hj,hq];rw[EL];exact ur ⟨e.1,by have:=e.2;omega⟩
   ·have b:k<ns.length:=by omega
    have t:=Ka ns k;have u:=Ka ns (k+1);have i:=fk b;obtain⟨j,v⟩:=e;simp only[Hj,hq];rw[C4];refine y4 a (y8 (λ_=>ur ⟨j,by omega⟩) λl=>?_);have o:i64.wrap (m-q.1)=m-q.1:=wr;rw[o];refine Ok.bind (ni ns[k] d (hk k b a) (by omega) (by omega) (by omega) (by omega)) λr hr=>ih _ CB ?_;show 1<=i64.wrap (q.1+r)/\i64.wrap (q.1+r)<=1+(sm (ns.take (k+1)):Nat);rw[wr,i];omega
theorem DP.zero_kids{c:Ah}(h:DP 0 c):c.G=[]:=h
theorem nj:∀(n d k:Nat){c:Ah},RC s n c->n<d->DP k c->k<=100->Ok (D9 d c) λr=>1<=r/\r<=k+1
 | n,d+1,k0,c,h,hd,hp,hk0=>by
   obtain⟨b,a⟩:=h.kids;show Ok (Fl d (D9 d) c) _;unfold Fl;refine y7 (λq=>q.2) c.G.length (λk q=>0<=q.1/\q.1<=k0) 0 (sZ _) rfl ⟨ua _,by show(0:Int)<=k0;omega⟩ (by omega) (λrec q hq e=>?_) λrec k q hk hq e ih=>?_
   ·simp only[Ir,hq];rw[EL,wr];exact ur ⟨by omega,by omega⟩
   ·obtain⟨m,f,hr⟩:=a _ (ta hk);subst f
    cases k0 with
    | zero=>have:=hp.zero_kids;rw[this]at hk;simp at hk
    | succ j =>
      simp only[Ir,hq];rw[C4];refine y4 hk (Ok.bind (nj m d j hr (by omega) (hp _ (ta hk)) (by omega)) λr hr=>ih _ CB ?_);grind
theorem cS(f:DS s){n:Nat}{c:Ah}(h:RC s n c):Fv s c=some 0:=by
 have m:=f.cols_length;refine Ok.val ?_;unfold Fv;have b:∀(i:Nat),i<s.A.length->(bif decide ((i:Int)<0)then true else decide ((i:Int)>=(s.A.length:Int)))=false:=by grind
 cases h with
 | all=>exact y3 rfl (qr (x:=0) rfl (y3 rfl (qr (x:=true) rfl (y3 rfl (y6 rfl (ur rfl))))))
 | and=>exact y3 rfl (qr (x:=2) rfl (y3 rfl (qr (x:=true) rfl (y3 rfl (y6 rfl (ur rfl))))))
 | or=>exact y3 rfl (qr (x:=2) rfl (y3 rfl (qr (x:=true) rfl (y3 rfl (y6 rfl (ur rfl))))))
 | not=>exact y3 rfl (qr (x:=1) rfl (y3 rfl (qr (x:=true) rfl (y3 rfl (y6 rfl (ur rfl))))))
 | under n i d a h L o e k g j =>
   refine y3 rfl (qr (x:=0) rfl (y3 rfl (qr (x:=true) rfl (y3 rfl (y3 rfl (y3 (b i a) ?_))))));unfold Ej;exact y4 a (y6 rfl (y3 (by rw[h.kind];rfl) (y3 (tD (by show ¬k<0;omega)) (qr e (y3 (tD (by grind)) (ur rfl))))))
 | between n i d a h l u g j p =>
   refine y3 rfl (qr (x:=0) rfl (y3 rfl (qr (x:=true) rfl (y3 rfl (y3 rfl (y3 (b i a) ?_))))));unfold Ej;refine y4 a (y3 rfl (y6 rfl (y3 (by rw[h.kind];rfl) (y3 ?_ (ur rfl)))));grind
 | miss n i d a h ho =>
   refine y3 rfl (qr (x:=0) rfl (y3 rfl (qr (x:=true) rfl (y3 rfl (y3 rfl (y3 (b i a) ?_))))));unfold Ej;exact y4 a (y3 rfl (y3 rfl (y6 rfl (y3 (by rw[h.kind,ho];rfl) (ur rfl)))))
theorem Ww(b:DS s):∀(n d:Nat){c:Ah},RC s n c->n<d->Em d s c=some 0
 | n,d+1,c,h,hd=>by
   obtain⟨e,a⟩:=h.kids;refine Ok.val ?_;show Ok (E0 d (Em d) s c) _;unfold E0;refine qr (cS b h) (y3 rfl ?_);refine y7 (λq=>q) c.G.length (λ_ _=>True) 0 (sZ _) rfl trivial (by omega) (λrec q hq f=>?_) λrec k q hk hq f ih=>?_
   ·simp only[FF,hq];rw[EL];exact ur rfl
   ·obtain⟨m,g,hr⟩:=a _ (ta hk);subst g;simp only[FF,hq];rw[C4];exact y4 hk (qr (Ww b m d hr (by omega)) (y3 rfl (ih _ CB trivial)))
theorem RC.check(a:DS s){n:Nat}{c:Ah}(h:RC s n c)(b:n<=39/\DP 9 c){d:Nat}(hd:n<d):BK d s c=some 0:=by
 refine Ok.val ?_;unfold BK;exact qr a.check (y3 rfl (Ok.bind (ni n d h hd (by omega) (by omega) (by omega)) λr hr=>y3 df (Ok.bind (nj n d 9 h hd b.2 (by omega)) λr hr=>y3 df (qr (Ww a n d h hd) (ur rfl)))))
theorem XM:∀(d:Nat)(c:Ah),D9 d c=IG d c
 | 0,_=>rfl
 | d+1,c=>by
   show Fl d (D9 d) c=LL d (IG d) c;rw[show D9 d=IG d from funext (XM d)];rfl
theorem nA:∀(n d:Nat){c:Ah}{m:Int},RC s n c->n<d->n<=1000->-10000<=m->m<=1000->Ok (JV d c m) λr=>1<=r/\r<=n+1
 | n,d+1,c,m,h,hd,hn,hm0,hm1=>by
   obtain⟨ns,p,g,hk,f⟩:=h.sizes;show Ok (Jp d (JV d) c m) _;unfold Jp;refine y7 (λq=>q.2) c.G.length (λk q=>1<=q.1/\q.1<=1+(sm (ns.take k):Nat)) 0 (sZ _) rfl ⟨by omega,by simp[sm]⟩ (by omega) (λrec q hq e=>?_) λrec k q a hq e ih=>?_
   ·have:=Ka ns c.G.length;simp only[KB,hq];refine y3 ?_ (ur ⟨e.1,by have:=e.2;omega⟩);rw[df];rfl
   ·have b:k<ns.length:=by omega
    have t:=Ka ns k;have u:=Ka ns (k+1);have i:=fk b;obtain⟨j,v⟩:=e;simp only[KB,hq];rw[ti (show((k:Nat):Int)<c.G.length by omega),tJ];refine y8 (λ_=>y4 a ?_) λl=>ur ⟨j,by omega⟩;have o:i64.wrap (m-q.1)=m-q.1:=wr;rw[o];refine Ok.bind (nA ns[k] d (hk k b a) (by omega) (by omega) (by omega) (by omega)) λr hr=>ih _ CB ?_;show 1<=i64.wrap (q.1+r)/\i64.wrap (q.1+r)<=1+(sm (ns.take (k+1)):Nat);rw[wr,i];omega
theorem mC{i:Nat}(a:i<s.A.length)(k:Int):Oh s i k=some (s.A[i].Kind==k):=by
 refine Ok.val ?_;unfold Oh;refine y6 ?_ (y4 a (ur rfl));grind
theorem kA{self:Aa->Ah->Option Int}{c:Ah}(h:c.G.length<=2)(hk:∀k∈c.G,self s k=some 0):iter (λa d=>Jq c self s (λe=>some 0) a d) AC 0=some 0:=by
 refine Ok.val ?_;refine y7 (λq=>q) c.G.length (λ_ _=>True) 0 (sZ _) rfl trivial (by omega) (λrec q hq f=>?_) λrec k q b hq f ih=>?_
 ·simp only[Jq,hq];rw[EL];exact ur rfl
 ·simp only[Jq,hq];rw[C4];exact y4 b (qr (hk _ (ta b)) (y3 rfl (ih _ CB trivial)))
theorem qi(p:DS s):∀(n d:Nat){c:Ah},RC s n c->n<d->IH d s c=some 0
 | n,d+1,c,h,hd=>by
   obtain⟨g,j⟩:=h.kids
   have e:∀k∈c.G,IH d s k=some 0:=λk hk=>by
    obtain⟨m,q,hr⟩:=j k hk;subst q;exact qi p m d hr (by omega)
   have a:=kA (s:=s) (self:=IH d) g e;refine Ok.val ?_;show Ok (KD d (IH d) s c) _;unfold KD
   cases h with
   | all =>
     refine y6 rfl ?_;unfold BI;refine y3 rfl (y3 rfl (y3 rfl (y3 rfl ?_)));unfold Cw;refine y3 rfl ?_;unfold De;exact y3 rfl (Ok.eq a)
   | and =>
     refine y3 rfl (y3 rfl (y3 rfl (y3 rfl (y6 rfl ?_))));unfold BI;refine y3 rfl (y3 rfl (y3 rfl (y3 rfl ?_)));unfold Cw;refine y3 rfl ?_;unfold De;exact y3 rfl (Ok.eq a)
   | or =>
     refine y3 rfl (y3 rfl (y3 rfl (y3 rfl (y3 rfl (y6 rfl ?_)))));unfold BI;refine y3 rfl (y3 rfl (y3 rfl (y3 rfl ?_)));unfold Cw;refine y3 rfl ?_;unfold De;exact y3 rfl (Ok.eq a)
   | not =>
     refine y3 rfl (y3 rfl (y3 rfl (y3 rfl (y3 rfl (y3 rfl (y6 rfl ?_))))));unfold BI;refine y3 rfl (y3 rfl (y3 rfl (y3 rfl ?_)));unfold Cw;refine y3 rfl ?_;unfold De;exact y3 rfl (Ok.eq a)
   | under n i f b h L v o k r t =>
     refine y3 rfl (y6 rfl ?_);unfold BI;refine y3 (by simp) (y6 rfl (qr (mC b 2) (y3 (by rw[h.kind];rfl) ?_)));unfold Cw;refine y6 rfl (y3 (tD (by show ¬k<0;omega)) (y4 b (qr o (y3 (tD (by grind)) ?_))));unfold De;exact y3 rfl (Ok.eq a)
   | between n i f b h l u r t w =>
     refine y3 rfl (y3 rfl (y6 rfl ?_));unfold BI;refine y3 (by simp) (y3 rfl (y6 rfl (qr (mC b 3) (y3 (by rw[h.kind];rfl) ?_))));unfold Cw;refine y3 rfl ?_;unfold De;refine y3 ?_ (Ok.eq a);grind
   | miss n i f b h ho =>
     refine y3 rfl (y3 rfl (y3 rfl (y6 rfl ?_)));unfold BI;refine y3 (by simp) (y3 rfl (y3 rfl (y6 rfl (qr (mC b 3) (y3 (by rw[h.kind];rfl) (y4 b (y3 (by grind) ?_)))))));unfold Cw;refine y3 rfl ?_;unfold De;exact y3 rfl (Ok.eq a)
theorem RC.rcheck(a:DS s){n:Nat}{c:Ah}(h:RC s n c)(b:n<=39/\DP 9 c){d:Nat}(hd:n<d):Ec d s c=some 0:=by
 refine Ok.val ?_;unfold Ec;exact qr a.rcheck (y3 rfl (Ok.bind (nA n d h hd (by omega) (by omega) (by omega)) λr hr=>y3 df (Ok.bind (XM d c▸nj n d 9 h hd b.2 (by omega)) λr hr=>y3 df (qr (qi a n d h hd) (ur rfl)))))
def GC(s:Aa)(c:Ah):Prop:=∃n,RC s n c/\n<=39/\DP 9 c
theorem GC.check(a:DS s){c:Ah}(h:GC s c){d:Nat}(hd:40<=d):BK d s c=some 0:=by
 obtain⟨n,b,e⟩:=h;exact b.check a e (by omega)
theorem GC.rcheck(a:DS s){c:Ah}(h:GC s c){d:Nat}(hd:40<=d):Ec d s c=some 0:=by
 obtain⟨n,b,e⟩:=h;exact b.rcheck a e (by omega)
theorem GC.op{c:Ah}(h:GC s c):(c.Op != 0)=true:=by
 obtain⟨n,a,_⟩:=h
 cases a<;>rfl
theorem GC.all:GC s aE:=⟨0,.all 0,by omega,.leaf rfl⟩
theorem GC.drawn{n:Nat}{c:Ah}(h:RC s (bw n) c/\DP n c)(a:n<=3):GC s c:=by
 refine⟨bw n,h.1,?_,h.2.mono (by omega)⟩;rcases(by omega:n=0\/n=1\/n=2\/n=3)with rfl|rfl|rfl|rfl<;>decide
theorem Ok.t{α:Type}{p:Prop}[Decidable p]{x y:Option α}{Q:α->Prop}(k:Ok x Q)(h:p:=by omega):Ok (bif decide p then x else y) Q:=by grind
theorem Ok.f{α:Type}{p:Prop}[Decidable p]{x y:Option α}{Q:α->Prop}(k:Ok y Q)(h:¬p:=by omega):Ok (bif decide p then x else y) Q:=by grind
theorem ya{ρ:Type}{body:(Int->Option ρ)->Int->Option ρ}{Q:ρ->Prop}(len:Nat)(a:∀rec,Ok (body rec (len:Int)) Q)(c:∀rec (i:Nat),i<len->(∀v,v=((i+1:Nat):Int)->Ok (rec v) Q)->Ok (body rec (i:Int)) Q)(b:len<=1000000000000:=by omega):Ok (P.iter body AC 0) Q :=
 y7 (λq=>q) len (λ_ _=>True) 0 (sZ _) rfl trivial b (λrec q hq _=>by rw[show q=_ from hq];exact a rec) λrec i q d hq _ ih=>by grind
theorem y9{β ρ:Type}{body:(Int×β->Option ρ)->Int->β->Option ρ}{Q:ρ->Prop}(len:Nat)(I:Nat->β->Prop){a:β}(f:I 0 a)(g:∀rec b,I len b->Ok (body rec (len:Int) b) Q)(j:∀rec (i:Nat) b,i<len->I i b->(∀v c,v=((i+1:Nat):Int)->I (i+1) c->Ok (rec (v,c)) Q)->Ok (body rec (i:Int) b) Q)(h:len<=1000000000000:=by omega):Ok (P.iter (λrec d=>body rec d.1 d.2) AC (0,a)) Q :=
 y7 (λq=>q.1) len (λi q=>I i q.2) 0 (sZ _) rfl f h (λrec q hq e=>by rw[show q.1=_ from hq];exact g rec _ e) λrec i q k hq e ih=>by grind
theorem Ok.any{α:Type}{m:Option α}{P:α->Prop}(h:Ok m P):Ok m λ_=>True:=h.mono λ_ _=>trivial
def sC(L:Aq):Aa:={ K:=[L],A:=[{ ri with Kind:=2 }] }
def aC(k:Int):Ah:={ Op:=2,B:=0,Z:=k,D:=0,E:=0,G:=[] }
theorem Xb:(YZ.all λL=>(List.range L.U.length).all λk=>(List.range (H5 L).toNat).all (λl=>(BE (sC L) (aC k) l).isSome)&&BE (sC L) (aC k) (H5 L-1)==some true&&(List.range L.U.length).all λv=>(FX L (v:Int) (k:Int)).isSome)=true:=by decide +kernel
theorem og{L:Aq}(b:L∈YZ)(v k:Int):Ok (FX L v k) λ_=>True:=by
 have c:=(N1 b).check
 have a:∀v,Lp L v=some (decide (0<=v/\v<L.U.length)):=by
  intro v;refine Ok.val ?_;unfold Lp;by_cases h:0<=v/\v<L.U.length
  ·refine y6 (by grind) (qr c (ur ?_));grind
  ·refine y3 ?_ (ur (by rw[df h]));grind
 by_cases h:0<=v/\v<L.U.length
 ·by_cases d:0<=k/\k<L.U.length
  ·have:=List.all_eq_true.1 Xb L b;have:=(Bool.and_eq_true_iff.1 (List.all_eq_true.1 this k.toNat (List.mem_range.2 (by omega)))).2;have:=List.all_eq_true.1 this v.toNat (List.mem_range.2 (by omega));rw[show((v.toNat:Nat):Int)=v by omega,show((k.toNat:Nat):Int)=k by omega]at this;obtain⟨x,hx⟩:=Option.isSome_iff_exists.1 this;exact⟨x,hx,trivial⟩
  ·unfold FX;exact qr (a v) (y3 (by rw[dt h];rfl) (qr (a k) (y6 (by grind) (ur trivial))))
 ·unfold FX;exact qr (a v) (y6 (by grind) (ur trivial))
structure AL(s:Aa)(a:Ah):Prop where
 at_:a.Op=2\/a.Op=3\/a.Op=4
 col:∃i:Nat,a.B=i/\1<=i/\i<s.A.length/\∀l,0<=l->l<=Da s i->Ok (BE s a l) λb=>l=Da s i->b=true
 atom:∀v,Ok (D8 s a v) λt=>-1<=t/\t<=1
theorem YQ(b:Bool):Ok (DV b) λt=>-1<=t/\t<=1:=by cases b<;>exact ur (by decide)
theorem jw{c:Au}(h:ER c):Ld c c.S.length=1:=by
 unfold Ld;rw[Int.sub_self];rcases eE h.widths with e|e|e|e<;>rw[e]<;>rfl
theorem io(P:DS s){m:Nat}{c:Ah}(h:RC s m c)(ho:c.Op=2\/c.Op=3\/c.Op=4):AL s c:=by
 cases h with
 | under n i d a h L u g k Q R =>
   have j:=N1 u;have S:=j.lev2;have T:=j.lev3
   have J:∀v,D8 s { Op:=2,B:=i,Z:=k,D:=0,E:=0,G:=[] } v=(FX L v k).bind λx=>(DV x).bind λy=>some y:=by
    intro v;show(idx s.A (i:Int)).bind _=_;rw[DG a,tc];grind
   have U:∀v,D8 (sC L) (aC k) v=(FX L v k).bind λx=>(DV x).bind λy=>some y:=λv=>rfl
   have K:∀l,BE s { Op:=2,B:=i,Z:=k,D:=0,E:=0,G:=[] } l=BE (sC L) (aC k) l:=by
    intro l;unfold BE;show(idx s.A (i:Int)).bind _=_;rw[DG a,tc];show(idx s.K s.A[i].Am).bind _=(EW L).bind _;rw[g,tc];unfold Il;grind
   refine⟨ho,⟨i,rfl,d,a,λl H w=>?_⟩,λv=>?_⟩
   ·have z:Da s i=H5 L-1:=by rw[Es a,FO h g]
    have:=List.all_eq_true.1 Xb L u;have:=(Bool.and_eq_true_iff.1 (List.all_eq_true.1 this k.toNat (List.mem_range.2 (by omega)))).1;rw[show((k.toNat:Nat):Int)=k by omega]at this;obtain⟨f1,f2⟩:=Bool.and_eq_true_iff.1 this;have f1:=List.all_eq_true.1 f1 l.toNat (List.mem_range.2 (by omega));rw[show((l.toNat:Nat):Int)=l by omega]at f1;obtain⟨x,hx⟩:=Option.isSome_iff_exists.1 f1;refine⟨x,(K l).trans hx,λe=>?_⟩;grind
   ·rw[J];exact(og u v k).bind λx _=>(YQ x).bind λy hy=>ur hy
 | between n i d a h lo f a0 V W =>
   obtain⟨w,X⟩:=h.low;obtain⟨Y,l4⟩:=h.high;have z:Da s i=s.A[i].S.length:=by rw[Es a,Db h]
   refine⟨ho,⟨i,rfl,d,a,λl H w=>?_⟩,λv=>?_⟩
   ·have A:=Fj h;unfold BE;refine y4 a (y3 rfl (y5 (λe=>ur λC=>?_) λ_=>y3 rfl (y8 (λ_=>ur λ_=>rfl) λ_=>y5 (λe=>ur λC=>?_) λe=>?_)))
    ·grind
    ·grind
    ·have C:l≠0:=λo=>by rw[o]at e;cases e
     have M:=FV h (l:=l) (by omega) (by omega);have F:H3 s.A[i] l=some (Ld s.A[i] l):=by unfold H3;rw[cq h (by omega) (by omega)];rfl
     have p:∀n:Int,-100000000<=n->n<=100000000->Ok (E1 n (Ld s.A[i] l)) λr=>l=Da s i->r=n:=λn N O=>by
      rw[show E1 n (Ld s.A[i] l)=some (n-n%Ld s.A[i] l)from MK M.1 (by omega) N O];exact ur λo=>by rw[o,z,jw h];omega
     have g1:-100<=(if s.A[i].D>lo then s.A[i].D else lo)\/True:=.inr trivial;have b1:-1000000<=(if s.A[i].D>lo then s.A[i].D else lo)/\(if s.A[i].D>lo then s.A[i].D else lo)<=1000000:=by grind
     have b2:-1000000<=(if s.A[i].E<f then s.A[i].E else f)/\(if s.A[i].E<f then s.A[i].E else f)<=1000000:=by grind
     have q:Ok ((E1 (i64.wrap ((if s.A[i].E<f then s.A[i].E else f)+1)) (Ld s.A[i] l)).bind λt=>some (t==(i64.wrap ((if s.A[i].E<f then s.A[i].E else f)+1)))) λb=>l=Da s i->b=true:=by
      rw[wr];exact(p _ (by omega) (by omega)).bind λr hr=>ur λo=>by grind
     refine qr F (y5 (λ_=>y5 (λ_=>ur λ_=>rfl) λ_=>q) λ_=>(p _ (by grind) (by show(if s.A[i].D>lo then s.A[i].D else lo)<=100000000;omega)).bind λr hr=>y5 (λ_=>y5 (λ_=>ur λ_=>rfl) λ_=>q) λe3=>ur λo=>?_);grind
   ·unfold D8;refine y3 rfl (y3 rfl (y5 (λ_=>ur (by decide)) λ_=>(YQ _).bind λy hy=>ur hy))
 | miss n i d a h I =>
   have z:Da s i=s.A[i].S.length:=by rw[Es a,Db h]
   refine⟨ho,⟨i,rfl,d,a,λl H w=>?_⟩,λv=>?_⟩
   ·have A:=Fj h;unfold BE;refine y4 a (y3 rfl (y5 (λe=>ur λC=>?_) λ_=>y6 rfl (ur λ_=>rfl)));grind
   ·unfold D8;exact y3 rfl (y6 rfl ((YQ _).bind λy hy=>ur hy))
 | all=>rcases ho with h|h|h<;>cases h
 | and=>grind
 | or=>grind
 | not=>grind
theorem iO{c:Ah}(h:(bif(bif(c.Op==2)then true else(c.Op==3))then true else(c.Op==4))=true):c.Op=2\/c.Op=3\/c.Op=4:=by grind
theorem aL{A:Ah->Prop}(p:∀{m:Nat}{c:Ah},RC s m c->(c.Op=2\/c.Op=3\/c.Op=4)->A c):∀(n d m:Nat){c:Ah},RC s m c->DP n c->m<d->n<=20->Ok (CI d c) λl=>l.length<=2 ^ n/\∀a∈l,A a
 | n,d+1,m,c,h,hp,hd,hn=>by
   obtain⟨i,j⟩:=h.kids;have r:2 ^ n<=2 ^ 20:=tR (by decide) hn;have o:2 ^ (n-1)<=2 ^ 20:=tR (by decide) (by omega);show Ok (EA d (CI d) c) _;unfold EA;refine y5 (λe=>ur ⟨Nat.one_le_two_pow,λa g=>?_⟩) λe=>y9 c.G.length (λk b=>b.length<=k*2 ^ (n-1)/\∀a∈b,A a) ⟨by simp,(λa g=>by cases g)⟩ (λrec b f=>Ok.f (ur ⟨?_,f.2⟩)) λrec k b hk f ih=>?_
   ·rw[List.mem_singleton.1 g];exact p h (iO e)
   ·cases n with
    | zero=>have:=f.1;rw[show c.G=[]from hp]at this;simp at this;simp[this]
    | succ n=>refine tw f.1 (tw (tW _ i) ?_);rw[wk,vR];omega
   ·obtain⟨q,t,hr⟩:=j _ (ta hk)
    cases n with
    | zero=>rw[show c.G=[]from hp]at hk;simp at hk
    | succ n =>
      rw[wk]at f o;have u:k*2 ^ n<=2*2 ^ n:=tW _ (by omega);refine Ok.t (y4 hk ((aL p n d q hr (hp _ (ta hk)) (by omega) (by omega)).bind λl v=>Ok.rm (by grind) (ih _ _ CB ⟨?_,λa g=>?_⟩)))
      all_goals grind
theorem lG(b:DS s)(n d m:Nat){c:Ah}(h:RC s m c)(hp:DP n c)(hd:m<d)(e:n<=20):Ok (CI d c) λl=>l.length<=2 ^ n/\∀a∈l,AL s a:=aL (io b) n d m h hp hd e
def NA(s:Aa)(l:List Ac):Prop:=(∀p∈l,QT s p)/\l.length<=100
theorem NA.nil:NA s []:=⟨(λp hp=>by cases hp),by simp⟩
def LV(s:Aa)(b:List Int):Prop:=b.length=s.A.length/\∀(i:Nat)(hi:i<b.length),0<b[i]->1<=i/\b[i]<=Da s i
theorem GC.needs(o:DS s){c:Ah}(h:GC s c){d:Nat}(hd:40<=d):Ok (BL d s c) (NA s):=by
 obtain⟨n,q,x,t⟩:=h;have y:=o.cols_length;unfold BL;refine qr (q.check o ⟨x,t⟩ (by omega)) (y3 rfl (yc (by rw[dt,Sd (by omega)];rfl) ((lG o 9 d n q t (by omega) (by omega)).bind λl z=>?_)));refine y9 l.length (λ_ b=>LV s b) ⟨by simp,λi H g=>by simp at g⟩ (λrec b a=>Ok.f ?_) (λrec k b hk a ih=>Ok.t (y4 hk ?_)) (by grind)
 ·have A:=a.1;refine y9 b.length (λk r=>(∀p∈r,QT s p)/\r.length<=k) ⟨λp hp=>(by cases hp),by simp⟩ (λrec r hr=>Ok.f (ur ⟨hr.1,by have:=a.1;have:=hr.2;omega⟩)) (λrec k r hk hr ih=>Ok.t (y4 hk (y8 (λe=>Ok.rm (by grind) (ih _ _ CB ⟨λp hp=>?_,by simp;exact hr.2⟩)) λ_=>ih _ _ CB ⟨hr.1,by have:=hr.2;omega⟩))) (by have:=a.1;omega);rcases List.mem_append.1 hp with hp|hp
  ·grind
  ·rw[List.mem_singleton.1 hp];obtain⟨B,C⟩:=a.2 k hk e;exact⟨k,B,by have:=a.1;omega,rfl,Int.le_of_lt e,C⟩
 ·have D:=z.2 _ (ta hk);obtain⟨i,E,F,u,m⟩:=D.col;have I:=o.fin_ok F u
  have hK:∀v:Int,0<=v->v<=Da s i->Ok (JC b l[k] rec (k:Int) v) (NA s):=λv J K=>by
   unfold JC;have f:i<b.length:=by rw[a.1];exact u
   rw[E];refine y4 f (y4 f (ih _ _ CB ⟨by rw[vL];exact a.1,λj L g=>?_⟩));simp only[tu,List.getElem_set]at g ⊢;split at g
   ·rename_i e
    rw[tf e];refine⟨by omega,?_⟩;rw[<-e];split
    ·grind
    ·rename_i M
     by_cases G:0<b[i]
     ·exact(a.2 i f G).2
     ·omega
   ·rename_i e
    rw[tn e];exact a.2 j (by grind) g
  refine ya (Da s i).toNat (λrec=>?_) λrec v N ih2=>?_
  ·refine(m _ (by omega) (by omega)).bind λb w=>?_;rw[w (by omega)];exact y3 rfl (hK _ (by omega) (by omega))
  ·exact(m _ (by omega) (by omega)).bind λb w=>y5 (λ_=>ih2 _ CB) λ_=>hK _ (by omega) (by omega)
theorem SN(g:DS s){f:Ah->Option Int}(j:∀a,AL s a->Ok (f a) λt=>-1<=t/\t<=1):∀(m d:Nat){c:Ah},RC s m c->m<d->Ok (GG d c f) λt=>-1<=t/\t<=1
 | m,d+1,c,h,hd=>by
   show Ok (GH d (GG d) c f) _;unfold GH;have e:∀{c:Ah},AL s c->Ok ((f c).bind λx=>some x) λt=>-1<=t/\t<=1:=λi=>(j _ i).bind λx hx=>ur hx;have k:=h
   cases h with
   | all=>exact y6 rfl (ur (by decide))
   | under=>exact y3 rfl (y3 rfl (y3 rfl (y3 rfl (e (io g k (.inl rfl))))))
   | between=>exact y3 rfl (y3 rfl (y3 rfl (y3 rfl (e (io g k (.inr (.inl rfl)))))))
   | miss=>exact y3 rfl (y3 rfl (y3 rfl (y3 rfl (e (io g k (.inr (.inr rfl)))))))
   | and n na nb hn a b i hb =>
     exact y3 rfl (y6 rfl (qr (x:=a) rfl ((SN g j na d i (by omega)).bind λp hp=>qr (x:=b) rfl ((SN g j nb d hb (by omega)).bind λq hq=>ur (by grind)))))
   | or n na nb hn a b i hb =>
     exact y3 rfl (y3 rfl (y6 rfl (qr (x:=a) rfl ((SN g j na d i (by omega)).bind λp hp=>qr (x:=b) rfl ((SN g j nb d hb (by omega)).bind λq hq=>ur (by grind))))))
   | not n na hn a i =>
     exact y3 rfl (y3 rfl (y3 rfl (y6 rfl (qr (x:=a) rfl ((SN g j na d i (by omega)).bind λp hp=>ur (by show -1<=i64.wrap (0-p)/\i64.wrap (0-p)<=1;rw[wr];omega))))))
theorem jq{x:Ao}(f:DS s)(hx:GX s x){r:List Int}(hr:r∈x.C){c:Ah}(h:GC s c){d:Nat}(hd:40<=d):Ok (Fu d s c x.H (r.drop 1)) λ_=>True:=by
 obtain⟨n,o,A,B⟩:=h;have p:=f.cols_length;have v:=hx.picks_len f;have w:=(hx.rows r hr).1;unfold Fu;refine yc (by rw[dt,Sd (by omega)];rfl) (y7 (λq=>q.1) s.A.length (λk q=>q.2.length=s.A.length/\1<=k) 1 (by omega) rfl ⟨by simp,by omega⟩ (by omega) (λrec q hq e=>?_) λrec k q hk hq e ih=>?_)
 ·simp only[Iq,hq,e.1];rw[EL];refine y9 x.H.length (λ_ b=>b.length=s.A.length) e.1 (λrec b j=>Ok.f ?_) λrec k b hk j ih=>Ok.t ?_
  ·unfold Jv;refine(Ok.bind (SN f (λa l=>?_) n d o (by omega)) λt _=>ur trivial).bind λt _=>ur trivial;obtain⟨i,g,C,m,_⟩:=l.col;show Ok ((idx b a.B).bind _) _;rw[g];exact y4 (by grind) ((l.atom _).bind λt y=>ur y)
  ·obtain⟨u,z⟩:=hx.valsP f hr k hk (by grind);obtain⟨i,_,m,g,_⟩:=hx.picks _ (ta hk);refine y4 hk (y4 (by grind) (qr z (y3 rfl ?_)));rw[g];exact y4 (by rw[j];exact m) (ih _ _ CB (by grind))
 ·simp only[Iq,hq,e.1];rw[C4];obtain⟨r,hr⟩:=qU f e.2 hk;exact qr hr (y4 (by grind) (ih _ CB ⟨by show(q.2.set _ _).length=_;rw[vL];exact e.1,by omega⟩))
def IX(x:Ao)(r:List Int):Prop:=r.length<=x.C.length/\∀v∈r,∃j:Nat,v=(j:Int)/\j<x.C.length
theorem Wk.covers{x:Ao}{n:Nat}(a:DS s)(hx:Wk s x n){r:List Ac}(h:NA s r):BB x.H r=some true:=by
 have b:=a.cols_length;rw[bO _ _ (by rw[hx.picks,H1];omega) (by have:=h.2;omega),hx.picks];refine congrArg _ (List.all_eq_true.2 λp hp=>List.any_eq_true.2 ?_);obtain⟨i,c,d,e,_,f⟩:=h.1 p hp;refine⟨{ B:=i,T:=Da s i },List.mem_map.2 ⟨i-1,List.mem_range.2 (by omega),by rw[show i-1+1=i by omega]⟩,?_⟩;grind
theorem Qk{x:Ao}{n:Nat}(a:DS s)(hx:Wk s x n)(i:n<=200){c:Ah}(h:GC s c){d:Nat}(hd:40<=d):Ok (Ck d s x c) (IX x):=by
 have l:=hx.len;have f:=hx.gx a i;unfold Ck;refine qr (h.check a hd) (y3 rfl ((h.needs a hd).bind λr hr=>qr (hx.covers a hr) (y3 rfl ?_)));refine y9 x.C.length (λk (b:List Int)=>b.length<=k/\∀v∈b,∃j:Nat,v=(j:Int)/\j<x.C.length) ⟨by simp,(λv g=>by cases g)⟩ (λrec b e=>Ok.f (ur e)) λrec k b hk e ih=>Ok.t (y4 hk (Ok.t ?_ (by have:=(f.rows _ (ta hk)).1;omega)));rw[qA];refine(jq a f (ta hk) h hd).bind λt _=>y5 (λ_=>Ok.rm (by grind) (ih _ _ CB ⟨by simp;exact e.1,λv g=>?_⟩)) λ_=>ih _ _ CB ⟨by have:=e.1;omega,e.2⟩;grind
def IM(s:Aa)(v:Int):Prop:=∃i:Nat,v=i/\1<=i/\∃hi:i<s.A.length,ER s.A[i]
theorem X9:(YZ.all λL=>(List.range (H5 L).toNat).all λl=>(Iz L (l:Int)).isSome)=true:=by decide +kernel
theorem XB(d:DS s){i:Nat}(c:1<=i)(a:i<s.A.length){l:Int}(f:0<=l)(e:l<=Da s i):Ok (Fg s i l) λ_=>True:=by
 rcases d.col c a with h|h
 ·obtain⟨L,g,b⟩:=d.clist h;have j:Da s i=H5 L-1:=by rw[Es a,FO h b]
  have:=List.all_eq_true.1 (List.all_eq_true.1 X9 L g) l.toNat (List.mem_range.2 (by omega));rw[show((l.toNat:Nat):Int)=l by omega]at this;obtain⟨x,hx⟩:=Option.isSome_iff_exists.1 this;unfold Fg;exact y4 a (y6 (by rw[h.kind];rfl) (qr b (qr hx (ur trivial))))
 ·exact jD a h f (by rw[Es a,Db h]at e;exact e)
theorem ko(b:DS s){i:Nat}(a:1<=i)(c:i<s.A.length){l:Int}(d:0<=l)(f:l<=Da s i):Ok (Gw s i l) λr=>0<=r/\r<=l:=by
 have g:=b.fin_ok a c;unfold Gw;refine qr (b.pFinest a c) (y3 (by grind) (Ok.loop (λq=>0<=q/\q<=l) (λq=>q.toNat) ⟨d,ua _⟩ (by unfold AC;omega) λrec q hq ih=>y8 (λhp=>?_) λ_=>ur hq));have e:i64.wrap (q-1)=q-1:=wr;rw[e];exact Ok.bind (XB b a c (by omega) (by omega)) λx _=>Ok.bind (XB b a c (by omega) (by omega)) λy _=>y5 (λ_=>ih _ (by omega) (by omega)) λ_=>ur hq
theorem QT.least(c:DS s){p:Ac}(h:QT s p):Ok (Gw s p.B p.T) λr=>QT s { B:=p.B,T:=r }:=by
 obtain⟨i,a,b,d,e,f⟩:=h;rw[d];exact(ko c a b e f).mono λr hr=>⟨i,a,b,rfl,hr.1,by show r<=_;omega⟩
theorem jn{P:Ac->Prop}{b:List Ac}{p:Ac}(a:∀q∈b,P q)(hp:P p):∀q∈b++[p],P q:=by grind
theorem nd(a:DS s){v:Int}(f:IM s v){b:List Ac}{k:Nat}(e:(∀p∈b,QT s p)/\b.length<=k)(hk:k<=1000):Ok (Dn v b s) λr=>(∀p∈r,QT s p)/\r.length<=k+1:=by
 obtain⟨i,rfl,c,d,_⟩:=f;have g:=a.fin_ok c d;unfold Dn;exact qr (a.pFinest c d) ((QT.least a (p:={ B:=i,T:=Da s i }) ⟨i,c,d,rfl,by show 0<=Da s i;omega,ua _⟩).bind λr hr=>Ok.rm (by grind) (ur ⟨jn e.1 hr,by simp;exact e.2⟩))
def WM(s:Aa)(v w:Int):Prop:=∃i:Nat,v=i/\1<=i/\∃hi:i<s.A.length,ER s.A[i]/\w∈s.A[i].S
theorem Pb(f:DS s){e:Ar}(hd:e.Y.length<=10/\∀p∈e.Y,QT s p)(o:e.A.length<=10/\∀v∈e.A,IM s v)(q:0<e.B->IM s e.B)(t:e.Op=13->WM s e.B e.L):Ok (Nr s e) (NA s):=by
 have g:∀{b:List Ac},(∀p∈b,QT s p)/\b.length<=11->Ok (B5 e s b) (NA s):=λa=>by
  unfold B5;exact y9 e.A.length (λk b=>(∀p∈b,QT s p)/\b.length<=11+k) a (λrec b a=>Ok.f (ur ⟨a.1,by have:=a.2;omega⟩)) (λrec k b hk a ih=>Ok.t (y4 hk ((nd f (o.2 _ (ta hk)) a (by omega)).bind λr hr=>ih _ _ CB hr))) (by omega)
 have d:∀{b:List Ac},(∀p∈b,QT s p)/\b.length<=10->Ok (bif(decide (e.B>0))then(Dn e.B b s).bind λx47=>B5 e s x47 else B5 e s b) (NA s):=λa=>y8 (λhp=>(nd f (q hp) a (by omega)).bind λr hr=>g hr) λ_=>g ⟨a.1,by have:=a.2;omega⟩;unfold Nr;refine y9 e.Y.length (λk b=>(∀p∈b,QT s p)/\b.length<=k) ⟨(λp hp=>by cases hp),by simp⟩ (λrec b a=>Ok.f ?_) (λrec k b hk a ih=>Ok.t (y4 hk ((QT.least f (hd.2 _ (ta hk))).bind λr hr=>Ok.rm (by grind) (ih _ _ CB ⟨jn a.1 hr,by simp;exact a.2⟩)))) (by omega);have c:(∀p∈b,QT s p)/\b.length<=10:=⟨a.1,by have:=a.2;omega⟩;unfold Nj;refine y5 (λ_=>d c) λ_=>y5 (λ_=>d c) λ_=>y5 (λ_=>d c) λ_=>y5 (λ_=>d c) λ_=>y5 (λ_=>d c) λ_=>y5 (λ_=>d c) λ_=>y5 (λh=>?_) λ_=>g ⟨a.1,by have:=c.2;omega⟩;obtain⟨i,u,w,j,m,x⟩:=t (wo h);obtain⟨n,y,l⟩:=List.mem_iff_getElem.1 x;have z:Da s i=s.A[i].S.length:=by rw[Es j,Db m]
 rw[u,<-l];exact qr (Ys j m y) ((QT.least f (p:={ B:=i,T:=(s.A[i].S.length:Int)-n }) ⟨i,w,j,rfl,by show 0<=(s.A[i].S.length:Int)-n;omega,by show(s.A[i].S.length:Int)-n<=_;omega⟩).bind λr hr=>Ok.rm (by grind) (g ⟨jn a.1 hr,by have:=c.2;simp;omega⟩))
theorem ZM(k c v:Int):∀b:List (Int×Int),Mh c (YT k v b)=if c=k then some v else Mh c b
 | []=>by
   simp only[YT,Mh];grind
 | p :: r=>by
   have ih:=ZM k c v r;simp only[YT,Mh];by_cases e:k=p.1
   ·rw[show(k==p.1)=true from beq_iff_eq.2 e,tJ];simp only[Mh];grind
   ·rw[beq_eq_false_iff_ne.2 e,tC];simp only[Mh,ih];grind
def gl(c:Int)(b:List (Int×Int)):Int:=(Mh c b).getD 0
def ME(s:Aa)(v:Int)(b:List (Int×Int)):Prop:=0<=v/\v<=10/\∀c,0<gl c b->QT s { B:=c,T:=gl c b }
theorem mP(t:DS s){a:List (List Ac)}(F:a.length<=1000)(h:∀l∈a,NA s l):Ok (HW a) (NA s):=by
 have u:=t.cols_length;unfold HW;refine y7 (λq=>q.2.1) a.length (λ_ q=>ME s q.1 q.2.2) 0 (sZ _) rfl ⟨ua _,by decide,λc f=>absurd f (by show ¬(0:Int)<0;decide)⟩ (by omega) (λrec q hq b=>?_) λrec k q hk hq b ih=>?_
 ·obtain⟨v,w,g⟩:=b;obtain⟨n,x⟩:∃n:Nat,q.1=n:=⟨q.1.toNat,by omega⟩;have m:i64.wrap (q.1+1)=((n+1:Nat):Int):=by rw[x];exact CB
  simp only[Hp,hq];refine Ok.f (y9 (n+1) (λk r=>(∀p∈r,QT s p)/\r.length<=k) ⟨(λp hp=>by cases hp),by simp⟩ (λrec r hr=>?_) λrec k r hk hr ih=>?_)
  ·simp only[Hr,m];exact Ok.f (ur ⟨hr.1,by have:=hr.2;omega⟩)
  ·simp only[Hr,m];exact Ok.t (y8 (λhp=>Ok.rm (by grind) (ih _ _ CB ⟨jn hr.1 (g k hp),by simp;exact hr.2⟩)) λ_=>ih _ _ CB ⟨hr.1,by have:=hr.2;omega⟩)
 ·obtain⟨y,G⟩:=h _ (ta hk);simp only[Hp,hq];refine Ok.t (y4 hk (y7 (λq=>q.2.1) a[k].length (λ_ q=>ME s q.1 q.2.2) 0 (sZ _) rfl b (by omega) (λrec q hq b=>?_) λrec j q o hq b ih=>?_))
  ·simp only[Hq,hq];exact Ok.f (ih _ CB b)
  ·obtain⟨i,z,A,f,C,D⟩:=y _ (ta o);obtain⟨v,w,g⟩:=b;simp only[Hq,hq];refine Ok.t (y4 o (ih _ CB ⟨by show 0<=(if a[k][j].B>q.1 then a[k][j].B else q.1);split<;>omega,by show(if a[k][j].B>q.1 then a[k][j].B else q.1)<=10;split<;>omega,λc d=>?_⟩))
   have E:gl c (YT a[k][j].B (if a[k][j].T>((Mh a[k][j].B q.2.2).getD 0)then a[k][j].T else((Mh a[k][j].B q.2.2).getD 0)) q.2.2)=if c=a[k][j].B then(if a[k][j].T>gl a[k][j].B q.2.2 then a[k][j].T else gl a[k][j].B q.2.2)else gl c q.2.2:=by
    unfold gl;rw[ZM];split<;>rfl
   change 0<gl c (YT _ _ _)at d;show QT s { B:=c,T:=gl c (YT _ _ _) };rw[E]at d ⊢;split
   ·rename_i e
    rw[tf e]at d;split
    ·exact⟨i,z,A,by show c=_;omega,C,D⟩
    ·grind
   ·grind
theorem LH(i:DS s){e:Ar}{d:Nat}(ho:Ok (Nr s e) (NA s))(h:Ok (BL d s e.X) (NA s))(j:Ok (BL d s e.V) (NA s))(hk:e.G.length<=2/\∀k∈e.G,Ok (CZ d s k) (NA s)):Ok (CZ (d+1) s e) (NA s):=by
 show Ok (Ju d (CZ d) s e) _;unfold Ju;refine ho.bind λa m=>h.bind λb n=>j.bind λc h=>y9 e.G.length (λk l=>l.length<=3+k/\∀x∈l,NA s x) ⟨by simp,λx hx=>?_⟩ (λrec l g=>Ok.f ((mP i (by have:=g.1;omega) g.2).bind λr hr=>ur hr)) (λrec k l f g ih=>Ok.t (y4 f ((hk.2 _ (ta f)).bind λr hr=>Ok.rm (by grind) (ih _ _ CB ⟨by simp;have:=g.1;omega,λx hx=>?_⟩)))) (by omega)
 all_goals grind
theorem Yy(a:DS s){d:Nat}(hd:1<=d):Ok (BL d s C9) (NA s):=by
 obtain⟨k,rfl⟩:∃k,d=k+1:=⟨d-1,by omega⟩;exact⟨_,a.pneeds_zero k,NA.nil⟩
def eX(op num:Int)(nm:ByteArray)(col:Int)(cols:List Int)(dims:List Ac)(c ev:Ah)(kids:List Ar):Ar:={ Op:=op,L:=num,J:=nm,B:=col,A:=cols,Y:=dims,X:=c,V:=ev,G:=kids }
def IC(s:Aa)(v:Int):Prop:=∃i:Nat,v=i/\1<=i/\∃hi:i<s.A.length,Nt s.A[i]
structure Q7(s:Aa)(l:List Ac):Prop where
 pos:1<=l.length
 len:l.length<=3
 all:∀p∈l,IC s p.B/\QT s p
 asc:(l.map (·.B)).Pairwise (·<·)
structure Re(s:Aa)(m:Int)(l:List Int):Prop where
 pos:1<=l.length
 len:l.length<=3
 all:∀v∈l,IM s v/\v≠m
 asc:l.Pairwise (·<·)
inductive EN(s:Aa)(ns:List ByteArray):Nat->Ar->Prop
 | int (n:Nat) (k:Int) (h:-9<=k/\k<=30):EN s ns n (eX 1 k .empty 0 [] [] C9 C9 [])
 | name (n:Nat) (nm:ByteArray) (h:nm∈ns):EN s ns n (eX 2 0 nm 0 [] [] C9 C9 [])
 | count (n:Nat) (c:Ah) (h:GC s c):EN s ns n (eX 3 0 .empty 0 [] [] c C9 [])
 | sum (n:Nat) (op m:Int) (c:Ah) (ho:op=4\/op=5) (hm:IM s m) (h:GC s c):EN s ns n (eX op 0 .empty m [] [] c C9 [])
 | pair (n:Nat) (op:Int) (a b:Ar) (ho:op=6\/op=7\/op=8\/op=9) (ha:EN s ns n a) (hb:EN s ns n b):EN s ns (n+1) (eX op 0 .empty 0 [] [] C9 C9 [a,b])
inductive ET(s:Aa):Ar->Prop
 | table (m:Int) (dims:List Ac) (c:Ah) (hm:m=-1\/IM s m) (hd:Q7 s dims) (h:GC s c):ET s (eX 10 0 .empty m [] dims c C9 [])
 | model (m:Int) (cols:List Int) (c:Ah) (hm:IM s m) (hc:Re s m cols) (h:GC s c):ET s (eX 11 0 .empty m cols [] c C9 [])
 | curve (m:Int) (ev c:Ah) (hm:IM s m) (hl:∀x,idx s.A m=some x->0<=x.D) (he:GC s ev) (h:GC s c):ET s (eX 12 0 .empty m [] [] c ev [])
 | hist (m w:Int) (c:Ah) (hw:WM s m w) (h:GC s c):ET s (eX 13 w .empty m [] [] c C9 [])
 | box (m:Int) (c:Ah) (hm:IM s m) (h:GC s c):ET s (eX 14 0 .empty m [] [] c C9 [])
def ES(s:Aa)(ns:List ByteArray)(e:Ar):Prop:=EN s ns 2 e\/ET s e
theorem EN.kids{ns:List ByteArray}{n:Nat}{e:Ar}(h:EN s ns n e):e.G.length<=2/\∀k∈e.G,∃m,n=m+1/\EN s ns m k:=by
 cases h with
 | pair n op a b ho c d=>exact⟨by simp[eX],λk hk=>by simp[eX]at hk;rcases hk with rfl|rfl<;>exact⟨n,rfl,by assumption⟩⟩
 | _=>exact⟨by simp[eX],λk hk=>by simp[eX]at hk⟩
theorem EN.op{ns:List ByteArray}{n:Nat}{e:Ar}(h:EN s ns n e):E5 e.Op=some true/\e.Op<10:=by
 cases h with
 | sum n op m c ho=>rcases ho with rfl|rfl<;>exact⟨rfl,by simp[eX]⟩
 | pair n op a b ho=>rcases ho with rfl|rfl|rfl|rfl<;>exact⟨rfl,by simp[eX]⟩
 | _=>exact⟨rfl,by simp[eX]⟩
theorem ET.kids{e:Ar}(h:ET s e):e.G=[]:=by cases h<;>rfl
theorem oC{l:List Ar}{p:Ar->Option Bool}(q:Ar->Bool)(hp:∀x∈l,p x=some (q x))(a:l.length<=1000000000):Aw l p=some (l.any q):=by
 unfold Aw;rw[show Cm l p=some (G6 q l)from IS hp a,tc,Ls]
theorem aO{l:List Ar}{p:Ar->Option Bool}(hp:∀x∈l,p x=some false)(a:l.length<=2):Aw l p=some false:=by
 rw[oC (λ_=>false) hp (by omega)];grind
theorem GV{e:Ar}{u:Bg}(h:(bif(bif(bif(bif(bif u.Bv then true else(e.L==0))then(bif u.Bt then true else true)else false)then(bif u.Bq then true else(e.B==0))else false)then(bif u.Bw then true else((e.A.length:Int)==0))else false)then(bif u.Bx then true else((e.Y.length:Int)==0))else false)=true)(d:u.Bt=true\/e.J=.empty)
 (m:u.Bo=true\/e.X=C9) (i:u.Br=true\/e.V=C9) (hp:(BF e.Op=some true)\/e.G=[]):GQ e u=some true:=by
 have j:∃b,BF e.Op=some b:=⟨_,rfl⟩
 have hq:Ok ((BF e.Op).bind λa=>some (bif a then true else((e.G.length:Int)==0))) (·=true):=by
  rcases hp with hp|hp
  ·exact qr hp (ur rfl)
  ·obtain⟨b,k⟩:=j;exact qr k (ur (by grind))
 have f:(bif u.Bt then true else(e.J.toList==({ data:=#[] }:ByteArray).toList))=(bif u.Bt then true else true):=by
  rcases d with d|d
  all_goals simp_all
 have l:∀{c:Ah},c=C9->G1 c=some true:=λe=>by rw[e];rfl
 refine Ok.val ?_;unfold GQ;rw[f];have n:Ok (bif u.Br then(BF e.Op).bind λa=>some (bif a then true else((e.G.length:Int)==0))else(G1 e.V).bind λg=>bif g then(BF e.Op).bind λa=>some (bif a then true else((e.G.length:Int)==0))else some false) (·=true):=y5 (λ_=>hq) λo=>qr (l (i.resolve_left (by grind))) (y6 rfl hq);grind
theorem KX(c:DS s){e:Ar}{u:Bg}{d:Nat}(hd:40<=d)(i:Kx e.Op=some (u,true))(j:GQ e u=some true)(hp:MZ s e=some true)(l:u.Bo=true->GC s e.X)(h:u.Br=true->GC s e.V)
 (m:e.G.length<=2) (r:BF e.Op=some true->e.G.length=2) (hk:∀k∈e.G,E5 k.Op=some true/\Cl d s k=some true):Cl (d+2) s e=some true:=by
 refine Ok.val ?_;show Ok (HQ (d+1) (Cl (d+1)) (Eu (d+1)) s e) _;unfold HQ;refine qr i (y3 rfl (qr j (y3 rfl (qr hp (y3 rfl ?_)))))
 have a:Ok ((BF e.Op).bind λf=>bif(bif f then((e.G.length:Int) != 2)else false)then some false else(Aw e.G (λa0=>Eu (d+1) a0 s)).bind λx59=>some (!x59)) (·=true):=by
  obtain⟨b,n⟩:∃b,BF e.Op=some b:=⟨_,rfl⟩;refine qr n (y3 ?_ (qr (aO (λx hx=>?_) m) (ur rfl)))
  ·grind
  ·obtain⟨o,p⟩:=hk x hx;refine Ok.val ?_;show Ok (F6 d (Cl d) (Eu d) x s) _;unfold F6;exact qr o (y3 rfl (qr p (ur rfl)))
 unfold IZ;exact y5 (λq=>qr ((l q).check c (by omega)) (y3 rfl (y5 (λg=>qr ((h g).check c (by omega)) (y3 rfl a)) λ_=>a))) λ_=>y5 (λg=>qr ((h g).check c (by omega)) (y3 rfl a)) λ_=>a
theorem IM.measure{v:Int}(h:IM s v):BO s v=some true:=by
 obtain⟨i,rfl,_,a,b⟩:=h;exact VN a b
theorem aK{l:List Int}(h:l.Pairwise (·<·)){k:Nat}(hk:k<l.length):∀v∈l.take k,v≠l[k]:=λv a=>by
 obtain⟨j,b,rfl⟩:=List.mem_iff_getElem.1 a;rw[tP]at b;rw[vd];have:=List.pairwise_iff_getElem.1 h j k (by omega) hk (by omega);omega
theorem Q7.ok(a:DS s){l:List Ac}(h:Q7 s l):Kw s l=some true:=by
 have e:=h.pos;have f:=h.len;refine Ok.val ?_;unfold Kw;refine ya l.length (λrec=>Ok.f (ur (by grind))) λrec k hk ih=>Ok.t ?_;obtain⟨⟨i,b,g,c,d⟩,hp⟩:=h.all _ (ta hk);refine y4 hk (qr (x:=0) ?_ (y3 rfl ?_))
 ·refine Ok.val ?_;unfold Mw;exact qr a.check (y3 rfl (qr (nu a hp) (ur rfl)))
 ·rw[b];refine y4 c (y3 (by rw[d.kind];rfl) (Ok.t ?_));rw[jI _ (by omega),Xs (p:=λa0=>J1 a0 l[k]) (λp=>p.B==l[k].B) (λ_ _=>rfl) (by grind)];refine y3 (List.any_eq_false.2 λp hp=>?_) (ih _ CB);have:=aK h.asc (k:=k) (by grind) p.B (by rw[<-List.map_take];exact vC hp);grind
theorem dd{l:List Int}{x:Int}(hx:x ∉ l)(a:l.length<=1000000):AP l x=some false:=by
 unfold AP
 have:Cd l x=some (-1):=by
  refine Ok.val ?_;unfold Cd;refine ya l.length (λrec=>Ok.f (ur rfl)) λrec k hk ih=>Ok.t (y4 hk (y3 (beq_eq_false_iff_ne.2 λe=>hx ?_) (ih _ CB)));grind
 grind
theorem Re.ok{m:Int}{l:List Int}(h:Re s m l):Jn s m l=some true:=by
 have d:=h.pos;have e:=h.len;refine Ok.val ?_;unfold Jn;refine ya l.length (λrec=>Ok.f (ur (by grind))) λrec k hk ih=>Ok.t ?_;obtain⟨a,b⟩:=h.all _ (ta hk);refine y4 hk (qr a.measure (y3 (by grind) (Ok.t ?_)));rw[jI _ (by omega),dd (λc=>aK h.asc hk _ c rfl) (by grind)];exact qr rfl (y3 rfl (ih _ CB))
def qm(ns:List ByteArray):Prop:=∀nm∈ns,Cz nm=some true
theorem EN.right(f:DS s){ns:List ByteArray}(l:qm ns):∀{n d:Nat}{e:Ar},EN s ns n e->40+2*n<=d->Cl (d+2) s e=some true:=by
 intro n d e h
 induction h generalizing d with
 | int n k h=>exact λhd=>KX f (by omega) rfl (GV rfl (.inr rfl) (.inr rfl) (.inr rfl) (.inr rfl)) (by show some (bif decide (k>=-1099511627776)then decide (k<=1099511627776)else false)=_;rw[dt,dt];rfl) (λh=>by cases h) (λh=>by cases h) (by simp[eX]) (λh=>by cases h) λk hk=>by simp[eX]at hk
 | name n o h=>exact λhd=>KX f (by omega) rfl (GV rfl (.inl rfl) (.inr rfl) (.inr rfl) (.inr rfl)) (Ok.val (y3 rfl (y6 rfl (qr (l o h) (ur rfl))))) (λh=>by cases h) (λh=>by cases h) (by simp[eX]) (λh=>by cases h) λk hk=>by simp[eX]at hk
 | count n c h=>exact λhd=>KX f (by omega) rfl (GV rfl (.inr rfl) (.inl rfl) (.inr rfl) (.inr rfl)) rfl (λ_=>h) (λh=>by cases h) (by simp[eX]) (λh=>by cases h) λk hk=>by simp[eX]at hk
 | sum n op m c ho j h =>
   intro hd;rcases ho with rfl|rfl
   ·exact KX f (by omega) rfl (GV rfl (.inr rfl) (.inl rfl) (.inr rfl) (.inr rfl)) (Ok.val (y3 rfl (y3 rfl (y6 rfl (qr j.measure (ur rfl)))))) (λ_=>h) (λh=>by cases h) (by simp[eX]) (λh=>by cases h) λk hk=>by simp[eX]at hk
   ·exact KX f (by omega) rfl (GV rfl (.inr rfl) (.inl rfl) (.inr rfl) (.inr rfl)) (Ok.val (y3 rfl (y3 rfl (y3 rfl (y6 rfl (qr j.measure (ur rfl))))))) (λ_=>h) (λh=>by cases h) (by simp[eX]) (λh=>by cases h) λk hk=>by simp[eX]at hk
 | pair n op a b ho p q g i =>
   intro hd;obtain⟨d,rfl⟩:∃k,d=k+2:=⟨d-2,by omega⟩
   have hk:∀k∈[a,b],E5 k.Op=some true/\Cl (d+2) s k=some true:=λk hk=>by
    simp only[vA,vV,or_false]at hk;rcases hk with rfl|rfl
    ·exact⟨p.op.1,g (by omega)⟩
    ·exact⟨q.op.1,i (by omega)⟩
   rcases ho with rfl|rfl|rfl|rfl<;>exact KX f (by omega) rfl (GV rfl (.inr rfl) (.inr rfl) (.inr rfl) (.inl rfl)) rfl (λh=>by cases h) (λh=>by cases h) (by simp[eX]) (λ_=>rfl) hk
theorem ET.right(b:DS s){e:Ar}(h:ET s e){d:Nat}(hd:40<=d):Cl (d+2) s e=some true:=by
 have g:∀k∈e.G,E5 k.Op=some true/\Cl d s k=some true:=λk hk=>by rw[h.kids]at hk;cases hk
 cases h with
 | table m n c a o h =>
   refine KX b hd rfl (GV rfl (.inr rfl) (.inl rfl) (.inr rfl) (.inr rfl)) (Ok.val ?_) (λ_=>h) (λh=>by cases h) (by simp[eX]) (λh=>by cases h) g
   iterate 5 refine y3 rfl ?_
   refine y6 rfl (qr (o.ok b) (y6 rfl (y5 (λ_=>ur rfl) λe=>?_)));rcases a with rfl|a
   ·cases e
   ·exact qr a.measure (ur rfl)
 | model m cols c a p h =>
   refine KX b hd rfl (GV rfl (.inr rfl) (.inl rfl) (.inr rfl) (.inr rfl)) (Ok.val ?_) (λ_=>h) (λh=>by cases h) (by simp[eX]) (λh=>by cases h) g
   iterate 6 refine y3 rfl ?_
   exact y6 rfl (qr a.measure (y6 rfl (qr p.ok (ur rfl))))
 | curve m ev c a q r h =>
   obtain⟨i,rfl,_,f,j⟩:=a;refine KX b hd rfl (GV rfl (.inr rfl) (.inl rfl) (.inl rfl) (.inr rfl)) (Ok.val ?_) (λ_=>h) (λ_=>r) (by simp[eX]) (λh=>by cases h) g
   iterate 7 refine y3 rfl ?_
   exact y6 rfl (qr (VN f j) (y6 rfl (y4 f (ur (ti (q _ (DG f)))))))
 | hist m w c l h =>
   obtain⟨i,rfl,_,f,j,l⟩:=l;refine KX b hd rfl (GV rfl (.inr rfl) (.inl rfl) (.inr rfl) (.inr rfl)) (Ok.val ?_) (λ_=>h) (λh=>by cases h) (by simp[eX]) (λh=>by cases h) g
   iterate 8 refine y3 rfl ?_
   exact y6 rfl (qr (VN f j) (y6 rfl (y4 f (qr (de l (by have:=Fj j;omega)) (ur rfl)))))
 | box m c a h =>
   refine KX b hd rfl (GV rfl (.inr rfl) (.inl rfl) (.inr rfl) (.inr rfl)) (Ok.val ?_) (λ_=>h) (λh=>by cases h) (by simp[eX]) (λh=>by cases h) g
   iterate 4 refine y3 rfl ?_
   exact y6 rfl (qr a.measure (ur rfl))
variable {s:Aa} {ns:List ByteArray}
def bn:Nat->Nat
 | 0=>1
 | n+1=>1+2*bn n
theorem dh:∀(n d:Nat){e:Ar}{m:Int},EN s ns n e->n<d->n<=5->-1000<=m->m<=1000->Ok (Fc d e m) λr=>1<=r/\r<=bn n
 | n,d+1,e,m,h,hd,hn,m0,m1=>by
   obtain⟨f,b⟩:=h.kids;have g:bn n<=63/\1<=bn n:=by rcases(by omega:n=0\/n=1\/n=2\/n=3\/n=4\/n=5)with rfl|rfl|rfl|rfl|rfl|rfl<;>decide
   show Ok (EH d (Fc d) e m) _;unfold EH;refine y7 (λq=>q.2) e.G.length (λk q=>1<=q.1/\q.1<=1+(k:Int)*bn (n-1)/\q.1<=bn n) 0 (sZ _) rfl ⟨by show(1:Int)<=1;omega,by show(1:Int)<=1+((0:Nat):Int)*bn (n-1);omega,by show(1:Int)<=bn n;omega⟩ (by omega) (λrec q hq a=>?_) λrec k q hk hq a ih=>?_
   ·simp only[GP,hq];exact Ok.f (ur ⟨a.1,a.2.2⟩)
   ·simp only[GP,hq];obtain⟨j,c,hr⟩:=b _ (ta hk);subst c;rw[wk]at a;have i:bn (j+1)=1+2*bn j:=rfl
    have l:(k:Int)*bn j<=bn j:=by have:(k:Int)=0\/(k:Int)=1:=by omega
                                  grind
    refine Ok.t (y4 hk (y8 (λ_=>ur ⟨a.1,a.2.2⟩) λ_=>?_));rw[wr];refine(dh j d hr (by omega) (by omega) (by omega) (by omega)).bind λr hr=>ih _ CB ?_;show 1<=i64.wrap (q.1+r)/\i64.wrap (q.1+r)<=1+((k+1:Nat):Int)*bn (j+1-1)/\i64.wrap (q.1+r)<=bn (j+1);rw[wr,wk,Int.natCast_add,Int.add_mul];omega
theorem iA:∀(n d:Nat){e:Ar},EN s ns n e->n<d->n<=5->Ok (Gp d e) λr=>1<=r/\r<=n+1
 | n,d+1,e,h,hd,hn=>by
   obtain⟨f,a⟩:=h.kids;show Ok (F4 d (Gp d) e) _;unfold F4;refine y7 (λq=>q.2) e.G.length (λk q=>0<=q.1/\q.1<=n) 0 (sZ _) rfl ⟨ua _,by show(0:Int)<=n;omega⟩ (by omega) (λrec q hq b=>?_) λrec k q hk hq b ih=>?_
   ·simp only[HA,hq];refine Ok.f ?_;rw[wr];exact ur ⟨by omega,by omega⟩
   ·simp only[HA,hq];obtain⟨j,c,hr⟩:=a _ (ta hk);subst c;refine Ok.t (y4 hk ((iA j d hr (by omega) (by omega)).bind λr hr=>ih _ CB ?_));grind
theorem eF{f:ByteArray->Option Bool}(l:∀k∈ns,f k=some true):∀(n d:Nat){e:Ar},EN s ns n e->2*n+1<d->D5 d e f=some true
 | n,d+2,e,h,hd=>by
   obtain⟨o,p⟩:=h.kids;refine Ok.val ?_;show Ok (EI (d+1) (D5 (d+1)) (CK (d+1)) e f) _;unfold EI
   have g:Ok ((Aw e.G (λa0=>CK (d+1) a0 f)).bind λx18=>some (!x18)) (·=true):=by
    refine qr (aO (λx hx=>Ok.val ?_) o) (ur rfl);obtain⟨j,r,hr⟩:=p x hx;show Ok (F5 d (D5 d) (CK d) x f) _;unfold F5;exact qr (eF l j d hr (by omega)) (ur rfl)
   refine y5 (λi=>?_) λ_=>g
   cases h with
   | name n k q=>exact qr (l k q) (y3 rfl g)
   | sum n op m c ho=>rcases ho with rfl|rfl<;>cases i
   | pair n op a b ho=>rcases ho with rfl|rfl|rfl|rfl<;>cases i
   | int=>cases i
   | count=>cases i
theorem rC{a:List AH}{c:ByteArray}{ρ:Type}{G K:Int->Option ρ}{Q:ρ->Prop}(hx:∃b∈a,b.J.toList=c.toList)(d:∀(i:Nat)(k:i<a.length),a[i].J.toList=c.toList->Ok (G i) Q)(l:a.length<=1000000) :
 Ok (P.iter (λrec v=>bif decide (v>=0)then(idx a v).bind λx=>bif(x.J.toList==c.toList)then G v else rec (i64.wrap (v-1))else K v) AC (i64.wrap ((a.length:Int)-1))) Q:=by
 obtain⟨b,f,m⟩:=hx;obtain⟨j,n,rfl⟩:=List.mem_iff_getElem.1 f;rw[wr];refine Ok.loop (λv=>(j:Int)<=v/\v<a.length) (λv=>v.toNat) ⟨by omega,by omega⟩ (by unfold AC;omega) λrec v o ih=>?_;obtain⟨i,rfl⟩:∃i:Nat,v=i:=⟨v.toNat,by omega⟩;refine Ok.t (y4 (by omega) (y5 (λe=>d i (by omega) (wo e)) λe=>?_));have g:i≠j:=λp=>by grind
 have h:i64.wrap ((i:Int)-1)=(i:Int)-1:=wr;rw[h];exact ih _ ⟨by omega,by omega⟩ (by omega)
def BD(P:A9->Prop)(ns:List ByteArray)(bs:List AH):Prop:=bs.length<=1000/\(∀nm∈ns,∃b∈bs,b.J.toList=nm.toList)/\∀b∈bs,∀nm∈ns,b.J.toList=nm.toList->P b.As
def kd(e:Ar):Int:=if e.Op<10 then 1 else e.Op-8
theorem mD{g:List AH}(l:BD (λv=>v.Kind=1) ns g):∀(n d:Nat){e:Ar},EN s ns n e->n<d->Hw d g e=some (1,0)
 | n,d+1,e,h,hd=>by
   obtain⟨y,u⟩:=h.kids;refine Ok.val ?_;show Ok (Hx d (Hw d) g e) _;unfold Hx;refine y7 (λq=>q.2) e.G.length (λk q=>q.1=true) 0 (sZ _) rfl rfl (by omega) (λrec q hq o=>?_) λrec k q hk hq o ih=>?_
   ·simp only[Jt,hq,o];refine Ok.f ?_;have f:(e.Op==2)=false->Ok (Pm e g true) (·=(1,0)):=λw=>y3 w (y3 rfl (qr h.op.1 (y6 rfl (ur rfl))))
    cases h with
    | name n p r =>
      refine y6 rfl (rC (l.2.1 p r) (λi t x=>y4 t (ur ?_)) (by have:=l.1;omega));rw[l.2.2 _ (ta t) p r x]
    | sum n op m c ho=>rcases ho with rfl|rfl<;>exact f rfl
    | pair n op a b ho=>rcases ho with rfl|rfl|rfl|rfl<;>exact f rfl
    | int=>exact f rfl
    | count=>exact f rfl
   ·obtain⟨j,z,hr⟩:=u _ (ta hk);simp only[Jt,hq,o];exact Ok.t (y4 hk (qr (mD l j d hr (by omega)) (y3 rfl (ih _ CB rfl))))
theorem qK(a:List AH){d:Nat}{e:Ar}(h:ET s e)(hd:1<=d):Hw d a e=some (kd e,0):=by
 obtain⟨d,rfl⟩:∃k,d=k+1:=⟨d-1,by omega⟩;have hk:=h.kids;refine Ok.val ?_;show Ok (Hx d (Hw d) a e) _;unfold Hx;refine y7 (λq=>q.2) 0 (λk q=>q.1=true) 0 (sZ _) rfl rfl (by omega) (λrec q hq b=>?_) λrec k q hk hq b ih=>absurd hk (by omega);simp only[Jt,hq,b,hk];refine y3 rfl ?_
 cases h<;>exact y3 rfl (y3 rfl (qr (x:=false) rfl (y3 rfl (ur rfl))))
theorem iV(f:DS s):∀(n d:Nat){e:Ar},EN s ns n e->40+n<d->Ok (CZ d s e) (NA s)
 | n,d+1,e,h,hd=>by
   have g:=Yy f (d:=d) (by omega)
   have hk:e.G.length<=2/\∀k∈e.G,Ok (CZ d s k) (NA s):=⟨h.kids.1,λk hk=>by
    obtain⟨j,q,hr⟩:=h.kids.2 k hk;exact iV f j d hr (by omega)⟩
   have d0:(([]:List Ac).length<=10/\∀p∈([]:List Ac),QT s p):=⟨by simp,(λp hp=>by cases hp)⟩;have i:(([]:List Int).length<=10/\∀p∈([]:List Int),IM s p):=⟨by simp,(λp hp=>by cases hp)⟩;have l:¬(0:Int)<0:=by decide
   cases h with
   | int n k h=>exact LH f (Pb f d0 i (λh=>absurd h l) λh=>by cases h) g g hk
   | name n r h=>exact LH f (Pb f d0 i (λh=>absurd h l) λh=>by cases h) g g hk
   | count n c h=>exact LH f (Pb f d0 i (λh=>absurd h l) λh=>by cases h) (h.needs f (by omega)) g hk
   | sum n op m c ho o h=>exact LH f (Pb f d0 i (λ_=>o) λh=>by rcases ho with rfl|rfl<;>cases h) (h.needs f (by omega)) g hk
   | pair n op a b ho=>exact LH f (Pb f d0 i (λh=>absurd h l) λh=>by rcases ho with rfl|rfl|rfl|rfl<;>cases h) g g hk
theorem oX(a:DS s){d:Nat}{e:Ar}(h:ET s e)(hd:41<d):Ok (CZ d s e) (NA s):=by
 obtain⟨d,rfl⟩:∃k,d=k+1:=⟨d-1,by omega⟩;have g:=Yy a (d:=d) (by omega);have hk:e.G.length<=2/\∀k∈e.G,Ok (CZ d s k) (NA s):=by rw[h.kids];exact⟨by simp,(λk hk=>by cases hk)⟩
 have d0:(([]:List Ac).length<=10/\∀p∈([]:List Ac),QT s p):=⟨by simp,(λp hp=>by cases hp)⟩;have j:(([]:List Int).length<=10/\∀p∈([]:List Int),IM s p):=⟨by simp,(λp hp=>by cases hp)⟩
 cases h with
 | table m f c b l h=>exact LH a (Pb a ⟨by have:=l.len;show f.length<=10;omega,λp hp=>(l.all p hp).2⟩ j (λh=>b.resolve_left (λe=>absurd h (by show ¬(0:Int)<m;omega))) λh=>by cases h) (h.needs a (by omega)) g hk
 | model m cols c b n h=>exact LH a (Pb a d0 ⟨by have:=n.len;show cols.length<=10;omega,λp hp=>(n.all p hp).1⟩ (λ_=>b) λh=>by cases h) (h.needs a (by omega)) g hk
 | curve m ev c b v q h=>exact LH a (Pb a d0 j (λ_=>b) λh=>by cases h) (h.needs a (by omega)) (q.needs a (by omega)) hk
 | hist m w c o h=>exact LH a (Pb a d0 j (λ_=>by obtain⟨i,e,r,t,u,_⟩:=o;exact⟨i,e,r,t,u⟩) λ_=>o) (h.needs a (by omega)) g hk
 | box m c b h=>exact LH a (Pb a d0 j (λ_=>b) λh=>by cases h) (h.needs a (by omega)) g hk
theorem ES.right(a:DS s)(b:qm ns){e:Ar}(h:ES s ns e){d:Nat}(hd:50<=d):Dd d s e=some true/\Ok (CZ d s e) (NA s):=by
 obtain⟨d,rfl⟩:∃k,d=k+2:=⟨d-2,by omega⟩;have hr:Cl (d+2) s e=some true:=h.elim (λh=>h.right a b (by omega)) λh=>h.right a (by omega);refine⟨Ok.val ?_,h.elim (λh=>iV a 2 _ h (by omega)) λh=>oX a h (by omega)⟩;unfold Dd;exact qr a.check (y6 rfl (qr hr (ur rfl)))
end
variable {s:Aa}
def vn(k:Nat):ByteArray:=({ data:=#[118] }:ByteArray)++oz k
theorem jv:∀k:Fin 6,Cz (vn k)=some true:=by decide +kernel
theorem qj:∀i j:Fin 6,i≠j->(vn i).toList≠(vn j).toList:=by decide +kernel
def bK(l:List AB):List ByteArray:=(l.filter λx=>decide (x.Az.Op<10)).map (·.J)
structure PR(s:Aa)(l:List AB):Prop where
 len:l.length<=4
 all:∀(k:Nat)(hk:k<l.length),l[k].J=vn k/\ES s (bK (l.take k)) l[k].Az
theorem PR.take{l:List AB}(h:PR s l)(n:Nat):PR s (l.take n):=by
 refine⟨by rw[tP];have:=h.len;omega,λk hk=>?_⟩;rw[tP]at hk;rw[vd,List.take_take,show min k n=k by omega];exact h.all k (by omega)
theorem PR.mem{l:List AB}(h:PR s l){k:Nat}(hk:k<=l.length){x:AB}(hx:x∈l.take k):∃j,j<k/\x.J=vn j:=by
 obtain⟨j,a,rfl⟩:=List.mem_iff_getElem.1 hx;rw[tP]at a;rw[vd];exact⟨j,by omega,(h.all j (by omega)).1⟩
theorem PR.ns{l:List AB}(h:PR s l){k:Nat}(hk:k<=l.length){a:ByteArray}(hx:a∈bK (l.take k)):∃j,j<k/\a=vn j:=by
 obtain⟨x,hy,rfl⟩:=List.mem_map.1 hx;exact h.mem hk (List.mem_filter.1 hy).1
theorem PR.nmok{l:List AB}(h:PR s l){k:Nat}(hk:k<=l.length):qm (bK (l.take k)):=λb a=>by
 obtain⟨j,c,rfl⟩:=h.ns hk a;have:=h.len;exact jv ⟨j,by omega⟩
theorem kB{l:List AB}{k:Nat}(hk:k<l.length):bK (l.take (k+1))=bK (l.take k)++if l[k].Az.Op<10 then[l[k].J]else[]:=by
 unfold bK;rw[L8 _ _ hk,tA];grind
theorem BD.snoc{P:A9->Prop}{l:List AB}(h:PR s l){k:Nat}(hk:k<l.length){f:List AH}(p:BD P (bK (l.take k)) f)(u:f.map (·.J)=(l.take k).map (·.J)){o:Bool}{v:A9}(w:l[k].Az.Op<10->P v):BD P (bK (l.take (k+1))) (f++[{ J:=l[k].J,Bl:=o,As:=v }]):=by
 have y:=h.len;have q:f.length=k:=by have:=congrArg List.length u;simp at this;omega
 have r:∀b∈f,∃j,j<k/\b.J=vn j:=λb r=>by
  have:b.J∈(l.take k).map (·.J):=by grind
  obtain⟨x,hx,d⟩:=List.mem_map.1 this;rw[<-d];exact h.mem (by omega) hx
 have t:∀{i j:Nat},i<k->(vn i).toList≠(vn k).toList:=λ{i j} hi=>qj ⟨i,by omega⟩ ⟨k,by omega⟩ (by grind);have g:=(h.all k hk).1;rw[kB hk];refine⟨by simp;omega,λm a=>?_,λb c m a d=>?_⟩
 ·rcases List.mem_append.1 a with a|a
  ·obtain⟨b,z,A⟩:=p.2.1 m a;grind
  ·split at a
   ·rw[List.mem_singleton.1 a];exact⟨_,by simp;exact .inr rfl,rfl⟩
   ·cases a
 ·rcases List.mem_append.1 c with c|c
  ·rcases List.mem_append.1 a with a|a
   ·exact p.2.2 b c m a d
   ·obtain⟨j,n,e⟩:=r b c;split at a
    ·rw[List.mem_singleton.1 a,e,g]at d;exact absurd d (t (j:=0) n)
    ·grind
  ·rw[List.mem_singleton.1 c]at d ⊢;rcases List.mem_append.1 a with a|a
   ·obtain⟨j,n,rfl⟩:=h.ns (by omega) a;change l[k].J.toList=_ at d;rw[g]at d;exact absurd d.symm (t (j:=0) n)
   ·grind
theorem oD{l:List AB}{p:AB->Option Bool}(q:AB->Bool)(hp:∀x∈l,p x=some (q x))(a:l.length<=1000000000):AZ l p=some (l.any q):=by
 unfold AZ;rw[show B4 l p=some (G6 q l)from IS hp a,tc,Ls]
theorem mZ{l:List AB}(b:l.length<=4)(a:ByteArray):CW a l=some (l.any λx=>x.J.toList==a.toList):=by
 unfold CW;rw[oD (p:=λa0=>EZ a0 a) (λx=>x.J.toList==a.toList) (λ_ _=>rfl) (by omega)];rfl
theorem ES.sizes{ns:List ByteArray}{e:Ar}(h:ES s ns e){d:Nat}(hd:20<=d){f:ByteArray->Option Bool}(b:∀c∈ns,f c=some true):Ok (Fc d e 60) (λr=>r<=60)/\Ok (Gp d e) (λr=>r<=10)/\D5 d e f=some true:=by
 rcases h with h|h
 ·refine⟨(dh 2 d h (by omega) (by omega) (by omega) (by omega)).mono λr hr=>?_,(iA 2 d h (by omega) (by omega)).mono λr hr=>by omega,eF b 2 d h (by omega)⟩;have:bn 2=7:=rfl;omega
 ·obtain⟨d,rfl⟩:∃k,d=k+1:=⟨d-1,by omega⟩;have hk:=h.kids;refine⟨?_,?_,Ok.val ?_⟩
  ·show Ok (EH d (Fc d) e 60) _;unfold EH;refine y7 (λq=>q.2) 0 (λk q=>q.1<=60) 0 (sZ _) rfl (by grind) (by omega) (λrec q hq a=>?_) λrec k q hk hq a ih=>absurd hk (by omega);simp only[GP,hq,hk];exact y3 rfl (ur a)
  ·show Ok (F4 d (Gp d) e) _;unfold F4;refine y7 (λq=>q.2) 0 (λk q=>q.1=0) 0 (sZ _) rfl rfl (by omega) (λrec q hq a=>?_) λrec k q hk hq a ih=>absurd hk (by omega);simp only[HA,hq,hk,a];exact y3 rfl (ur (by decide))
  ·show Ok (EI d (D5 d) (CK d) e f) _;unfold EI;have g:Ok ((Aw e.G (λa0=>CK d a0 f)).bind λx18=>some (!x18)) (·=true):=qr (aO (λx hx=>by rw[hk]at hx;cases hx) (by grind)) (ur rfl)
   cases h<;>exact y3 rfl g
theorem PR.check(b:DS s){l:List AB}(h:PR s l){d:Nat}(hd:50<=d):Ii d s l=some ((l.length:Int),0):=by
 have q:=h.len;refine Ok.val ?_;unfold Ii;refine qr b.check (y3 rfl (Ok.f (ya l.length (λrec=>Ok.f (ur rfl)) λrec k hk ih=>Ok.t (y4 hk (Ok.t ?_)))));obtain⟨g,c⟩:=h.all k hk;have i:=h.nmok (k:=k) (by omega);have a:(l.take k).length<=4:=by grind
 rw[jI _ (by omega)];refine qr (x:=0) (Ok.val ?_) (y3 rfl (ih _ CB))
 obtain⟨m,n,o⟩:=c.sizes (d:=d) (by omega) (f:=λa0=>CW a0 (l.take k)) λt p=>by
  obtain⟨x,hx,rfl⟩:=List.mem_map.1 p;rw[mZ a];grind
 unfold IY;rw[g];refine qr (jv ⟨k,by omega⟩) (y3 rfl ?_);rw[mZ a];refine qr rfl (y3 (List.any_eq_false.2 λx hx=>?_) (m.bind λr hr=>Ok.f (n.bind λr hr=>Ok.f (qr (c.right b i hd).1 (y3 rfl (qr o (y3 rfl (ur rfl))))))));obtain⟨j,u,e⟩:=h.mem (by omega) hx;rw[e,beq_eq_false_iff_ne.2 (qj ⟨j,by omega⟩ ⟨k,by omega⟩ (by grind))];decide
