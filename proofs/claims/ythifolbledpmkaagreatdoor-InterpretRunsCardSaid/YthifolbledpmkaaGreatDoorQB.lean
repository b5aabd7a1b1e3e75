/- QB -/
import Derived.Test.YthifolbledpmkaaGreatDoorQA
open Option renaming some → θ
open Bool renaming true → ν, false → ξ
open Decidable renaming decide → υ
open List renaming length → Ξ
open Go.IntKind (i64)
set_option linter.all false
namespace Go.Proofs.YthifolbledpmkaaGreatDoor.P
open Go Go.Abs Go.Proofs
set_option maxRecDepth 100000
variable {s:Aa}
inductive RC(s:Aa):Nat->Ae->Prop
 | all (n:Nat):RC s n ZA
 | under (n:Nat) (i:Nat) (hi0:1<=i) (hi:i<Ξ s.A) (h:Iy s.A[i]) (L:Am) (hL:L∈Ym) (hL2:idx s.S s.A[i].Al=some L) (k:Int) (h0:0<=k) (h1:k<Ξ L.X):RC s n { Op:=2,B:=i,Af:=k,C:=0,E:=0,D:=[] }
 | between (n:Nat) (i:Nat) (hi0:1<=i) (hi:i<Ξ s.A) (h:Do s.A[i]) (l u:Int) (h0:-1000000<=l) (h1:l<=u) (h2:u<=1000000):RC s n { Op:=3,B:=i,Af:=0,C:=l,E:=u,D:=[] }
 | miss (n:Nat) (i:Nat) (hi0:1<=i) (hi:i<Ξ s.A) (h:Do s.A[i]) (ho:s.A[i].An=true):RC s n { Op:=4,B:=i,Af:=0,C:=0,E:=0,D:=[] }
 | and (n na nb:Nat) (hn:na+nb+2<=n) (a b:Ae) (ha:RC s na a) (hb:RC s nb b):RC s n { Op:=5,B:=0,Af:=0,C:=0,E:=0,D:=[a,b] }
 | or (n na nb:Nat) (hn:na+nb+2<=n) (a b:Ae) (ha:RC s na a) (hb:RC s nb b):RC s n { Op:=6,B:=0,Af:=0,C:=0,E:=0,D:=[a,b] }
 | not (n na:Nat) (hn:na+1<=n) (a:Ae) (ha:RC s na a):RC s n { Op:=7,B:=0,Af:=0,C:=0,E:=0,D:=[a] }
theorem RC.mono{n}{c}(h:RC s n c){m}(o:n<=m):RC s m c:=by
 cases h with
 | all n=>exact .all _
 | under n i d e h L j f k g h1=>exact .under _ i d e h L j f k g h1
 | between n i d e h l u g h1 h2=>exact .between _ i d e h l u g h1 h2
 | miss n i d e h ho=>exact .miss _ i d e h ho
 | and n na nb hn a b ha hb=>exact .and _ na nb z0 a b ha hb
 | or n na nb hn a b ha hb=>exact .or _ na nb z0 a b ha hb
 | not n na hn a ha=>exact .not _ na z0 a ha
def sm(l:List Nat):=(l.map (·+1)).sum
theorem RC.sizes{n}{c}(h:RC s n c):∃ns:List Nat,Ξ ns=Ξ c.D/\Ξ ns<=2/\(∀k f (d:k<Ξ c.D),RC s ns[k] c.D[k])/\sm ns<=n:=by
 have none:c.D=[]->∃ns:List Nat,Ξ ns=Ξ c.D/\Ξ ns<=2/\(∀k f(d:k<Ξ c.D),RC s ns[k] c.D[k])/\sm ns<=n:=λe=>⟨[],by rw[e];rfl,zs,(λk f=>by simp at f),by simp[sm]⟩
 have l:∀{g j:Nat}{a b:Ae},g+j+2<=n->RC s g a->RC s j b->c.D=[a,b]->∃ns:List Nat,Ξ ns=Ξ c.D/\Ξ ns<=2/\(∀k f(d:k<Ξ c.D),RC s ns[k] c.D[k])/\sm ns<=n:=by
  intro g j a b m i o e;refine⟨[g,j],by rw[e];rfl,zs,λk f d=>?_,by simp[sm];omega⟩;grind
 cases h with
 | and n g j m a b i o=>grind
 | or n g j m a b i o=>grind
 | not n g m a i=>
   refine⟨[g],rfl,zs,λk f d=>?_,by simp[sm];omega⟩
   grind
 | _=>exact none rfl
theorem RC.kids{n}{c}(h:RC s n c):Ξ c.D<=2/\∀k∈c.D,∃m,n=m+1/\RC s m k:=by
 cases h with
 | and n na nb hn a b ha hb=>exact⟨zs,λk d=>by simp at d;rcases d with rfl|rfl<;>exact⟨n-1,z0,RC.mono (by assumption) z0⟩⟩
 | or n na nb hn a b ha hb=>exact⟨zs,λk d=>by simp at d;rcases d with rfl|rfl<;>exact⟨n-1,z0,RC.mono (by assumption) z0⟩⟩
 | not n na hn a ha=>exact⟨zs,λk d=>by simp at d;subst d;exact⟨n-1,z0,ha.mono z0⟩⟩
 | _=>exact⟨by simp[ZA],λk d=>by simp[ZA]at d⟩
def DP:Nat->Ae->Prop| 0,c=>c.D=[]| k+1,c=>∀x∈c.D,DP k x
theorem DP.leaf:∀{k}{c},c.D=[]->DP k c
 | 0,_,h=>h
 | k+1,c,h=>λx hx=>by rw[h]at hx;cases hx
theorem DP.mono:∀{k}{c},DP k c->∀{m},k<=m->DP m c
 | 0,_,h,_,_=>.leaf h
 | k+1,c,h,0,hm=>by omega
 | k+1,c,h,m+1,hm=>λx hx=>DP.mono (h x hx) z0
def fB(d:DS s):Ok (F1 s 2) λl=>l≠[]/\Ξ l<=6/\∀v∈l,∃i:Nat,v=i/\1<=i/\∃n:i<Ξ s.A,Iy s.A[i]:=by
 have r:=d.cols_length
 have h1:∃n:1<Ξ s.A,Iy s.A[1]:=by
  refine⟨z0,?_⟩;have⟨j,t,e,_⟩:=d.cols;have c:s.A[1]?=θ sex:=by rw[e];cases j<;>rfl
  rw[Zaa z0]at c;rw[Zaf c];exact⟨rfl,.inl rfl,rfl,rfl,rfl,rfl⟩
 unfold F1
 refine Wf (λq=>q.1) (Ξ s.A) (λk q=>Ξ q.2<=k/\(∀v∈q.2,∃i:Nat,v=i/\1<=i/\∃n:i<Ξ s.A,Iy s.A[i])/\(1<k->1∈q.2)) 0 (Zag _) rfl
  ⟨Zam _,(λv b=>by cases b),λh=>z0⟩ z0 (λrec q f a=>?_) λrec k q g f a ih=>?_
 rw[Hf,f];rw[Bl];exact KK ⟨(λe=>by have:=a.2.2 z0;rw[e]at this;cases this),by have:=a.1;omega,a.2.1⟩;rw[Hf,f];rw[AK];have o:=a.1;refine JT g (Ok.br (λe=>Ok.rm zv (ih _ BE ⟨zv,λv b=>?_,λm=>?_⟩)) λe=>ih _ BE ⟨by show Ξ q.2<=k+1;omega,a.2.1,λm=>?_⟩);rcases List.mem_append.1 b with b|b;exact a.2.1 v b;rw[Zbb]at b;have e:s.A[k].Kind=2:=by grind
 rcases d.cl g with⟨_,h1⟩|⟨p,h1|h1⟩;rw[h1]at e;cases e;exact⟨k,b,p,g,h1⟩;rw[h1.kind]at e;cases e;show _∈q.2++[_];by_cases e:k=1;subst e;exact Zbp _ (List.mem_singleton.2 rfl);exact Zby _ (a.2.2 z0);by_cases c:k=1;subst c;have⟨_,h1⟩:=h1;rw[h1.kind]at e
 cases e
 grind
def vW{c}(b:Me c)(d:DS s):Ok (I1 c s) λr=>Me r.2/\∃i:Nat,r.1=i/\1<=i/\∃g:i<Ξ s.A,Iy s.A[i]:=by
 unfold I1;refine Ok.bind (fB d) λl a=>?_;have:Ξ l≠0:=λe=>a.1 (Zau e);have f:=a.2.1;refine Ok.bind (Fe b z0 z0) λy hy=>Ok.idx hy.2.1 z0 (KK ⟨hy.1,a.2.2 _ (Zae _)⟩)
def fq{c}(q:Me c)(t:DS s)n:Ok ((BH c s).bind λd=>
        (idx s.A d.1).bind λf=>
        (Bw d.2 (-3) 40).bind λe=>
        (AB e.2 30).bind λg=>
        θ ({ Op:=3,B:=d.1,Af:=0,C:=(i64.wrap (f.C+e.1)),E:=(i64.wrap (i64.wrap (f.C+e.1)+g.1)),D:=[] },g.2)) λr=>Me r.2/\RC s n r.1/\r.1.D=[]:=by
 refine Ok.bind (QW q t) λz u=>?_;have⟨v,x⟩:=z;have⟨h,i,j,k,l,m⟩:=u;obtain rfl:v=i:=j;refine JT l (Ok.bind (Mj h z0 z0 z0 z0) λa o=>Ok.bind (Fe o.1 z0 z0) λb p=>KK ⟨p.1,?_⟩);have⟨y,A⟩:=m.low;have⟨_,F,G⟩:=o;have⟨_,H,I⟩:=p;have w:i64.wrap (s.A[i].C+a.1)=s.A[i].C+a.1:=wr;rw[w,wr];exact⟨.between n i k l m _ _ z0 z0 z0,rfl⟩
def rh{c}(m:Me c)(f:DS s)n:Ok (GI s c) λr=>Me r.2/\RC s n r.1/\r.1.D=[]:=by
 have g:∀{c:Ac},Me c->Ok ((BH c s).bind λa=>
  (idx s.A a.1).bind λh=>
  bif h.An then
   θ ({ Op:=4,B:=a.1,Af:=0,C:=0,E:=0,D:=[] },a.2)
  else
   θ ({ Op:=1,B:=0,Af:=0,C:=0,E:=0,D:=[] },a.2)) λr=>Me r.2/\RC s n r.1/\r.1.D=[]:=by
  intro c m;refine Ok.bind (QW m f) λz o=>?_;have⟨p,w⟩:=z;have⟨b,i,d,e,j,l⟩:=o;obtain rfl:p=i:=d;exact JT j (Ok.br (λho=>KK ⟨b,.miss n i e j l ho,rfl⟩) λ_=>KK ⟨b,.all n,rfl⟩)
 unfold GI;refine Ok.bind (Fe m z0 z0) λy hy=>Ok.br (λ_=>?_) λ_=>Ok.br (λ_=>fq hy.1 f n) λ_=>Ok.br (λ_=>fq hy.1 f n) λ_=>Ok.br (λ_=>g hy.1) λ_=>KK ⟨hy.1,.all n,rfl⟩;refine Ok.bind (vW hy.1 f) λz o=>?_;have⟨p,w⟩:=z;have⟨b,i,d,e,j,l⟩:=o;obtain rfl:p=i:=d;have⟨L,q,k⟩:=f.clist l;have x:=(QH q).some_
 have v:1<=Ξ L.X/\Ξ L.X<=1000:=by
  have:Ym.all (λL=>υ (1<=Ξ L.X)&&υ (Ξ L.X<=1000))=ν:=by decide +kernel
  grind
 refine JT j (qr k (Ok.bind (Fe b z0 z0) λu t=>KK ⟨t.1,.under n i e j l L q k _ t.2.1 t.2.2,rfl⟩))
def bw:Nat->Nat| 0=>0| n+1=>2*bw n+2
theorem ri(i:DS s):∀(n d:Nat){c:Ac},Me c->n<d->n<=1000->Ok (B4 d c s n) λr=>Me r.2/\RC s (bw n) r.1/\DP n r.1
 | 0,d+1,c,h,_,_=>by
   show Ok (EH d (B4 d) c s 0) _;unfold EH;exact Ok.no rfl ((rh h i 0).mono λr hr=>⟨hr.1,hr.2.1,.leaf hr.2.2⟩)
 | n+1,d+1,c,h,hd,hn=>by
   have ih:=λ{c:Ac}(h:Me c)=>ri i n d h z0 z0;show Ok (EH d (B4 d) c s ((n+1:Nat):Int)) _;have e:i64.wrap (((n+1:Nat):Int)-1)=(n:Int):=by rw[wr];omega
   have g:bw (n+1)=2*bw n+2:=rfl;unfold EH;rw[e];refine Vc dt (Ok.bind (Fe h z0 z0) λy hy=>Ok.br (λ_=>?_) λ_=>Ok.br (λ_=>?_) λ_=>Ok.br (λ_=>?_) λ_=>(rh hy.1 i _).mono λr hr=>⟨hr.1,hr.2.1,.leaf hr.2.2⟩)
   ·exact Ok.bind (ih hy.1) λa f=>KK ⟨f.1,.not _ _ z0 _ f.2.1,λx hx=>by rw[List.mem_singleton.1 hx];exact f.2.2⟩
   ·exact Ok.bind (ih hy.1) λa f=>Ok.bind (ih f.1) λb g=>KK ⟨g.1,.and _ _ _ z0 _ _ f.2.1 g.2.1,λx hx=>by
     simp only[Zdd,Zdc,or_false]at hx;rcases hx with rfl|rfl
     ·exact f.2.2
     ·exact g.2.2⟩
   ·exact Ok.bind (ih hy.1) λa f=>Ok.bind (ih f.1) λb g=>KK ⟨g.1,.or _ _ _ z0 _ _ f.2.1 g.2.1,λx hx=>by
     simp only[Zdd,Zdc,or_false]at hx;rcases hx with rfl|rfl
     ·exact f.2.2
     ·exact g.2.2⟩
def bm{ns:List Nat}{k}a:sm (ns.take (k+1))=sm (ns.take k)+(ns[k]+1):=by
 unfold sm;rw[Zab a,Zay,Zdq];simp
def NK ns k:sm (ns.take k)<=sm ns:=by
 have:sm ns=sm (ns.take k)+sm (ns.drop k):=by
  unfold sm;rw[<-Zdq,<-Zay,Zdj]
 omega
theorem x9:∀n d{c}{m},RC s n c->n<d->n<=1000->-10000<=m->m<=1000->Ok (EQ d c m) λr=>1<=r/\r<=n+1
 | n,d+1,c,m,h,hd,hn,hm0,hm1=>by
   have⟨ns,u,i,j,g⟩:=h.sizes;show Ok (EG d (EQ d) c m) _;unfold EG;refine Wf (λq=>q.2) (Ξ c.D) (λk q=>1<=q.1/\q.1<=1+(sm (ns.take k))) 0 (Zag _) rfl ⟨z0,by simp[sm]⟩ z0 (λrec q f e=>?_) λrec k q a f e ih=>?_;have:=NK ns (Ξ c.D);rw[GH,f];rw[Bl];exact KK ⟨e.1,by have:=e.2;omega⟩;have b:k<Ξ ns:=z0;have h1:=NK ns k;have h2:=NK ns (k+1);have l:=bm b;have⟨o,v⟩:=e;rw[GH,f];rw[AK];refine JT a (bt (λ_=>KK ⟨o,z0⟩) λp=>?_);have t:i64.wrap (m-q.1)=m-q.1:=wr;rw[t];refine Ok.bind (x9 ns[k] d (j k b a) z0 z0 z0 z0) λr hr=>ih _ BE ?_;show 1<=i64.wrap (q.1+r)/\i64.wrap (q.1+r)<=1+(sm (ns.take (k+1)));rw[wr,l];omega
def DP.zero_kids{c}(h:DP 0 c):c.D=[]:=h
theorem xA:∀n d k{c},RC s n c->n<d->DP k c->k<=100->Ok (D6 d c) λr=>1<=r/\r<=k+1
 | n,d+1,k0,c,h,hd,hp,hk0=>by
   have⟨f,b⟩:=h.kids;show Ok (Ey d (D6 d) c) _;unfold Ey;refine Wf (λq=>q.2) (Ξ c.D) (λk q=>0<=q.1/\q.1<=k0) 0 (Zag _) rfl ⟨Zbh _,by show(0:Int)<=k0;omega⟩ z0 (λrec q e g=>?_) λrec k q a e g ih=>?_;rw[FP,e];rw[Bl,wr];exact KK ⟨z0,z0⟩;have⟨m,i,hr⟩:=b _ (Zae a);subst i
   cases k0 with
   | zero=>have:=hp.zero_kids;grind
   | succ j=>
     rw[FP,e];rw[AK];refine JT a (Ok.bind (xA m d j hr z0 (hp _ (Zae a)) z0) λr hr=>ih _ BE ?_);grind
theorem mQ(f:DS s){n}{c}(h:RC s n c):Bn s c=θ 0:=by
 have j:=f.cols_length;apply Ok.val;unfold Bn
 have b:∀i,i<Ξ s.A->(bif υ (i<0)then ν else υ ((i:Int)>=Ξ s.A))=ξ:=by grind
 cases h with
 | all=>exact Ok.no rfl (qr (x:=0) rfl (Ok.no rfl (qr (x:=ν) rfl (Ok.no rfl (Vc rfl (KK rfl))))))
 | not=>exact Ok.no rfl (qr (x:=1) rfl (Ok.no rfl (qr (x:=ν) rfl (Ok.no rfl (Vc rfl (KK rfl))))))
 | under n i d a h L m e k g h1=>
   refine Ok.no rfl (qr (x:=0) rfl (Ok.no rfl (qr (x:=ν) rfl (Ok.no rfl (Ok.no rfl (Ok.no (b i a) ?_))))));unfold Bh;exact JT a (Vc rfl (Ok.no (by rw[h.kind];rfl) (Ok.no (Zap (by grind)) (qr e (Ok.no (Zap (by grind)) (KK rfl))))))
 | between n i d a h l u g h1 h2=>
   refine Ok.no rfl (qr (x:=0) rfl (Ok.no rfl (qr (x:=ν) rfl (Ok.no rfl (Ok.no rfl (Ok.no (b i a) ?_))))));unfold Bh;refine JT a (Ok.no rfl (Vc rfl (Ok.no (by rw[h.kind];rfl) (Ok.no ?_ (KK rfl)))));grind
 | miss n i d a h ho=>
   refine Ok.no rfl (qr (x:=0) rfl (Ok.no rfl (qr (x:=ν) rfl (Ok.no rfl (Ok.no rfl (Ok.no (b i a) ?_))))));unfold Bh;exact JT a (Ok.no rfl (Ok.no rfl (Vc rfl (Ok.no (by rw[h.kind,ho];rfl) (KK rfl)))))
 | _=>exact Ok.no rfl (qr (x:=2) rfl (Ok.no rfl (qr (x:=ν) rfl (Ok.no rfl (Vc rfl (KK rfl))))))
theorem db(e:DS s):∀n d{c},RC s n c->n<d->C3 d s c=θ 0
 | n,d+1,c,h,hd=>by
   have⟨g,a⟩:=h.kids;apply Ok.val;show Ok (Cv d (C3 d) s c) _;unfold Cv;refine qr (mQ e h) (Ok.no rfl ?_);refine Wf (λq=>q) (Ξ c.D) (λ_ _=>True) 0 (Zag _) rfl trivial z0 (λrec q b i=>?_) λrec k q f b i ih=>?_;rw[BV,b];rw[Bl];exact KK rfl;have⟨m,j,hr⟩:=a _ (Zae f);subst j;rw[BV,b];rw[AK];exact JT f (qr (db e m d hr z0) (Ok.no rfl (ih _ BE trivial)))
def RC.check(a:DS s){n}{c}(h:RC s n c)(b:n<=39/\DP 9 c){d}(hd:n<d):Bm d s c=θ 0:=by
 apply Ok.val;unfold Bm;exact qr a.check (Ok.no rfl (Ok.bind (x9 n d h hd z0 z0 z0) λr hr=>Ok.no df (Ok.bind (xA n d 9 h hd b.2 z0) λr hr=>Ok.no df (qr (db a n d h hd) (KK rfl)))))
theorem Ze:∀d c,D6 d c=IR d c
 | 0,_=>rfl
 | d+1,c=>by
   show Ey d (D6 d) c=Qg d (IR d) c;rw[show D6 d=IR d from funext (Ze d)];rfl
theorem V8{σ ρ}{f g:(σ->Option ρ)->σ->Option ρ}(I:σ->Prop)(h:∀c d s,I s->(∀a,I a->c a=d a)->f c s=g d s):∀n s,I s->iter f n s=iter g n s
 | 0,_,_=>rfl
 | n+1,s,hs=>h _ _ s hs λa b=>V8 I h n a b
def nds:Nat->Ae->Nat| 0,_=>1| d+1,c=>1+(c.D.map (nds d)).sum
theorem XZ:∀d c,1<=nds d c
 | 0,_=>Zam _
 | d+1,c=>by unfold nds;omega
def UW{d}{l:List Ae}{k}a:((l.take (k+1)).map (nds d)).sum=((l.take k).map (nds d)).sum+nds d l[k]:=by
 rw[Zab a,Zay,Zdq];simp
def Nz{d}(l:List Ae)k:((l.take k).map (nds d)).sum<=(l.map (nds d)).sum:=by
 have:(l.map (nds d)).sum=((l.take k).map (nds d)).sum+((l.drop k).map (nds d)).sum:=by
  rw[<-Zdq,<-Zay,Zdj]
 omega
theorem eN{d}(l:List Ae)k(a:k<=Ξ l):k<=((l.take k).map (nds d)).sum:=by
 induction k with
 | zero=>omega
 | succ k ih=>rw[UW z0];have:=XZ d l[k];grind
theorem bG:∀d m c,m<d->m<=1000->EQ d c m=θ ((min (nds d c) (m+1):Nat):Int)/\IQ d c (m+1:Nat)=θ ((min (nds d c) (m+1):Nat):Int)
 | d+1,m,c,hd,hm=>by
   have l:nds (d+1) c=1+(c.D.map (nds d)).sum:=rfl;constructor;apply Ok.val;show Ok (EG d (EQ d) c m) _;unfold EG;refine Ok.loop (λq=>∃k:Nat,q.2=k/\k<=Ξ c.D/\q.1=(min (1+((c.D.take k).map (nds d)).sum) (m+1):Nat)/\k<=m) (λq=>m+1-q.2.toNat) ⟨0,rfl,Zag _,zs,Zag _⟩ (by unfold Ay;show m+1-(0:Int).toNat<_;simp;omega) λrec q ⟨k,e,n,f,g⟩ ih=>?_;rw[GH,e,f];refine bt (λb=>?_) λo=>KK ?_;have a:k<Ξ c.D:=z0;have h1:=Nz (d:=d) c.D k;have h2:=Nz (d:=d) c.D (k+1);have p:=UW (d:=d) a;have r:=eN (d:=d) c.D k z0;have t:=XZ d c.D[k];refine JT a (bt (λh=>KK ?_) λi=>?_);rw[l];congr 1;omega
   have j:i64.wrap (m-(min (1+((c.D.take k).map (nds d)).sum) (m+1):Nat))=(m-(1+((c.D.take k).map (nds d)).sum):Nat):=by
    rw[wr];omega
   rw[j];refine qr (bG d _ c.D[k] z0 z0).1 (ih _ ⟨k+1,BE,z0,?_,z0⟩ ?_);show i64.wrap (_+_)=_;rw[wr];omega;show m+1-(i64.wrap (k+1)).toNat<m+1-q.2.toNat;rw[BE,e];omega;rw[show c.D.take k=c.D from Zbe z0];rfl;apply Ok.val;show Ok (Ic d (IQ d) c (m+1:Nat)) _;unfold Ic;refine Ok.loop (λq=>∃k:Nat,q.2=k/\k<=Ξ c.D/\q.1=(min (1+((c.D.take k).map (nds d)).sum) (m+1):Nat)/\k<=m) (λq=>m+1-q.2.toNat) ⟨0,rfl,Zag _,zs,Zag _⟩ (by unfold Ay;show m+1-(0:Int).toNat<_;simp;omega) λrec q ⟨k,e,n,f,g⟩ ih=>?_;rw[KQ,e,f];by_cases b:(k:Int)<Ξ c.D;rw[Zak b,Zav];have a:k<Ξ c.D:=z0;have h1:=Nz (d:=d) c.D k;have h2:=Nz (d:=d) c.D (k+1);have p:=UW (d:=d) a;have r:=eN (d:=d) c.D k z0;have t:=XZ d c.D[k];refine bt (λi=>JT a ?_) λh=>KK ?_
   have j:i64.wrap ((m+1:Nat)-(min (1+((c.D.take k).map (nds d)).sum) (m+1):Nat))=((m-(1+((c.D.take k).map (nds d)).sum))+1:Nat):=by
    rw[wr];omega
   rw[j];refine qr (bG d _ c.D[k] z0 z0).2 (ih _ ⟨k+1,BE,z0,?_,z0⟩ ?_);show i64.wrap (_+_)=_;rw[wr];omega;show m+1-(i64.wrap (k+1)).toNat<m+1-q.2.toNat;rw[BE,e];omega;rw[l];congr 1;omega;rw[Zap b,Zaq,Zaq];apply KK;grind
theorem RC.nds:∀(n d:Nat){c:Ae},RC s n c->nds d c<=n+1
 | n,0,c,_=>by show 1<=n+1;omega
 | n,d+1,c,h=>by
   obtain⟨ns,g,b,e,a⟩:=h.sizes
   have:∀k,k<=Ξ c.D->((c.D.take k).map (P.nds d)).sum<=sm (ns.take k):=by
    intro k
    induction k with
    | zero=>simp
    | succ k ih=>
      intro f;rw[UW z0,bm z0];have:=ih z0;have:=RC.nds ns[k] d (e k z0 z0);omega
   have:=this (Ξ c.D) (Zam _);rw[Zaj,show ns.take (Ξ c.D)=ns from Zbe z0]at this;show 1+(c.D.map (P.nds d)).sum<=n+1;omega
theorem xL:∀n d{c}{m},RC s n c->n<d->n<=1000->-10000<=m->m<=1000->Ok (IQ d c m) λr=>1<=r/\r<=n+1
 | n,d+1,c,m,h,hd,hn,hm0,hm1=>by
   have⟨ns,u,i,j,g⟩:=h.sizes;show Ok (Ic d (IQ d) c m) _;unfold Ic;refine Wf (λq=>q.2) (Ξ c.D) (λk q=>1<=q.1/\q.1<=1+(sm (ns.take k))) 0 (Zag _) rfl ⟨z0,by simp[sm]⟩ z0 (λrec q f e=>?_) λrec k q a f e ih=>?_;have:=NK ns (Ξ c.D);rw[KQ,f];refine Ok.no ?_ (KK ⟨e.1,by have:=e.2;omega⟩);rw[df];rfl;have b:k<Ξ ns:=z0;have h1:=NK ns k;have h2:=NK ns (k+1);have l:=bm b;have⟨o,v⟩:=e;rw[KQ,f];rw[Zak (show(k:Int)<Ξ c.D by omega),Zav];refine bt (λ_=>JT a ?_) λp=>KK ⟨o,z0⟩;have t:i64.wrap (m-q.1)=m-q.1:=wr;rw[t];refine Ok.bind (xL ns[k] d (j k b a) z0 z0 z0 z0) λr hr=>ih _ BE ?_;show 1<=i64.wrap (q.1+r)/\i64.wrap (q.1+r)<=1+(sm (ns.take (k+1)));rw[wr,l];omega
def nM{i:Nat}a k:ID s i k=θ (s.A[i].Kind==k):=by
 apply Ok.val;unfold ID;refine Vc ?_ (JT a (KK rfl));grind
def uj{self}{c}(h:Ξ c.D<=2)(g:∀k∈c.D,self s k=θ 0):iter (λa d=>Ie c self s (λf=>θ 0) a d) Ay 0=θ 0:=by
 apply Ok.val;refine Wf (λq=>q) (Ξ c.D) (λ_ _=>True) 0 (Zag _) rfl trivial z0 (λrec q e i=>?_) λrec k q b e i ih=>?_;rw[Ie,e];rw[Bl];exact KK rfl;rw[Ie,e];rw[AK];exact JT b (qr (g _ (Zae b)) (Ok.no rfl (ih _ BE trivial)))
theorem Aa1(p:DS s):∀n d{c},RC s n c->n<d->Fv d s c=θ 0
 | n,d+1,c,h,hd=>by
   have⟨g,j⟩:=h.kids
   have e:∀k∈c.D,Fv d s k=θ 0:=λk q=>by
    have⟨m,r,hr⟩:=j k q;subst r;exact Aa1 p m d hr z0
   have a:=uj (s:=s) (self:=Fv d) g e;apply Ok.val;show Ok (Eo d (Fv d) s c) _;unfold Eo
   cases h with
   | all=>
     apply Vc rfl;unfold AH;refine Ok.no rfl (Ok.no rfl (Ok.no rfl (Ok.no rfl ?_)));unfold BW;apply Ok.no rfl;unfold C5;exact Ok.no rfl (Ok.eq a)
   | and=>
     refine Ok.no rfl (Ok.no rfl (Ok.no rfl (Ok.no rfl (Vc rfl ?_))));unfold AH;refine Ok.no rfl (Ok.no rfl (Ok.no rfl (Ok.no rfl ?_)));unfold BW;apply Ok.no rfl;unfold C5;exact Ok.no rfl (Ok.eq a)
   | or=>
     refine Ok.no rfl (Ok.no rfl (Ok.no rfl (Ok.no rfl (Ok.no rfl (Vc rfl ?_)))));unfold AH;refine Ok.no rfl (Ok.no rfl (Ok.no rfl (Ok.no rfl ?_)));unfold BW;apply Ok.no rfl;unfold C5;exact Ok.no rfl (Ok.eq a)
   | not=>
     refine Ok.no rfl (Ok.no rfl (Ok.no rfl (Ok.no rfl (Ok.no rfl (Ok.no rfl (Vc rfl ?_))))));unfold AH;refine Ok.no rfl (Ok.no rfl (Ok.no rfl (Ok.no rfl ?_)));unfold BW;apply Ok.no rfl;unfold C5;exact Ok.no rfl (Ok.eq a)
   | under n i f b h L v o k t h1=>
     refine Ok.no rfl (Vc rfl ?_);unfold AH;refine Ok.no zs (Vc rfl (qr (nM b 2) (Ok.no (by rw[h.kind];rfl) ?_)));unfold BW;refine Vc rfl (Ok.no (Zap (by grind)) (JT b (qr o (Ok.no (Zap (by grind)) ?_))));unfold C5;exact Ok.no rfl (Ok.eq a)
   | between n i f b h l u t h1 h2=>
     refine Ok.no rfl (Ok.no rfl (Vc rfl ?_));unfold AH;refine Ok.no zs (Ok.no rfl (Vc rfl (qr (nM b 3) (Ok.no (by rw[h.kind];rfl) ?_))));unfold BW;apply Ok.no rfl;unfold C5;refine Ok.no ?_ (Ok.eq a);grind
   | miss n i f b h ho=>
     refine Ok.no rfl (Ok.no rfl (Ok.no rfl (Vc rfl ?_)));unfold AH;refine Ok.no zs (Ok.no rfl (Ok.no rfl (Vc rfl (qr (nM b 3) (Ok.no (by rw[h.kind];rfl) (JT b (Ok.no (by grind) ?_)))))));unfold BW;apply Ok.no rfl;unfold C5;exact Ok.no rfl (Ok.eq a)
def RC.rcheck(a:DS s){n}{c}(h:RC s n c)(b:n<=39/\DP 9 c){d}(hd:n<d):BY d s c=θ 0:=by
 apply Ok.val;unfold BY;exact qr a.rcheck (Ok.no rfl (Ok.bind (xL n d h hd z0 z0 z0) λr hr=>Ok.no df (Ok.bind (Ze d c▸xA n d 9 h hd b.2 z0) λr hr=>Ok.no df (qr (Aa1 a n d h hd) (KK rfl)))))
def GC s c:=∃n,RC s n c/\n<=39/\DP 9 c
def GC.check(a:DS s){c}(h:GC s c){d}(hd:40<=d):Bm d s c=θ 0:=by
 have⟨n,h1,h2⟩:=h;exact h1.check a h2 z0
def GC.rcheck(a:DS s){c}(h:GC s c){d}(hd:40<=d):BY d s c=θ 0:=by
 have⟨n,h1,h2⟩:=h;exact h1.rcheck a h2 z0
def GC.op{c}(h:GC s c):(c.Op != 0)=ν:=by
 have⟨n,h1,_⟩:=h
 cases h1<;>rfl
def GC.all:GC s ZA:=⟨0,.all 0,z0,.leaf rfl⟩
def GC.drawn{n}{c}(h:RC s (bw n) c/\DP n c)(a:n<=3):GC s c:=by
 refine⟨bw n,h.1,?_,h.2.mono z0⟩;rcases(by omega:n=0\/n=1\/n=2\/n=3)with rfl|rfl|rfl|rfl<;>decide
theorem Px{α β:Type}{l}{i}{f g:α->Option β}(h:∀x∈l,f x=g x):(idx l i).bind f=(idx l i).bind g:=by
 cases e:idx l i with
 | none=>rfl
 | some x=>
   have:x∈l:=by
    unfold idx at e;grind
   grind
def aU(i:Nat)(k:Int):Ae:={ Op:=2,B:=i,Af:=k,C:=0,E:=0,D:=[] }
def ZE L k v:=(QI L v k).bind λx=>(ER x).bind λy=>θ y
def mF L k v:=(Uk L v k).bind λx=>bif x then θ 1 else θ (-1)
def tC L k v:=(ZE L k v).getD 0
def sB L l k(rec1:Int×List (Int×Int)->Option Bool)(v:Int)b:=bif(v<(Ξ (AW L)))then(idx (AW L) v).bind λx43=>(J5 L x43 l).bind λx48=>(ZE L k x43).bind λx52=>bif(bif((NZ x48 b).isSome)then(((NZ x48 b).getD 0) != x52)else ξ)then θ ξ else rec1 (i64.wrap (v+1),iz x48 x52 b)else θ ν
def R4 L k l:=iter (λrec1 s=>sB L l k rec1 s.1 s.2) Ay (0,[])
def dB2 L l k v9(kont rec2:Int->Option Bool)v10:=bif(v10<v9)then(idx (AW L) v9).bind λx44=>(θ (cv L l x44)).bind λx46=>(idx (AW L) v10).bind λx53=>(θ (cv L l x53)).bind λx55=>bif(x46==x55)then(idx (AW L) v9).bind λx62=>(mF L k x62).bind λx64=>(idx (AW L) v10).bind λx69=>(mF L k x69).bind λx71=>bif(x64 != x71)then θ ξ else rec2 (i64.wrap (v10+1))else rec2 (i64.wrap (v10+1))else kont v10
def yT L k l:=iter (λrec1 v9=>bif(v9<(Ξ (AW L):Int))then iter (λrec2 s=>dB2 L l k v9 (λ_=>rec1 (i64.wrap (v9+1))) rec2 s) Ay 0 else θ ν) Ay 0
def oK L l val:=iter (λrec1 v=>bif(v<(Ξ (AW L):Int))then(idx (AW L) v).bind λx37=>(θ (cv L l x37)).bind λx39=>bif(x39==val)then(idx (AW L) v).bind λx44=>θ x44 else rec1 (i64.wrap (v+1))else θ (-1)) Ay 0
def Acr L l v:=((kx L l (cv L l v)).getD (0,ξ)).1
def Aec L l v:=(oK L l (cv L l v)).getD (-1)
def uf L:=(List.range (KF L).toNat).map λl:Nat=>(l:Int)
def kds(L:Am):=(List.range (Ξ L.X)).map λl:Nat=>(l:Int)
def oo L k l:=(R4 L k l==yT L k l)&&(R4 L k l).isSome&&(bif R4 L k l==θ ν then((AW L).all λv=>ZE L k v==θ (tC L k v)&&ZE L k (Acr L l v)==θ (tC L k v)&&mF L k (Aec L l v)==θ (tC L k v)&&(oK L l (cv L l v)).isSome)&&((uf L).all λl'=>l'<l||R4 L k l'==θ ν)else ν)
def YW:(Ym.all λL=>((AW L).all λv=>cv L 0 v==0)&&(kds L).all λk=>(R4 L k (KF L-1)==θ ν)&&(uf L).all λl=>oo L k l)=ν:=by decide +kernel
def Aay{i}b{L}(a:idx s.S s.A[i].Al=θ L)k v:Ca s (aU i k) v=ZE L k v:=by
 unfold Ca;show(idx s.A i).bind _=_;rw[AY b,Zad,a];rfl
def Aa0{i}b{L}(a:idx s.S s.A[i].Al=θ L)k v:CX s (aU i k) v=mF L k v:=by
 unfold CX;show(idx s.A i).bind _=_;rw[AY b,Zad,a];rfl
def Ad5{i}c{L}(e:L∈Ym)(b:idx s.S s.A[i].Al=θ L)k l:B7 s (aU i k) l=R4 L k l:=by
 have a:=QH e;have h2:=a.lev2;have f:=a.lev3;unfold B7;show(idx s.A i).bind _=_;rw[AY c,Zad];show(idx s.S s.A[i].Al).bind _=_;rw[b,Zad,a.lev,Zad,wr,a.leaves,Zad];unfold R4;congr 1;funext d g;unfold Ki sB;simp[Aay c b]
def rleaves{i:Nat}c{L}(d:L∈Ym)(b:idx s.S s.A[i].Al=θ L):Dk s i=θ (AW L):=by
 have a:=QH d;have h2:=a.lev2;have e:=a.lev3;unfold Dk;rw[AY c,Zad,b,Zad,a.rlev,Zad,wr,a.rleaves];rfl
def au{i:Nat}{d}(h:Iy s.A[i]){L}(b:L∈Ym)(a:idx s.S s.A[i].Al=θ L){v}(c:v∈AW L):iE s s.A[i] v:=.inr (.inl ⟨h.kind,L,b,a,c⟩)
def GD(d:DS s){i}(e:1<=i)f(h:Iy s.A[i]){L}(g:L∈Ym)(a:idx s.S s.A[i].Al=θ L){l v}(b:0<=l)(c:l<=fin s i)(j:v∈AW L):Bt s i l v=θ (cv L l v):=by
 rw[lV d e f b c (au h g a j),Kl h a]
def Afo(f:DS s){i}(g:1<=i)b(h:Iy s.A[i]){L}(e:L∈Ym)(a:idx s.S s.A[i].Al=θ L)k{l}(c:0<=l)(d:l<=fin s i):Eh s (aU i k) l=yT L k l:=by
 unfold Eh;show(idx s.A i).bind _=_;rw[AY b,Zad];show(Dk s i).bind _=_;rw[rleaves b e a,Zad];unfold yT;congr 1;funext j o;unfold PF;congr 2;funext m n;unfold PH dB2;congr 1;refine Px λx hx=>?_;show(Bt s i l x).bind _=_;rw[GD f g b h e a c d hx];rw[Zad];refine Px λy hy=>?_;show(Bt s i l y).bind _=_;rw[GD f g b h e a c d hy];simp[Zad,Aa0 b a]
def zM(g:DS s){i}(j:1<=i)b(h:Iy s.A[i]){L}(e:L∈Ym)(a:idx s.S s.A[i].Al=θ L){l}(c:0<=l)(d:l<=fin s i)val:Ew s i l val=oK L l val:=by
 unfold Ew;rw[AY b,Zad,h.kind];show(Dk s i).bind _=_;rw[rleaves b e a,Zad];unfold oK;congr 1;funext f v;unfold U2;congr 1;refine Px λx hx=>?_;rw[GD g j b h e a c d hx]
def ZX{i}b(h:Iy s.A[i]){L}(a:idx s.S s.A[i].Al=θ L):fin s i=KF L-1:=by rw[E8 b,Nv h a]
structure CF(L:Am)(k l:Int):Prop where
 same:R4 L k l=yT L k l
 ex:∃b,R4 L k l=some b
 val:R4 L k l=some true->∀v∈AW L,ZE L k v=some (tC L k v)/\ZE L k (Acr L l v)=some (tC L k v)/\∃u,oK L l (cv L l v)=some u/\mF L k u=some (tC L k v)
 up:R4 L k l=some true->∀l',l<=l'->l'<KF L->R4 L k l'=some true
def cf{L}(j:L∈Ym){k l:Int}(q:0<=k)(r:k<Ξ L.X)(m:0<=l)(n:l<KF L):CF L k l:=by
 have h:=List.all_eq_true.1 YW L j;rw[Zax]at h;have h:=List.all_eq_true.1 h.2 k (List.mem_map.2 ⟨k.toNat,List.mem_range.2 z0,z0⟩);rw[Zax]at h;have f:∀{l:Int},0<=l->l<KF L->l∈uf L:=λa b=>List.mem_map.2 ⟨_,List.mem_range.2 z0,Zdh a⟩;have h:=List.all_eq_true.1 h.2 l (f m n);unfold oo at h;simp only[Zax,Zdk]at h;have⟨⟨h1,h2⟩,g⟩:=h;refine⟨h1,Option.isSome_iff_exists.1 h2,λe v o=>?_,λe p a b=>?_⟩;rw[e]at g;rw[Zbd,Zav,Zax]at g;have:=List.all_eq_true.1 g.1 v o;simp[Zax,Zdk]at this;have⟨⟨⟨a,b⟩,c⟩,d⟩:=this;have⟨u,i⟩:=Option.isSome_iff_exists.1 d;refine⟨a,b,u,i,?_⟩;unfold Aec at c;rw[i]at c;exact c;grind
def Abm{L}(a:L∈Ym){k:Int}(b:0<=k)(c:k<Ξ L.X):R4 L k (KF L-1)=θ ν:=by
 have h:=List.all_eq_true.1 YW L a;rw[Zax]at h;have h:=List.all_eq_true.1 h.2 k (List.mem_map.2 ⟨k.toNat,List.mem_range.2 z0,z0⟩);grind
def rl{L}(a:L∈Ym){v}(b:v∈AW L):cv L 0 v=0:=by
 have h:=List.all_eq_true.1 YW L a;grind
def aB(i:Nat)(lo hi:Int):Ae:={ Op:=3,B:=i,Af:=0,C:=lo,E:=hi,D:=[] }
def aM(i:Nat):Ae:={ Op:=4,B:=i,Af:=0,C:=0,E:=0,D:=[] }
def SF c lo hi l:=(l=0->c.An=ξ)/\(lo<=c.E->c.C<=hi->(l=0->lo<=c.C/\c.E<=hi)/\(l≠0->(lo<=c.C\/lo%Fb c l=0)/\(c.E<=hi\/(hi+1)%Fb c l=0)))
def mN{n w}(b:1<=w)(a:w<=1000000)(c:-100000000<=n)(h1:n<=100000000):FD n w=θ (n-n%w):=TO b a c h1
def Abo{c}(h:Do c){l:Int}(a:1<=l)(h1:l<=Ξ c.L):J7 c l=θ (Fb c l):=by unfold J7;rw[mr h a h1];rfl
def Aco{i}t(h:Do s.A[i]){lo a l:Int}(a0:-1000000<=lo)(A:lo<=a)(B:a<=1000000)(C:0<=l)(h1:l<=Ξ s.A[i].L):Ok (B7 s (aB i lo a) l) λb=>(b=ν↔SF s.A[i] lo a l):=by
 have⟨D,E⟩:=h.low;have⟨F,G⟩:=h.high;unfold B7;refine JT t (Ok.no rfl (Ok.br (λe=>KK ?_) λe=>Ok.no rfl ?_))
 have k:l=0/\s.A[i].An=ν:=by grind
 refine⟨(λx=>by cases x),λx=>?_⟩;have:=x.1 k.1;rw[k.2]at this
 cases this
 have k:l=0->s.A[i].An=ξ:=by grind
 show Ok (bif υ ((if s.A[i].C>lo then s.A[i].C else lo)>(if s.A[i].E<a then s.A[i].E else a))then θ ν else bif(l==0)then θ (bif((if s.A[i].C>lo then s.A[i].C else lo)==s.A[i].C)then((if s.A[i].E<a then s.A[i].E else a)==s.A[i].E)else ξ)else _) _;have hx:(if s.A[i].C>lo then s.A[i].C else lo)=max s.A[i].C lo:=by grind
 have o:(if s.A[i].E<a then s.A[i].E else a)=min s.A[i].E a:=by grind
 rw[show(aB i lo a).C=lo from rfl,show(aB i lo a).E=a from rfl,hx,o];generalize s.A[i]=c at *;refine bt (λu=>KK ⟨λ_=>⟨k,λ_ _=>z0⟩,λ_=>rfl⟩) λu=>Ok.br (λd=>KK ?_) λd=>?_;have d:l=0:=by grind
 constructor;intro m;refine⟨k,λ_ _=>⟨λ_=>?_,λo=>absurd d o⟩⟩;by_cases g:max c.C lo=c.C;rw[g,Zbd,Zav]at m;have:=(beq_iff_eq.1 m);omega;have:(max c.C lo==c.C)=ξ:=by grind
 rw[this]at m;cases m;intro n;have:=(n.2 z0 z0).1 d;rw[show max c.C lo=c.C by omega,show min c.E a=c.E by omega,Zbd,Zbd];rfl;have d:l≠0:=by grind
 have p:=Fw h (l:=l) z0 h1
 have key:∀b:Bool,(b=ν↔(lo<=c.C\/lo%Fb c l=0)/\(c.E<=a\/(a+1)%Fb c l=0))->(b=ν↔SF c lo a l):=by
  intro b m;rw[m];exact⟨λn=>⟨k,λ_ _=>⟨λr=>absurd r d,λ_=>n⟩⟩,λn=>(n.2 z0 z0).2 d⟩
 have v:c.E<=a->(min c.E a==c.E)=ν:=λr=>by rw[show min c.E a=c.E by omega,Zbd]
 apply qr (Abo h z0 h1);have w:i64.wrap (min c.E a+1)=min c.E a+1:=wr;have y:FD (min c.E a+1) (Fb c l)=θ (min c.E a+1-(min c.E a+1)%Fb c l):=mN p.1 z0 z0 z0;have z:FD (max c.C lo) (Fb c l)=θ (max c.C lo-max c.C lo%Fb c l):=mN p.1 z0 z0 z0;rw[w,y,z];refine Ok.br (λg=>?_) λg=>?_;have g:max c.C lo=c.C:=by grind
 refine Ok.br (λf=>KK (key _ ?_)) λf=>qr rfl (KK (key _ ?_));have f:min c.E a=c.E:=by grind
 exact⟨λ_=>⟨.inl z0,.inl z0⟩,λ_=>rfl⟩;have f:min c.E a≠c.E:=by grind
 rw[show min c.E a=a by omega,Zdk];constructor;intro q;exact⟨.inl z0,.inr z0⟩;rintro⟨_,q|q⟩<;>omega;have g:max c.C lo≠c.C:=by grind
 rw[show max c.C lo=lo by omega];refine qr rfl (Ok.br (λj=>Ok.br (λf=>KK (key _ ?_)) λf=>qr rfl (KK (key _ ?_))) λj=>KK (key _ ?_));have f:min c.E a=c.E:=by grind
 have j:=beq_iff_eq.1 j;exact⟨λ_=>⟨.inr z0,.inl z0⟩,λ_=>rfl⟩;have f:min c.E a≠c.E:=by grind
 have j:=beq_iff_eq.1 j;rw[show min c.E a=a by omega,Zdk];constructor;intro q;exact⟨.inr z0,.inr z0⟩;rintro⟨_,q|q⟩<;>omega;grind
def Ad8{i}v(h:Do s.A[i]){lo a l:Int}(a0:-1000000<=lo)(C:lo<=a)(D:a<=1000000)(E:0<=l)(h1:l<=Ξ s.A[i].L):Ok (Eh s (aB i lo a) l) λb=>(b=ν↔SF s.A[i] lo a l):=by
 obtain⟨H,I⟩:=h.low;obtain⟨J,K⟩:=h.high;unfold Eh;refine JT v (Ok.no rfl (Ok.no rfl ?_));rw[show(aB i lo a).C=lo from rfl,show(aB i lo a).E=a from rfl];generalize s.A[i]=c at *
 have w:∀b:Bool,(bif υ (lo>c.C)then υ (lo<=c.E)else ξ)=b->(b=ν↔lo>c.C/\lo<=c.E):=by grind
 have y:∀b:Bool,(bif υ (a>=c.C)then υ (a<c.E)else ξ)=b->(b=ν↔a>=c.C/\a<c.E):=by grind
 generalize g:(bif υ (lo>c.C)then υ (lo<=c.E)else ξ)=F at *;generalize o:(bif υ (a>=c.C)then υ (a<c.E)else ξ)=G at *;have g:=w F rfl;have o:=y G rfl;refine Ok.br (λf=>KK ?_) λf=>?_
 ·have f:l=0:=by simpa using f
  subst f
  cases ho:c.An<;>cases F<;>cases G<;>simp at g o ⊢
  all_goals first
   | (intro j;exact absurd (ho.symm.trans (j.1 rfl)) j0)
   | (intro j;have:=(j.2 z0 z0).1 rfl;omega)
   | exact⟨λ_=>ho,λ_ _=>⟨λ_=>z0,λA=>absurd rfl A⟩⟩
 ·have f:l≠0:=by simpa using f
  have B:=Fw h (l:=l) z0 h1
  have key:∀b:Bool,(b=ν↔(lo<=c.E->c.C<=a->(lo<=c.C\/lo%Fb c l=0)/\(c.E<=a\/(a+1)%Fb c l=0)))->(b=ν↔SF c lo a l):=by
   intro b t;rw[t];exact⟨λj=>⟨λu=>absurd u f,λp q=>⟨λu=>absurd u f,λ_=>j p q⟩⟩,λj p q=>(j.2 p q).2 f⟩
  have tm:∀n:Int,(Int.tmod n (Fb c l)==0)=ν↔n%Fb c l=0:=by
   intro n;have:=T9 n B.1;have L:=Zdb n (by omega:Fb c l≠0);have M:=Zcv n (by omega:0<Fb c l);rw[Zdk];exact⟨λq=>z0,λq=>Int.tmod_eq_zero_of_dvd (Zfh q)⟩
  apply qr (lY h z0 h1);rw[wr (n:=a+1) z0 z0];have k:Fb c l≠0:=z0
  refine Ok.br (λr=>Ok.br (λm=>KK (key _ ?_)) λm=>dg k (KK (key _ ?_))) λr=>dg k (Ok.br (λd=>Ok.br (λm=>KK (key _ ?_)) λm=>dg k (KK (key _ ?_))) λd=>KK (key _ ?_))
  ·grind
  ·cases F<;>cases G<;>simp at g o r m
   rw[tm];grind
  ·grind
  ·have d:=(tm lo).1 d
   cases F<;>cases G<;>simp at g o r m
   rw[tm];grind
  ·grind
def Acp{i}b(h:Do s.A[i])(ho:s.A[i].An=ν){l}(c:0<=l):B7 s (aM i) l=θ (υ (l>0)):=by
 apply Ok.val;unfold B7;refine JT b (Ok.no rfl (Ok.br (λe=>KK ?_) λe=>Vc rfl (KK ?_)));by_cases a:l=0;subst a;rfl;have:(l==0)=ξ:=by grind
 rw[this]at e;cases e;grind
def Ad9{i}(a:i<Ξ s.A)l:Eh s (aM i) l=θ (υ (l>0)):=by
 apply Ok.val;unfold Eh;exact JT a (Ok.no rfl (Vc rfl (KK rfl)))
def SF.up{c}(h:Do c){lo g l d}(m:SF c lo g l)(w:0<=l)(f:l<=d)(h1:d<=Ξ c.L):SF c lo g d:=by
 have⟨o,r⟩:=m;refine⟨λi=>o z0,λp q=>?_⟩;have⟨j,t⟩:=r p q;refine⟨λi=>j z0,λi=>?_⟩;by_cases e:l=0;have:=j e;exact⟨.inl this.1,.inl this.2⟩;have⟨u,v⟩:=t e;have k:=mt h (a:=d) (b:=l) z0 f h1;generalize Fb c d=x at *;generalize Fb c l=y at *;simp[Zdd,Zdc,or_false,Prod.mk.injEq]at k
 have dv:∀n:Int,n%y=0->n%x=0:=by
  intro n z;rcases k with⟨rfl,rfl⟩|⟨rfl,rfl⟩|⟨rfl,rfl⟩|⟨rfl,rfl⟩|⟨rfl,rfl⟩|⟨rfl,rfl⟩|⟨rfl,rfl⟩|⟨rfl,rfl⟩|⟨rfl,rfl⟩|⟨rfl,rfl⟩|⟨rfl,rfl⟩|⟨rfl,rfl⟩|⟨rfl,rfl⟩|⟨rfl,rfl⟩|⟨rfl,rfl⟩<;>omega
 grind
def sK{c}(h:Do c):Fb c (Ξ c.L)=1:=by
 unfold Fb;rw[Int.sub_self];rcases lI h.widths with e|e|e|e<;>rw[e]<;>rfl
def SF.fin{c}(h:Do c)lo a:SF c lo a (Ξ c.L):=by
 have:=B6 h;refine⟨λb=>z0,λ_ _=>⟨λb=>z0,λ_=>?_⟩⟩;rw[sK h];grind
def SF.sem{c}(h:Do c){lo d l v}(g:SF c lo d l)(i:lo<=d)(m:0<=l)(h1:l<=Ξ c.L)(n:c.C<=v/\v<=c.E):(lo<=Vr c l v/\Vr c l v<=d)↔(lo<=v/\v<=d):=by
 have⟨o,r⟩:=h.low;have⟨t,u⟩:=h.high;have⟨w,f⟩:=g;unfold Vr;by_cases e:l=0;rw[Zai e];by_cases p:lo<=c.E;by_cases q:c.C<=d;have:=(f p q).1 e;omega;omega;omega;rw[Zah e];have j:=mt h (a:=l) (b:=l) z0 (Zbh _) h1;by_cases p:lo<=c.E;by_cases q:c.C<=d;have:=(f p q).2 e;generalize Fb c l=x at *;simp[Zdd,Zdc,or_false,Prod.mk.injEq,and_self]at j;rcases(by omega:x=1\/x=2\/x=4\/x=5\/x=12\/x=20)with rfl|rfl|rfl|rfl|rfl|rfl<;>omega;have:=Fw h (l:=l) z0 h1;have k:=Zdb v (by omega:Fb c l≠0);omega;have:=Fw h (l:=l) z0 h1;have k:=Zdb v (by omega:Fb c l≠0);grind
structure AT(s:Aa)(a:Ae)(i:Nat)(S:Int->Prop):Prop where
 col:a.B=(i:Int)
 i0:1<=i
 i1:i<Ξ s.A
 op:a.Op=2\/a.Op=3\/a.Op=4
 p:∀l,0<=l->l<=fin s i->Ok (B7 s a l) λb=>(b=true↔S l)
 r:∀l,0<=l->l<=fin s i->Ok (Eh s a l) λb=>(b=true↔S l)
 up:∀l l',0<=l->S l->l<=l'->l'<=fin s i->S l'
 last:S (fin s i)
 sem:∀l,0<=l->l<=fin s i->S l->∀v,iE s s.A[i] v->∃t u u',Bi s i l (CV s s.A[i] l v)=some (u,true)/\Ca s a u=some t/\Ew s i l (CV s s.A[i] l v)=some u'/\CX s a u'=some t/\-1<=t/\t<=1
 sem0:S 0->∃t u u',Bi s i 0 0=some (u,true)/\Ca s a u=some t/\Ew s i 0 0=some u'/\CX s a u'=some t/\-1<=t/\t<=1
theorem yt{L}{k v t}(h:ZE L k v=θ t):-1<=t/\t<=1:=by
 unfold ZE at h
 cases e:QI L v k with
 | none=>grind
 | some b=>
   rw[e]at h
   cases b with
   | _=>have:=h;have:=Zaf this;omega
def vL(B:DS s){i}(x:1<=i)f(h:Iy s.A[i]){L}(c:L∈Ym)(a:idx s.S s.A[i].Al=θ L){k:Int}(m:0<=k)(n:k<Ξ L.X):AT s (aU i k) i λl=>R4 L k l=θ ν:=by
 have D:=ZX f h a;have p:=QH c;have h2:=p.lev2
 have q:∀l,0<=l->l<=fin s i->R4 L k l=θ ν->∀v∈AW L,∃t u u',Bi s i l (cv L l v)=θ (u,ν)/\Ca s (aU i k) u=θ t/\Ew s i l (cv L l v)=θ u'/\CX s (aU i k) u'=θ t/\-1<=t/\t<=1:=by
  intro l d o g v j;have⟨_,_,r,_⟩:=cf c m n d z0;have⟨E,y,u',F,G⟩:=r g v j;have⟨_,z⟩:=SN c d z0;have⟨_,_,_,u,C⟩:=z v j;refine⟨tC L k v,u,u',?_,?_,?_,?_,yt E⟩;rw[Yi f h c a];exact C;rw[Aay f a];unfold Acr at y;rw[C]at y;exact y;rw[zM B x f h c a d o];exact F;rw[Aa0 f a];exact G
 refine⟨rfl,x,f,.inl rfl,λl d o=>?_,λl d o=>?_,λl H d g A I=>?_,?_,λl d o g v j=>?_,λg=>?_⟩;rw[Ad5 f c a];have⟨b,w⟩:=(cf c m n d z0).ex;exact⟨b,w,by rw[w];exact⟨λe=>by rw[e],λe=>Zaf e⟩⟩;rw[Afo B x f h c a k d o,<-(cf c m n d z0).same];have⟨b,w⟩:=(cf c m n d z0).ex;exact⟨b,w,by rw[w];exact⟨λe=>by rw[e],λe=>Zaf e⟩⟩;exact(cf c m n d z0).up g H A z0;show R4 L k (fin s i)=θ ν;rw[D];exact Abm c m n;rw[Kl h a];exact q l d o g v (j.code h a);have⟨v,j⟩:=List.exists_mem_of_ne_nil _ p.some_;have:=q 0 (Zbh _) z0 g v j;rw[rl c j]at this;grind
def sd{i:Nat}b(h:Do s.A[i]){l v:Int}(c:0<=l)(h1:l<=Ξ s.A[i].L)(a:s.A[i].C<=v/\v<=s.A[i].E):Bi s i l (mv s.A[i] l v)=θ (Vr s.A[i] l v,ν):=by
 apply Ok.val;unfold Bi;refine JT b (Vc (by rw[h.kind];rfl) (Ok.no ?_ (qr (xE h c h1 a) (KK rfl))));by_cases d:0<l;rw[dt,Zav,Zbt];exact(I8 h z0 h1 a).2.2.2.1;grind
def z7{i:Nat}a(h:Do s.A[i]){l}(b:1<=l):Bi s i l B0=θ (B0,s.A[i].An):=by
 apply Ok.val;unfold Bi;exact JT a (Vc (by rw[h.kind];rfl) (Vc (by rw[dt];rfl) (KK rfl)))
def sr{i:Nat}b(h:Do s.A[i]){l v:Int}(c:0<=l)(h1:l<=Ξ s.A[i].L)(a:s.A[i].C<=v/\v<=s.A[i].E):Ew s i l (mv s.A[i] l v)=θ (Vr s.A[i] l v):=by
 apply Ok.val;unfold Ew;refine JT b (Ok.no (by rw[h.kind];rfl) (Ok.no ?_ (qr (ql h c h1 a) (KK rfl))));by_cases d:0<l;rw[dt,Zav,Zbt];exact(I8 h z0 h1 a).2.2.2.1;grind
def zN{i:Nat}a(h:Do s.A[i]){l}(b:1<=l):Ew s i l B0=θ B0:=by
 apply Ok.val;unfold Ew;exact JT a (Ok.no (by rw[h.kind];rfl) (Vc (by rw[dt];rfl) (KK rfl)))
def xi c{l}(a:1<=l):mv c l B0=B0:=by unfold mv;rw[Zah z0,Zai rfl]
def rS c v:mv c 0 v=0:=by unfold mv;rw[Zai rfl]
def qT{i}(z:1<=i)f(h:Do s.A[i]){a}{S}(A:a.B=(i:Int))(ho:a.Op=2\/a.Op=3\/a.Op=4)(B:∀l:Int,0<=l->l<=Ξ s.A[i].L->Ok (B7 s a l) λb=>(b=ν↔S l))(hr:∀l:Int,0<=l->l<=Ξ s.A[i].L->Ok (Eh s a l) λb=>(b=ν↔S l))(q:∀l j:Int,0<=l->S l->l<=j->j<=Ξ s.A[i].L->S j)(C:S (Ξ s.A[i].L))(r:S 0->s.A[i].An=ξ)(w:∀l:Int,0<=l->l<=Ξ s.A[i].L->S l->∀v,s.A[i].C<=v/\v<=s.A[i].E->∃t,Ca s a (Vr s.A[i] l v)=θ t/\CX s a (Vr s.A[i] l v)=θ t/\-1<=t/\t<=1)(D:∃t,Ca s a B0=θ t/\CX s a B0=θ t/\-1<=t/\t<=1):AT s a i S:=by
 have E:fin s i=Ξ s.A[i].L:=by rw[E8 f,Cs h]
 have F:=B6 h;refine⟨A,z,f,ho,λl a b=>B l a z0,λl a b=>hr l a z0,λl j a b c d=>q l j a b c z0,by rw[E];exact C,λl o H p v u=>?_,λp=>?_⟩;rw[Vn h];rcases u.meas h with e|⟨e,rfl⟩;have⟨t,k,m,n⟩:=w l o z0 p v e;exact⟨t,_,_,sd f h o z0 e,k,sr f h o z0 e,m,n⟩
 have g:1<=l:=by grind
 have⟨t,k,m,n⟩:=D;rw[xi _ g];exact⟨t,_,_,by rw[z7 f h g,e],k,zN f h g,m,n⟩;have e:s.A[i].C<=s.A[i].C/\s.A[i].C<=s.A[i].E:=⟨Zbh _,h.high.1⟩;have⟨t,k,m,n⟩:=w 0 (Zbh _) z0 p _ e;have x:=sd f h (Zbh 0) z0 e;have y:=sr f h (Zbh 0) z0 e;rw[rS]at x y;grind
def qU i lo a u:Ca s (aB i lo a) u=θ (if u=B0 then 0 else if lo<=u/\u<=a then 1 else -1):=by
 apply Ok.val;unfold Ca;refine Ok.no rfl (Ok.no rfl (Ok.br (λe=>KK ?_) λe=>?_));rw[Zai (by rw[KG];simpa using e)];rw[Zah (by rw[KG];simpa using e)];unfold ER;by_cases q:lo<=u/\u<=a;rw[Zai q];refine qr (x:=1) ?_ (KK rfl);show(bif(bif υ (u>=lo)then υ (u<=a)else ξ)then θ 1 else θ (-1))=θ 1;rw[dt,dt];rfl;rw[Zah q];refine qr (x:=-1) ?_ (KK rfl);show(bif(bif υ (u>=lo)then υ (u<=a)else ξ)then θ 1 else θ (-1))=θ (-1);grind
def qV i lo a u:CX s (aB i lo a) u=θ (if u=B0 then 0 else if lo<=u/\u<=a then 1 else -1):=by
 apply Ok.val;unfold CX;refine Ok.no rfl (Vc rfl (Ok.br (λe=>KK ?_) λe=>?_));rw[Zai (by rw[KG];simpa using e)];rw[Zah (by rw[KG];simpa using e)];show Ok (bif(bif υ (lo<=u)then υ (u<=a)else ξ)then θ 1 else θ (-1)) _;by_cases q:lo<=u/\u<=a;rw[Zai q,Zak q.1,Zak q.2];exact KK rfl;rw[Zah q];by_cases b:lo<=u;rw[Zak b,Zav,df];exact KK rfl;rw[Zap b];exact KK rfl
def qW i u:Ca s (aM i) u=θ (if u=B0 then 1 else -1):=by
 apply Ok.val;unfold Ca;refine Ok.no rfl (Vc rfl ?_);unfold ER;by_cases q:u=B0;subst q;exact qr (x:=1) rfl (KK rfl);rw[Zah q];refine qr (x:=-1) ?_ (KK rfl);have:(u==-1099511627776)=ξ:=by rw[Zbt];exact q
 grind
def qX i u:CX s (aM i) u=θ (if u=B0 then 1 else -1):=by
 apply Ok.val;unfold CX;refine Ok.no rfl (Ok.no rfl (Vc rfl (Ok.br (λe=>KK ?_) λe=>KK ?_)));rw[Zai (by rw[KG];simpa using e)];rw[Zah (by rw[KG];simpa using e)]
def pb{i}(m:1<=i)f(h:Do s.A[i]){lo a}(a0:-1000000<=lo)(g:lo<=a)(j:a<=1000000):AT s (aB i lo a) i (SF s.A[i] lo a):=by
 refine qT m f h rfl (.inr (.inl rfl)) (λl b c=>Aco f h a0 g j b c) (λl b c=>Ad8 f h a0 g j b c) (λl n b c d e=>c.up h b d e) (SF.fin h lo a) (λk=>k.1 rfl) (λl b c k v o=>⟨_,qU i lo a _,qV i lo a _,?_⟩) ⟨_,qU i lo a _,qV i lo a _,?_⟩;split;omega;split<;>omega;grind
def yI{i}(g:1<=i)a(h:Do s.A[i])(ho:s.A[i].An=ν):AT s (aM i) i λl=>l>0:=by
 have j:=B6 h;refine qT g a h rfl (.inr (.inr rfl)) (λl b c=>⟨_,Acp a h ho b,decide_eq_true_iff⟩) (λl b c=>⟨_,Ad9 a l,decide_eq_true_iff⟩) (λl k b c d e=>z0) z0 (λf=>absurd f j0) (λl b c f v m=>⟨_,qW i _,qX i _,?_⟩) ⟨_,qW i _,qX i _,?_⟩;split<;>omega;grind
theorem RC.at_(j:DS s){n}{c}(h:RC s n c)(ho:c.Op=2\/c.Op=3\/c.Op=4):∃i S,AT s c i S:=by
 cases h with
 | under n i a b h L m d k f h1=>exact⟨i,_,vL j a b h m d f h1⟩
 | between n i a b h l u f h1 h2=>exact⟨i,_,pb a b h f h1 h2⟩
 | miss n i a b h g=>exact⟨i,_,yI a b h g⟩
 | _=>rcases ho with e|e|e<;>cases e
def gi(c:Ae):=(bif(bif(c.Op==2)then ν else(c.Op==3))then ν else(c.Op==4))
def Nu:Nat->Ae->List Ae| 0,_=>[]| d+1,c=>bif gi c then[c]else c.D.flatMap (Nu d)
def rH{c}(h:gi c=ν):c.Op=2\/c.Op=3\/c.Op=4:=by
 unfold gi at h;grind
def bO{α β:Type}{l:List α}{f:α->List β}{k}a:(l.take (k+1)).flatMap f=(l.take k).flatMap f++f l[k]:=by
 rw[Zab a,Zcw];simp
theorem nB{α β:Type}{l:List α}{f:α->List β}{b}(h:∀x∈l,Ξ (f x)<=b):Ξ (l.flatMap f)<=Ξ l*b:=by
 induction l with
 | nil=>simp
 | cons x r ih=>
   have h1:=h x zs;have h2:=ih λy hy=>h y (by simp[hy]);rw[Zcf,Zar,Zbq,Zcu];omega
theorem ZD:∀n d{c},RC s n c->Ξ (Nu d c)<=n+1
 | n,0,c,_=>by simp[Nu]
 | n,d+1,c,h=>by
   unfold Nu
   cases e:gi c with
   | true=>simp
   | false=>
     have⟨ns,i,b,f,a⟩:=h.sizes
     have:∀k,k<=Ξ c.D->Ξ ((c.D.take k).flatMap (Nu d))<=sm (ns.take k):=by
      intro k
      induction k with
      | zero=>simp
      | succ k ih=>
        intro g;rw[bO z0,bm z0,Zar];have:=ih z0;have:=ZD ns[k] d (f k z0 z0);omega
     have:=this (Ξ c.D) (Zam _);grind
theorem fl(g:DS s):∀n d{c},RC s n c->∀a∈Nu d c,∃i S,AT s a i S
 | n,0,c,_,a,b=>by simp[Nu]at b
 | n,d+1,c,h,a,b=>by
   unfold Nu at b
   cases e:gi c with
   | true=>
     rw[e]at b;have b:a=c:=by grind
     subst b;exact h.at_ g (rH e)
   | false=>
     rw[e]at b;have⟨k,j,f⟩:=List.mem_flatMap.1 b;have⟨m,_,hr⟩:=h.kids.2 k j;exact fl g m d hr a f
theorem x5:∀n d{c},RC s n c->n<d->n<=39->Hc d c=θ (Nu d c)
 | n,d+1,c,h,hd,hn=>by
   have⟨l,a⟩:=h.kids;apply Ok.val;show Ok (Hs d (Hc d) c) _;unfold Hs
   cases e:gi c with
   | true=>exact Vc e (KK (by unfold Nu;rw[e];rfl))
   | false=>
     have b:∀k∈c.D,Ξ (Nu d k)<=40:=λk f=>by
      have⟨m,o,hr⟩:=a k f;have:=ZD m d hr;omega
     apply Ok.no e;refine Wf (λq=>q.1) (Ξ c.D) (λk q=>q.2=(c.D.take k).flatMap (Nu d)) 0 (Zag _) rfl rfl z0 (λrec q i j=>?_) λrec k q f i j ih=>?_;rw[Ja,i,j,Zaj];rw[Bl];exact KK (by unfold Nu;rw[e];rfl);have hx:=Zae f;have⟨m,o,hr⟩:=a _ hx;have g:Ξ ((c.D.take k).flatMap (Nu d))<=Ξ (c.D.take k)*40:=nB λy hy=>b y (Zbo hy);rw[Zan]at g;have:=b _ hx;rw[Ja,i,j];rw[AK];exact JT f (qr (x5 m d hr z0 z0) (Ok.rm z0 (ih _ BE (bO f).symm)))
theorem xJ:∀n d{c},RC s n c->n<d->n<=39->N7 d c=θ (Nu d c)
 | n,d+1,c,h,hd,hn=>by
   have⟨l,a⟩:=h.kids;apply Ok.val;show Ok (Mo d (N7 d) c) _;unfold Mo
   cases e:gi c with
   | true=>exact Vc e (KK (by unfold Nu;rw[e];rfl))
   | false=>
     have b:∀k∈c.D,Ξ (Nu d k)<=40:=λk f=>by
      have⟨m,o,hr⟩:=a k f;have:=ZD m d hr;omega
     apply Ok.no e;refine Wf (λq=>q.1) (Ξ c.D) (λk q=>q.2=(c.D.take k).flatMap (Nu d)) 0 (Zag _) rfl rfl z0 (λrec q i j=>?_) λrec k q f i j ih=>?_;rw[Ot,i,j,Zaj];rw[Bl];exact KK (by unfold Nu;rw[e];rfl);have hx:=Zae f;have⟨m,o,hr⟩:=a _ hx;have g:Ξ ((c.D.take k).flatMap (Nu d))<=Ξ (c.D.take k)*40:=nB λy hy=>b y (Zbo hy);rw[Zan]at g;have:=b _ hx;rw[Ot,i,j];rw[AK];exact JT f (qr (xJ m d hr z0 z0) (Ok.rm z0 (ih _ BE (bO f).symm)))
theorem mE:∀n d d'{c},RC s n c->n<d->n<d'->Nu d c=Nu d' c
 | n,d+1,d'+1,c,h,hd,hd'=>by
   unfold Nu
   cases e:gi c with
   | true=>rfl
   | false=>
     show c.D.flatMap (Nu d)=c.D.flatMap (Nu d');rw[List.flatMap_def,List.flatMap_def];congr 1;refine Zck λk a=>?_;have⟨m,b,hr⟩:=h.kids.2 k a;exact mE m d d' hr z0 z0
def Yo(s:Aa)(a:Ae):Int:=(((List.range 6).find? λl:Nat=>B7 s a (l:Int)==θ ν).getD 0)
theorem AT.least(k:DS s){a}{i}{S}(h:AT s a i S):0<=Yo s a/\Yo s a<=fin s i/\S (Yo s a)/\∀l,0<=l->l<Yo s a->¬S l:=by
 have t:=k.fin_ok h.i0 h.i1
 have c:∀l:Nat,l<=fin s i->((B7 s a l==θ ν)=ν↔S l):=by
  intro l n;obtain⟨b,o,d⟩:=h.p l z0 n;grind
 unfold Yo
 cases e:(List.range 6).find? λl:Nat=>B7 s a l==θ ν with
 | none=>
   have:=List.find?_eq_none.1 e (fin s i).toNat (List.mem_range.2 z0);exact absurd ((c _ z0).2 (by rw[Zdh z0];exact h.last)) this
 | some m=>
   obtain⟨h1,h2,f⟩:=List.find?_range_eq_some.1 e
   have g:m<=fin s i:=by
    by_cases p:fin s i<m;have:=f (fin s i).toNat z0;rw[(c _ z0).2 (by rw[Zdh z0];exact h.last)]at this
    cases this
    omega
   refine⟨Int.natCast_nonneg m,g,(c m g).1 h1,λl q j r=>?_⟩;have j:l<m:=j;have:=f l.toNat z0;grind
def AT.lvl_iff(d:DS s){a}{i}{S}(h:AT s a i S){l}(e:0<=l)(f:l<=fin s i):S l↔Yo s a<=l:=by
 have⟨h1,h2,g,j⟩:=h.least d;constructor;intro k;by_cases b:l<Yo s a;exact absurd k (j l e b);omega;intro c;exact h.up _ _ h1 g c f
def one(picks:List Ab)i l:=l<=0\/∃p∈picks,p.B=i/\l<=p.H
def Uf{picks}{i a b}:one picks i (if a>b then a else b)↔one picks i b/\one picks i a:=by
 unfold one;grind
def Zb{picks r}(h:∀p∈r,0<p.H):covers picks r=ν↔∀p∈r,one picks p.B p.H:=by
 unfold covers;rw[Zem];constructor;intro c p b;have⟨q,d,a⟩:=List.any_eq_true.1 (c p b);by_cases e:q.B=p.B;have:(q.B==p.B)=ν:=by grind
 rw[this,Zav,decide_eq_true_eq]at a;exact .inr ⟨q,d,e,a⟩;have:(q.B==p.B)=ξ:=by grind
 rw[this]at a;cases a;intro c p b;rcases c p b with h1|⟨q,d,h1,h2⟩;have:=h p b;omega;grind
structure NO(s:Aa)(l:List Ae)(r:List Ab):Prop where
 len:Ξ r<=100
 pos:∀p∈r,0<p.H
 iff:∀picks,(∀p∈r,one picks p.B p.H)↔∀a∈l,one picks a.B (Yo s a)
def NO.covers{l:List Ae}{r:List Ab}(h:NO s l r)(picks:List Ab):covers picks r=ν↔∀a∈l,one picks a.B (Yo s a):=(Zb h.pos).trans (h.iff picks)
def pneeds(z:DS s){n d}{c}(h:RC s n c)(hd:n<d)(N:n<=39/\DP 9 c):Ok (CP d s c) (NO s (Nu d c)):=by
 have R:=z.cols_length;have T:=ZD n d h;have K:=fl z n d h;unfold CP;refine qr (h.check z N hd) (Ok.no rfl (is ?_ (qr (x5 n d h hd N.1) ?_)));rw[dt,II z0];rfl;refine Wf (λq=>q.1) (Ξ (Nu d c)) (λk q=>Ξ q.2=Ξ s.A/\∀picks,(∀(i:Nat)l,one picks i q.2[i])↔∀a∈(Nu d c).take k,one picks a.B (Yo s a)) 0 (Zag _) rfl ⟨zs,λpicks=>?_⟩ z0 (λrec q w r=>?_) λrec k q A w r ih=>?_;refine⟨λ_ a o=>by simp at o,λ_ i l=>.inl ?_⟩;simp;have⟨E,t⟩:=r;rw[Jb,w];rw[Bl];generalize q.2=lv at *;refine Wf (λq=>q.1) (Ξ lv) (λk q=>Ξ q.2<=k/\(∀p∈q.2,0<p.H)/\∀picks,(∀p∈q.2,one picks p.B p.H)↔∀(i:Nat)l,i<k->one picks i lv[i]) 0 (Zag _) rfl ⟨Zam _,(λp C=>by cases C),λpicks=>⟨λ_ i _ l=>z0,λ_ p C=>by cases C⟩⟩ z0 (λrec q w r=>?_) λrec k q A w r ih=>?_;rw[Jc,w];rw[Bl];refine KK ⟨by have:=r.1;omega,r.2.1,λpicks=>?_⟩;rw[r.2.2 picks];have:=t picks;rw[Zaj]at this;rw[<-this];exact⟨λh i l=>h i l l,λh i l _=>h i l⟩;have⟨W,O,L⟩:=r;rw[Jc,w];rw[AK];refine JT A (bt (λC=>Ok.rm zv (ih _ BE ⟨zv,λp g=>?_,λpicks=>?_⟩)) λC=>ih _ BE ⟨by show Ξ q.2<=k+1;omega,O,λpicks=>?_⟩);rcases List.mem_append.1 g with g|g;exact O p g;rw[Zbb]at g;subst g;exact C;constructor;intro f i l x;by_cases e:i=k;subst e;exact f { B:=i,H:=lv[i] } (Zbp _ (List.mem_singleton.2 rfl));exact(L picks).1 (λp g=>f p (Zby _ g)) i l z0;intro f p g;rcases List.mem_append.1 g with g|g;exact(L picks).2 (λi l x=>f i l z0) p g;rw[Zbb]at g;subst g;exact f k A z0;rw[L picks];constructor;intro f i l x;by_cases e:i=k;subst e;exact .inl z0;exact f i l z0;exact λf i l x=>f i l z0;have⟨E,t⟩:=r;have⟨i,S,y⟩:=K _ (Zae A);have⟨U,X,_,_⟩:=y.least z;have Y:=z.fin_ok y.i0 y.i1;rw[Jb,w];rw[AK];refine JT A ?_;refine Ok.loop (λv=>0<=v/\v<=Yo s (Nu d c)[k]) (λv=>(Yo s (Nu d c)[k]-v).toNat) ⟨Zbh _,U⟩ (by unfold Ay;omega) λP v Q ih2=>?_;rw[Nf];have⟨b,M,F⟩:=y.p v Q.1 z0;have G:=y.lvl_iff z Q.1 (by grind);refine qr M (Ok.br (λe=>?_) λe=>?_)
 have:¬Yo s (Nu d c)[k]<=v:=λI=>by
  grind
 have ev:i64.wrap (v+1)=v+1:=wr;rw[ev];exact ih2 _ ⟨z0,z0⟩ z0;have I:=G.1 (F.1 (by grind));have ev:v=Yo s (Nu d c)[k]:=z0;unfold SQ;have m:=y.col;have V:=y.i1;rw[m];refine JT z0 (JT z0 (ih _ BE ⟨by show(Ξ (q.2.set _ _))=_;rw[Zdo];exact E,λpicks=>?_⟩));show(∀(j:Nat)D,one picks j (q.2.set (i:Int).toNat _)[j])↔_;rw[Zab A];rw[Zaw];constructor;intro f a o;rcases List.mem_append.1 o with o|o;refine(t picks).1 (λj D=>?_) a o;have:=f j (by grind);rw[Zfi]at this;by_cases J:i=j;subst J;rw[Zai rfl]at this;exact(Uf.1 this).1;rw[Zah J]at this;exact this;rw[Zbb]at o;subst o;have:=f i (by grind);rw[Zfi,Zai rfl]at this;rw[m,<-ev];exact(Uf.1 this).2;intro f j D;have u:=(t picks).2 λa o=>f a (Zby _ o);grind
def NQ{picks b}{x:Ab}:(∀p∈b++[x],one picks p.B p.H)↔(∀p∈b,one picks p.B p.H)/\one picks x.B x.H:=by grind
def Uh{b}{x:Ab}(h:∀p∈b,0<p.H)(hx:0<x.H):∀p∈b++[x],0<p.H:=by grind
def yc{l}{c n}(x:Ξ l<=1000000)(i:∀p∈l,0<p.H):Ok (DG l c n) λr=>Ξ r<=Ξ l+1/\(∀p∈r,0<p.H)/\∀picks,(∀p∈r,one picks p.B p.H)↔(∀p∈l,one picks p.B p.H)/\one picks c n:=by
 unfold DG
 refine Wf (λq=>q.2.1) (Ξ l) (λk q=>Ξ q.2.2<=k+(if q.1 then 1 else 0)/\(q.1=ξ->0<n)/\(∀p∈q.2.2,0<p.H)/\∀picks,(∀p∈q.2.2,one picks p.B p.H)↔(∀p∈l.take k,one picks p.B p.H)/\(q.1=ν->one picks c n)) 0 (Zag _) rfl
  ⟨zs,λh=>by have:=Zcb h;omega,(λp j=>by cases j),λpicks=>⟨λ_=>⟨(λp j=>by cases j),λh=>.inl (Zal h)⟩,λ_ p j=>by cases j⟩⟩ z0 (λrec q o t=>?_) λrec k q u o t ih=>?_
 have⟨a,m,f,g⟩:=t;rw[Ov,o];rw[Bl];unfold Xi;refine Ok.br (λe=>Ok.rm (by simp;split at a<;>omega) (KK ⟨?_,?_,λpicks=>?_⟩)) λe=>KK ⟨?_,f,λpicks=>?_⟩;have e:q.1=ξ:=by simpa using e
 rw[e]at a;simp at a ⊢;omega;have e:q.1=ξ:=by simpa using e
 exact Uh f (m e);have e:q.1=ξ:=by simpa using e
 have:=g picks;rw[Zaj]at this;rw[NQ,this];exact⟨λh=>⟨h.1.1,h.2⟩,λh=>⟨⟨h.1,λh2=>by rw[e]at h2;cases h2⟩,h.2⟩⟩;split at a<;>omega;have e:q.1=ν:=by simpa using e
 have:=g picks;rw[Zaj]at this;rw[this];exact⟨λh=>⟨h.1,h.2 e⟩,λh=>⟨h.1,λ_=>h.2⟩⟩;have⟨a,m,f,g⟩:=t;have hx:=i _ (Zae u);have y:Ξ q.2.2<=k+1:=by split at a<;>omega
 have b:∀picks,(∀p∈l.take (k+1),one picks p.B p.H)↔(∀p∈l.take k,one picks p.B p.H)/\one picks l[k].B l[k].H:=by
  intro picks;rw[Zab u];exact NQ
 rw[Ov,o];rw[AK];refine JT u (Ok.br (λe=>?_) λe=>?_)
 have v:q.1=ξ:=by
  by_cases h:l[k].B>c;rw[Zak h]at e;simpa using e;rw[Zap h]at e;cases e
 have w:=m v;rw[v]at a;have a:Ξ q.2.2<=k:=by simpa using a
 refine Ok.rm zv (Ok.br (λd=>?_) λd=>?_);have d:l[k].B=c:=by simpa using d
 refine Ok.rm zv (ih _ BE ⟨zv,(λh=>by cases h),Uh (Uh f w) (by show 0<(if n>l[k].H then n else l[k].H);split<;>omega),λpicks=>?_⟩);show(∀p∈(q.2.2++[_])++[_],one picks p.B p.H)↔_;rw[NQ,NQ,g picks,b picks,d];show(((_/\_)/\one picks c n)/\one picks c (if n>l[k].H then n else l[k].H))↔_;rw[Uf];exact⟨λh=>⟨⟨h.1.1.1,h.2.1⟩,λ_=>h.1.2⟩,λh=>⟨⟨⟨h.1.1,λh2=>h.2 rfl⟩,h.2 rfl⟩,h.1.2,h.2 rfl⟩⟩;refine Ok.rm zv (ih _ BE ⟨zv,(λh=>by cases h),Uh (Uh f w) hx,λpicks=>?_⟩);show(∀p∈(q.2.2++[_])++[_],one picks p.B p.H)↔_;rw[NQ,NQ,g picks,b picks];exact⟨λh=>⟨⟨h.1.1.1,h.2⟩,λ_=>h.1.2⟩,λh=>⟨⟨⟨h.1.1,λh2=>h.2 rfl⟩,h.2 rfl⟩,h.1.2⟩⟩;refine Ok.br (λd=>?_) λd=>?_;have d:l[k].B=c:=by simpa using d
 refine Ok.rm zv (ih _ BE ⟨zv,(λh=>by cases h),Uh f (by show 0<(if n>l[k].H then n else l[k].H);split<;>omega),λpicks=>?_⟩);show(∀p∈q.2.2++[_],one picks p.B p.H)↔_;rw[NQ,g picks,b picks,d];show((_/\_)/\one picks c (if n>l[k].H then n else l[k].H))↔_;rw[Uf];exact⟨λh=>⟨⟨h.1.1,h.2.1⟩,λ_=>h.2.2⟩,λh=>⟨⟨h.1.1,λh2=>h.2 rfl⟩,h.1.2,h.2 rfl⟩⟩;refine Ok.rm zv (ih _ BE ⟨by simp;split<;>split at a<;>simp_all<;>omega,m,Uh f hx,λpicks=>?_⟩);show(∀p∈q.2.2++[_],one picks p.B p.H)↔_;rw[NQ,g picks,b picks];exact⟨λh=>⟨⟨h.1.1,h.2⟩,h.1.2⟩,λh=>⟨⟨h.1.1,h.2⟩,h.1.2⟩⟩
def ct(g:DS s){n d}{c}(h:RC s n c)(hd:n<d)(C:n<=39/\DP 9 c):Ok (DF d s c) (NO s (Nu d c)):=by
 have F:=g.cols_length;have G:=ZD n d h;have w:=fl g n d h;unfold DF;refine qr (h.rcheck g C hd) (Ok.no rfl (qr (xJ n d h hd C.1) ?_));refine Wf (λq=>q.2) (Ξ (Nu d c)) (λk q=>Ξ q.1<=k/\(∀p∈q.1,0<p.H)/\∀picks,(∀p∈q.1,one picks p.B p.H)↔∀a∈(Nu d c).take k,one picks a.B (Yo s a)) 0 (Zag _) rfl ⟨Zam _,(λp x=>by cases x),λpicks=>⟨λ_ a f=>by simp at f,λ_ p x=>by cases x⟩⟩ z0 (λrec q y z=>?_) λrec k q t y z ih=>?_;have⟨H,A,u⟩:=z;rw[Ou,y];rw[Bl];rw[Zaj]at u;exact KK ⟨z0,A,u⟩;have⟨H,A,u⟩:=z;have⟨i,S,j⟩:=w _ (Zae t);have⟨I,J,_,_⟩:=j.least g;have K:=g.fin_ok j.i0 j.i1;rw[Ou,y];rw[AK];refine Ok.loop (λv=>0<=v/\v<=Yo s (Nu d c)[k]) (λv=>(Yo s (Nu d c)[k]-v).toNat) ⟨Zbh _,I⟩ (by unfold Ay;omega) λD v E ih2=>?_;rw[Tm];have⟨b,B,l⟩:=j.r v E.1 z0;have m:=j.lvl_iff g E.1 (by grind);refine JT t (qr B (Ok.br (λe=>?_) λe=>?_))
 have:¬Yo s (Nu d c)[k]<=v:=λo=>by
  grind
 have ev:i64.wrap (v+1)=v+1:=wr;rw[ev];exact ih2 _ ⟨z0,z0⟩ z0;have o:=m.1 (l.1 (by grind));have ev:v=Yo s (Nu d c)[k]:=z0;unfold Xh;refine JT t (Ok.bind (yc z0 A) λr hr=>ih _ BE ⟨by show Ξ r<=k+1;omega,hr.2.1,λpicks=>?_⟩);rw[hr.2.2 picks,u picks,Zab t,ev];grind
def eR picks a(h1:Ξ picks<=1000000)(h2:Ξ a<=1000000):F8 a picks=θ (covers picks a):=by
 apply Ok.val;unfold F8;refine Wf (λq=>q) (Ξ a) (λk _=>covers picks (a.take k)=ν) 0 (Zag _) rfl rfl z0 (λrec q m d=>?_) λrec k q l m d ih=>?_;rw[MJ,m];rw[Bl];rw[Zaj]at d;exact KK d.symm;rw[MJ,m];rw[AK]
 have g:∀f:Ab->Bool,picks.any f=ξ->f=(λp=>bif p.B==a[k].B then υ (p.H>=a[k].H)else ξ)->covers picks a=ξ:=by
  intro f r e;subst e;unfold covers;rw[List.all_eq_false];exact⟨_,Zae l,by rw[r];decide⟩
 refine Wf (λq=>q.2) (Ξ picks) (λj q=>q.1=(picks.take j).any λp=>bif p.B==a[k].B then υ (p.H>=a[k].H)else ξ) 0 (Zag _) rfl rfl z0 (λh n c b=>?_) λh j n i c b ih2=>?_;rw[MK,c];rw[Bl];rw[Zaj]at b;refine Ok.br (λe=>KK ?_) λe=>ih _ BE ?_;have e:n.1=ξ:=by grind
 exact(g _ (by grind) rfl).symm;have e:n.1=ν:=by grind
 unfold covers at d ⊢;rw[Zab l,Zfw,d,Bool.true_and];rw[List.all_cons,List.all_nil,Bool.and_true];rw[<-b,e];rw[MK,c];rw[AK];refine Ok.br (λe=>ih2 _ BE ?_) λe=>JT i (JT l (Ok.br (λo=>JT i (JT l (ih2 _ BE ?_))) λo=>ih2 _ BE ?_));show ν=_;rw[Zab i,Zgp,<-b,e];rfl;show decide _=_;rw[Zab i,Zgp,<-b,e];rw[List.any_cons,List.any_nil,Bool.or_false,Bool.false_or];rw[o];rfl;show ξ=_;rw[Zab i,Zgp,<-b,e];grind
def GC.rneeds(a:DS s){c}(h:GC s c):Ok (DF 60 s c) (NO s (Nu 60 c)):=by
 have⟨n,h1,h2⟩:=h;exact ct a h1 (by grind) h2
def GC.pneeds(a:DS s){c}(h:GC s c):Ok (CP 60 s c) (NO s (Nu 60 c)):=by
 have⟨n,h1,h2⟩:=h;exact P.pneeds a h1 (by grind) h2
def lk(picks:List Ab)(vals:List Int)(i:Int):Nat->Int×Int| 0=>(0,0)| k+1=>if(picks.getD k { B:=0,H:=0 }).B=i then((picks.getD k { B:=0,H:=0 }).H,vals.getD k 0)else lk picks vals i k
def BQ{α:Type}{l:List α}{k}a z:l.getD k z=l[k]:=by grind
def eJ{picks}{vals}{i}{k}b(a:k<Ξ vals):lk picks vals i (k+1)=if picks[k].B=i then(picks[k].H,vals[k])else lk picks vals i k:=by
 rw[lk,BQ b,BQ a]
theorem oe{picks}{vals}(b:Ξ picks<=Ξ vals)i:∀k,k<=Ξ picks->(lk picks vals i k=(0,0)/\∀j a,j<k->picks[j].B≠i)\/∃(j:Nat)(a:j<Ξ picks)(c:j<Ξ vals),picks[j].B=i/\lk picks vals i k=(picks[j].H,vals[j])
 | 0,_=>.inl ⟨rfl,λj _ h=>z0⟩
 | k+1,hk=>by
   rw[eJ z0 (by grind)];by_cases e:picks[k].B=i;rw[Zai e];exact .inr ⟨k,z0,z0,e,rfl⟩;rw[Zah e];rcases oe b i k z0 with⟨h1,h2⟩|h1;refine .inl ⟨h1,λj a d=>?_⟩;by_cases f:j=k;subst f;exact e;exact h2 j a z0;grind
def Abh(g:DS s){x}(hx:GX s x){r}(hr:r∈x.G){a}{i}{S}(b:AT s a i S)(d:one x.I a.B (Yo s a)):
 ∃t u u',Bi s i (lk x.I (r.drop 1) i (Ξ x.I)).1 (lk x.I (r.drop 1) i (Ξ x.I)).2=θ (u,ν)/\Ca s a u=θ t/\Ew s i (lk x.I (r.drop 1) i (Ξ x.I)).1 (lk x.I (r.drop 1) i (Ξ x.I)).2=θ u'/\CX s a u'=θ t/\-1<=t/\t<=1:=by
 have B:=(hx.rows _ hr).1;have J:=g.fin_ok b.i0 b.i1;have C:Ξ (r.drop 1)=Ξ x.I:=by grind
 have⟨K,L,D,M⟩:=b.least g;rw[b.col]at d;rcases oe (picks:=x.I) (vals:=r.drop 1) z0 i (Ξ x.I) (Zam _)with⟨h1,h2⟩|⟨j,c,E,h1,h2⟩;rw[h1];apply b.sem0;rcases d with d|⟨p,l,e,_⟩;have:Yo s a=0:=z0;rw[<-this];exact D;obtain⟨j,c,rfl⟩:=List.mem_iff_getElem.1 l;exact absurd e (h2 j c c);rw[h2]
 have⟨F,G,w,H,m,n,o⟩:=(hx.rows _ hr).2.2.2 j x.I[j] (r.drop 1)[j] (Zaa c) (by
  rw[Zaa z0];congr 1;rw[List.getElem_drop];congr 1;omega)
 obtain rfl:i=F:=by grind
 have⟨q,_,_,I,y,z⟩:=hx.picks _ (Zae c);obtain rfl:i=q:=by grind
 rw[o];refine b.sem _ y z ?_ w n;refine(b.lvl_iff g y z).2 ?_;rcases d with d|⟨p,l,e,v⟩;omega;obtain⟨k,A,rfl⟩:=List.mem_iff_getElem.1 l
 have:k=j:=by
  have f:=List.pairwise_iff_getElem.1 hx.order;grind
 grind
def Wz{self}{picks}{vals}{c}{ts}(l:Ξ c.D=Ξ ts)(h2:Ξ ts<=2)(h:∀(k:Nat)(d:k<Ξ c.D)(m:k<Ξ ts),self s c.D[k] picks vals=θ ts[k]){R}(n:Jq c.Op ts=θ R):
 iter (λb j=>EW c self s picks vals (λe a=>(Jq c.Op a).bind λf=>θ f) b j.1 j.2) Ay (0,[])=θ R:=by
 apply Ok.val;refine Wf (λq=>q.1) (Ξ c.D) (λk q=>q.2=ts.take k) 0 (Zag _) rfl rfl z0 (λrec q g i=>?_) λrec k q d g i ih=>?_;rw[EW,g,i];rw[Bl,l,Zaj];exact qr n (KK rfl);rw[EW,g,i];rw[AK];exact JT d (qr (h k d z0) (Ok.rm zv (ih _ BE (Zab z0).symm)))
def vM s picks vals a:=iter (λrec1 st=>JL picks a vals (λv9_1 v10_1 v11_1=>(Ew s a.B v9_1 v10_1).bind λx57=>(CX s a x57).bind λx58=>θ x58) rec1 st.1 st.2.1 st.2.2) Ay (0,0,0)
theorem sC picks vals f:∀n d{c},RC s n c->n<d->(∀a∈Nu d c,∃t,f a=θ t/\vM s picks vals a=θ t/\-1<=t/\t<=1)->∃t,B8 d c f=θ t/\B9 d s c picks vals=θ t/\-1<=t/\t<=1
 | n,d+1,c,h,hd,ha=>by
   have l:gi c=ν->∃t,B8 (d+1) c f=θ t/\B9 (d+1) s c picks vals=θ t/\-1<=t/\t<=1:=by
    intro e;have ho:=rH e;have H:¬c.Op=1:=z0;have I:¬c.Op=5:=z0;have J:¬c.Op=6:=z0;have K:¬c.Op=7:=z0;have⟨t,h1,h2,L⟩:=ha c (by unfold Nu;rw[e];simp);refine⟨t,Ok.val ?_,Ok.val ?_,L⟩;show Ok (Ce d (B8 d) c f) _;unfold Ce;exact Ok.no (by grind) (Ok.no (by grind) (Ok.no (by grind) (Ok.no (by grind) (qr h1 (KK rfl)))));show Ok (Cy d (B9 d) s c picks vals) _;unfold Cy;exact Vc e (Ok.eq h2)
   have u:∀a b,c.D=[a,b]->gi c=ξ->(∀k∈[a,b],∃t,B8 d k f=θ t/\B9 d s k picks vals=θ t/\-1<=t/\t<=1)->∃i j,B8 d a f=θ i/\B8 d b f=θ j/\-1<=i/\i<=1/\-1<=j/\j<=1/\∀R,Jq c.Op [i,j]=θ R->B9 (d+1) s c picks vals=θ R:=by
    intro a b p e G;have⟨i,q,A,y,z⟩:=G a zs;have⟨j,v,M,B,C⟩:=G b zs;refine⟨i,j,q,v,y,z,B,C,λR w=>?_⟩;apply Ok.val;show Ok (Cy d (B9 d) s c picks vals) _;unfold Cy;refine Ok.no e (Ok.eq (Wz (ts:=[i,j]) (by grind) zs (λk D r=>?_) w));grind
   have g:gi c=ξ->∀k∈c.D,∃t,B8 d k f=θ t/\B9 d s k picks vals=θ t/\-1<=t/\t<=1:=by
    intro e k p;have⟨m,N,E⟩:=h.kids.2 k p;exact sC picks vals f m d E z0 λa F=>ha a (by unfold Nu;rw[e];exact List.mem_flatMap.2 ⟨k,p,F⟩)
   cases h with
   | all=>
     refine⟨1,Ok.val ?_,Ok.val ?_,z0,z0⟩;show Ok (Ce d (B8 d) ZA f) _;unfold Ce;exact Vc rfl (KK rfl);show Ok (Cy d (B9 d) s ZA picks vals) _;unfold Cy;exact Ok.no rfl (Ok.eq (Wz (c:=ZA) (ts:=[]) rfl zs (λk p _=>by simp[ZA]at p) rfl))
   | and n na nb hnn a b ha' hb'=>
     have⟨i,j,q,v,y,z,B,C,w⟩:=u a b rfl rfl (g rfl);refine⟨if j<i then j else i,Ok.val ?_,w _ rfl,by split<;>omega,by split<;>omega⟩;show Ok (Ce d (B8 d) _ f) _;unfold Ce;exact Ok.no rfl (Vc rfl (qr (x:=a) rfl (qr q (qr (x:=b) rfl (qr v (KK rfl))))))
   | or n na nb hnn a b ha' hb'=>
     have⟨i,j,q,v,y,z,B,C,w⟩:=u a b rfl rfl (g rfl);refine⟨if j>i then j else i,Ok.val ?_,w _ rfl,by split<;>omega,by split<;>omega⟩;show Ok (Ce d (B8 d) _ f) _;unfold Ce;exact Ok.no rfl (Ok.no rfl (Vc rfl (qr (x:=a) rfl (qr q (qr (x:=b) rfl (qr v (KK rfl)))))))
   | not n na hnn a ha'=>
     have⟨i,q,A,y,z⟩:=g rfl a zs;have O:i64.wrap (0-i)=0-i:=wr;refine⟨i64.wrap (0-i),Ok.val ?_,Ok.val ?_,z0,z0⟩;show Ok (Ce d (B8 d) _ f) _;unfold Ce;exact Ok.no rfl (Ok.no rfl (Ok.no rfl (Vc rfl (qr (x:=a) rfl (qr q (KK rfl))))));show Ok (Cy d (B9 d) s _ picks vals) _;unfold Cy;refine Ok.no rfl (Ok.eq (Wz (ts:=[i]) rfl zs (λk D r=>?_) rfl));grind
   | _=>exact l rfl
def vN(h:DS s){x}(hx:GX s x){r}(hr:r∈x.G){a}{i}{S}(g:AT s a i S){t u'}(h1:Ew s i (lk x.I (r.drop 1) i (Ξ x.I)).1 (lk x.I (r.drop 1) i (Ξ x.I)).2=θ u')(h2:CX s a u'=θ t):vM s x.I (r.drop 1) a=θ t:=by
 have j:=(hx.rows _ hr).1;have l:=hx.picks_len h;have m:Ξ (r.drop 1)=Ξ x.I:=by grind
 apply Ok.val;unfold vM;refine Wf (λq=>q.2.2) (Ξ x.I) (λk q=>(q.1,q.2.1)=lk x.I (r.drop 1) i k) 0 (Zag _) rfl rfl z0 (λrec q f c=>?_) λrec k q d f c ih=>?_;rw[JL,f];rw[Bl,g.col];have n:q.1=(lk x.I (r.drop 1) i (Ξ x.I)).1:=by rw[<-c]
 have o:q.2.1=(lk x.I (r.drop 1) i (Ξ x.I)).2:=by rw[<-c]
 rw[n,o];exact qr h1 (qr h2 (KK rfl));rw[JL,f];rw[AK,g.col];have b:k<Ξ (r.drop 1):=z0;refine JT d (Ok.br (λe=>JT d (JT b (ih _ BE ?_))) λe=>ih _ BE ?_);rw[eJ d b,Zai (by grind)];rw[eJ d b,Zah (by grind)];exact c
def sT(s:Aa)picks(vals row:List Int)k:=Ξ row=Ξ s.A/\∀i,1<=i->i<Ξ s.A->∃u ok,Bi s i (lk picks vals i k).1 (lk picks vals i k).2=θ (u,ok)/\row[i]?=θ u
def uY(I:DS s){x}(hx:GX s x){r}(hr:r∈x.G)c d:∃row,sT s x.I (r.drop 1) row (Ξ x.I)/\GG d s c x.I (r.drop 1)=B8 d c (λa0=>Dh a0 s row):=by
 have hc:=I.cols_length;have l:=(hx.rows _ hr).1;have X:=hx.picks_len I;have Y:Ξ (r.drop 1)=Ξ x.I:=by grind
 suffices H:Ok ((θ ())) (λ_=>∃row,sT s x.I (r.drop 1) row (Ξ x.I)/\GG d s c x.I (r.drop 1)=B8 d c λa0=>Dh a0 s row) by
  have⟨_,_,h⟩:=H;exact h
 apply KK
 have y:∀m k row,k+m=Ξ x.I->sT s x.I (r.drop 1) row k->∀g,m<g->∃b,sT s x.I (r.drop 1) b (Ξ x.I) /\
  iter (λz A=>Hu x.I (r.drop 1) s (λL o=>(J6 d s c o).bind λM=>θ M) z A.1 A.2) g (k,row)=B8 d c (λa0=>Dh a0 s b):=by
  intro m
  induction m with
  | zero=>
    intro k row N a g p;obtain⟨g,rfl⟩:∃f,g=f+1:=⟨g-1,z0⟩;refine⟨row,by rw[show Ξ x.I=k by omega];exact a,?_⟩;rw[Fs];dsimp only;unfold Hu;rw[Bl];unfold J6;grind
  | succ m ih=>
    intro k row N a g p;obtain⟨g,rfl⟩:∃f,g=f+1:=⟨g-1,z0⟩;have n:k<Ξ x.I:=z0;have q:k<Ξ (r.drop 1):=z0;have⟨⟨u,B⟩,_⟩:=hx.vals I hr k n q;have⟨i,q0,q1,J,_⟩:=hx.picks _ (Zae n)
    have t:sT s x.I (r.drop 1) (row.set i u) (k+1):=by
     refine⟨by rw[Zdo];exact a.1,λj Z j1=>?_⟩;rw[eJ n q];by_cases e:j=i;subst e;rw[Zai J];refine⟨u,ν,by rw[<-J];exact B,?_⟩;rw[Zbz,Zai rfl,Zai (by rw[a.1];omega)];rw[Zah (by grind)];have⟨O,v,P,Q⟩:=a.2 j Z j1;grind
    have⟨b,h1,h2⟩:=ih (k+1) _ z0 t g z0;refine⟨b,h1,?_⟩;rw[<-h2];rw[Fs];dsimp only;unfold Hu;rw[AK,AY n,Zad,AY q,Zad,B,Zad,J];show(idx row i).bind _=_;rw[AY (by rw[a.1];omega),Zad,BE,Zaw]
 have C:∀m k row,1<=k->k+m=Ξ s.A->Ξ row=Ξ s.A->(∀i:Nat,1<=i->i<k->∃u ok,Bi s i 0 0=θ (u,ok)/\row[i]?=θ u)->∀g,m<g->∃b,sT s x.I (r.drop 1) b 0 /\
  iter (λD A=>Ht s (λR w=>Kn x.I (r.drop 1) s d c w) D A.1 A.2) g (k,row)=Kn x.I (r.drop 1) s d c b:=by
  intro m
  induction m with
  | zero=>
    intro k row E N l a g p;obtain⟨g,rfl⟩:∃f,g=f+1:=⟨g-1,z0⟩;refine⟨row,⟨l,λi K W=>a i K z0⟩,?_⟩;rw[Fs];grind
  | succ m ih=>
    intro k row E N l a g p;obtain⟨g,rfl⟩:∃f,g=f+1:=⟨g-1,z0⟩;have⟨⟨u,ok⟩,B⟩:=Acn I E (by grind)
    have⟨b,h1,h2⟩:=ih (k+1) (row.set k u) z0 z0 (by grind) (λi K W=>by
     by_cases e:i=k;subst e;exact⟨u,ok,B,by rw[Zbz,Zai rfl,Zai z0]⟩;have⟨O,v,P,Q⟩:=a i K z0;exact⟨O,v,P,by rw[Zbz,Zah λh=>e h.symm];exact Q⟩) g z0
    refine⟨b,h1,?_⟩;rw[<-h2];rw[Fs];dsimp only;unfold Ht;rw[AK,B,Zad,AY z0,Zad,BE,Zaw]
 have⟨F,S,T⟩:=C (Ξ s.A-1) 1 (List.replicate (Ξ s.A) 0) z0 z0 zs (λi K W=>z0) Ay (by unfold Ay;omega);have⟨G,U,V⟩:=y (Ξ x.I) 0 F z0 S Ay (by unfold Ay;omega);refine⟨G,U,?_⟩;unfold GG;rw[dt,II z0];grind
def Us(g:DS s){x}(hx:GX s x){r}(hr:r∈x.G){n d}{c}(h:RC s n c)(hd:n<d)(b:∀a∈Nu d c,one x.I a.B (Yo s a)):
 ∃t,GG d s c x.I (r.drop 1)=θ t/\B9 d s c x.I (r.drop 1)=θ t/\-1<=t/\t<=1:=by
 have⟨row,e,he⟩:=uY g hx hr c d;rw[he];refine sC x.I (r.drop 1) _ n d h hd λa j=>?_;have⟨i,S,f⟩:=fl g n d h a j;have⟨t,u,u',h1,h2,k,l,m⟩:=Abh g hx hr f (b a j);refine⟨t,?_,vN g hx hr f k l,m⟩;have⟨o,ok,a1,a2⟩:=e.2 i f.i0 f.i1;rw[h1]at a1;have p:u=o:=by grind
 subst p;apply Ok.val;show Ok (Dh a s row) _;unfold Dh;rw[f.col];have⟨q,v⟩:=List.getElem?_eq_some_iff.1 a2;apply JT q;rw[v];exact qr h2 (KK rfl)
def bP p n:=(List.range n).filter p
def WG p n:bP p (n+1)=bif p n then bP p n++[n]else bP p n:=by
 unfold bP;rw[Zfv,Zew]
 grind
def Nl p n:Ξ (bP p n)<=n:=by
 have:=Zce p (List.range n);rw[Zee]at this;exact this
def lp{p}{n j}(h:j∈bP p n):j<n/\p j=ν:=by
 unfold bP at h;grind
def S3 l(n:Nat):ints (l++[n])=ints l++[(n:Int)]:=by simp[ints]
def AE l:Ξ (ints l)=Ξ l:=by simp[ints]
def EB d s c(x:Ad)j:=B9 d s c x.I ((x.G.getD j []).drop 1)==θ 1
def XU{x}(f:DS s)(hx:GX s x){n d}{c}(h:RC s n c)(hd:n<d)(l:n<=39/\DP 9 c)(b:∀a∈Nu d c,one x.I a.B (Yo s a)):Dt d s x c=θ (ints (bP (EB d s c x) (Ξ x.G))):=by
 have o:=hx.picks_len f;have w:=hx.len;apply Ok.val;unfold Dt;refine qr (h.check f l hd) (Ok.no rfl (Ok.bind (pneeds f h hd l) λr hr=>?_));have p:=hr.len;refine qr (lQ _ _ z0 z0) (Ok.no (by rw[(hr.covers _).2 b];rfl) ?_);unfold Iw;refine Wf (λq=>q.1) (Ξ x.G) (λk q=>q.2=ints (bP (EB d s c x) k)) 0 (Zag _) rfl rfl z0 (λrec q g i=>?_) λrec k q j g i ih=>?_;rw[Iv,g,i];rw[Bl];exact KK rfl;rw[Iv,g,i];rw[AK];have hr:=Zae j;have u:=(hx.rows _ hr).1;have⟨t,h1,h2,_⟩:=Us f hx hr h hd b;have v:=Nl (EB d s c x) k
 have m:EB d s c x k=(t==1):=by
  unfold EB;grind
 refine JT j (dg z0 ?_);rw[yR];refine qr h1 (Ok.br (λe=>Ok.rm (by rw[AE];simp;omega) (ih _ BE ?_)) λe=>ih _ BE ?_);rw[WG,m,e];exact(S3 _ _).symm;rw[WG,m,e];rfl
def WZ{x}(b:DS s)(hx:GX s x){r}(hr:r∈x.G){n d}{c}(h:RC s n c)(hd:n<d)(l:n<=39/\DP 9 c)(e:∀a∈Nu d c,one x.I a.B (Yo s a)){t}(m:B9 d s c x.I (r.drop 1)=θ t):Jp d s c x.I (r.drop 1)=θ t:=by
 have o:=hx.picks_len b;have p:=(hx.rows _ hr).1;apply Ok.val;unfold Jp;refine qr (h.rcheck b l hd) (Ok.no rfl (qr (qu b hx.picks hx.order z0) (Ok.no ?_ (Ok.bind (ct b h hd l) λv f=>?_))));have:Ξ (r.drop 1)=Ξ x.I:=by grind
 rw[this];simp;have h1:=f.len;refine qr (eR _ _ z0 z0) (Ok.no (by rw[(f.covers _).2 e];rfl) ?_);unfold Rs;refine Wf (λq=>q) (Ξ x.I) (λ_ _=>True) 0 (Zag _) rfl trivial z0 (λrec q i u=>?_) λrec k q j i u ih=>?_;rw[MH,i];rw[Bl];exact qr m (KK rfl);rw[MH,i];rw[AK];have g:k<Ξ (r.drop 1):=by grind
 exact JT j (JT j (JT g (qr (hx.vals b hr k j g).2 (Ok.no rfl (ih _ BE trivial)))))
def vZ{x}(j:DS s)(hx:GX s x){n d}{c}(h:RC s n c)(hd:n<d)(r:n<=39/\DP 9 c)(b:∀a∈Nu d c,one x.I a.B (Yo s a)):Dl d s x c []=θ (ints (bP (EB d s c x) (Ξ x.G))):=by
 have z:=hx.len;apply Ok.val;unfold Dl;refine qr (hx.rcheck j) (Ok.no rfl ?_);refine Wf (λq=>q.1) (Ξ x.G) (λm q=>q.2=ints (bP (EB d s c x) m)) 0 (Zag _) rfl rfl z0 (λrec q k l=>?_) λrec m q o k l ih=>?_;rw[Hk,k,l];rw[Bl];exact KK rfl;rw[Hk,k,l];rw[AK];have hr:=Zae o;have u:=(hx.rows _ hr).1;have⟨t,h1,h2,_⟩:=Us j hx hr h hd b;have v:=Nl (EB d s c x) m
 have p:EB d s c x m=(t==1):=by
  unfold EB;grind
 refine JT o (dg z0 ?_);rw[yR];apply qr (WZ j hx hr h hd r b h2);refine Wf (λq=>q.2) 0 (λ_ q=>q.1=(t==1)) 0 (Zag _) rfl rfl z0 (λf w g i=>?_) λf t w y g i ih2=>absurd y z0;rw[MN,g,i];apply Ok.no rfl;unfold MO;refine Ok.br (λe=>Ok.rm (by rw[AE];simp;omega) (ih _ BE ?_)) λe=>ih _ BE ?_;rw[WG,p,e];exact(S3 _ _).symm;rw[WG,p,e];rfl
def dI{l}{w}(f:Ξ l<=200)(g:1<=w)(c:w<=1000000)(d:∀v∈l,-1000000<=v/\v<=1000000):NG l w=θ 0:=by
 apply Ok.val;unfold NG;refine Ok.no df (Ok.no (by grind) ?_);refine Wf (λq=>q) (Ξ l) (λ_ _=>True) 0 (Zag _) rfl trivial z0 (λrec q a e=>?_) λrec k q b a e ih=>?_;rw[OT,a];rw[Bl];exact KK rfl;have:=d _ (Zae b);rw[OT,a];rw[AK];exact JT b (Ok.no df (JT b (Ok.no df (ih _ BE trivial))))
def pV{o}{x:Int}{k}(ho:o.Pairwise (·<=·))(g:k<=Ξ o)(h1:∀j (c:j<Ξ o),k<=j->o[j]>x)(h2:∀j (c:j<Ξ o),j<k->o[j]<=x):
 (o.take k++x::o.drop k).Pairwise (·<=·)/\(o.take k++x::o.drop k).Perm (o++[x]):=by
 constructor;rw[Zea,List.pairwise_cons];have d:=ho;rw[<-Zdj k o,Zea]at d;refine⟨d.1,⟨λa e=>?_,d.2.1⟩,λa e b f=>?_⟩;obtain⟨j,c,rfl⟩:=Zbi e;rw[List.getElem_drop];have:=h1 (k+j) (by grind) z0;omega;rw[Zdd]at f;rcases f with rfl|f;obtain⟨j,c,rfl⟩:=Zbi e;rw[Zbs];exact h2 j (by grind) (by grind);exact d.2.2 a e b f;have:(o.take k++x::o.drop k).Perm (x::(o.take k++o.drop k)):=List.perm_middle;rw[Zdj]at this;grind
def mi{xs o}(d:o.Perm xs)(e:o.Pairwise (·<=·)):o=Fy xs:=by
 have h2:(Fy xs).Pairwise (·<=·):=by
  have:=Zgt (le:=λx y:Int=>υ (x<=y)) (λa b c h1 h2=>by simp at *;omega) (λa b=>zv) xs;exact this.imp zs
 exact List.Perm.eq_of_pairwise (le:=(·<=·)) (λa b _ _ h1 h2=>Int.le_antisymm h1 h2) e h2 (d.trans (List.mergeSort_perm xs _).symm)
def wd(l:List Int)(k:Nat):Ia l k (Ξ l)=l.drop k:=by
 unfold Ia;rw[Zbe];simp;grind
def zO{xs}(A:Ξ xs<=1000):OU xs=θ (Fy xs):=by
 apply Ok.val;unfold OU;refine Wf (λq=>q.2) (Ξ xs) (λk q=>q.1.Pairwise (·<=·)/\q.1.Perm (xs.take k)) 0 (Zag _) rfl ⟨List.Pairwise.nil,List.Perm.refl _⟩ z0 (λrec q f d=>?_) λrec i q g f d ih=>?_
 rw[MP,f];rw[Bl];have b:=d.2;rw[Zaj]at b;exact KK (mi b d.1);have⟨ho,b⟩:=d;have r:Ξ q.1=i:=by rw[b.length_eq,Zan];omega
 rw[MP,f];rw[AK];refine Ok.loop (λv=>∃k:Nat,v=k/\k<=Ξ q.1/\∀j a,k<=j->q.1[j]>xs[i]) (λv=>v.toNat) ⟨Ξ q.1,rfl,Zam _,λj a h=>z0⟩ (by unfold Ay;omega) λo v t ih2=>?_;obtain⟨k,rfl,p,c⟩:=t
 have done:(∀j a,j<k->q.1[j]<=xs[i])->Ok (JO q.1 xs i rec k) (·=Fy xs):=by
  intro h2;have⟨u,w⟩:=pV ho p c h2;unfold JO;refine dg z0 (JT g (dg z0 ?_));rw[wd,Abn _ p];refine Ok.rm zv (is (by rw[II zv];rfl) (ih _ BE ?_));refine⟨u,w.trans ?_⟩;show(q.1++[xs[i]]).Perm (xs.take (i+1));rw[Zab g];grind
 rw[Ru];refine bt (λx=>?_) λx=>done λj a l=>by omega
 have e:i64.wrap (k-1)=(k-1:Nat):=by rw[wr];omega
 rw[e];refine JT (by grind) (JT g (bt (λm=>ih2 _ ⟨k-1,rfl,z0,λj a y=>?_⟩ z0) λz=>done λj a l=>?_));by_cases n:j=k-1;subst n;exact m;exact c j a z0;rcases Zbk j (k-1)with h1|h1;have:=List.pairwise_iff_getElem.1 ho j (k-1) a z0 h1;omega;grind
def xG{l:List Int}(b:Ξ l<=200)(a:∀v∈l,-1000000<=v/\v<=1000000):FH l=FX l:=by
 unfold FH FX
 have c:l.any (λv=>bif υ (v < -1000000)then ν else υ (v>1000000))=ξ:=by
  rw[Zfb];intro v h;have:=a v h;rw[df,df];simp
 rw[dI b z0 z0 a,df,bF (p:=Nn) _ (λ_ _=>rfl) z0,c];have d:A0 l=θ l:=by unfold A0;rw[II z0];rfl
 have e:B1 l=θ (Fy l):=by unfold B1;rw[II z0];rfl
 simp only[Zad,Zaq,d,e,zO (show Ξ l<=1000 by omega)];rfl
def un{l}(x:Ξ l<=200)(d:∀v∈l,-1000000<=v/\v<=1000000):∃r,FH l=θ r:=by
 have f:l.any (λv=>bif υ (v < -1000000)then ν else υ (v>1000000))=ξ:=by grind
 have g:A0 l=θ l:=by unfold A0;rw[II z0];rfl
 have j:B1 l=θ (Fy l):=by unfold B1;rw[II z0];rfl
 have k:Ξ (Fy l)=Ξ l:=by simp[Fy,Zgb]
 have H:Ok (FH l) λ_=>True:=by
  unfold FH;refine Ok.no df (qr (bF (p:=Nn) _ (λ_ _=>rfl) z0) ?_);rw[f];refine Ok.no rfl (Ok.br (λ_=>KK trivial) λc=>qr g (qr j ?_));have c:Ξ l≠0:=by grind
  have m:i64.wrap (Ξ l-1)=(Ξ l-1:Nat):=by rw[wr];omega
  have o:i64.wrap (3*(Ξ l-1:Nat))=(3*(Ξ l-1):Nat):=by rw[wr];omega
  have q:∀(a b:Nat),1<=b->a<=1000000->i64.wrap (Int.tdiv a b)=(a/b:Nat):=by
   intro a b y z;have h1:Int.tdiv a b=(a/b:Nat):=by grind
   have:=Zdx a b;rw[h1];generalize a/b=n at *;exact wr
  rw[m,o];have t:=q (Ξ l-1) 4 z0 z0;have u:=q (Ξ l-1) 2 z0 z0;have w:=q (3*(Ξ l-1)) 4 z0 z0;rw[show Int.tdiv (Ξ l-1:Nat) 4=Int.tdiv (Ξ l-1:Nat) (4:Nat) from rfl,t,show Int.tdiv (Ξ l-1:Nat) 2=Int.tdiv (Ξ l-1:Nat) (2:Nat) from rfl,u,show Int.tdiv (3*(Ξ l-1):Nat) 4=Int.tdiv (3*(Ξ l-1):Nat) (4:Nat) from rfl,w];exact qr (AY (i:=0) z0) (JT z0 (JT z0 (JT z0 (JT z0 (KK trivial)))))
 have⟨r,hr,_⟩:=H;grind
def low(w v:Int):=v-v%w
def TF(w:Int)(l:List Int)(z:Int):Int:=(Ξ (l.filter λv=>low w v==z))
structure BR(w:Int)(l lows:List Int):Prop where
 asc:lows.Pairwise (·<·)
 mem:∀z,z∈lows↔∃v∈l,low w v=z
def lJ(w:Int)(l lows:List Int):List Co:=lows.map λz=>{ C:=z,Z:=TF w l z }
def vJ{a b:List Int}(c:a.Pairwise (·<·))(d:b.Pairwise (·<·))(h:∀z,z∈a↔z∈b):a=b:=by
 have e:∀{l:List Int},l.Pairwise (·<·)->l.Nodup:=λh=>h.imp λh=>Int.ne_of_lt h;exact List.Perm.eq_of_pairwise (le:=(·<=·)) (λa b _ _ h1 h2=>Int.le_antisymm h1 h2) (c.imp λh=>Int.le_of_lt h) (d.imp λh=>Int.le_of_lt h) ((List.perm_ext_iff_of_nodup (e c) (e d)).2 h)
def tj{w}{l a}(h:l.Perm a)z:TF w l z=TF w a z:=by
 unfold TF;rw[(h.filter _).length_eq]
def XQ w l v z:TF w (l++[v]) z=TF w l z+if low w v=z then 1 else 0:=by
 unfold TF;grind
def f9 w l z:0<=TF w l z/\TF w l z<=Ξ l:=by
 unfold TF;grind
def tn{w}{l}{z}(h:∀v∈l,low w v≠z):TF w l z=0:=by
 unfold TF;rw[List.filter_eq_nil_iff.2 λv a=>by simpa using h v a];rfl
def pS{l}{x}(f:Ξ l<=1000):Ok (N3 l x) λb=>(b=ν↔x∈l):=by
 unfold N3;refine Wf (λq=>q) (Ξ l) (λk _=>∀y∈l.take k,y≠x) 0 (Zag _) rfl (λy hy=>by simp at hy) z0 (λrec q c a=>?_) λrec k q d c a ih=>?_;rw[RU,c];rw[Bl];rw[Zaj]at a;exact KK ⟨(λh=>by cases h),λh=>absurd rfl (a x h)⟩;rw[RU,c];rw[AK];refine JT d (Ok.br (λe=>KK ⟨λ_=>?_,λ_=>rfl⟩) λe=>ih _ BE λy hy=>?_);have e:l[k]=x:=by grind
 rw[<-e];exact Zae d;rw[Zab d]at hy;grind
def aZ{l}{x:Int}(h:l.Pairwise (·<·))(hx:∀y∈l,y<x):(l++[x]).Pairwise (·<·):=by grind
def sf{l}{x}(G:Ξ l<=1000)(B:l.Pairwise (·<·)):Ok (N4 l x) λr=>r.Pairwise (·<·)/\(∀z,z∈r↔z∈l\/z=x)/\Ξ r<=Ξ l+1:=by
 unfold N4;refine Ok.bind (pS G) λb C=>Ok.br (λe=>KK ⟨B,λz=>⟨.inl,λh=>h.elim id λh=>by subst h;exact C.1 e⟩,z0⟩) λe=>?_;have hx:x∉l:=λh=>by rw[C.2 h]at e;cases e
 have f:=List.pairwise_iff_getElem.1 B
 refine Wf (λq=>q.2.1) (Ξ l) (λk q=>q.2.2.Pairwise (·<·)/\(∀z,z∈q.2.2↔z∈l.take k\/(q.1=ν/\z=x))/\Ξ q.2.2<=k+1/\(q.1=ξ->Ξ q.2.2<=k/\∀y∈l.take k,y<x)/\(q.1=ν->∀j d,k<=j->x<l[j])) 0 (Zag _) rfl
  ⟨List.Pairwise.nil,λz=>zs,zs,λ_=>⟨zs,λy hy=>by simp at hy⟩,λh=>by cases h⟩ z0 (λrec q p t=>?_) λrec k q a p t ih=>?_
 have⟨g,c,D,i,u⟩:=t;rw[Zaj]at c i;rw[RY,p];rw[Bl];refine Ok.br (λe=>Ok.rm zv (KK ?_)) λe=>KK ⟨g,λz=>?_,D⟩;have e:q.1=ξ:=by grind
 have⟨E,m⟩:=i e;refine⟨aZ g λy hy=>?_,λz=>?_,zv⟩;rcases(c y).1 hy with h|h;exact m y h;rw[e]at h;cases h.1;rw[Zcj,c z,e];simp;have e:q.1=ν:=by grind
 rw[c z,e];simp;have⟨g,c,D,i,u⟩:=t
 have n:∀y∈l.take k,y<l[k]:=by
  intro y hy;obtain⟨j,d,rfl⟩:=Zbi hy;grind
 have H:l[k]≠x:=λh=>hx (by grind);rw[RY,p];rw[AK];refine JT a (Ok.br (λe=>?_) λe=>JT a (Ok.rm zv (ih _ BE ?_)))
 have o:l[k]>x/\q.1=ξ:=by grind
 have⟨o,v⟩:=o;have⟨E,m⟩:=i v;have F:∀y∈q.2.2,y∈l.take k:=λy hy=>((c y).1 hy).elim id λh=>by rw[v]at h;cases h.1
 refine Ok.rm zv (JT a (Ok.rm zv (ih _ BE ⟨?_,λz=>?_,zv,(λh=>by cases h),λ_ j d w=>?_⟩)));refine aZ (aZ g λy hy=>m y (F y hy)) λy hy=>?_;rcases List.mem_append.1 hy with hy|hy;exact n y (F y hy);rw[Zbb]at hy;subst hy;exact o;rw[Zab a];simp only[Zcj,Zbb,c z,v];simp;constructor;rintro((h|h)|h);exact .inl (.inl h);exact .inr h;exact .inl (.inr h);rintro((h|h)|h);exact .inl (.inl h);exact .inr h;exact .inl (.inr h);rcases Zbk k j with h|h;have:=f k j a d h;omega;obtain rfl:j=k:=z0;exact o;refine⟨aZ g λy hy=>?_,λz=>?_,zv,λh=>?_,λh j d w=>u h j d z0⟩;rcases(c y).1 hy with h|⟨h,rfl⟩;exact n y h;exact u h k a (Zam _);rw[Zab a];simp only[Zcj,Zbb,c z];constructor;rintro((h|h)|h);exact .inl (.inl h);exact .inr h;exact .inl (.inr h);rintro((h|h)|h);exact .inl (.inl h);exact .inr h;exact .inl (.inr h);have⟨E,m⟩:=i h;refine⟨zv,λy hy=>?_⟩;rw[Zab a]at hy;grind
def eL w v:low w v=w*(v/w):=by
 unfold low;have:=Int.emod_add_mul_ediv v w;omega
def Ab5{w u v}(a:1<=w)(h:u<=v):low w u<=low w v:=by
 rw[eL,eL];exact Int.mul_le_mul_of_nonneg_left (Int.ediv_le_ediv z0 h) z0
def Ab4{w u v}(c:1<=w):(v>=low w u/\v<low w u+w)↔low w v=low w u:=by
 have h1:=Zdb v (by omega:w≠0);have h2:=Zcv v (by omega:0<w);constructor;rintro⟨a,b⟩
 have e:v%w=v-low w u:=by
  have:v=(v-low w u)+w*(u/w):=by rw[<-eL];omega
  rw[this,Int.add_mul_emod_self_left];rw[<-eL];rw[Int.emod_eq_of_lt z0 z0];omega
 unfold low at *;omega;intro e;rw[<-e];unfold low;omega
def Ad6{l}{w}(P:Ξ l<=200)(B:1<=w)(i:w<=1000000)(x:∀v∈l,-1000000<=v/\v<=1000000):∃a,BR w l a/\Ξ a<=Ξ l/\Lm l w=θ (lJ w l a,0):=by
 have H:Ok (Lm l w) λr=>∃a,BR w l a/\Ξ a<=Ξ l/\r=(lJ w l a,0):=by
  unfold Lm;refine qr (dI P B i x) (Ok.no rfl ?_);refine Wf (λq=>q.2) (Ξ l) (λk q=>BR w (l.take k) q.1/\Ξ q.1<=k) 0 (Zag _) rfl ⟨⟨List.Pairwise.nil,λz=>zs⟩,Zam _⟩ z0 (λrec q c d=>?_) λrec k q D c d ih=>?_;have⟨⟨E,o⟩,M⟩:=d;rw[Zaj]at o;simp only[Q5,c];rw[Bl];unfold U3;generalize q.1=a at *;refine Wf (λq=>q.1) (Ξ a) (λm q=>q.2=lJ w l (a.take m)) 0 (Zag _) rfl rfl z0 (λrec q c d=>?_) λrec m q F c d ih=>?_;simp only[Q6,c,d];rw[Bl,Zaj];exact KK ⟨a,⟨E,o⟩,M,rfl⟩;have⟨u,Q,p⟩:=(o a[m]).1 (Zae F);have R:=x u Q;have N:=Zdb u (by omega:w≠0);have O:=Zcv u (by omega:0<w);have S:-2000000<=a[m]/\a[m]<=1000000:=by rw[<-p];unfold low;omega
  simp only[Q6,c,d];rw[AK];refine JT F ?_;refine Wf (λq=>q.1) (Ξ l) (λj q=>q.2={ C:=a[m],Z:=TF w (l.take j) a[m] }) 0 (Zag _) rfl (by simp[TF]) z0 (λt T e f=>?_) λt j T y e f ih2=>?_;simp only[Q7,e,f];rw[Bl,Zaj];refine Ok.rm (by simp[lJ];omega) (ih _ BE ?_);show _++[_]=_;unfold lJ;rw[Zab F,Zay];rfl;have U:=x _ (Zae y);have G:=f9 w (l.take j) a[m];rw[Zan]at G;have V:i64.wrap (a[m]+w)=a[m]+w:=wr;have W:i64.wrap (TF w (l.take j) a[m]+1)=TF w (l.take j) a[m]+1:=wr;have key:=Ab4 (u:=u) (v:=l[j]) B;rw[p]at key
  have step:TF w (l.take (j+1)) a[m]=TF w (l.take j) a[m]+if low w l[j]=a[m]then 1 else 0:=by
   rw[Zab y,XQ]
  simp only[Q7,e,f];rw[AK];refine JT y (bt (λI=>JT y ?_) λI=>ih2 _ BE ?_);rw[V];refine bt (λJ=>ih2 _ BE ?_) λJ=>ih2 _ BE ?_;rw[step,Zai (key.1 ⟨I,J⟩),W];rw[step,Zah λh=>J (key.2 h).2,Int.add_zero];rw[step,Zah λh=>I (key.2 h).1,Int.add_zero];have⟨⟨E,o⟩,M⟩:=d;have X:=x _ (Zae D);have h1:=Zdb l[k] (by omega:w≠0);have h2:=Zcv l[k] (by omega:0<w);have⟨g,K,L⟩:=nE (n:=l[k]) B i z0 z0;simp only[Q5,c];rw[AK];refine JT D (qr K ?_);rw[L,wr];refine Ok.bind (sf z0 E) λr hr=>ih _ BE ⟨⟨hr.1,λz=>?_⟩,by show Ξ r<=k+1;omega⟩;rw[hr.2.1 z,o z,Zab D];constructor;rintro(⟨v,b,A⟩|rfl);exact⟨v,Zby _ b,A⟩;exact⟨l[k],Zbp _ (List.mem_singleton.2 rfl),rfl⟩;rintro⟨v,b,A⟩;rcases List.mem_append.1 b with b|b;exact .inl ⟨v,b,A⟩;rw[Zbb]at b;subst b;exact .inr A.symm
 have⟨r,hr,a,h1,h2,b⟩:=H;grind
def ol w l a v(h:∀z∈a,low w v≠z):lJ w (l++[v]) a=lJ w l a:=by
 unfold lJ;refine Zck λz b=>?_;rw[XQ,Zah (h z b),Int.add_zero]
def Pz w l a:Ξ (lJ w l a)=Ξ a:=by simp[lJ]
def lK w l a z:lJ w l (a++[z])=lJ w l a++[{ C:=z,Z:=TF w l z }]:=by simp[lJ]
def Ad2{l}{w}(hl:Ξ l<=200)(hw:1<=w)(T:w<=1000000)(hv:∀v∈l,-1000000<=v/\v<=1000000):∃d,BR w l d/\N1 l w=θ (lJ w l d,0):=by
 have hc:A0 l=θ l:=by unfold A0;rw[II z0];rfl
 have hs:B1 l=θ (Fy l):=by unfold B1;rw[II z0];rfl
 have f:(Fy l).Perm l:=List.mergeSort_perm l _;have hsl:Ξ (Fy l)=Ξ l:=f.length_eq;have U:∀v∈Fy l,-1000000<=v/\v<=1000000:=λv h=>hv v (f.mem_iff.1 h)
 have V:(Fy l).Pairwise (·<=·):=by
  have:=Zgt (le:=λx y:Int=>υ (x<=y)) (λa b c h1 h2=>by simp at *;omega) (λa b=>zv) l;exact this.imp zs
 have hn:l.any (λv=>bif υ (v < -1000000)then ν else υ (v>1000000))=ξ:=by grind
 have H:Ok (N1 l w) λr=>∃d,BR w (Fy l) d/\r=(lJ w (Fy l) d,0):=by
  unfold N1;refine Ok.no df (Ok.no (by grind) (qr (bF (p:=Nn) _ (λ_ _=>rfl) z0) ?_));rw[hn];apply Ok.no rfl;unfold RP;refine qr hc (qr hs ?_);generalize Fy l=t at *;refine Wf (λq=>q.1) (Ξ t) (λk q=>∃d,BR w (t.take k) d/\Ξ d<=k/\q.2=lJ w (t.take k) d) 0 (Zag _) rfl ⟨[],⟨List.Pairwise.nil,λz=>zs⟩,Zam _,rfl⟩ z0 (λrec q W X=>?_) λrec k q Q W X ih=>?_;have⟨d,h1,h2,g⟩:=X;simp only[RN,W];rw[Bl];rw[Zaj]at h1 g;exact KK ⟨d,h1,by rw[g]⟩;have⟨d,⟨R,O⟩,a3,M⟩:=X;have hvk:=U _ (Zae Q);have F:=Zab Q
  have Y:∀z∈d,z<=low w t[k]:=by
   intro z E;obtain⟨u,hu,rfl⟩:=(O z).1 E;obtain⟨j,hj,rfl⟩:=Zbi hu;rw[Zbs];rw[Zan]at hj;exact Ab5 hw (List.pairwise_iff_getElem.1 V j k z0 Q z0)
  have L:(∀z∈d,z<low w t[k])->BR w (t.take (k+1)) (d++[low w t[k]]):=by
   intro A;refine⟨aZ R A,λz=>?_⟩;grind
  have J:(∀z∈d,z<low w t[k])->Ok (bif P.rm (Ξ q.2) (Ξ [({ C:=t[k]-t[k]%w,Z:=0 }:Co)]) then
   (idx (q.2++[{ C:=t[k]-t[k]%w,Z:=0 }]) (i64.wrap ((Ξ (q.2++[({ C:=t[k]-t[k]%w,Z:=0 }:Co)]))-1))).bind λx63=>
   (idx (q.2++[{ C:=t[k]-t[k]%w,Z:=0 }]) (i64.wrap ((Ξ (q.2++[({ C:=t[k]-t[k]%w,Z:=0 }:Co)]))-1))).bind λx67=>
   rec ((i64.wrap ((k:Int)+1)),((q.2++[({ C:=t[k]-t[k]%w,Z:=0 }:Co)]).set ((i64.wrap ((Ξ (q.2++[({ C:=t[k]-t[k]%w,Z:=0 }:Co)]))-1)):Int).toNat { C:=x67.C,Z:=(i64.wrap (x63.Z+1)) }))else none) λr=>∃d,BR w t d/\r=(lJ w t d,0):=by
   intro A
   have E:TF w (t.take k) (low w t[k])=0:=tn λv hv2 e=>by
    have:=A _ ((O _).2 ⟨v,hv2,e⟩);omega
   have m:Ξ q.2=Ξ d:=by rw[M,Pz]
   apply Ok.rm zv
   have e:i64.wrap ((Ξ (q.2++[({ C:=t[k]-t[k]%w,Z:=0 }:Co)]))-1)=(Ξ d:Int):=by
    rw[Zar,m,wr (by grind) zv];simp
   rw[e];have N:Ξ d<Ξ (q.2++[({ C:=t[k]-t[k]%w,Z:=0 }:Co)]):=by simp[m]
   have S:(q.2++[{ C:=t[k]-t[k]%w,Z:=0 }])[Ξ d]={ C:=t[k]-t[k]%w,Z:=0 }:=by grind
   refine JT N (JT N (ih _ BE ⟨d++[low w t[k]],L A,zv,?_⟩));rw[S,F,lK,ol w _ _ _ (λz B=>by have:=A z B;omega),XQ,Zai rfl,E,<-M];show(q.2++[_]).set ((Ξ d:Int)).toNat _=_;rw[Zaw,Zga _ _ z0,m,Zes];rfl
  simp only[RN,W];rw[AK];refine JT Q (qr (xB hw T z0 z0) (Ok.br (λE=>J λz I=>?_) λE=>?_))
  have:Ξ d=0:=by
   have:Ξ q.2=0:=by grind
   rw[M,Pz]at this;grind
  rw[Zau this]at I;cases I
  have E:Ξ q.2≠0:=by grind
  have m:Ξ q.2=Ξ d:=by rw[M,Pz]
  obtain⟨n,i,rfl⟩:∃a z,d=a++[z]:=by
   have D:d≠[]:=λh=>E (by grind);exact⟨d.dropLast,d.getLast D,(List.dropLast_concat_getLast D).symm⟩
  have hil:Ξ q.2=Ξ n+1:=by grind
  have e:i64.wrap (Ξ q.2-1)=Ξ n:=by
   rw[wr z0 (by grind)];omega
  rw[e];have N:Ξ n<Ξ q.2:=z0
  have S:q.2[Ξ n]={ C:=i,Z:=TF w (t.take k) i }:=by
   simp[M];simp[lJ]
  have K:∀z∈n,z<i:=by
   intro z B;rw[Zea]at R;exact R.2.2 z B i (List.mem_singleton.2 rfl)
  apply JT N;rw[S];refine Ok.br (λD=>J λz I=>?_) λo=>JT N (JT N (ih _ BE ⟨n++[i],?_,z0,?_⟩))
  have D:i≠low w t[k]:=by
   have:(i != t[k]-t[k]%w)=ν:=D;rw[bne_iff_ne]at this;exact this
  have h0:=Y i (Zbp _ (List.mem_singleton.2 rfl));rcases List.mem_append.1 I with h|h;have:=K z h;omega;rw[Zbb]at h;subst h;omega
  have o:i=low w t[k]:=by
   have:(i != t[k]-t[k]%w)=ξ:=o;rw[bne_eq_false_iff_eq]at this;exact this
  refine⟨R,λz=>?_⟩;rw[O z,F];constructor;rintro⟨v,g,G⟩;exact⟨v,Zby _ g,G⟩;rintro⟨v,g,G⟩;rcases List.mem_append.1 g with g|g;exact⟨v,g,G⟩;rw[Zbb]at g;subst g;rw[<-G,<-o];exact(O i).1 (Zbp _ (List.mem_singleton.2 rfl))
  have o:i=low w t[k]:=by
   have:(i != t[k]-t[k]%w)=ξ:=o;rw[bne_eq_false_iff_eq]at this;exact this
  have hcr:=f9 w (t.take k) i;rw[Zan]at hcr;rw[S,F,lK,ol w _ _ _ (λz B=>by have:=K z B;omega),XQ,Zai o.symm];show q.2.set ((Ξ n:Int)).toNat { C:=i,Z:=i64.wrap (TF w (t.take k) i+1) }=_;rw[Zaw,wr,M,lK,Zga _ _ (by rw[Pz];omega),Pz,Zes];rfl
 have⟨r,hr,d,h1,h2⟩:=H;refine⟨d,⟨h1.asc,λz=>(h1.mem z).trans ⟨λ⟨v,a,b⟩=>⟨v,f.mem_iff.1 a,b⟩,λ⟨v,a,b⟩=>⟨v,f.mem_iff.2 a,b⟩⟩⟩,?_⟩;rw[hr,h2];unfold lJ;congr 2;exact Zck λz _=>by rw[tj f]
def yK{l}{w}(f:Ξ l<=200)(g:1<=w)(c:w<=1000000)(h:∀v∈l,-1000000<=v/\v<=1000000):∃b,Ξ b<=200/\N1 l w=θ (b,0)/\Lm l w=θ (b,0):=by
 have⟨a,i,d⟩:=Ad2 f g c h;have⟨b,j,k,e⟩:=Ad6 f g c h;cases vJ i.asc j.asc λz=>(i.mem z).trans (j.mem z).symm;exact⟨_,by rw[Pz];omega,d,e⟩
def QS{l}{k:Nat}b a:(ints l)[k]=(l[k]):=by simp[ints]
def ko{i:Nat}m(h:Do s.A[i]){n}(o:n<Ξ s.A[i].L):Lf s i s.A[i].L[n]=θ ((Ξ s.A[i].L:Int)-n):=by
 have p:=B6 h
 have hd:∀a b (f:a<Ξ s.A[i].L) (g:b<Ξ s.A[i].L),a<b->s.A[i].L[a]≠s.A[i].L[b]:=by
  have r:s.A[i].L.Pairwise (·≠·):=by rcases lI h.widths with e|e|e|e<;>(rw[e];decide)
  intro a b f g d;exact(List.pairwise_iff_getElem.1 r) a b f g d
 apply Ok.val;unfold Lf;apply JT m;refine Wf (λq=>q) (Ξ s.A[i].L) (λk _=>k<=n) 0 (Zag _) rfl (Zag _) z0 (λrec q j t=>z0) λrec k q l j t ih=>?_;rw[Tu,j];rw[AK];refine JT l (Ok.br (λhe=>KK ?_) λc=>ih _ BE ?_);have he:s.A[i].L[k]=s.A[i].L[n]:=by grind
 have:k=n:=by grind
 rw[this,wr];grind
def hE(m w:Int)(c:Ae):Ag:={ Op:=13,K:=w,J:=ByteArray.empty,B:=m,A:=[],V:=[],Q:=c,Y:=R5,D:=[] }
def HR(s:Aa)m w:=∃(i:Nat)(hi:i<Ξ s.A),1<=i/\m=(i:Int)/\Do s.A[i]/\w∈s.A[i].L
def wR(a:DS s){i:Nat}b(h:s.A[i].Kind=3):1<=i/\Do s.A[i]:=by
 rcases a.cl b with⟨_,h1⟩|⟨c,h1|h1⟩;rw[h1]at h;cases h;rw[h1.kind]at h;cases h;grind
def lS(f:DS s)m:Ok (BJ s m) λb=>(b=ν↔∃(i:Nat)(a:i<Ξ s.A),1<=i/\m=i/\Do s.A[i]):=by
 by_cases k:0<=m/\m<Ξ s.A;obtain⟨i,rfl⟩:∃i:Nat,m=i:=⟨m.toNat,z0⟩;have a:i<Ξ s.A:=z0;by_cases e:s.A[i].Kind=3;have⟨h1,h2⟩:=wR f a e;exact⟨_,ul a h2,λ_=>⟨i,a,h1,rfl,h2⟩,λ_=>rfl⟩;refine⟨ξ,?_,(λh=>by cases h),λ⟨j,g,_,c,d⟩=>?_⟩;unfold BJ;rw[dt,dt];show(idx s.A i).bind _=_;rw[AY a,Zad];have:(s.A[i].Kind==3)=ξ:=by grind
 rw[this];obtain rfl:i=j:=z0;exact absurd d.kind e;refine⟨ξ,?_,(λh=>by cases h),λ⟨j,g,_,c,d⟩=>z0⟩;unfold BJ;grind
def Vv{l}{x}(a:Ξ l<=1000000):Ok (Cd l x) λb=>(b=ν↔x∈l):=by
 refine⟨l.any λy=>x==y,?_,?_⟩;unfold Cd;have h:GY l x=θ (Gb (λy=>x==y) l):=JY (p:=λy=>θ (x==y)) (λ_ _=>rfl) z0;rw[h,Zad,Pu];grind
def mC(lo hi:Int)(w:List Int)(o:Bool):Ax:={ J:=iR,Kind:=3,Al:=0,C:=lo,E:=hi,L:=w,An:=o }
def mS(lo hi:Int)(w:List Int)(o:Bool):Aa:={ S:=[],A:=[who,mC lo hi w o] }
def mLp lo hi w o l:=iter (λrec1 st=>JR (mS lo hi w o) 1 (λv2_1=>θ v2_1) rec1 st) Ay l
def mLr lo hi w o l:=iter (λrec1 st=>GQ (mS lo hi w o) 1 l (λv7_1=>θ v7_1) rec1 st) Ay 0
def wS(lo hi:Int)(w:List Int)(o:Bool)(l:Int):Bool:=match mLp lo hi w o l,mLr lo hi w o l with
 | some a,some b=>(a==b)&&υ (0<=a)&&υ (a<=l)
 | _,_=>ξ
def nV:((List.range 7).all λa=>(List.range 45).all λb=>SB.all λw=>[ν,ξ].all λo=>(List.range (Ξ w+1)).all λl=>wS (a-4) (a-4+b) w o l)=ν:=by decide +kernel
def qd{c}(h:Do c){l:Int}(k:0<=l)(h1:l<=Ξ c.L):wS c.C c.E c.L c.An l=ν:=by
 have⟨m,n⟩:=h.low;have⟨o,p⟩:=h.high;have b:=List.all_eq_true.1 nV (c.C+4).toNat (List.mem_range.2 z0);have d:=List.all_eq_true.1 b (c.E-c.C).toNat (List.mem_range.2 z0);have e:=List.all_eq_true.1 d c.L h.widths;have f:=List.all_eq_true.1 e c.An (by grind);have a:=List.all_eq_true.1 f l.toNat (List.mem_range.2 z0);grind
def mK{i:Nat}a(h:Do s.A[i])l:FA s i l=FA (mS s.A[i].C s.A[i].E s.A[i].L s.A[i].An) 1 l:=by
 unfold FA;rw[AY a];show _=(θ _).bind _;rw[Zad,Zad,h.kind];rfl
def tz{i:Nat}c(h:Do s.A[i])a b:F7 s i a b=F7 (mS s.A[i].C s.A[i].E s.A[i].L s.A[i].An) 1 a b:=by
 have e:idx (mS s.A[i].C s.A[i].E s.A[i].L s.A[i].An).A 1=θ (mC s.A[i].C s.A[i].E s.A[i].L s.A[i].An):=rfl;have k:(mC s.A[i].C s.A[i].E s.A[i].L s.A[i].An).Kind=3:=rfl;have d:∀a,Ec s.A[i] a=Ec (mC s.A[i].C s.A[i].E s.A[i].L s.A[i].An) a:=λ_=>rfl;have f:((3:Int)==2)=ξ:=rfl;unfold F7;rw[AY c,e,Zad,Zad,h.kind,k,f,Zaq,Zaq];have g:(mC s.A[i].C s.A[i].E s.A[i].L s.A[i].An).C=s.A[i].C:=rfl;have p2:(mC s.A[i].C s.A[i].E s.A[i].L s.A[i].An).E=s.A[i].E:=rfl;have p3:(mC s.A[i].C s.A[i].E s.A[i].L s.A[i].An).An=s.A[i].An:=rfl;grind
def gp(f:DS s){i}(d:1<=i)c(h:Do s.A[i]){l:Int}(g:0<=l)(h1:l<=Ξ s.A[i].L):∃L,CO s i l=θ L/\CE s i l=θ L/\0<=L/\L<=l:=by
 have j:=B6 h;have r:fin s i=Ξ s.A[i].L:=by rw[E8 c,Cs h]
 have k:CO s i l=mLp s.A[i].C s.A[i].E s.A[i].L s.A[i].An l:=by
  unfold CO mLp;rw[f.pFinest d c,Zad,df,df,Zaq,Zaq];congr 1;funext rec m;unfold JR;rw[mK c h,mK c h]
 have n:CE s i l=mLr s.A[i].C s.A[i].E s.A[i].L s.A[i].An l:=by
  unfold CE mLr;rw[f.rfinest d c,Zad,JC,Zad,dt,Zfy,Zaq];congr 1;funext rec m;unfold GQ;rw[tz c h]
 have e:=qd h g h1;unfold wS at e;grind
structure NP(r:List Ab)(m:Nat)(P:List Ab->Prop):Prop where
 len:Ξ r<=m
 pos:∀p∈r,0<p.H
 iff:∀picks,(∀p∈r,one picks p.B p.H)↔P picks
def NP.covers{r:List Ab}{m:Nat}{P:List Ab->Prop}(h:NP r m P)(picks:List Ab):covers picks r=ν↔P picks:=(Zb h.pos).trans (h.iff picks)
def NP.congr{r}{m}{P Q}(h:NP r m P)(e:∀picks,P picks↔Q picks):NP r m Q:=⟨h.len,h.pos,λpicks=>(h.iff picks).trans (e picks)⟩
def NP.nil{m}:NP [] m λ_=>True:=⟨Zag _,(λp a=>by cases a),λpicks=>⟨λ_=>trivial,λ_ p a=>by cases a⟩⟩
def NO.cols{l}{r}(h:NO s l r):∀p∈r,∃a∈l,p.B=a.B:=by
 intro p c;have h1:=(h.iff (l.map λa=>{ B:=a.B,H:=Yo s a })).2 (λa b=>.inr ⟨_,List.mem_map.2 ⟨a,b,rfl⟩,rfl,Zbh _⟩) p c;rcases h1 with h1|⟨q,d,h2,_⟩;have:=h.pos p c;omega;grind
theorem jL(k c v:Int):∀b:List (Int×Int),NZ c (iz k v b)=if c=k then θ v else NZ c b
 | []=>by
   simp only[iz,NZ];by_cases e:c=k
   ·subst e;rw[Zbd,Zai rfl];rfl
   ·rw[beq_eq_false_iff_ne.2 e,Zah e];rfl
 | p::r=>by
   have ih:=jL k c v r;simp only[iz];by_cases e:k=p.1
   ·rw[<-e,Zbd,Zav];simp only[NZ];by_cases a:c=k
    ·subst a;rw[Zbd,Zai rfl];rfl
    ·rw[<-e,beq_eq_false_iff_ne.2 a,Zah a,Zaq,Zaq]
   ·rw[beq_eq_false_iff_ne.2 e,Zaq];simp only[NZ];rw[ih];by_cases a:c=p.1
    ·rw[<-a,Zbd,Zav,Zah z0,Zav]
    ·rw[beq_eq_false_iff_ne.2 a,Zaq,Zaq]
def gl c(b:List (Int×Int)):=(NZ c b).getD 0
structure MI(v:Int)(b:List (Int×Int))(P:List Ab->Prop):Prop where
 v0:0<=v
 v1:v<=1000
 out:∀c,v<c->gl c b=0
 iff:∀picks,(∀c,0<=c->c<=v->one picks c (gl c b))↔P picks
def MI.step{v}{b}{P}(h:MI v b P){x:Ab}(k:0<=x.B)(h1:x.B<=1000):
 MI (if x.B>v then x.B else v) (iz x.B (if x.H>((NZ x.B b).getD 0)then x.H else((NZ x.B b).getD 0)) b) λpicks=>P picks/\one picks x.B x.H:=by
 have⟨n,o,g,m⟩:=h
 have f:∀c,gl c (iz x.B (if x.H>((NZ x.B b).getD 0)then x.H else((NZ x.B b).getD 0)) b)=if c=x.B then(if x.H>gl x.B b then x.H else gl x.B b)else gl c b:=by
  intro c;unfold gl;rw[jL];grind
 refine⟨by split<;>omega,by split<;>omega,λc l=>?_,λpicks=>?_⟩;rw[f,Zah (by grind)];exact g c (by grind);rw[<-m picks];constructor;intro a;have hx:=a x.B k (by grind);rw[f,Zai rfl]at hx;refine⟨λc d i=>?_,(Uf.1 hx).2⟩;by_cases e:c=x.B;subst e;exact(Uf.1 hx).1;have:=a c d (by grind);rw[f,Zah e]at this;exact this;rintro⟨a,hx⟩ c d i;rw[f];by_cases e:c=x.B;rw[Zai e,e];refine Uf.2 ⟨?_,hx⟩;by_cases j:x.B<=v;exact a _ k j;rw[g _ z0];exact .inl (Zbh _);rw[Zah e];by_cases j:c<=v;exact a c d j;rw[g _ z0];exact .inl (Zbh _)
def MI.congr{v}{b}{P Q}(h:MI v b P)(e:∀picks,P picks↔Q picks):MI v b Q:=⟨h.v0,h.v1,h.out,λpicks=>(h.iff picks).trans (e picks)⟩
def xc{i}(d:Ξ i<=1000)(C:∀l∈i,Ξ l<=1000000)(w:∀l∈i,∀p∈l,0<=p.B/\p.B<=1000):
 Ok (JJ i) λr=>NP r 1001 λpicks=>∀l∈i,∀p∈l,one picks p.B p.H:=by
 unfold JJ
 refine Wf (λq=>q.2.1) (Ξ i) (λk q=>MI q.1 q.2.2 λpicks=>∀l∈i.take k,∀p∈l,one picks p.B p.H) 0 (Zag _) rfl
  ⟨Zbh _,by show 0<=1000;omega,(λc _=>rfl),λpicks=>⟨λ_ l d=>by simp at d,λ_ c _ _=>.inl (Zbh _)⟩⟩ z0 (λrec q x u=>?_) λrec k q o x u ih=>?_
 rw[Zaj]at u;rw[Jm,x];rw[Bl];have⟨G,H,I,D⟩:=u;obtain⟨n,E⟩:∃n:Nat,q.1=n:=⟨q.1.toNat,z0⟩;have A:i64.wrap (q.1+1)=(n+1:Nat):=by rw[E];exact BE
 refine Wf (λq=>q.1) (n+1) (λk r=>NP r.2 k λpicks=>∀c:Int,0<=c->c<k->one picks c (gl c q.2.2)) 0 (Zag _) rfl (NP.nil.congr λpicks=>⟨λ_ c m h1=>z0,λ_=>trivial⟩) z0 (λf t b a=>?_) λf k t o b a ih2=>?_;rw[Jo,b,A];rw[Bl];refine KK ⟨by have:=a.len;omega,a.pos,λpicks=>(a.iff picks).trans ((Iff.intro (λh c m h1=>h c m z0) λh c m h1=>h c m z0).trans (D picks))⟩;have B:=a.len
 have g:∀(P:Prop) picks,((∀c:Int,0<=c->c<k->one picks c (gl c q.2.2))/\one picks k (gl k q.2.2))↔∀c:Int,0<=c->c<(k+1:Nat)->one picks c (gl c q.2.2):=by grind
 rw[Jo,b,A];rw[AK];refine bt (λv=>Ok.rm zv (ih2 _ BE ⟨by show(Ξ (t.2++[_]))<=_;simp;omega,Uh a.pos v,λpicks=>?_⟩)) λv=>ih2 _ BE ⟨by show Ξ t.2<=_;omega,a.pos,λpicks=>?_⟩;rw[NQ,a.iff picks];exact g True picks;rw[a.iff picks,<-g True picks];refine⟨λh=>⟨h,.inl ?_⟩,λh=>h.1⟩;show gl k q.2.2<=0;unfold gl;omega;have F:=C _ (Zae o);have y:=w _ (Zae o);rw[Jm,x];rw[AK];apply JT o;refine Wf (λq=>q.2.1) (Ξ i[k]) (λj r=>MI r.1 r.2.2 λpicks=>(∀l∈i.take k,∀p∈l,one picks p.B p.H)/\∀p∈i[k].take j,one picks p.B p.H) 0 (Zag _) rfl (u.congr λpicks=>⟨λh=>⟨h,λp v=>by simp at v⟩,λh=>h.1⟩) z0 (λf t b a=>?_) λf j t z b a ih2=>?_;rw[Jn,b];rw[Bl];refine ih _ BE (a.congr λpicks=>?_);rw[Zaj,Zab o];constructor;rintro⟨h1,h2⟩ l d;rcases List.mem_append.1 d with d|d;exact h1 l d;rw[Zbb]at d;subst d;exact h2;exact λh=>⟨λl d=>h l (Zby _ d),h _ (Zbp _ (List.mem_singleton.2 rfl))⟩;rw[Jn,b];rw[AK];have hx:=y _ (Zae z);refine JT z (ih2 _ BE ((a.step hx.1 hx.2).congr λpicks=>?_));rw[Zab z,NQ];grind
def DS.rcond_zero(h:DS s)d:BY (d+1) s R5=θ 4:=by unfold BY;rw[h.rcheck];rfl
def DS.rneeds_zero(h:DS s)d:DF (d+1) s R5=θ []:=by unfold DF;rw[h.rcond_zero];rfl
def add_zero(d:DS s)a:NE 59 s a R5=θ a:=by
 apply Ok.val;unfold NE;apply qr (d.rneeds_zero 58);refine Wf (λq=>q.2) 0 (λ_ q=>q.1=a) 0 (Zag _) rfl rfl z0 (λrec q b c=>?_) λrec k q e b c ih=>absurd e z0;rw[VQ,b,c];exact Ok.no rfl (KK rfl)
def tG c a v b:=if 1<=a/\v=B0 then(B0,ν)else if a=0/\c.An=ν then(0,ξ)else if Vr c a v-Vr c a v%Fb c b=jq c a v-jq c a v%Fb c b then(Vr c a v-Vr c a v%Fb c b,ν)else(0,ξ)
def Ww{c}(h:Do c){a v:Int}(d:0<=a)(h1:a<=Ξ c.L)(b:c.C<=v/\v<=c.E):(c.C<=Vr c a v/\Vr c a v<=c.E)/\c.C<=jq c a v/\jq c a v<=c.E:=by
 unfold Vr jq;by_cases e:a=0;rw[Zai e,Zai e];omega;have f:=Fw h (l:=a) z0 h1;have g:=I8 h (l:=a) z0 h1 b;grind
def oL{c}(h:Do c){a v b:Int}(g:0<=a)(h1:a<=Ξ c.L)(i:1<=b)(f:b<=Ξ c.L)(d:MV c v):((tG c a v b).1=B0/\(tG c a v b).2=ν)\/(-1000<=(tG c a v b).1/\(tG c a v b).1<=1000):=by
 have⟨l,m⟩:=h.low;have⟨n,o⟩:=h.high;unfold tG;split;exact .inl ⟨rfl,rfl⟩;split;exact .inr ⟨by show (-1000)<=0;omega,by show 0<=1000;omega⟩;rename_i j k
 have hr:c.C<=v/\v<=c.E:=by
  rcases d with d|⟨ho,d⟩;exact d;grind
 have:=Ww h g h1 hr;have p:=Fw h i f;have q:=Zdb (Vr c a v) (by omega:Fb c b≠0);have r:=Zcv (Vr c a v) (by omega:0<Fb c b);grind
def Ye(C:DS s){i}(q:1<=i)t(h:Do s.A[i]){a b v:Int}(B:0<=a)(h1:a<=Ξ s.A[i].L)(m:1<=b)(d:b<=Ξ s.A[i].L)(c:MV s.A[i] v):
 F9 s i a (mv s.A[i] a v) b=θ (tG s.A[i] a v b):=by
 have G:fin s i=Ξ s.A[i].L:=by rw[E8 t,Cs h]
 have⟨H,I⟩:=h.low;have⟨J,K⟩:=h.high;have o:(b==0)=ξ:=by grind
 have f:∀{r u:Int×Bool},DI s.A[i] a (mv s.A[i] a v) b=θ r->u=(bif r.2 then(r.1,ν)else(0,ξ))->F9 s i a (mv s.A[i] a v) b=θ u:=by
  intro r u hr e;apply Ok.val;unfold F9;refine qr (C.pfinest q t) (Ok.no ?_ (JT t (Ok.no (by rw[h.kind];rfl) (qr hr ?_))));rw[df,df,df,df];rfl;rw[e]
  cases r.2
  exact Vc rfl (KK rfl);exact Ok.no rfl (KK rfl)
 by_cases p:a=0;subst p;by_cases ho:s.A[i].An=ν;refine f (r:=(0,ξ)) ?_ ?_;unfold DI;refine Ok.val (Ok.no rfl (qr (x:=(s.A[i].C,s.A[i].E,ν)) rfl (Ok.no rfl (Ok.no o (Vc ?_ (KK rfl))))));rw[ho];rfl;unfold tG;rw[Zah z0,Zai ⟨rfl,ho⟩];rfl
 have c:s.A[i].C<=v/\v<=s.A[i].E:=by
  rcases c with c|c;exact c;grind
 have w:s.A[i].An=ξ:=by grind
 have g:=Fw h m d;have j:=TO (n:=s.A[i].C) g.1 z0 z0 z0;have y:=TO (n:=s.A[i].E) g.1 z0 z0 z0;refine f (r:=(s.A[i].C-s.A[i].C%Fb s.A[i] b,(s.A[i].C-s.A[i].C%Fb s.A[i] b==s.A[i].E-s.A[i].E%Fb s.A[i] b))) ?_ ?_;unfold DI;refine Ok.val (Ok.no rfl (qr (x:=(s.A[i].C,s.A[i].E,ν)) rfl (Ok.no rfl (Ok.no o (Ok.no ?_ (qr (lT h m d) (qr j (qr j (qr y (KK rfl))))))))));rw[w];rfl;unfold tG Vr jq;rw[Zah z0,Zah λk=>ho k.2,Zai rfl,Zai rfl];by_cases e:s.A[i].C-s.A[i].C%Fb s.A[i] b=s.A[i].E-s.A[i].E%Fb s.A[i] b;rw[Zai e,beq_iff_eq.2 e];rfl;rw[Zah e,beq_eq_false_iff_ne.2 e];rfl;have z:(a==0)=ξ:=by grind
 rcases c with c|⟨ho,rfl⟩;have D:=I8 h (l:=a) z0 h1 c;have E:=Ww h B h1 c;have g:=Fw h m d;have j:=TO (n:=Vr s.A[i] a v) g.1 z0 z0 z0;have y:=TO (n:=jq s.A[i] a v) g.1 z0 z0 z0;have F:(mv s.A[i] a v==-1099511627776)=ξ:=by rw[Zbt];exact D.2.2.2.1
 refine f (r:=(Vr s.A[i] a v-Vr s.A[i] a v%Fb s.A[i] b,(Vr s.A[i] a v-Vr s.A[i] a v%Fb s.A[i] b==jq s.A[i] a v-jq s.A[i] a v%Fb s.A[i] b))) ?_ ?_;unfold DI;refine Ok.val (Ok.no (by grind) (qr (xE h B h1 c) (Ok.no rfl (Ok.no o (Ok.no (by grind) (qr (lT h m d) (qr j (qr j (qr y (KK rfl))))))))));have A:v≠B0:=by unfold B0;omega
 unfold tG;rw[Zah λk=>A k.2,Zah λk=>p k.1];by_cases e:Vr s.A[i] a v-Vr s.A[i] a v%Fb s.A[i] b=jq s.A[i] a v-jq s.A[i] a v%Fb s.A[i] b;rw[Zai e,beq_iff_eq.2 e];rfl;rw[Zah e,beq_eq_false_iff_ne.2 e];rfl;have e:mv s.A[i] a B0=B0:=by unfold mv;rw[Zah p,Zai rfl]
 refine f (r:=(B0,ν)) ?_ ?_;unfold DI;rw[e,Zak (by grind),ho];exact Ok.val (Vc rfl (Ok.no o (KK rfl)));unfold tG;grind
def su(q:DS s){i}(f:1<=i)j(h:Do s.A[i]){a b v:Int}(t:0<=a)(h1:a<=Ξ s.A[i].L)(y:1<=b)(m:b<=Ξ s.A[i].L)(c:MV s.A[i] v):
 KP s i a (mv s.A[i] a v) b=θ (tG s.A[i] a v b):=by
 have F:fin s i=Ξ s.A[i].L:=by rw[E8 j,Cs h]
 have⟨G,H⟩:=h.low;have⟨I,J⟩:=h.high;have B:(b==0)=ξ:=by grind
 apply Ok.val;unfold KP;refine qr (xK q f j h t h1 c) (Ok.no rfl (qr (q.rfinest f j) ?_));rw[JC,Zad,dt];apply Ok.no rfl;unfold Qf;refine JT j (Ok.no (by rw[h.kind];rfl) (Ok.no B ?_))
 have d:∀(hr:s.A[i].C<=v/\v<=s.A[i].E),¬(a=0/\s.A[i].An=ν)->Ok ((Gw s.A[i] a (mv s.A[i] a v)).bind λn=>
  (Bt s i b n.1).bind λg=>
  (Bt s i b n.2.1).bind λo=>
  bif(g != o)then
   θ (0,ξ)
  else
   θ (g,ν)) (·=tG s.A[i] a v b):=by
  intro hr u;have p:=Ww h t h1 hr;have z:=cm q f j h (l:=b) (v:=Vr s.A[i] a v) z0 z0 (.inl z0);have A:=cm q f j h (l:=b) (v:=jq s.A[i] a v) z0 z0 (.inl z0);rw[(I8 h (l:=b) y m p.1).1]at z;rw[(I8 h (l:=b) y m p.2).1]at A;have w:v≠B0:=by unfold B0;omega
  have C:tG s.A[i] a v b=if Vr s.A[i] a v-Vr s.A[i] a v%Fb s.A[i] b=jq s.A[i] a v-jq s.A[i] a v%Fb s.A[i] b then(Vr s.A[i] a v-Vr s.A[i] a v%Fb s.A[i] b,ν)else(0,ξ):=by
   unfold tG;grind
  rw[C];refine qr (ql h t h1 hr) (qr z (qr A ?_));by_cases e:Vr s.A[i] a v-Vr s.A[i] a v%Fb s.A[i] b=jq s.A[i] a v-jq s.A[i] a v%Fb s.A[i] b;rw[Zai e];exact Ok.no (by grind) (KK rfl);rw[Zah e];exact Vc (by grind) (KK rfl)
 by_cases r:a=0;subst r;refine Ok.no rfl (Ok.br (λho=>KK ?_) λho=>?_);have ho:=ho;unfold tG;rw[Zah z0,Zai ⟨rfl,ho⟩];have ho:s.A[i].An=ξ:=ho;refine d ?_ (λk=>by rw[ho]at k;cases k.2);rcases c with c|c;exact c;rw[ho]at c;cases c.1;have x:(a==0)=ξ:=by grind
 rcases c with c|⟨ho,rfl⟩;have D:=I8 h (l:=a) z0 h1 c;have E:(mv s.A[i] a v==-1099511627776)=ξ:=by rw[Zbt];exact D.2.2.2.1
 refine Ok.no (by grind) (Ok.no (by grind) (d c λk=>r k.1));have e:mv s.A[i] a B0=B0:=by unfold mv;rw[Zah r,Zai rfl]
 rw[e,Zak (by grind)];refine Vc rfl (KK ?_);unfold tG;rw[Zai ⟨z0,rfl⟩];rfl
def KV s x(i:Nat)b(j:Nat):=(Bg s x j i b).getD (0,ξ)
def ao s x i b j:=bif(KV s x i b j).2 then(KV s x i b j).1 != -1099511627776 else ξ
theorem gk{x}(o:DS s)(hx:GX s x){i}(d:1<=i)t(h:Do s.A[i]){b:Int}(l:1<=b)(a:b<=Ξ s.A[i].L){j}(A:j<Ξ x.G):
 Bg s x j i b=θ (KV s x i b j)/\Cz s x j i b=θ (KV s x i b j)/\(((KV s x i b j).1=B0/\(KV s x i b j).2=ν)\/(-1000<=(KV s x i b j).1/\(KV s x i b j).1<=1000)):=by
 have J:=hx.picks_len o;have M:fin s i=Ξ s.A[i].L:=by rw[E8 t,Cs h]
 suffices hgo:∃r:Int×Bool,Bg s x j i b=θ r/\Cz s x j i b=θ r/\((r.1=B0/\r.2=ν)\/(-1000<=r.1/\r.1<=1000)) by
  have⟨r,h1,h2,G⟩:=hgo;have e:KV s x i b j=r:=by unfold KV;rw[h1];rfl
  grind
 have u:AZ x.I (λa0=>G8 a0 i)=θ (Gb (λp=>p.B==(i:Int)) x.I):=JY (λ_ _=>rfl) z0;have hr:=hx.rows _ (Zae A)
 cases hff:x.I.findIdx? (λp=>p.B==(i:Int))with
 | none=>
   have B:=List.findIdx?_eq_none_iff.1 hff;have c:MV s.A[i] s.A[i].C:=.inl ⟨Zbh _,h.high.1⟩;refine⟨tG s.A[i] 0 s.A[i].C b,?_,?_,oL h (Zbh _) z0 l a c⟩;apply Ok.val;unfold Bg;apply qr u;unfold Gb;rw[hff];exact Vc rfl (qr (Ye o d t h (Zbh _) z0 l a c) (KK rfl));apply Ok.val;unfold Cz;refine Ok.no ?_ ?_;rw[df,df,df,df];rfl;refine Wf (λq=>q) (Ξ x.I) (λ_ _=>True) 0 (Zag _) rfl trivial z0 (λrec q n C=>?_) λrec m q z n C ih=>?_;rw[FJ,n];rw[Bl];exact qr (su o d t h (Zbh _) z0 l a c) (KK rfl);rw[FJ,n];rw[AK];exact JT z (Ok.no (B _ (Zae z)) (ih _ BE trivial))
 | some k=>
   have⟨v,f,y⟩:=List.findIdx?_eq_some_iff_getElem.1 hff;have f:x.I[k].B=i:=by grind
   have⟨H,h1,h2,G,D,N⟩:=hx.picks _ (Zae v);obtain rfl:H=i:=z0;have g:k+1<Ξ x.G[j]:=z0;have⟨I,K,w,_,O,L,E⟩:=hr.2.2.2 k _ _ (Zaa v) (Zaa g);obtain rfl:I=H:=z0;rw[Vn h]at E;have F:=L.meas h;refine⟨tG s.A[I] x.I[k].H w b,?_,?_,oL h D z0 l a F⟩;apply Ok.val;unfold Bg;apply qr u;unfold Gb;rw[hff];refine Ok.no (Zap (by grind)) (JT v (JT A ?_));rw[BE];apply JT g;rw[E];exact qr (Ye o d t h D z0 l a F) (KK rfl);apply Ok.val;unfold Cz;refine Ok.no ?_ ?_;rw[df,df,df,df];rfl;refine Wf (λq=>q) (Ξ x.I) (λm _=>m<=k) 0 (Zag _) rfl (Zag _) z0 (λrec q n C=>z0) λrec m q z n C ih=>?_;rw[FJ,n];rw[AK];by_cases e:m=k;subst e;refine JT v (Vc (by grind) (JT v (JT A ?_)));rw[BE];apply JT g;rw[E];exact qr (su o d t h D z0 l a F) (KK rfl);have:=y m z0;exact JT z (Ok.no (by grind) (ih _ BE z0))
def rB p(l:List Nat){k}a:(l.take (k+1)).filter p=bif p l[k]then(l.take k).filter p++[l[k]]else(l.take k).filter p:=by
 rw[PW l p a]
 grind
def Adp p(l:List Nat)k:Ξ ((l.take k).filter p)<=k:=by grind
def vals s x i b(l:List Nat):=l.map λj=>(KV s x i b j).1
def mo{x}(f:DS s)(hx:GX s x){i}(a:1<=i)g(h:Do s.A[i]){b:Int}(k:1<=b)(c:b<=Ξ s.A[i].L){l}(d:∀j∈l,j<Ξ x.G/\ao s x i b j=ν):
 ∀v∈vals s x i b l,-1000000<=v/\v<=1000000:=by
 intro v m;obtain⟨j,n,rfl⟩:=List.mem_map.1 m;have⟨h1,h2⟩:=d j n;rcases(gk f hx a g h k c h1).2.2 with e|e;unfold ao at h2;rw[e.1,e.2]at h2
 cases h2
 omega
def qj{x}(y:DS s)(hx:GX s x){i}(o:1<=i)w(h:Do s.A[i]){n}(z:n<Ξ s.A[i].L){l}(B:Ξ l<=200)(d:∀j∈l,j<Ξ x.G){a}(c:N1 (vals s x i ((Ξ s.A[i].L:Int)-n) (l.filter (ao s x i ((Ξ s.A[i].L:Int)-n)))) s.A[i].L[n]=θ (a,0)):
 iter (λf p=>Og (ints l) s i s.A[i].L[n] x (VI s.A[i].L[n] x) f p.1 p.2.1 p.2.2) Ay (0,[],[])=θ (a,(l.filter (ao s x i ((Ξ s.A[i].L)-n))).map λj=>hd (x.G.getD j []),0):=by
 apply Ok.val;refine Wf (λq=>q.1) (Ξ l) (λm q=>q.2.1=ints ((l.take m).filter (ao s x i ((Ξ s.A[i].L)-n)))/\q.2.2=vals s x i ((Ξ s.A[i].L)-n) ((l.take m).filter (ao s x i ((Ξ s.A[i].L)-n)))) 0 (Zag _) rfl ⟨rfl,rfl⟩ z0 (λrec q t g=>?_) λrec m q k t g ih=>?_;rw[Og,t,g.1,g.2,AE,Zaj];rw[Bl];unfold VI;have u:=Zce (ao s x i ((Ξ s.A[i].L)-n)) l;exact qr c (Ok.no rfl (qr (sc z0 (λj A=>d j (List.mem_filter.1 A).1) λr hr=>hx.ne hr) (KK rfl)));have u:=Adp (ao s x i ((Ξ s.A[i].L)-n)) l m;have v:=d _ (Zae k);simp only[Og,t,g.1,g.2,AE];rw[AK];have⟨h1,_,_⟩:=gk y hx o w h (b:=(Ξ s.A[i].L)-n) z0 z0 v;refine JT (by rw[AE];exact k) ?_;rw[QS k];refine qr (nZ w h z) (qr h1 (Ok.br (λe=>Ok.rm zv (Ok.rm (by simp[vals];omega) (ih _ BE ?_))) λe=>ih _ BE ?_));rw[rB _ _ k,show ao s x i ((Ξ s.A[i].L)-n) l[m]=ν from e];exact⟨(S3 _ _).symm,by simp[vals]⟩;rw[rB _ _ k,show ao s x i ((Ξ s.A[i].L)-n) l[m]=ξ from e];grind
def qt{x}(z:DS s)(hx:GX s x){i}(p:1<=i)y(h:Do s.A[i]){n}(A:n<Ξ s.A[i].L){l}(C:Ξ l<=200)(f:∀j∈l,j<Ξ x.G){a}(c:Lm (vals s x i ((Ξ s.A[i].L:Int)-n) (l.filter (ao s x i ((Ξ s.A[i].L:Int)-n)))) s.A[i].L[n]=θ (a,0)):
 iter (λg t=>Mz (ints l) s i s.A[i].L[n] x (U4 s.A[i].L[n] x) g t.1 t.2.1 t.2.2) Ay (0,[],[])=θ (a,(l.filter (ao s x i ((Ξ s.A[i].L)-n))).map λj=>hd (x.G.getD j []),0):=by
 apply Ok.val;refine Wf (λq=>q.1) (Ξ l) (λm q=>q.2.1=ints ((l.take m).filter (ao s x i ((Ξ s.A[i].L)-n)))/\q.2.2=vals s x i ((Ξ s.A[i].L)-n) ((l.take m).filter (ao s x i ((Ξ s.A[i].L)-n)))) 0 (Zag _) rfl ⟨rfl,rfl⟩ z0 (λrec q u k=>?_) λrec m q d u k ih=>?_;rw[Mz,u,k.1,k.2,AE,Zaj];rw[Bl];unfold U4;have v:=Zce (ao s x i ((Ξ s.A[i].L)-n)) l;exact qr c (Ok.no rfl (qr (sp z0 (λj B=>f j (List.mem_filter.1 B).1) λr hr=>hx.ne hr) (KK rfl)));have v:=Adp (ao s x i ((Ξ s.A[i].L)-n)) l m;have w:=f _ (Zae d);simp only[Mz,u,k.1,k.2,AE];rw[AK];have⟨_,h1,_⟩:=gk z hx p y h (b:=(Ξ s.A[i].L)-n) z0 z0 w;have o:m<Ξ (ints l):=by rw[AE];exact d
 apply JT o;rw[QS d];refine qr (ko y h A) (qr h1 (Ok.br (λe=>JT o ?_) λe=>ih _ BE ?_));rw[QS d];refine Ok.rm zv (Ok.rm (by simp[vals];omega) (ih _ BE ?_));rw[rB _ _ d,show ao s x i ((Ξ s.A[i].L)-n) l[m]=ν from e];exact⟨(S3 _ _).symm,by simp[vals]⟩;rw[rB _ _ d,show ao s x i ((Ξ s.A[i].L)-n) l[m]=ξ from e];grind
def Rl{x}(n:DS s)(hx:GX s x){i}(a:1<=i)d(h:Do s.A[i]){l}(p:Ξ l<=200)(e:∀j∈l,j<Ξ x.G):
 Cu s x (ints l) i=θ (vals s x i (fin s i) l):=by
 have r:fin s i=Ξ s.A[i].L:=by rw[E8 d,Cs h]
 have o:=B6 h;apply Ok.val;unfold Cu;refine Wf (λq=>q.1) (Ξ l) (λm q=>q.2=vals s x i (fin s i) (l.take m)) 0 (Zag _) rfl rfl z0 (λrec q f g=>?_) λrec m q c f g ih=>?_;rw[J0,f,g,AE,Zaj];rw[Bl];exact KK rfl;have k:=e _ (Zae c);rw[J0,f,g,AE];rw[AK];have⟨h1,_,_⟩:=gk n hx a d h (b:=fin s i) z0 z0 k;refine JT (by rw[AE];exact c) ?_;rw[QS c];refine qr (n.pFinest a d) (qr h1 (Ok.rm (by simp[vals];omega) (ih _ BE ?_)));show vals s x i (fin s i) (l.take m)++[_]=_;rw[Zab c];unfold vals;grind
def ut{x}(v:DS s)(hx:GX s x){i}(d:1<=i)o(h:Do s.A[i]){l}(B:Ξ l<=200)(f:∀j∈l,j<Ξ x.G){r}(w:FX (vals s x i (fin s i) l)=θ r):
 iter (λa g=>LG (ints l) s i x (Sk x (ints l)) a g.1 g.2) Ay (0,[])=(bif(r.2 != 0)then θ ({ Z:=0,Bo:=0,Bp:=0,Bq:=0,Br:=0,Bs:=0 },[],r.2)else θ (r.1,l.map λj=>hd (x.G.getD j []),0)):=by
 have C:fin s i=Ξ s.A[i].L:=by rw[E8 o,Cs h]
 have y:=B6 h
 have k:Ok (iter (λa g=>LG (ints l) s i x (Sk x (ints l)) a g.1 g.2) Ay (0,[])) λz=>θ z=(bif(r.2 != 0)then θ ({ Z:=0,Bo:=0,Bp:=0,Bq:=0,Br:=0,Bs:=0 },[],r.2)else θ (r.1,l.map λj=>hd (x.G.getD j []),0)):=by
  refine Wf (λq=>q.1) (Ξ l) (λm q=>q.2=vals s x i (fin s i) (l.take m)) 0 (Zag _) rfl rfl z0 (λrec q c p=>?_) λrec m q n c p ih=>?_;rw[LG,c,p,AE,Zaj];rw[Bl];unfold Sk;refine qr w (Ok.br (λe=>KK ?_) λe=>qr (sp z0 f λr hr=>hx.ne hr) (KK ?_));rw[e];rfl;rw[e];rfl;have t:=f _ (Zae n);rw[LG,c,p,AE];rw[AK];have⟨_,h1,_⟩:=gk v hx d o h (b:=fin s i) z0 z0 t;refine JT (by rw[AE];exact n) ?_;rw[QS n];refine qr (v.rfinest d o) (qr h1 (Ok.rm (by simp[vals];omega) (ih _ BE ?_)));show vals s x i (fin s i) (l.take m)++[_]=_;rw[Zab n];unfold vals;grind
 have⟨z,A,u⟩:=k;rw[A,u]
def aa{x:Ad}{p}:∀j∈bP p (Ξ x.G),j<Ξ x.G:=λj a=>(lp a).1
def yU{l}{p}(q:Int->Bool)(a:∀x∈l,p x=θ (q x))(b:Ξ l<=1000000):EN l p=θ (l.filter λx=>!q x):=by
 unfold EN;have h1:(l.all λx=>(p x).isSome)=ν:=List.all_eq_true.2 λx hx=>by rw[a x hx];rfl
 have h2:rm 0 (Ξ l)=ν:=II z0;rw[h1,h2];show θ _=θ _;congr 1;refine Zgd λx hx=>?_;grind
def nK l q:(ints l).filter q=ints (l.filter λj=>q j):=by
 unfold ints;rw[List.filter_map];rfl
