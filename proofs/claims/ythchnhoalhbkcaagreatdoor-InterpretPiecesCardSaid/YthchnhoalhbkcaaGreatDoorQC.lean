/- QC -/
import Derived.Test.YthchnhoalhbkcaaGreatDoorQB
open Go.IntKind (i64)
set_option linter.unusedVariables false
set_option linter.unusedSimpArgs false
namespace Go.Proofs.YthchnhoalhbkcaaGreatDoor.P
open Go Go.Abs Go.Proofs
set_option maxRecDepth 100000
variable {s:Aa}
inductive RC(s:Aa):Nat->Aj->Prop
 | all (n:Nat):RC s n YW
 | under (n:Nat) (i:Nat) (hi0:1<=i) (hi:i<s.A.length) (h:M5 s.A[i]) (L:Am) (hL:L∈YR) (hL2:idx s.J s.A[i].Al=some L) (k:Int) (h0:0<=k) (h1:k<L.Q.length):RC s n { Op:=2,B:=i,Z:=k,C:=0,D:=0,E:=[] }
 | between (n:Nat) (i:Nat) (hi0:1<=i) (hi:i<s.A.length) (h:FQ s.A[i]) (l u:Int) (h0:-1000000<=l) (h1:l<=u) (h2:u<=1000000):RC s n { Op:=3,B:=i,Z:=0,C:=l,D:=u,E:=[] }
 | miss (n:Nat) (i:Nat) (hi0:1<=i) (hi:i<s.A.length) (h:FQ s.A[i]) (ho:s.A[i].Az=true):RC s n { Op:=4,B:=i,Z:=0,C:=0,D:=0,E:=[] }
 | and (n na nb:Nat) (hn:na+nb+2<=n) (a b:Aj) (ha:RC s na a) (hb:RC s nb b):RC s n { Op:=5,B:=0,Z:=0,C:=0,D:=0,E:=[a,b] }
 | or (n na nb:Nat) (hn:na+nb+2<=n) (a b:Aj) (ha:RC s na a) (hb:RC s nb b):RC s n { Op:=6,B:=0,Z:=0,C:=0,D:=0,E:=[a,b] }
 | not (n na:Nat) (hn:na+1<=n) (a:Aj) (ha:RC s na a):RC s n { Op:=7,B:=0,Z:=0,C:=0,D:=0,E:=[a] }
theorem RC.mono{n:Nat}{c:Aj}(h:RC s n c){m:Nat}(hm:n<=m):RC s m c:=by
 cases h with
 | all n=>exact .all _
 | under n i hi0 hi h L hL hL2 k h0 h1=>exact .under _ i hi0 hi h L hL hL2 k h0 h1
 | between n i hi0 hi h l u h0 h1 h2=>exact .between _ i hi0 hi h l u h0 h1 h2
 | miss n i hi0 hi h ho=>exact .miss _ i hi0 hi h ho
 | and n na nb hn a b ha hb=>exact .and _ na nb (by omega) a b ha hb
 | or n na nb hn a b ha hb=>exact .or _ na nb (by omega) a b ha hb
 | not n na hn a ha=>exact .not _ na (by omega) a ha
def sm(l:List Nat):Nat:=(l.map (·+1)).sum
theorem RC.sizes{n:Nat}{c:Aj}(h:RC s n c):∃ns:List Nat,ns.length=c.E.length/\ns.length<=2/\(∀(k:Nat)(hk:k<ns.length)(hk2:k<c.E.length),RC s ns[k] c.E[k])/\sm ns<=n:=by
 have none:c.E=[]->∃ns:List Nat,ns.length=c.E.length/\ns.length<=2/\(∀(k:Nat)(hk:k<ns.length)(hk2:k<c.E.length),RC s ns[k] c.E[k])/\sm ns<=n:=λe=>⟨[],by rw[e];rfl,by simp,(λk hk=>by simp at hk),by simp[sm]⟩
 have two:∀{na nb:Nat}{a b:Aj},na+nb+2<=n->RC s na a->RC s nb b->c.E=[a,b]->∃ns:List Nat,ns.length=c.E.length/\ns.length<=2/\(∀(k:Nat)(hk:k<ns.length)(hk2:k<c.E.length),RC s ns[k] c.E[k])/\sm ns<=n:=by
  intro na nb a b hn ha hb e;refine⟨[na,nb],by rw[e];rfl,by simp,λk hk hk2=>?_,by simp[sm];omega⟩;grind
 cases h with
 | and n na nb hn a b ha hb=>grind
 | or n na nb hn a b ha hb=>grind
 | not n na hn a ha =>
   refine⟨[na],rfl,by simp,λk hk hk2=>?_,by simp[sm];omega⟩;grind
 | _=>exact none rfl
theorem RC.kids{n:Nat}{c:Aj}(h:RC s n c):c.E.length<=2/\∀k∈c.E,∃m,n=m+1/\RC s m k:=by
 cases h with
 | and n na nb hn a b ha hb=>exact⟨by simp,λk hk=>by simp at hk;rcases hk with rfl|rfl<;>exact⟨n-1,by omega,RC.mono (by assumption) (by omega)⟩⟩
 | or n na nb hn a b ha hb=>exact⟨by simp,λk hk=>by simp at hk;rcases hk with rfl|rfl<;>exact⟨n-1,by omega,RC.mono (by assumption) (by omega)⟩⟩
 | not n na hn a ha=>exact⟨by simp,λk hk=>by simp at hk;subst hk;exact⟨n-1,by omega,ha.mono (by omega)⟩⟩
 | _=>exact⟨by simp[YW],λk hk=>by simp[YW]at hk⟩
def DP:Nat->Aj->Prop
 | 0,c=>c.E=[]
 | k+1,c=>∀x∈c.E,DP k x
theorem DP.leaf:∀{k:Nat}{c:Aj},c.E=[]->DP k c
 | 0,_,h=>h
 | k+1,c,h=>λx hx=>by rw[h]at hx;cases hx
theorem DP.mono:∀{k:Nat}{c:Aj},DP k c->∀{m:Nat},k<=m->DP m c
 | 0,_,h,_,_=>.leaf h
 | k+1,c,h,0,hm=>by omega
 | k+1,c,h,m+1,hm=>λx hx=>DP.mono (h x hx) (by omega)
theorem W7(hs:DS s):Ok (Cm s 2) λl=>l≠[]/\l.length<=6/\∀v∈l,∃i:Nat,v=i/\1<=i/\∃hi:i<s.A.length,M5 s.A[i]:=by
 have hc:=hs.cols_length
 have h1:∃hi:1<s.A.length,M5 s.A[1]:=by
  refine⟨by omega,?_⟩;obtain⟨j,ms,e,_⟩:=hs.cols;have e2:s.A[1]?=some pI:=by rw[e];cases j<;>rfl
  rw[P2 (by omega)]at e2;rw[P3 e2];exact⟨rfl,.inl rfl,rfl,rfl,rfl,rfl⟩
 unfold Cm
 refine Ok.for (λq=>q.1) s.A.length (λk q=>q.2.length<=k/\(∀v∈q.2,∃i:Nat,v=i/\1<=i/\∃hi:i<s.A.length,M5 s.A[i])/\(1<k->(1:Int)∈q.2)) 0 (pY _) rfl
  ⟨qb _,(λv hv=>by cases hv),λh=>by omega⟩ (by omega) (λrec q hq hI=>?_) λrec k q hk hq hI ih=>?_
 ·simp only[Dn,hq];rw[Dz];exact Ok.some ⟨(λe=>by have:=hI.2.2 (by omega);rw[e]at this;cases this),by have:=hI.1;omega,hI.2.1⟩
 ·simp only[Dn,hq];rw[Co];have hI1:=hI.1;refine Ok.idxn hk (Ok.br (λe=>Ok.rm (by grind) (ih _ EE ⟨by simp;omega,λv hv=>?_,λhk1=>?_⟩)) λe=>ih _ EE ⟨by show q.2.length<=k+1;omega,hI.2.1,λhk1=>?_⟩)
  ·rcases List.mem_append.1 hv with hv|hv
   ·grind
   ·rw[rR]at hv;have e:s.A[k].Kind=2:=by grind
    rcases hs.cl hk with⟨_,h1⟩|⟨h0,h1|h1⟩
    ·rw[h1]at e;cases e
    ·grind
    ·rw[h1.kind]at e;cases e
  ·grind
  ·by_cases e2:k=1
   ·subst e2;obtain⟨_,h1⟩:=h1;rw[h1.kind]at e
    cases e
   ·grind
theorem je{c:Ab}(hc:Ht c)(hs:DS s):Ok (Ga c s) λr=>Ht r.2/\∃i:Nat,r.1=i/\1<=i/\∃hi:i<s.A.length,M5 s.A[i]:=by
 unfold Ga;refine Ok.bind (W7 hs) λl hl=>?_;have:l.length≠0:=λe=>hl.1 (qq e);have hl6:=hl.2.1;refine Ok.bind (Dy hc (by omega) (by omega)) λy hy=>Ok.idx hy.2.1 (by omega) (Ok.some ⟨hy.1,hl.2.2 _ (qa _)⟩)
theorem Wu{c:Ab}(hc:Ht c)(hs:DS s)(n:Nat):Ok ((Bi c s).bind λx80 =>
        (idx s.A x80.1).bind λx84 =>
        (AR x80.2 (-3) 40).bind λx88 =>
        (A8 x88.2 30).bind λx94 =>
        some (({ Op:=3,B:=x80.1,Z:=0,C:=(i64.wrap (x84.C+x88.1)),D:=(i64.wrap ((i64.wrap (x84.C+x88.1))+x94.1)),E:=[] }:Aj),x94.2)) λr=>Ht r.2/\RC s n r.1/\r.1.E=[]:=by
 refine Ok.bind (L3 hc hs) λz hz=>?_;obtain⟨z1,z2⟩:=z;obtain⟨hz2,i,hzi,hi0,hi,hm⟩:=hz;obtain rfl:z1=(i:Int):=hzi;refine Ok.idxn hi (Ok.bind (IB hz2 (by omega) (by omega) (by omega) (by omega)) λa ha=>Ok.bind (Dy ha.1 (by omega) (by omega)) λb hb=>Ok.some ⟨hb.1,?_⟩);obtain⟨l1,l2⟩:=hm.low;obtain⟨_,a1,a2⟩:=ha;obtain⟨_,b1,b2⟩:=hb;have e1:i64.wrap (s.A[i].C+a.1)=s.A[i].C+a.1:=wr;rw[e1,wr];exact⟨.between n i hi0 hi hm _ _ (by omega) (by omega) (by omega),rfl⟩
theorem eQ{c:Ab}(hc:Ht c)(hs:DS s)(n:Nat):Ok (EI s c) λr=>Ht r.2/\RC s n r.1/\r.1.E=[]:=by
 have miss:∀{c:Ab},Ht c->Ok ((Bi c s).bind λx101 =>
  (idx s.A x101.1).bind λx105 =>
  bif x105.Az then
   some (({ Op:=4,B:=x101.1,Z:=0,C:=0,D:=0,E:=[] }:Aj),x101.2)
  else
   some (({ Op:=1,B:=0,Z:=0,C:=0,D:=0,E:=[] }:Aj),x101.2)) λr=>Ht r.2/\RC s n r.1/\r.1.E=[]:=by
  intro c hc;refine Ok.bind (L3 hc hs) λz hz=>?_;obtain⟨z1,z2⟩:=z;obtain⟨hz2,i,hzi,hi0,hi,hm⟩:=hz;obtain rfl:z1=(i:Int):=hzi;exact Ok.idxn hi (Ok.br (λho=>Ok.some ⟨hz2,.miss n i hi0 hi hm ho,rfl⟩) λ_=>Ok.some ⟨hz2,.all n,rfl⟩)
 unfold EI;refine Ok.bind (Dy hc (by omega) (by omega)) λy hy=>Ok.br (λ_=>?_) λ_=>Ok.br (λ_=>Wu hy.1 hs n) λ_=>Ok.br (λ_=>Wu hy.1 hs n) λ_=>Ok.br (λ_=>miss hy.1) λ_=>Ok.some ⟨hy.1,.all n,rfl⟩;refine Ok.bind (je hy.1 hs) λz hz=>?_;obtain⟨z1,z2⟩:=z;obtain⟨hz2,i,hzi,hi0,hi,hm⟩:=hz;obtain rfl:z1=(i:Int):=hzi;obtain⟨L,hL,hL2⟩:=hs.clist hm;have hne:=(MD hL).some_
 have hlen:1<=L.Q.length/\L.Q.length<=1000:=by
  have:YR.all (λL=>decide (1<=L.Q.length)&&decide (L.Q.length<=1000))=true:=by decide +kernel
  grind
 refine Ok.idxn hi (Ok.bindE hL2 (Ok.bind (Dy hz2 (by omega) (by omega)) λu hu=>Ok.some ⟨hu.1,.under n i hi0 hi hm L hL hL2 _ hu.2.1 hu.2.2,rfl⟩))
def bw:Nat->Nat
 | 0=>0
 | n+1=>2*bw n+2
theorem eR(hs:DS s):∀(n d:Nat){c:Ab},Ht c->n<d->n<=1000->Ok (AP d c s n) λr=>Ht r.2/\RC s (bw n) r.1/\DP n r.1
 | 0,d+1,c,hc,_,_=>by
   show Ok (Df d (AP d) c s 0) _;unfold Df;exact Ok.no rfl ((eQ hc hs 0).mono λr hr=>⟨hr.1,hr.2.1,.leaf hr.2.2⟩)
 | n+1,d+1,c,hc,hd,hn=>by
   have ih:=λ{c:Ab}(hc:Ht c)=>eR hs n d hc (by omega) (by omega);show Ok (Df d (AP d) c s ((n+1:Nat):Int)) _;have e:i64.wrap (((n+1:Nat):Int)-1)=(n:Int):=by rw[wr];omega
   have hb:bw (n+1)=2*bw n+2:=rfl;unfold Df;rw[e];refine Ok.yes dt (Ok.bind (Dy hc (by omega) (by omega)) λy hy=>Ok.br (λ_=>?_) λ_=>Ok.br (λ_=>?_) λ_=>Ok.br (λ_=>?_) λ_=>(eQ hy.1 hs _).mono λr hr=>⟨hr.1,hr.2.1,.leaf hr.2.2⟩)
   ·exact Ok.bind (ih hy.1) λa ha=>Ok.some ⟨ha.1,.not _ _ (by omega) _ ha.2.1,λx hx=>by rw[List.mem_singleton.1 hx];exact ha.2.2⟩
   ·exact Ok.bind (ih hy.1) λa ha=>Ok.bind (ih ha.1) λb hb=>Ok.some ⟨hb.1,.and _ _ _ (by omega) _ _ ha.2.1 hb.2.1,λx hx=>by
     simp only[sf,sB,or_false]at hx;rcases hx with rfl|rfl
     ·exact ha.2.2
     ·exact hb.2.2⟩
   ·exact Ok.bind (ih hy.1) λa ha=>Ok.bind (ih ha.1) λb hb=>Ok.some ⟨hb.1,.or _ _ _ (by omega) _ _ ha.2.1 hb.2.1,λx hx=>by
     simp only[sf,sB,or_false]at hx;rcases hx with rfl|rfl
     ·exact ha.2.2
     ·exact hb.2.2⟩
theorem cq{ns:List Nat}{k:Nat}(hk:k<ns.length):sm (ns.take (k+1))=sm (ns.take k)+(ns[k]+1):=by
 unfold sm;rw[qo hk,qx,List.sum_append];simp
theorem J8(ns:List Nat)(k:Nat):sm (ns.take k)<=sm ns:=by
 have:sm ns=sm (ns.take k)+sm (ns.drop k):=by
  unfold sm;rw[<-List.sum_append,<-qx,ta]
 omega
theorem kq:∀(n d:Nat){c:Aj}{m:Int},RC s n c->n<d->n<=1000->-10000<=m->m<=1000->Ok (Fq d c m) λr=>1<=r/\r<=n+1
 | n,d+1,c,m,h,hd,hn,hm0,hm1=>by
   obtain⟨ns,hl,hl2,hk,hsum⟩:=h.sizes;show Ok (F1 d (Fq d) c m) _;unfold F1;refine Ok.for (λq=>q.2) c.E.length (λk q=>1<=q.1/\q.1<=1+(sm (ns.take k):Nat)) 0 (pY _) rfl ⟨by omega,by simp[sm]⟩ (by omega) (λrec q hq hI=>?_) λrec k q hk1 hq hI ih=>?_
   ·have:=J8 ns c.E.length;simp only[G0,hq];rw[Dz];exact Ok.some ⟨hI.1,by have:=hI.2;omega⟩
   ·have hk2:k<ns.length:=by omega
    have h1:=J8 ns k;have h2:=J8 ns (k+1);have h3:=cq hk2;obtain⟨i1,i2⟩:=hI;simp only[G0,hq];rw[Co];refine Ok.idxn hk1 (Ok.brd (λ_=>Ok.some ⟨i1,by omega⟩) λhle=>?_);have e1:i64.wrap (m-q.1)=m-q.1:=wr;rw[e1];refine Ok.bind (kq ns[k] d (hk k hk2 hk1) (by omega) (by omega) (by omega) (by omega)) λr hr=>ih _ EE ?_;show 1<=i64.wrap (q.1+r)/\i64.wrap (q.1+r)<=1+(sm (ns.take (k+1)):Nat);rw[wr,h3];omega
theorem DP.zero_kids{c:Aj}(h:DP 0 c):c.E=[]:=h
theorem kr:∀(n d k:Nat){c:Aj},RC s n c->n<d->DP k c->k<=100->Ok (De d c) λr=>1<=r/\r<=k+1
 | n,d+1,k0,c,h,hd,hp,hk0=>by
   obtain⟨hk1,hk2⟩:=h.kids;show Ok (E9 d (De d) c) _;unfold E9;refine Ok.for (λq=>q.2) c.E.length (λk q=>0<=q.1/\q.1<=k0) 0 (pY _) rfl ⟨rk _,by show(0:Int)<=k0;omega⟩ (by omega) (λrec q hq hI=>?_) λrec k q hk hq hI ih=>?_
   ·simp only[Ho,hq];rw[Dz,wr];exact Ok.some ⟨by omega,by omega⟩
   ·obtain⟨m,hm,hr⟩:=hk2 _ (qa hk);subst hm
    cases k0 with
    | zero=>have:=hp.zero_kids;rw[this]at hk;simp at hk
    | succ j =>
      simp only[Ho,hq];rw[Co];refine Ok.idxn hk (Ok.bind (kr m d j hr (by omega) (hp _ (qa hk)) (by omega)) λr hr=>ih _ EE ?_);grind
theorem ax(hs:DS s){n:Nat}{c:Aj}(h:RC s n c):EH s c=some 0:=by
 have hc:=hs.cols_length;refine Ok.val ?_;unfold EH;have col:∀(i:Nat),i<s.A.length->(bif decide ((i:Int)<0)then true else decide ((i:Int)>=(s.A.length:Int)))=false:=by grind
 cases h with
 | all=>exact Ok.no rfl (Ok.bindE (x:=0) rfl (Ok.no rfl (Ok.bindE (x:=true) rfl (Ok.no rfl (Ok.yes rfl (Ok.some rfl))))))
 | and=>exact Ok.no rfl (Ok.bindE (x:=2) rfl (Ok.no rfl (Ok.bindE (x:=true) rfl (Ok.no rfl (Ok.yes rfl (Ok.some rfl))))))
 | or=>exact Ok.no rfl (Ok.bindE (x:=2) rfl (Ok.no rfl (Ok.bindE (x:=true) rfl (Ok.no rfl (Ok.yes rfl (Ok.some rfl))))))
 | not=>exact Ok.no rfl (Ok.bindE (x:=1) rfl (Ok.no rfl (Ok.bindE (x:=true) rfl (Ok.no rfl (Ok.yes rfl (Ok.some rfl))))))
 | under n i hi0 hi h L hL hL2 k h0 h1 =>
   refine Ok.no rfl (Ok.bindE (x:=0) rfl (Ok.no rfl (Ok.bindE (x:=true) rfl (Ok.no rfl (Ok.no rfl (Ok.no (col i hi) ?_))))));unfold D1;exact Ok.idxn hi (Ok.yes rfl (Ok.no (by rw[h.kind];rfl) (Ok.no (qC (by show ¬k<0;omega)) (Ok.bindE hL2 (Ok.no (qC (by grind)) (Ok.some rfl))))))
 | between n i hi0 hi h l u h0 h1 h2 =>
   refine Ok.no rfl (Ok.bindE (x:=0) rfl (Ok.no rfl (Ok.bindE (x:=true) rfl (Ok.no rfl (Ok.no rfl (Ok.no (col i hi) ?_))))));unfold D1;refine Ok.idxn hi (Ok.no rfl (Ok.yes rfl (Ok.no (by rw[h.kind];rfl) (Ok.no ?_ (Ok.some rfl)))));grind
 | miss n i hi0 hi h ho =>
   refine Ok.no rfl (Ok.bindE (x:=0) rfl (Ok.no rfl (Ok.bindE (x:=true) rfl (Ok.no rfl (Ok.no rfl (Ok.no (col i hi) ?_))))));unfold D1;exact Ok.idxn hi (Ok.no rfl (Ok.no rfl (Ok.yes rfl (Ok.no (by rw[h.kind,ho];rfl) (Ok.some rfl)))))
theorem Vl(hs:DS s):∀(n d:Nat){c:Aj},RC s n c->n<d->D6 d s c=some 0
 | n,d+1,c,h,hd=>by
   obtain⟨hk1,hk2⟩:=h.kids;refine Ok.val ?_;show Ok (DN d (D6 d) s c) _;unfold DN;refine Ok.bindE (ax hs h) (Ok.no rfl ?_);refine Ok.for (λq=>q) c.E.length (λ_ _=>True) 0 (pY _) rfl trivial (by omega) (λrec q hq hI=>?_) λrec k q hk hq hI ih=>?_
   ·simp only[Ff,hq];rw[Dz];exact Ok.some rfl
   ·obtain⟨m,hm,hr⟩:=hk2 _ (qa hk);subst hm;simp only[Ff,hq];rw[Co];exact Ok.idxn hk (Ok.bindE (Vl hs m d hr (by omega)) (Ok.no rfl (ih _ EE trivial)))
theorem RC.check(hs:DS s){n:Nat}{c:Aj}(h:RC s n c)(hn:n<=39/\DP 9 c){d:Nat}(hd:n<d):BG d s c=some 0:=by
 refine Ok.val ?_;unfold BG;exact Ok.bindE hs.check (Ok.no rfl (Ok.bind (kq n d h hd (by omega) (by omega) (by omega)) λr hr=>Ok.no df (Ok.bind (kr n d 9 h hd hn.2 (by omega)) λr hr=>Ok.no df (Ok.bindE (Vl hs n d h hd) (Ok.some rfl)))))
theorem WB:∀(d:Nat)(c:Aj),De d c=Ia d c
 | 0,_=>rfl
 | d+1,c=>by
   show E9 d (De d) c=Lg d (Ia d) c;rw[show De d=Ia d from funext (WB d)];rfl
theorem kC:∀(n d:Nat){c:Aj}{m:Int},RC s n c->n<d->n<=1000->-10000<=m->m<=1000->Ok (J3 d c m) λr=>1<=r/\r<=n+1
 | n,d+1,c,m,h,hd,hn,hm0,hm1=>by
   obtain⟨ns,hl,hl2,hk,hsum⟩:=h.sizes;show Ok (IE d (J3 d) c m) _;unfold IE;refine Ok.for (λq=>q.2) c.E.length (λk q=>1<=q.1/\q.1<=1+(sm (ns.take k):Nat)) 0 (pY _) rfl ⟨by omega,by simp[sm]⟩ (by omega) (λrec q hq hI=>?_) λrec k q hk1 hq hI ih=>?_
   ·have:=J8 ns c.E.length;simp only[JY,hq];refine Ok.no ?_ (Ok.some ⟨hI.1,by have:=hI.2;omega⟩);rw[df];rfl
   ·have hk2:k<ns.length:=by omega
    have h1:=J8 ns k;have h2:=J8 ns (k+1);have h3:=cq hk2;obtain⟨i1,i2⟩:=hI;simp only[JY,hq];rw[qh (show((k:Nat):Int)<c.E.length by omega),qK];refine Ok.brd (λ_=>Ok.idxn hk1 ?_) λhle=>Ok.some ⟨i1,by omega⟩;have e1:i64.wrap (m-q.1)=m-q.1:=wr;rw[e1];refine Ok.bind (kC ns[k] d (hk k hk2 hk1) (by omega) (by omega) (by omega) (by omega)) λr hr=>ih _ EE ?_;show 1<=i64.wrap (q.1+r)/\i64.wrap (q.1+r)<=1+(sm (ns.take (k+1)):Nat);rw[wr,h3];omega
theorem jI{i:Nat}(hi:i<s.A.length)(k:Int):Nq s i k=some (s.A[i].Kind==k):=by
 refine Ok.val ?_;unfold Nq;refine Ok.yes ?_ (Ok.idxn hi (Ok.some rfl));grind
theorem ic{self:Aa->Aj->Option Int}{c:Aj}(h:c.E.length<=2)(hk:∀k∈c.E,self s k=some 0):iter (λrec1 s_1=>IF c self s (λv7_1=>some 0) rec1 s_1) AD 0=some 0:=by
 refine Ok.val ?_;refine Ok.for (λq=>q) c.E.length (λ_ _=>True) 0 (pY _) rfl trivial (by omega) (λrec q hq hI=>?_) λrec k q hk2 hq hI ih=>?_
 ·simp only[IF,hq];rw[Dz];exact Ok.some rfl
 ·simp only[IF,hq];rw[Co];exact Ok.idxn hk2 (Ok.bindE (hk _ (qa hk2)) (Ok.no rfl (ih _ EE trivial)))
theorem nu(hs:DS s):∀(n d:Nat){c:Aj},RC s n c->n<d->Ib d s c=some 0
 | n,d+1,c,h,hd=>by
   obtain⟨hk1,hk2⟩:=h.kids
   have hkid:∀k∈c.E,Ib d s k=some 0:=λk hk=>by
    obtain⟨m,hm,hr⟩:=hk2 k hk;subst hm;exact nu hs m d hr (by omega)
   have last:=ic (s:=s) (self:=Ib d) hk1 hkid;refine Ok.val ?_;show Ok (JZ d (Ib d) s c) _;unfold JZ
   cases h with
   | all =>
     refine Ok.yes rfl ?_;unfold BE;refine Ok.no rfl (Ok.no rfl (Ok.no rfl (Ok.no rfl ?_)));unfold Ch;refine Ok.no rfl ?_;unfold C8;exact Ok.no rfl (Ok.eq last)
   | and =>
     refine Ok.no rfl (Ok.no rfl (Ok.no rfl (Ok.no rfl (Ok.yes rfl ?_))));unfold BE;refine Ok.no rfl (Ok.no rfl (Ok.no rfl (Ok.no rfl ?_)));unfold Ch;refine Ok.no rfl ?_;unfold C8;exact Ok.no rfl (Ok.eq last)
   | or =>
     refine Ok.no rfl (Ok.no rfl (Ok.no rfl (Ok.no rfl (Ok.no rfl (Ok.yes rfl ?_)))));unfold BE;refine Ok.no rfl (Ok.no rfl (Ok.no rfl (Ok.no rfl ?_)));unfold Ch;refine Ok.no rfl ?_;unfold C8;exact Ok.no rfl (Ok.eq last)
   | not =>
     refine Ok.no rfl (Ok.no rfl (Ok.no rfl (Ok.no rfl (Ok.no rfl (Ok.no rfl (Ok.yes rfl ?_))))));unfold BE;refine Ok.no rfl (Ok.no rfl (Ok.no rfl (Ok.no rfl ?_)));unfold Ch;refine Ok.no rfl ?_;unfold C8;exact Ok.no rfl (Ok.eq last)
   | under n i hi0 hi h L hL hL2 k h0 h1 =>
     refine Ok.no rfl (Ok.yes rfl ?_);unfold BE;refine Ok.no (by simp) (Ok.yes rfl (Ok.bindE (jI hi 2) (Ok.no (by rw[h.kind];rfl) ?_)));unfold Ch;refine Ok.yes rfl (Ok.no (qC (by show ¬k<0;omega)) (Ok.idxn hi (Ok.bindE hL2 (Ok.no (qC (by grind)) ?_))));unfold C8;exact Ok.no rfl (Ok.eq last)
   | between n i hi0 hi h l u h0 h1 h2 =>
     refine Ok.no rfl (Ok.no rfl (Ok.yes rfl ?_));unfold BE;refine Ok.no (by simp) (Ok.no rfl (Ok.yes rfl (Ok.bindE (jI hi 3) (Ok.no (by rw[h.kind];rfl) ?_))));unfold Ch;refine Ok.no rfl ?_;unfold C8;refine Ok.no ?_ (Ok.eq last);grind
   | miss n i hi0 hi h ho =>
     refine Ok.no rfl (Ok.no rfl (Ok.no rfl (Ok.yes rfl ?_)));unfold BE;refine Ok.no (by simp) (Ok.no rfl (Ok.no rfl (Ok.yes rfl (Ok.bindE (jI hi 3) (Ok.no (by rw[h.kind];rfl) (Ok.idxn hi (Ok.no (by grind) ?_)))))));unfold Ch;refine Ok.no rfl ?_;unfold C8;exact Ok.no rfl (Ok.eq last)
theorem RC.rcheck(hs:DS s){n:Nat}{c:Aj}(h:RC s n c)(hn:n<=39/\DP 9 c){d:Nat}(hd:n<d):Dr d s c=some 0:=by
 refine Ok.val ?_;unfold Dr;exact Ok.bindE hs.rcheck (Ok.no rfl (Ok.bind (kC n d h hd (by omega) (by omega) (by omega)) λr hr=>Ok.no df (Ok.bind (WB d c▸kr n d 9 h hd hn.2 (by omega)) λr hr=>Ok.no df (Ok.bindE (nu hs n d h hd) (Ok.some rfl)))))
def GC(s:Aa)(c:Aj):Prop:=∃n,RC s n c/\n<=39/\DP 9 c
theorem GC.check(hs:DS s){c:Aj}(h:GC s c){d:Nat}(hd:40<=d):BG d s c=some 0:=by
 obtain⟨n,h1,h2⟩:=h;exact h1.check hs h2 (by omega)
theorem GC.rcheck(hs:DS s){c:Aj}(h:GC s c){d:Nat}(hd:40<=d):Dr d s c=some 0:=by
 obtain⟨n,h1,h2⟩:=h;exact h1.rcheck hs h2 (by omega)
theorem GC.op{c:Aj}(h:GC s c):(c.Op != 0)=true:=by
 obtain⟨n,h1,_⟩:=h
 cases h1<;>rfl
theorem GC.all:GC s YW:=⟨0,.all 0,by omega,.leaf rfl⟩
theorem GC.drawn{n:Nat}{c:Aj}(h:RC s (bw n) c/\DP n c)(hn:n<=3):GC s c:=by
 refine⟨bw n,h.1,?_,h.2.mono (by omega)⟩;rcases(by omega:n=0\/n=1\/n=2\/n=3)with rfl|rfl|rfl|rfl<;>decide
theorem Ok.t{α:Type}{p:Prop}[Decidable p]{x y:Option α}{Q:α->Prop}(k:Ok x Q)(h:p:=by omega):Ok (bif decide p then x else y) Q:=by grind
theorem Ok.f{α:Type}{p:Prop}[Decidable p]{x y:Option α}{Q:α->Prop}(k:Ok y Q)(h:¬p:=by omega):Ok (bif decide p then x else y) Q:=by grind
theorem Ok.lp{ρ:Type}{body:(Int->Option ρ)->Int->Option ρ}{Q:ρ->Prop}(len:Nat)(he:∀rec,Ok (body rec (len:Int)) Q)(hs:∀rec (i:Nat),i<len->(∀v,v=((i+1:Nat):Int)->Ok (rec v) Q)->Ok (body rec (i:Int)) Q)(hl:len<=1000000000000:=by omega):Ok (P.iter body AD 0) Q :=
 Ok.for (λq=>q) len (λ_ _=>True) 0 (pY _) rfl trivial hl (λrec q hq _=>by rw[show q=_ from hq];exact he rec) λrec i q hi hq _ ih=>by grind
theorem Ok.lp2{β ρ:Type}{body:(Int×β->Option ρ)->Int->β->Option ρ}{Q:ρ->Prop}(len:Nat)(I:Nat->β->Prop){b0:β}(h0:I 0 b0)(he:∀rec b,I len b->Ok (body rec (len:Int) b) Q)(hs:∀rec (i:Nat) b,i<len->I i b->(∀v b',v=((i+1:Nat):Int)->I (i+1) b'->Ok (rec (v,b')) Q)->Ok (body rec (i:Int) b) Q)(hl:len<=1000000000000:=by omega):Ok (P.iter (λrec st=>body rec st.1 st.2) AD (0,b0)) Q :=
 Ok.for (λq=>q.1) len (λi q=>I i q.2) 0 (pY _) rfl h0 hl (λrec q hq hI=>by rw[show q.1=_ from hq];exact he rec _ hI) λrec i q hi hq hI ih=>by grind
theorem Ok.any{α:Type}{m:Option α}{P:α->Prop}(h:Ok m P):Ok m λ_=>True:=h.mono λ_ _=>trivial
def sC(L:Am):Aa:={ J:=[L],A:=[{ o6 with Kind:=2 }] }
def aC(k:Int):Aj:={ Op:=2,B:=0,Z:=k,C:=0,D:=0,E:=[] }
theorem VK:(YR.all λL=>(List.range L.Q.length).all λk=>(List.range (Is L).toNat).all (λl=>(B7 (sC L) (aC k) l).isSome)&&B7 (sC L) (aC k) (Is L-1)==some true&&(List.range L.Q.length).all λv=>(Fz L (v:Int) (k:Int)).isSome)=true:=by decide +kernel
theorem lm{L:Am}(hL:L∈YR)(v k:Int):Ok (Fz L v k) λ_=>True:=by
 have hc:=(MD hL).check
 have hh:∀v,K8 L v=some (decide (0<=v/\v<L.Q.length)):=by
  intro v;refine Ok.val ?_;unfold K8;by_cases h:0<=v/\v<L.Q.length
  ·refine Ok.yes (by grind) (Ok.bindE hc (Ok.some ?_));grind
  ·refine Ok.no ?_ (Ok.some (by rw[df h]));grind
 by_cases h:0<=v/\v<L.Q.length
 ·by_cases h':0<=k/\k<L.Q.length
  ·have:=List.all_eq_true.1 VK L hL;have:=(Bool.and_eq_true_iff.1 (List.all_eq_true.1 this k.toNat (List.mem_range.2 (by omega)))).2;have:=List.all_eq_true.1 this v.toNat (List.mem_range.2 (by omega));rw[show((v.toNat:Nat):Int)=v by omega,show((k.toNat:Nat):Int)=k by omega]at this;obtain⟨x,hx⟩:=Option.isSome_iff_exists.1 this;exact⟨x,hx,trivial⟩
  ·unfold Fz;exact Ok.bindE (hh v) (Ok.no (by rw[dt h];rfl) (Ok.bindE (hh k) (Ok.yes (by grind) (Ok.some trivial))))
 ·unfold Fz;exact Ok.bindE (hh v) (Ok.yes (by grind) (Ok.some trivial))
structure AL(s:Aa)(a:Aj):Prop where
 at_:a.Op=2\/a.Op=3\/a.Op=4
 col:∃i:Nat,a.B=i/\1<=i/\i<s.A.length/\∀l,0<=l->l<=Ef s i->Ok (B7 s a l) λb=>l=Ef s i->b=true
 atom:∀v,Ok (Dd s a v) λt=>-1<=t/\t<=1
theorem XC(b:Bool):Ok (Dm b) λt=>-1<=t/\t<=1:=by cases b<;>exact Ok.some (by decide)
theorem mM{c:Ar}(h:FQ c):KU c c.T.length=1:=by
 unfold KU;rw[Int.sub_self];rcases bL h.widths with e|e|e|e<;>rw[e]<;>rfl
theorem eH(hs:DS s){m:Nat}{c:Aj}(h:RC s m c)(ho:c.Op=2\/c.Op=3\/c.Op=4):AL s c:=by
 cases h with
 | under n i hi0 hi h L hL hL2 k h0 h1 =>
   have hcl:=MD hL;have h2:=hcl.lev2;have h3:=hcl.lev3
   have ha:∀v,Dd s { Op:=2,B:=i,Z:=k,C:=0,D:=0,E:=[] } v=(Fz L v k).bind λx=>(Dm x).bind λy=>some y:=by
    intro v;show(idx s.A (i:Int)).bind _=_;rw[FA hi,qd];grind
   have hb:∀v,Dd (sC L) (aC k) v=(Fz L v k).bind λx=>(Dm x).bind λy=>some y:=λv=>rfl
   have he:∀l,B7 s { Op:=2,B:=i,Z:=k,C:=0,D:=0,E:=[] } l=B7 (sC L) (aC k) l:=by
    intro l;unfold B7;show(idx s.A (i:Int)).bind _=_;rw[FA hi,qd];show(idx s.J s.A[i].Al).bind _=(Eo L).bind _;rw[hL2,qd];unfold Hh;grind
   refine⟨ho,⟨i,rfl,hi0,hi,λl l0 l1=>?_⟩,λv=>?_⟩
   ·have hf:Ef s i=Is L-1:=by rw[Gh hi,Hd h hL2]
    have:=List.all_eq_true.1 VK L hL;have:=(Bool.and_eq_true_iff.1 (List.all_eq_true.1 this k.toNat (List.mem_range.2 (by omega)))).1;rw[show((k.toNat:Nat):Int)=k by omega]at this;obtain⟨f1,f2⟩:=Bool.and_eq_true_iff.1 this;have f1:=List.all_eq_true.1 f1 l.toNat (List.mem_range.2 (by omega));rw[show((l.toNat:Nat):Int)=l by omega]at f1;obtain⟨x,hx⟩:=Option.isSome_iff_exists.1 f1;refine⟨x,(he l).trans hx,λe=>?_⟩;grind
   ·rw[ha];exact(lm hL v k).bind λx _=>(XC x).bind λy hy=>Ok.some hy
 | between n i hi0 hi h lo up a0 a1 a2 =>
   obtain⟨l1,l2⟩:=h.low;obtain⟨l3,l4⟩:=h.high;have hf:Ef s i=s.A[i].T.length:=by rw[Gh hi,EC h]
   refine⟨ho,⟨i,rfl,hi0,hi,λl l0 l1=>?_⟩,λv=>?_⟩
   ·have hw0:=E8 h;unfold B7;refine Ok.idxn hi (Ok.no rfl (Ok.br (λe=>Ok.some λhl=>?_) λ_=>Ok.no rfl (Ok.brd (λ_=>Ok.some λ_=>rfl) λ_=>Ok.br (λe=>Ok.some λhl=>?_) λe=>?_)))
    ·grind
    ·grind
    ·have hl:l≠0:=λe2=>by rw[e2]at e;cases e
     have hw:=J9 h (l:=l) (by omega) (by omega);have hcw:GL s.A[i] l=some (KU s.A[i] l):=by unfold GL;rw[ZR h (by omega) (by omega)];rfl
     have hcd:∀n:Int,-100000000<=n->n<=100000000->Ok (DO n (KU s.A[i] l)) λr=>l=Ef s i->r=n:=λn n0 n1=>by
      rw[show DO n (KU s.A[i] l)=some (n-n%KU s.A[i] l)from Pb hw.1 (by omega) n0 n1];exact Ok.some λe2=>by rw[e2,hf,mM h];omega
     have g1:-100<=(if s.A[i].C>lo then s.A[i].C else lo)\/True:=.inr trivial;have b1:-1000000<=(if s.A[i].C>lo then s.A[i].C else lo)/\(if s.A[i].C>lo then s.A[i].C else lo)<=1000000:=by grind
     have b2:-1000000<=(if s.A[i].D<up then s.A[i].D else up)/\(if s.A[i].D<up then s.A[i].D else up)<=1000000:=by grind
     have hup:Ok ((DO (i64.wrap ((if s.A[i].D<up then s.A[i].D else up)+1)) (KU s.A[i] l)).bind λx128=>some (x128==(i64.wrap ((if s.A[i].D<up then s.A[i].D else up)+1)))) λb=>l=Ef s i->b=true:=by
      rw[wr];exact(hcd _ (by omega) (by omega)).bind λr hr=>Ok.some λe2=>by grind
     refine Ok.bindE hcw (Ok.br (λ_=>Ok.br (λ_=>Ok.some λ_=>rfl) λ_=>hup) λ_=>(hcd _ (by grind) (by show(if s.A[i].C>lo then s.A[i].C else lo)<=100000000;omega)).bind λr hr=>Ok.br (λ_=>Ok.br (λ_=>Ok.some λ_=>rfl) λ_=>hup) λe3=>Ok.some λe2=>?_);grind
   ·unfold Dd;refine Ok.no rfl (Ok.no rfl (Ok.br (λ_=>Ok.some (by decide)) λ_=>(XC _).bind λy hy=>Ok.some hy))
 | miss n i hi0 hi h hopt =>
   have hf:Ef s i=s.A[i].T.length:=by rw[Gh hi,EC h]
   refine⟨ho,⟨i,rfl,hi0,hi,λl l0 l1=>?_⟩,λv=>?_⟩
   ·have hw0:=E8 h;unfold B7;refine Ok.idxn hi (Ok.no rfl (Ok.br (λe=>Ok.some λhl=>?_) λ_=>Ok.yes rfl (Ok.some λ_=>rfl)));grind
   ·unfold Dd;exact Ok.no rfl (Ok.yes rfl ((XC _).bind λy hy=>Ok.some hy))
 | all=>rcases ho with h|h|h<;>cases h
 | and=>grind
 | or=>grind
 | not=>grind
theorem lX{c:Aj}(h:(bif(bif(c.Op==2)then true else(c.Op==3))then true else(c.Op==4))=true):c.Op=2\/c.Op=3\/c.Op=4:=by grind
theorem ah(hs:DS s):∀(n d m:Nat){c:Aj},RC s m c->DP n c->m<d->n<=20->Ok (Fp d c) λl=>l.length<=2 ^ n/\∀a∈l,AL s a
 | n,d+1,m,c,h,hp,hd,hn=>by
   obtain⟨hk1,hk2⟩:=h.kids;have h2n:2 ^ n<=2 ^ 20:=qF (by decide) hn;have h2m:2 ^ (n-1)<=2 ^ 20:=qF (by decide) (by omega);show Ok (F0 d (Fp d) c) _;unfold F0;refine Ok.br (λe=>Ok.some ⟨Nat.one_le_two_pow,λa ha=>?_⟩) λe=>Ok.lp2 c.E.length (λk b=>b.length<=k*2 ^ (n-1)/\∀a∈b,AL s a) ⟨by simp,(λa ha=>by cases ha)⟩ (λrec b hI=>Ok.f (Ok.some ⟨?_,hI.2⟩)) λrec k b hk hI ih=>?_
   ·rw[List.mem_singleton.1 ha];exact eH hs h (lX e)
   ·cases n with
    | zero=>have:=hI.1;rw[show c.E=[]from hp]at this;simp at this;simp[this]
    | succ n=>refine qt hI.1 (qt (qU _ hk1) ?_);rw[sO,sS];omega
   ·obtain⟨q,hm,hr⟩:=hk2 _ (qa hk)
    cases n with
    | zero=>rw[show c.E=[]from hp]at hk;simp at hk
    | succ n =>
      rw[sO]at hI h2m;have hb:k*2 ^ n<=2*2 ^ n:=qU _ (by omega);refine Ok.t (Ok.idxn hk ((ah hs n d q hr (hp _ (qa hk)) (by omega) (by omega)).bind λl hl=>Ok.rm (by grind) (ih _ _ EE ⟨?_,λa ha=>?_⟩)))
      all_goals grind
def NA(s:Aa)(l:List Ad):Prop:=(∀p∈l,Ut s p)/\l.length<=100
theorem NA.nil:NA s []:=⟨(λp hp=>by cases hp),by simp⟩
def LV(s:Aa)(b:List Int):Prop:=b.length=s.A.length/\∀(i:Nat)(hi:i<b.length),0<b[i]->1<=i/\b[i]<=Ef s i
theorem GC.needs(hs:DS s){c:Aj}(h:GC s c){d:Nat}(hd:40<=d):Ok (BS d s c) (NA s):=by
 obtain⟨n,h1,h2,h3⟩:=h;have hcl:=hs.cols_length;unfold BS;refine Ok.bindE (h1.check hs ⟨h2,h3⟩ (by omega)) (Ok.no rfl (Ok.gd (by rw[dt,VG (by omega)];rfl) ((ah hs 9 d n h1 h3 (by omega) (by omega)).bind λl hl=>?_)));refine Ok.lp2 l.length (λ_ b=>LV s b) ⟨by simp,λi hi h0=>by simp at h0⟩ (λrec b hI=>Ok.f ?_) (λrec k b hk hI ih=>Ok.t (Ok.idxn hk ?_)) (by grind)
 ·have hbl:=hI.1;refine Ok.lp2 b.length (λk r=>(∀p∈r,Ut s p)/\r.length<=k) ⟨λp hp=>(by cases hp),by simp⟩ (λrec r hr=>Ok.f (Ok.some ⟨hr.1,by have:=hI.1;have:=hr.2;omega⟩)) (λrec k r hk hr ih=>Ok.t (Ok.idxn hk (Ok.brd (λe=>Ok.rm (by grind) (ih _ _ EE ⟨λp hp=>?_,by simp;exact hr.2⟩)) λ_=>ih _ _ EE ⟨hr.1,by have:=hr.2;omega⟩))) (by have:=hI.1;omega);rcases List.mem_append.1 hp with hp|hp
  ·grind
  ·rw[List.mem_singleton.1 hp];obtain⟨g1,g2⟩:=hI.2 k hk e;exact⟨k,g1,by have:=hI.1;omega,rfl,Int.le_of_lt e,g2⟩
 ·have ha:=hl.2 _ (qa hk);obtain⟨i,hc,i0,i1,hsf⟩:=ha.col;have hf:=hs.fin_ok i0 i1
  have hK:∀v:Int,0<=v->v<=Ef s i->Ok (Jg b l[k] rec (k:Int) v) (NA s):=λv v0 v1=>by
   unfold Jg;have hib:i<b.length:=by rw[hI.1];exact i1
   rw[hc];refine Ok.idxn hib (Ok.idxn hib (ih _ _ EE ⟨by rw[sx];exact hI.1,λj hj h0=>?_⟩));simp only[qu,List.getElem_set]at h0 ⊢;split at h0
   ·rename_i e
    rw[qf e];refine⟨by omega,?_⟩;rw[<-e];split
    ·grind
    ·rename_i e2
     by_cases e3:0<b[i]
     ·exact(hI.2 i hib e3).2
     ·omega
   ·rename_i e
    rw[qi e];exact hI.2 j (by grind) h0
  refine Ok.lp (Ef s i).toNat (λrec=>?_) λrec v hv ih2=>?_
  ·refine(hsf _ (by omega) (by omega)).bind λb hb=>?_;rw[hb (by omega)];exact Ok.no rfl (hK _ (by omega) (by omega))
  ·exact(hsf _ (by omega) (by omega)).bind λb hb=>Ok.br (λ_=>ih2 _ EE) λ_=>hK _ (by omega) (by omega)
theorem Rz(hs:DS s){f:Aj->Option Int}(hf:∀a,AL s a->Ok (f a) λt=>-1<=t/\t<=1):∀(m d:Nat){c:Aj},RC s m c->m<d->Ok (FX d c f) λt=>-1<=t/\t<=1
 | m,d+1,c,h,hd=>by
   show Ok (FY d (FX d) c f) _;unfold FY;have leaf:∀{c:Aj},AL s c->Ok ((f c).bind λx=>some x) λt=>-1<=t/\t<=1:=λha=>(hf _ ha).bind λx hx=>Ok.some hx;have hc:=h
   cases h with
   | all=>exact Ok.yes rfl (Ok.some (by decide))
   | under=>exact Ok.no rfl (Ok.no rfl (Ok.no rfl (Ok.no rfl (leaf (eH hs hc (.inl rfl))))))
   | between=>exact Ok.no rfl (Ok.no rfl (Ok.no rfl (Ok.no rfl (leaf (eH hs hc (.inr (.inl rfl)))))))
   | miss=>exact Ok.no rfl (Ok.no rfl (Ok.no rfl (Ok.no rfl (leaf (eH hs hc (.inr (.inr rfl)))))))
   | and n na nb hn a b ha hb =>
     exact Ok.no rfl (Ok.yes rfl (Ok.bindE (x:=a) rfl ((Rz hs hf na d ha (by omega)).bind λp hp=>Ok.bindE (x:=b) rfl ((Rz hs hf nb d hb (by omega)).bind λq hq=>Ok.some (by grind)))))
   | or n na nb hn a b ha hb =>
     exact Ok.no rfl (Ok.no rfl (Ok.yes rfl (Ok.bindE (x:=a) rfl ((Rz hs hf na d ha (by omega)).bind λp hp=>Ok.bindE (x:=b) rfl ((Rz hs hf nb d hb (by omega)).bind λq hq=>Ok.some (by grind))))))
   | not n na hn a ha =>
     exact Ok.no rfl (Ok.no rfl (Ok.no rfl (Ok.yes rfl (Ok.bindE (x:=a) rfl ((Rz hs hf na d ha (by omega)).bind λp hp=>Ok.some (by show -1<=i64.wrap (0-p)/\i64.wrap (0-p)<=1;rw[wr];omega))))))
theorem mH{x:As}(hs:DS s)(hx:GX s x){r:List Int}(hr:r∈x.G){c:Aj}(h:GC s c){d:Nat}(hd:40<=d):Ok (Hz d s c x.X (r.drop 1)) λ_=>True:=by
 obtain⟨n,h1,h2,h3⟩:=h;have hcl:=hs.cols_length;have hpl:=hx.picks_len hs;have hrl:=(hx.rows r hr).1;unfold Hz;refine Ok.gd (by rw[dt,VG (by omega)];rfl) (Ok.for (λq=>q.1) s.A.length (λk q=>q.2.length=s.A.length/\1<=k) 1 (by omega) rfl ⟨by simp,by omega⟩ (by omega) (λrec q hq hI=>?_) λrec k q hk hq hI ih=>?_)
 ·simp only[Hn,hq,hI.1];rw[Dz];refine Ok.lp2 x.X.length (λ_ b=>b.length=s.A.length) hI.1 (λrec b hb=>Ok.f ?_) λrec k b hk hb ih=>Ok.t ?_
  ·unfold IN;refine(Ok.bind (Rz hs (λa ha=>?_) n d h1 (by omega)) λt _=>Ok.some trivial).bind λt _=>Ok.some trivial;obtain⟨i,hc,i0,i1,_⟩:=ha.col;show Ok ((idx b a.B).bind _) _;rw[hc];exact Ok.idxn (by grind) ((ha.atom _).bind λt ht=>Ok.some ht)
  ·obtain⟨u,hu⟩:=hx.valsP hs hr k hk (by grind);obtain⟨i,_,i1,hc,_⟩:=hx.picks _ (qa hk);refine Ok.idxn hk (Ok.idxn (by grind) (Ok.bindE hu (Ok.no rfl ?_)));rw[hc];exact Ok.idxn (by rw[hb];exact i1) (ih _ _ EE (by grind))
 ·simp only[Hn,hq,hI.1];rw[Co];obtain⟨r,hr⟩:=oh hs hI.2 hk;exact Ok.bindE hr (Ok.idxn (by grind) (ih _ EE ⟨by show(q.2.set _ _).length=_;rw[sx];exact hI.1,by omega⟩))
def IX(x:As)(r:List Int):Prop:=r.length<=x.G.length/\∀v∈r,∃j:Nat,v=(j:Int)/\j<x.G.length
theorem R7.covers{x:As}{n:Nat}(hs:DS s)(hx:R7 s x n){r:List Ad}(h:NA s r):BU x.X r=some true:=by
 have hcl:=hs.cols_length;rw[mo _ _ (by rw[hx.picks,Fo];omega) (by have:=h.2;omega),hx.picks];refine congrArg _ (List.all_eq_true.2 λp hp=>List.any_eq_true.2 ?_);obtain⟨i,i0,i1,hc,_,hl⟩:=h.1 p hp;refine⟨{ B:=i,S:=Ef s i },List.mem_map.2 ⟨i-1,List.mem_range.2 (by omega),by rw[show i-1+1=i by omega]⟩,?_⟩;grind
theorem Ph{x:As}{n:Nat}(hs:DS s)(hx:R7 s x n)(hn:n<=200){c:Aj}(h:GC s c){d:Nat}(hd:40<=d):Ok (CU d s x c) (IX x):=by
 have hl:=hx.len;have hg:=hx.gx hs hn;unfold CU;refine Ok.bindE (h.check hs hd) (Ok.no rfl ((h.needs hs hd).bind λr hr=>Ok.bindE (hx.covers hs hr) (Ok.no rfl ?_)));refine Ok.lp2 x.G.length (λk (b:List Int)=>b.length<=k/\∀v∈b,∃j:Nat,v=(j:Int)/\j<x.G.length) ⟨by simp,(λv hv=>by cases hv)⟩ (λrec b hb=>Ok.f (Ok.some hb)) λrec k b hk hb ih=>Ok.t (Ok.idxn hk (Ok.t ?_ (by have:=(hg.rows _ (qa hk)).1;omega)));rw[oJ];refine(mH hs hg (qa hk) h hd).bind λt _=>Ok.br (λ_=>Ok.rm (by grind) (ih _ _ EE ⟨by simp;exact hb.1,λv hv=>?_⟩)) λ_=>ih _ _ EE ⟨by have:=hb.1;omega,hb.2⟩;grind
def IM(s:Aa)(v:Int):Prop:=∃i:Nat,v=i/\1<=i/\∃hi:i<s.A.length,FQ s.A[i]
theorem af:(YR.all λL=>(List.range (Is L).toNat).all λl=>(Hx L (l:Int)).isSome)=true:=by decide +kernel
theorem Wv(hs:DS s){i:Nat}(hi0:1<=i)(hi:i<s.A.length){l:Int}(h0:0<=l)(h1:l<=Ef s i):Ok (E4 s i l) λ_=>True:=by
 rcases hs.col hi0 hi with h|h
 ·obtain⟨L,hL,hL2⟩:=hs.clist h;have hf:Ef s i=Is L-1:=by rw[Gh hi,Hd h hL2]
  have:=List.all_eq_true.1 (List.all_eq_true.1 af L hL) l.toNat (List.mem_range.2 (by omega));rw[show((l.toNat:Nat):Int)=l by omega]at this;obtain⟨x,hx⟩:=Option.isSome_iff_exists.1 this;unfold E4;exact Ok.idxn hi (Ok.yes (by rw[h.kind];rfl) (Ok.bindE hL2 (Ok.bindE hx (Ok.some trivial))))
 ·exact gq hi h h0 (by rw[Gh hi,EC h]at h1;exact h1)
theorem gW(hs:DS s){i:Nat}(hi0:1<=i)(hi:i<s.A.length){l:Int}(h0:0<=l)(h1:l<=Ef s i):Ok (FH s i l) λr=>0<=r/\r<=l:=by
 have hf:=hs.fin_ok hi0 hi;unfold FH;refine Ok.bindE (hs.pFinest hi0 hi) (Ok.no (by grind) (Ok.loop (λq=>0<=q/\q<=l) (λq=>q.toNat) ⟨h0,rk _⟩ (by unfold AD;omega) λrec q hq ih=>Ok.brd (λhp=>?_) λ_=>Ok.some hq));have e:i64.wrap (q-1)=q-1:=wr;rw[e];exact Ok.bind (Wv hs hi0 hi (by omega) (by omega)) λx _=>Ok.bind (Wv hs hi0 hi (by omega) (by omega)) λy _=>Ok.br (λ_=>ih _ (by omega) (by omega)) λ_=>Ok.some hq
theorem Ut.least(hs:DS s){p:Ad}(h:Ut s p):Ok (FH s p.B p.S) λr=>Ut s { B:=p.B,S:=r }:=by
 obtain⟨i,i0,i1,hc,l0,l1⟩:=h;rw[hc];exact(gW hs i0 i1 l0 l1).mono λr hr=>⟨i,i0,i1,rfl,hr.1,by show r<=_;omega⟩
theorem fO{P:Ad->Prop}{b:List Ad}{p:Ad}(hb:∀q∈b,P q)(hp:P p):∀q∈b++[p],P q:=by grind
theorem kn(hs:DS s){v:Int}(hv:IM s v){b:List Ad}{k:Nat}(hb:(∀p∈b,Ut s p)/\b.length<=k)(hk:k<=1000):Ok (CI v b s) λr=>(∀p∈r,Ut s p)/\r.length<=k+1:=by
 obtain⟨i,rfl,i0,i1,_⟩:=hv;have hf:=hs.fin_ok i0 i1;unfold CI;exact Ok.bindE (hs.pFinest i0 i1) ((Ut.least hs (p:={ B:=i,S:=Ef s i }) ⟨i,i0,i1,rfl,by show 0<=Ef s i;omega,rk _⟩).bind λr hr=>Ok.rm (by grind) (Ok.some ⟨fO hb.1 hr,by simp;exact hb.2⟩))
def WM(s:Aa)(v w:Int):Prop:=∃i:Nat,v=i/\1<=i/\∃hi:i<s.A.length,FQ s.A[i]/\w∈s.A[i].T
theorem Oc(hs:DS s){e:Ap}(hd:e.Ac.length<=10/\∀p∈e.Ac,Ut s p)(hc:e.A.length<=10/\∀v∈e.A,IM s v)(h1:0<e.B->IM s e.B)(h2:e.Op=13->WM s e.B e.L):Ok (M3 s e) (NA s):=by
 have j2:∀{b:List Ad},(∀p∈b,Ut s p)/\b.length<=11->Ok (Bu e s b) (NA s):=λhb=>by
  unfold Bu;exact Ok.lp2 e.A.length (λk b=>(∀p∈b,Ut s p)/\b.length<=11+k) hb (λrec b hb=>Ok.f (Ok.some ⟨hb.1,by have:=hb.2;omega⟩)) (λrec k b hk hb ih=>Ok.t (Ok.idxn hk ((kn hs (hc.2 _ (qa hk)) hb (by omega)).bind λr hr=>ih _ _ EE hr))) (by omega)
 have j3:∀{b:List Ad},(∀p∈b,Ut s p)/\b.length<=10->Ok (bif(decide (e.B>0))then(CI e.B b s).bind λx47=>Bu e s x47 else Bu e s b) (NA s):=λhb=>Ok.brd (λhp=>(kn hs (h1 hp) hb (by omega)).bind λr hr=>j2 hr) λ_=>j2 ⟨hb.1,by have:=hb.2;omega⟩;unfold M3;refine Ok.lp2 e.Ac.length (λk b=>(∀p∈b,Ut s p)/\b.length<=k) ⟨(λp hp=>by cases hp),by simp⟩ (λrec b hb=>Ok.f ?_) (λrec k b hk hb ih=>Ok.t (Ok.idxn hk ((Ut.least hs (hd.2 _ (qa hk))).bind λr hr=>Ok.rm (by grind) (ih _ _ EE ⟨fO hb.1 hr,by simp;exact hb.2⟩)))) (by omega);have hb':(∀p∈b,Ut s p)/\b.length<=10:=⟨hb.1,by have:=hb.2;omega⟩;unfold Mv;refine Ok.br (λ_=>j3 hb') λ_=>Ok.br (λ_=>j3 hb') λ_=>Ok.br (λ_=>j3 hb') λ_=>Ok.br (λ_=>j3 hb') λ_=>Ok.br (λ_=>j3 hb') λ_=>Ok.br (λ_=>j3 hb') λ_=>Ok.br (λh13=>?_) λ_=>j2 ⟨hb.1,by have:=hb'.2;omega⟩;obtain⟨i,hv,i0,i1,hM,hw⟩:=h2 (sR h13);obtain⟨n,hn,hnw⟩:=List.mem_iff_getElem.1 hw;have hf:Ef s i=s.A[i].T.length:=by rw[Gh i1,EC hM]
 rw[hv,<-hnw];exact Ok.bindE (bH i1 hM hn) ((Ut.least hs (p:={ B:=i,S:=(s.A[i].T.length:Int)-n }) ⟨i,i0,i1,rfl,by show 0<=(s.A[i].T.length:Int)-n;omega,by show(s.A[i].T.length:Int)-n<=_;omega⟩).bind λr hr=>Ok.rm (by grind) (j2 ⟨fO hb.1 hr,by have:=hb'.2;simp;omega⟩))
theorem Y5(k c v:Int):∀b:List (Int×Int),Lu c (XG k v b)=if c=k then some v else Lu c b
 | []=>by
   simp only[XG,Lu];grind
 | p :: r=>by
   have ih:=Y5 k c v r;simp only[XG,Lu];by_cases e:k=p.1
   ·rw[show(k==p.1)=true from beq_iff_eq.2 e,qK];simp only[Lu];grind
   ·rw[beq_eq_false_iff_ne.2 e,q9];simp only[Lu,ih];grind
def gl(c:Int)(b:List (Int×Int)):Int:=(Lu c b).getD 0
def ME(s:Aa)(v:Int)(b:List (Int×Int)):Prop:=0<=v/\v<=10/\∀c,0<gl c b->Ut s { B:=c,S:=gl c b }
theorem jV(hs:DS s){ll:List (List Ad)}(hl:ll.length<=1000)(h:∀l∈ll,NA s l):Ok (GV ll) (NA s):=by
 have hcl:=hs.cols_length;unfold GV;refine Ok.for (λq=>q.2.1) ll.length (λ_ q=>ME s q.1 q.2.2) 0 (pY _) rfl ⟨rk _,by decide,λc hc=>absurd hc (by show ¬(0:Int)<0;decide)⟩ (by omega) (λrec q hq hI=>?_) λrec k q hk hq hI ih=>?_
 ·obtain⟨h0,h1,h2⟩:=hI;obtain⟨n,hn⟩:∃n:Nat,q.1=n:=⟨q.1.toNat,by omega⟩;have ew:i64.wrap (q.1+1)=((n+1:Nat):Int):=by rw[hn];exact EE
  simp only[G6,hq];refine Ok.f (Ok.lp2 (n+1) (λk r=>(∀p∈r,Ut s p)/\r.length<=k) ⟨(λp hp=>by cases hp),by simp⟩ (λrec r hr=>?_) λrec k r hk hr ih=>?_)
  ·simp only[G8,ew];exact Ok.f (Ok.some ⟨hr.1,by have:=hr.2;omega⟩)
  ·simp only[G8,ew];exact Ok.t (Ok.brd (λhp=>Ok.rm (by grind) (ih _ _ EE ⟨fO hr.1 (h2 k hp),by simp;exact hr.2⟩)) λ_=>ih _ _ EE ⟨hr.1,by have:=hr.2;omega⟩)
 ·obtain⟨a1,a2⟩:=h _ (qa hk);simp only[G6,hq];refine Ok.t (Ok.idxn hk (Ok.for (λq=>q.2.1) ll[k].length (λ_ q=>ME s q.1 q.2.2) 0 (pY _) rfl hI (by omega) (λrec q hq hI=>?_) λrec j q hj hq hI ih=>?_))
  ·simp only[G7,hq];exact Ok.f (ih _ EE hI)
  ·obtain⟨i,i0,i1,hc,l0,l1⟩:=a1 _ (qa hj);obtain⟨h0,h1,h2⟩:=hI;simp only[G7,hq];refine Ok.t (Ok.idxn hj (ih _ EE ⟨by show 0<=(if ll[k][j].B>q.1 then ll[k][j].B else q.1);split<;>omega,by show(if ll[k][j].B>q.1 then ll[k][j].B else q.1)<=10;split<;>omega,λc hc0=>?_⟩))
   have hg:gl c (XG ll[k][j].B (if ll[k][j].S>((Lu ll[k][j].B q.2.2).getD 0)then ll[k][j].S else((Lu ll[k][j].B q.2.2).getD 0)) q.2.2)=if c=ll[k][j].B then(if ll[k][j].S>gl ll[k][j].B q.2.2 then ll[k][j].S else gl ll[k][j].B q.2.2)else gl c q.2.2:=by
    unfold gl;rw[Y5];split<;>rfl
   change 0<gl c (XG _ _ _)at hc0;show Ut s { B:=c,S:=gl c (XG _ _ _) };rw[hg]at hc0 ⊢;split
   ·rename_i e
    rw[qf e]at hc0;split
    ·exact⟨i,i0,i1,by show c=_;omega,l0,l1⟩
    ·grind
   ·grind
theorem Lb(hs:DS s){e:Ap}{d:Nat}(ho:Ok (M3 s e) (NA s))(hc:Ok (BS d s e.V) (NA s))(hv:Ok (BS d s e.U) (NA s))(hk:e.E.length<=2/\∀k∈e.E,Ok (C4 d s k) (NA s)):Ok (C4 (d+1) s e) (NA s):=by
 show Ok (IL d (C4 d) s e) _;unfold IL;refine ho.bind λa ha=>hc.bind λb hb=>hv.bind λc hc=>Ok.lp2 e.E.length (λk l=>l.length<=3+k/\∀x∈l,NA s x) ⟨by simp,λx hx=>?_⟩ (λrec l hl=>Ok.f ((jV hs (by have:=hl.1;omega) hl.2).bind λr hr=>Ok.some hr)) (λrec k l hk' hl ih=>Ok.t (Ok.idxn hk' ((hk.2 _ (qa hk')).bind λr hr=>Ok.rm (by grind) (ih _ _ EE ⟨by simp;have:=hl.1;omega,λx hx=>?_⟩)))) (by omega)
 all_goals grind
theorem Xi(hs:DS s){d:Nat}(hd:1<=d):Ok (BS d s Gt) (NA s):=by
 obtain⟨k,rfl⟩:∃k,d=k+1:=⟨d-1,by omega⟩;exact⟨_,hs.pneeds_zero k,NA.nil⟩
def eX(op num:Int)(nm:ByteArray)(col:Int)(cols:List Int)(dims:List Ad)(c ev:Aj)(kids:List Ap):Ap:={ Op:=op,L:=num,H:=nm,B:=col,A:=cols,Ac:=dims,V:=c,U:=ev,E:=kids }
def IC(s:Aa)(v:Int):Prop:=∃i:Nat,v=i/\1<=i/\∃hi:i<s.A.length,M5 s.A[i]
structure Tf(s:Aa)(l:List Ad):Prop where
 pos:1<=l.length
 len:l.length<=3
 all:∀p∈l,IC s p.B/\Ut s p
 asc:(l.map (·.B)).Pairwise (·<·)
structure Wo(s:Aa)(m:Int)(l:List Int):Prop where
 pos:1<=l.length
 len:l.length<=3
 all:∀v∈l,IM s v/\v≠m
 asc:l.Pairwise (·<·)
inductive EN(s:Aa)(ns:List ByteArray):Nat->Ap->Prop
 | int (n:Nat) (k:Int) (h:-9<=k/\k<=30):EN s ns n (eX 1 k .empty 0 [] [] Gt Gt [])
 | name (n:Nat) (nm:ByteArray) (h:nm∈ns):EN s ns n (eX 2 0 nm 0 [] [] Gt Gt [])
 | count (n:Nat) (c:Aj) (h:GC s c):EN s ns n (eX 3 0 .empty 0 [] [] c Gt [])
 | sum (n:Nat) (op m:Int) (c:Aj) (ho:op=4\/op=5) (hm:IM s m) (h:GC s c):EN s ns n (eX op 0 .empty m [] [] c Gt [])
 | pair (n:Nat) (op:Int) (a b:Ap) (ho:op=6\/op=7\/op=8\/op=9) (ha:EN s ns n a) (hb:EN s ns n b):EN s ns (n+1) (eX op 0 .empty 0 [] [] Gt Gt [a,b])
inductive ET(s:Aa):Ap->Prop
 | table (m:Int) (dims:List Ad) (c:Aj) (hm:m=-1\/IM s m) (hd:Tf s dims) (h:GC s c):ET s (eX 10 0 .empty m [] dims c Gt [])
 | model (m:Int) (cols:List Int) (c:Aj) (hm:IM s m) (hc:Wo s m cols) (h:GC s c):ET s (eX 11 0 .empty m cols [] c Gt [])
 | curve (m:Int) (ev c:Aj) (hm:IM s m) (hl:∀x,idx s.A m=some x->0<=x.C) (he:GC s ev) (h:GC s c):ET s (eX 12 0 .empty m [] [] c ev [])
 | hist (m w:Int) (c:Aj) (hw:WM s m w) (h:GC s c):ET s (eX 13 w .empty m [] [] c Gt [])
 | box (m:Int) (c:Aj) (hm:IM s m) (h:GC s c):ET s (eX 14 0 .empty m [] [] c Gt [])
def ES(s:Aa)(ns:List ByteArray)(e:Ap):Prop:=EN s ns 2 e\/ET s e
theorem EN.kids{ns:List ByteArray}{n:Nat}{e:Ap}(h:EN s ns n e):e.E.length<=2/\∀k∈e.E,∃m,n=m+1/\EN s ns m k:=by
 cases h with
 | pair n op a b ho ha hb=>exact⟨by simp[eX],λk hk=>by simp[eX]at hk;rcases hk with rfl|rfl<;>exact⟨n,rfl,by assumption⟩⟩
 | _=>exact⟨by simp[eX],λk hk=>by simp[eX]at hk⟩
theorem EN.op{ns:List ByteArray}{n:Nat}{e:Ap}(h:EN s ns n e):DX e.Op=some true/\e.Op<10:=by
 cases h with
 | sum n op m c ho=>rcases ho with rfl|rfl<;>exact⟨rfl,by simp[eX]⟩
 | pair n op a b ho=>rcases ho with rfl|rfl|rfl|rfl<;>exact⟨rfl,by simp[eX]⟩
 | _=>exact⟨rfl,by simp[eX]⟩
theorem ET.kids{e:Ap}(h:ET s e):e.E=[]:=by cases h<;>rfl
theorem lM{l:List Ap}{p:Ap->Option Bool}(q:Ap->Bool)(hp:∀x∈l,p x=some (q x))(hl:l.length<=1000000000):Av l p=some (l.any q):=by
 unfold Av;rw[show BZ l p=some (Gi q l)from Jp hp hl,qd,KB]
theorem Zf{l:List Ap}{p:Ap->Option Bool}(hp:∀x∈l,p x=some false)(hl:l.length<=2):Av l p=some false:=by
 rw[lM (λ_=>false) hp (by omega)];grind
theorem Gs{e:Ap}{u:AW}(h:(bif(bif(bif(bif(bif u.Bt then true else(e.L==0))then(bif u.Br then true else true)else false)then(bif u.Bp then true else(e.B==0))else false)then(bif u.Bv then true else((e.A.length:Int)==0))else false)then(bif u.Bw then true else((e.Ac.length:Int)==0))else false)=true)(hn:u.Br=true\/e.H=.empty)
 (hc:u.Bk=true\/e.V=Gt) (hv:u.Bq=true\/e.U=Gt) (hp:(B8 e.Op=some true)\/e.E=[]):Gp e u=some true:=by
 have hP:∃b,B8 e.Op=some b:=⟨_,rfl⟩
 have hq:Ok ((B8 e.Op).bind λx71=>some (bif x71 then true else((e.E.length:Int)==0))) (·=true):=by
  rcases hp with hp|hp
  ·exact Ok.bindE hp (Ok.some rfl)
  ·obtain⟨b,hb⟩:=hP;exact Ok.bindE hb (Ok.some (by grind))
 have hnm:(bif u.Br then true else(e.H.toList==({ data:=#[] }:ByteArray).toList))=(bif u.Br then true else true):=by
  rcases hn with hn|hn
  all_goals simp_all
 have hz:∀{c:Aj},c=Gt->FM c=some true:=λe=>by rw[e];rfl
 refine Ok.val ?_;unfold Gp;rw[hnm];have hw:Ok (bif u.Bq then(B8 e.Op).bind λx71=>some (bif x71 then true else((e.E.length:Int)==0))else(FM e.U).bind λx65=>bif x65 then(B8 e.Op).bind λx71=>some (bif x71 then true else((e.E.length:Int)==0))else some false) (·=true):=Ok.br (λ_=>hq) λe2=>Ok.bindE (hz (hv.resolve_left (by grind))) (Ok.yes rfl hq);grind
theorem Kt(hs:DS s){e:Ap}{u:AW}{d:Nat}(hd:40<=d)(hf:JP e.Op=some (u,true))(hu:Gp e u=some true)(hp:Mn s e=some true)(hc:u.Bk=true->GC s e.V)(hv:u.Bq=true->GC s e.U)
 (hl:e.E.length<=2) (h2:B8 e.Op=some true->e.E.length=2) (hk:∀k∈e.E,DX k.Op=some true/\BY d s k=some true):BY (d+2) s e=some true:=by
 refine Ok.val ?_;show Ok (GU (d+1) (BY (d+1)) (DC (d+1)) s e) _;unfold GU;refine Ok.bindE hf (Ok.no rfl (Ok.bindE hu (Ok.no rfl (Ok.bindE hp (Ok.no rfl ?_)))))
 have hend:Ok ((B8 e.Op).bind λx49=>bif(bif x49 then((e.E.length:Int) != 2)else false)then some false else(Av e.E (λa0=>DC (d+1) a0 s)).bind λx59=>some (!x59)) (·=true):=by
  obtain⟨b,hb⟩:∃b,B8 e.Op=some b:=⟨_,rfl⟩;refine Ok.bindE hb (Ok.no ?_ (Ok.bindE (Zf (λx hx=>?_) hl) (Ok.some rfl)))
  ·grind
  ·obtain⟨k1,k2⟩:=hk x hx;refine Ok.val ?_;show Ok (EW d (BY d) (DC d) x s) _;unfold EW;exact Ok.bindE k1 (Ok.no rfl (Ok.bindE k2 (Ok.some rfl)))
 unfold Iu;exact Ok.br (λe1=>Ok.bindE ((hc e1).check hs (by omega)) (Ok.no rfl (Ok.br (λe2=>Ok.bindE ((hv e2).check hs (by omega)) (Ok.no rfl hend)) λ_=>hend))) λ_=>Ok.br (λe2=>Ok.bindE ((hv e2).check hs (by omega)) (Ok.no rfl hend)) λ_=>hend
theorem IM.measure{v:Int}(h:IM s v):BJ s v=some true:=by
 obtain⟨i,rfl,_,hi,hM⟩:=h;exact UD hi hM
theorem Zb{l:List Int}(h:l.Pairwise (·<·)){k:Nat}(hk:k<l.length):∀v∈l.take k,v≠l[k]:=λv hv=>by
 obtain⟨j,hj,rfl⟩:=List.mem_iff_getElem.1 hv;rw[qL]at hj;rw[sd];have:=List.pairwise_iff_getElem.1 h j k (by omega) hk (by omega);omega
theorem Tf.ok(hs:DS s){l:List Ad}(h:Tf s l):JO s l=some true:=by
 have h0:=h.pos;have h1:=h.len;refine Ok.val ?_;unfold JO;refine Ok.lp l.length (λrec=>Ok.f (Ok.some (by grind))) λrec k hk ih=>Ok.t ?_;obtain⟨⟨i,hc,i0,i1,hC⟩,hp⟩:=h.all _ (qa hk);refine Ok.idxn hk (Ok.bindE (x:=0) ?_ (Ok.no rfl ?_))
 ·refine Ok.val ?_;unfold LC;exact Ok.bindE hs.check (Ok.no rfl (Ok.bindE (kx hs hp) (Ok.some rfl)))
 ·rw[hc];refine Ok.idxn i1 (Ok.no (by rw[hC.kind];rfl) (Ok.t ?_));rw[aK _ (by omega),Wd (p:=λa0=>IT a0 l[k]) (λp=>p.B==l[k].B) (λ_ _=>rfl) (by grind)];refine Ok.no (List.any_eq_false.2 λp hp=>?_) (ih _ EE);have:=Zb h.asc (k:=k) (by grind) p.B (by rw[<-List.map_take];exact sF hp);grind
theorem aF{l:List Int}{x:Int}(hx:x ∉ l)(hl:l.length<=1000000):AU l x=some false:=by
 unfold AU
 have:Ck l x=some (-1):=by
  refine Ok.val ?_;unfold Ck;refine Ok.lp l.length (λrec=>Ok.f (Ok.some rfl)) λrec k hk ih=>Ok.t (Ok.idxn hk (Ok.no (beq_eq_false_iff_ne.2 λe=>hx ?_) (ih _ EE)));grind
 grind
theorem Wo.ok{m:Int}{l:List Int}(h:Wo s m l):IA s m l=some true:=by
 have h0:=h.pos;have h1:=h.len;refine Ok.val ?_;unfold IA;refine Ok.lp l.length (λrec=>Ok.f (Ok.some (by grind))) λrec k hk ih=>Ok.t ?_;obtain⟨hM,hne⟩:=h.all _ (qa hk);refine Ok.idxn hk (Ok.bindE hM.measure (Ok.no (by grind) (Ok.t ?_)));rw[aK _ (by omega),aF (λhm=>Zb h.asc hk _ hm rfl) (by grind)];exact Ok.bindE rfl (Ok.no rfl (ih _ EE))
def lG(ns:List ByteArray):Prop:=∀nm∈ns,CN nm=some true
theorem EN.right(hs:DS s){ns:List ByteArray}(hn:lG ns):∀{n d:Nat}{e:Ap},EN s ns n e->40+2*n<=d->BY (d+2) s e=some true:=by
 intro n d e h
 induction h generalizing d with
 | int n k h=>exact λhd=>Kt hs (by omega) rfl (Gs rfl (.inr rfl) (.inr rfl) (.inr rfl) (.inr rfl)) (by show some (bif decide (k>=-1099511627776)then decide (k<=1099511627776)else false)=_;rw[dt,dt];rfl) (λh=>by cases h) (λh=>by cases h) (by simp[eX]) (λh=>by cases h) λk hk=>by simp[eX]at hk
 | name n nm h=>exact λhd=>Kt hs (by omega) rfl (Gs rfl (.inl rfl) (.inr rfl) (.inr rfl) (.inr rfl)) (Ok.val (Ok.no rfl (Ok.yes rfl (Ok.bindE (hn nm h) (Ok.some rfl))))) (λh=>by cases h) (λh=>by cases h) (by simp[eX]) (λh=>by cases h) λk hk=>by simp[eX]at hk
 | count n c h=>exact λhd=>Kt hs (by omega) rfl (Gs rfl (.inr rfl) (.inl rfl) (.inr rfl) (.inr rfl)) rfl (λ_=>h) (λh=>by cases h) (by simp[eX]) (λh=>by cases h) λk hk=>by simp[eX]at hk
 | sum n op m c ho hm h =>
   intro hd;rcases ho with rfl|rfl
   ·exact Kt hs (by omega) rfl (Gs rfl (.inr rfl) (.inl rfl) (.inr rfl) (.inr rfl)) (Ok.val (Ok.no rfl (Ok.no rfl (Ok.yes rfl (Ok.bindE hm.measure (Ok.some rfl)))))) (λ_=>h) (λh=>by cases h) (by simp[eX]) (λh=>by cases h) λk hk=>by simp[eX]at hk
   ·exact Kt hs (by omega) rfl (Gs rfl (.inr rfl) (.inl rfl) (.inr rfl) (.inr rfl)) (Ok.val (Ok.no rfl (Ok.no rfl (Ok.no rfl (Ok.yes rfl (Ok.bindE hm.measure (Ok.some rfl))))))) (λ_=>h) (λh=>by cases h) (by simp[eX]) (λh=>by cases h) λk hk=>by simp[eX]at hk
 | pair n op a b ho ha hb iha ihb =>
   intro hd;obtain⟨d,rfl⟩:∃k,d=k+2:=⟨d-2,by omega⟩
   have hk:∀k∈[a,b],DX k.Op=some true/\BY (d+2) s k=some true:=λk hk=>by
    simp only[sf,sB,or_false]at hk;rcases hk with rfl|rfl
    ·exact⟨ha.op.1,iha (by omega)⟩
    ·exact⟨hb.op.1,ihb (by omega)⟩
   rcases ho with rfl|rfl|rfl|rfl<;>exact Kt hs (by omega) rfl (Gs rfl (.inr rfl) (.inr rfl) (.inr rfl) (.inl rfl)) rfl (λh=>by cases h) (λh=>by cases h) (by simp[eX]) (λ_=>rfl) hk
theorem ET.right(hs:DS s){e:Ap}(h:ET s e){d:Nat}(hd:40<=d):BY (d+2) s e=some true:=by
 have k0:∀k∈e.E,DX k.Op=some true/\BY d s k=some true:=λk hk=>by rw[h.kids]at hk;cases hk
 cases h with
 | table m dims c hm hD h =>
   refine Kt hs hd rfl (Gs rfl (.inr rfl) (.inl rfl) (.inr rfl) (.inr rfl)) (Ok.val ?_) (λ_=>h) (λh=>by cases h) (by simp[eX]) (λh=>by cases h) k0
   iterate 5 refine Ok.no rfl ?_
   refine Ok.yes rfl (Ok.bindE (hD.ok hs) (Ok.yes rfl (Ok.br (λ_=>Ok.some rfl) λe=>?_)));rcases hm with rfl|hm
   ·cases e
   ·exact Ok.bindE hm.measure (Ok.some rfl)
 | model m cols c hm hc h =>
   refine Kt hs hd rfl (Gs rfl (.inr rfl) (.inl rfl) (.inr rfl) (.inr rfl)) (Ok.val ?_) (λ_=>h) (λh=>by cases h) (by simp[eX]) (λh=>by cases h) k0
   iterate 6 refine Ok.no rfl ?_
   exact Ok.yes rfl (Ok.bindE hm.measure (Ok.yes rfl (Ok.bindE hc.ok (Ok.some rfl))))
 | curve m ev c hm hl he h =>
   obtain⟨i,rfl,_,hi,hM⟩:=hm;refine Kt hs hd rfl (Gs rfl (.inr rfl) (.inl rfl) (.inl rfl) (.inr rfl)) (Ok.val ?_) (λ_=>h) (λ_=>he) (by simp[eX]) (λh=>by cases h) k0
   iterate 7 refine Ok.no rfl ?_
   exact Ok.yes rfl (Ok.bindE (UD hi hM) (Ok.yes rfl (Ok.idxn hi (Ok.some (qh (hl _ (FA hi)))))))
 | hist m w c hw h =>
   obtain⟨i,rfl,_,hi,hM,hw⟩:=hw;refine Kt hs hd rfl (Gs rfl (.inr rfl) (.inl rfl) (.inr rfl) (.inr rfl)) (Ok.val ?_) (λ_=>h) (λh=>by cases h) (by simp[eX]) (λh=>by cases h) k0
   iterate 8 refine Ok.no rfl ?_
   exact Ok.yes rfl (Ok.bindE (UD hi hM) (Ok.yes rfl (Ok.idxn hi (Ok.bindE (aG hw (by have:=E8 hM;omega)) (Ok.some rfl)))))
 | box m c hm h =>
   refine Kt hs hd rfl (Gs rfl (.inr rfl) (.inl rfl) (.inr rfl) (.inr rfl)) (Ok.val ?_) (λ_=>h) (λh=>by cases h) (by simp[eX]) (λh=>by cases h) k0
   iterate 4 refine Ok.no rfl ?_
   exact Ok.yes rfl (Ok.bindE hm.measure (Ok.some rfl))
end Go.Proofs.YthchnhoalhbkcaaGreatDoor.P
namespace Go.Proofs.YthchnhoalhbkcaaGreatDoor.P
open Go Go.Abs Go.Proofs
set_option maxRecDepth 100000
variable {s:Aa} {ns:List ByteArray}
def bn:Nat->Nat
 | 0=>1
 | n+1=>1+2*bn n
theorem aH:∀(n d:Nat){e:Ap}{m:Int},EN s ns n e->n<d->n<=5->-1000<=m->m<=1000->Ok (E0 d e m) λr=>1<=r/\r<=bn n
 | n,d+1,e,m,h,hd,hn,m0,m1=>by
   obtain⟨k1,k2⟩:=h.kids;have hb:bn n<=63/\1<=bn n:=by rcases(by omega:n=0\/n=1\/n=2\/n=3\/n=4\/n=5)with rfl|rfl|rfl|rfl|rfl|rfl<;>decide
   show Ok (Eg d (E0 d) e m) _;unfold Eg;refine Ok.for (λq=>q.2) e.E.length (λk q=>1<=q.1/\q.1<=1+(k:Int)*bn (n-1)/\q.1<=bn n) 0 (pY _) rfl ⟨by show(1:Int)<=1;omega,by show(1:Int)<=1+((0:Nat):Int)*bn (n-1);omega,by show(1:Int)<=bn n;omega⟩ (by omega) (λrec q hq hI=>?_) λrec k q hk hq hI ih=>?_
   ·simp only[Gm,hq];exact Ok.f (Ok.some ⟨hI.1,hI.2.2⟩)
   ·simp only[Gm,hq];obtain⟨j,hj,hr⟩:=k2 _ (qa hk);subst hj;rw[sO]at hI;have e1:bn (j+1)=1+2*bn j:=rfl
    have e2:(k:Int)*bn j<=bn j:=by have:(k:Int)=0\/(k:Int)=1:=by omega
                                   grind
    refine Ok.t (Ok.idxn hk (Ok.brd (λ_=>Ok.some ⟨hI.1,hI.2.2⟩) λ_=>?_));rw[wr];refine(aH j d hr (by omega) (by omega) (by omega) (by omega)).bind λr hr=>ih _ EE ?_;show 1<=i64.wrap (q.1+r)/\i64.wrap (q.1+r)<=1+((k+1:Nat):Int)*bn (j+1-1)/\i64.wrap (q.1+r)<=bn (j+1);rw[wr,sO,Int.natCast_add,Int.add_mul];omega
theorem eU:∀(n d:Nat){e:Ap},EN s ns n e->n<d->n<=5->Ok (FD d e) λr=>1<=r/\r<=n+1
 | n,d+1,e,h,hd,hn=>by
   obtain⟨k1,k2⟩:=h.kids;show Ok (EQ d (FD d) e) _;unfold EQ;refine Ok.for (λq=>q.2) e.E.length (λk q=>0<=q.1/\q.1<=n) 0 (pY _) rfl ⟨rk _,by show(0:Int)<=n;omega⟩ (by omega) (λrec q hq hI=>?_) λrec k q hk hq hI ih=>?_
   ·simp only[GT,hq];refine Ok.f ?_;rw[wr];exact Ok.some ⟨by omega,by omega⟩
   ·simp only[GT,hq];obtain⟨j,hj,hr⟩:=k2 _ (qa hk);subst hj;refine Ok.t (Ok.idxn hk ((eU j d hr (by omega) (by omega)).bind λr hr=>ih _ EE ?_));grind
theorem bM{f:ByteArray->Option Bool}(hf:∀nm∈ns,f nm=some true):∀(n d:Nat){e:Ap},EN s ns n e->2*n+1<d->Dc d e f=some true
 | n,d+2,e,h,hd=>by
   obtain⟨k1,k2⟩:=h.kids;refine Ok.val ?_;show Ok (Eh (d+1) (Dc (d+1)) (Cv (d+1)) e f) _;unfold Eh
   have hend:Ok ((Av e.E (λa0=>Cv (d+1) a0 f)).bind λx18=>some (!x18)) (·=true):=by
    refine Ok.bindE (Zf (λx hx=>Ok.val ?_) k1) (Ok.some rfl);obtain⟨j,hj,hr⟩:=k2 x hx;show Ok (ER d (Dc d) (Cv d) x f) _;unfold ER;exact Ok.bindE (bM hf j d hr (by omega)) (Ok.some rfl)
   refine Ok.br (λh2=>?_) λ_=>hend
   cases h with
   | name n nm hm=>exact Ok.bindE (hf nm hm) (Ok.no rfl hend)
   | sum n op m c ho=>rcases ho with rfl|rfl<;>cases h2
   | pair n op a b ho=>rcases ho with rfl|rfl|rfl|rfl<;>cases h2
   | int=>cases h2
   | count=>cases h2
theorem oK{bs:List A9}{nm:ByteArray}{ρ:Type}{G K:Int->Option ρ}{Q:ρ->Prop}(hx:∃b∈bs,b.H.toList=nm.toList)(hG:∀(i:Nat)(hi:i<bs.length),bs[i].H.toList=nm.toList->Ok (G i) Q)(hl:bs.length<=1000000) :
 Ok (P.iter (λrec v=>bif decide (v>=0)then(idx bs v).bind λx=>bif(x.H.toList==nm.toList)then G v else rec (i64.wrap (v-1))else K v) AD (i64.wrap ((bs.length:Int)-1))) Q:=by
 obtain⟨b,hb,he⟩:=hx;obtain⟨j,hj,rfl⟩:=List.mem_iff_getElem.1 hb;rw[wr];refine Ok.loop (λv=>(j:Int)<=v/\v<bs.length) (λv=>v.toNat) ⟨by omega,by omega⟩ (by unfold AD;omega) λrec v hv ih=>?_;obtain⟨i,rfl⟩:∃i:Nat,v=i:=⟨v.toNat,by omega⟩;refine Ok.t (Ok.idxn (by omega) (Ok.br (λe=>hG i (by omega) (sR e)) λe=>?_));have hne:i≠j:=λe2=>by grind
 have ew:i64.wrap ((i:Int)-1)=(i:Int)-1:=wr;rw[ew];exact ih _ ⟨by omega,by omega⟩ (by omega)
def BD(P:AA->Prop)(ns:List ByteArray)(bs:List A9):Prop:=bs.length<=1000/\(∀nm∈ns,∃b∈bs,b.H.toList=nm.toList)/\∀b∈bs,∀nm∈ns,b.H.toList=nm.toList->P b.At
def kd(e:Ap):Int:=if e.Op<10 then 1 else e.Op-8
theorem jJ{bs:List A9}(hB:BD (λv=>v.Kind=1) ns bs):∀(n d:Nat){e:Ap},EN s ns n e->n<d->Ig d bs e=some (1,0)
 | n,d+1,e,h,hd=>by
   obtain⟨k1,k2⟩:=h.kids;refine Ok.val ?_;show Ok (GI d (Ig d) bs e) _;unfold GI;refine Ok.for (λq=>q.2) e.E.length (λk q=>q.1=true) 0 (pY _) rfl rfl (by omega) (λrec q hq hI=>?_) λrec k q hk hq hI ih=>?_
   ·simp only[IK,hq,hI];refine Ok.f ?_;have hrest:(e.Op==2)=false->Ok (Om e bs true) (·=(1,0)):=λh2=>Ok.no h2 (Ok.no rfl (Ok.bindE h.op.1 (Ok.yes rfl (Ok.some rfl))))
    cases h with
    | name n nm hm =>
      refine Ok.yes rfl (oK (hB.2.1 nm hm) (λi hi he=>Ok.idxn hi (Ok.some ?_)) (by have:=hB.1;omega));rw[hB.2.2 _ (qa hi) nm hm he]
    | sum n op m c ho=>rcases ho with rfl|rfl<;>exact hrest rfl
    | pair n op a b ho=>rcases ho with rfl|rfl|rfl|rfl<;>exact hrest rfl
    | int=>exact hrest rfl
    | count=>exact hrest rfl
   ·obtain⟨j,hj,hr⟩:=k2 _ (qa hk);simp only[IK,hq,hI];exact Ok.t (Ok.idxn hk (Ok.bindE (jJ hB j d hr (by omega)) (Ok.no rfl (ih _ EE rfl))))
theorem nT(bs:List A9){d:Nat}{e:Ap}(h:ET s e)(hd:1<=d):Ig d bs e=some (kd e,0):=by
 obtain⟨d,rfl⟩:∃k,d=k+1:=⟨d-1,by omega⟩;have hk:=h.kids;refine Ok.val ?_;show Ok (GI d (Ig d) bs e) _;unfold GI;refine Ok.for (λq=>q.2) 0 (λk q=>q.1=true) 0 (pY _) rfl rfl (by omega) (λrec q hq hI=>?_) λrec k q hk hq hI ih=>absurd hk (by omega);simp only[IK,hq,hI,hk];refine Ok.no rfl ?_
 cases h<;>exact Ok.no rfl (Ok.no rfl (Ok.bindE (x:=false) rfl (Ok.no rfl (Ok.some rfl))))
theorem fw(hs:DS s):∀(n d:Nat){e:Ap},EN s ns n e->40+n<d->Ok (C4 d s e) (NA s)
 | n,d+1,e,h,hd=>by
   have hz:=Xi hs (d:=d) (by omega)
   have hk:e.E.length<=2/\∀k∈e.E,Ok (C4 d s k) (NA s):=⟨h.kids.1,λk hk=>by
    obtain⟨j,hj,hr⟩:=h.kids.2 k hk;exact fw hs j d hr (by omega)⟩
   have d0:(([]:List Ad).length<=10/\∀p∈([]:List Ad),Ut s p):=⟨by simp,(λp hp=>by cases hp)⟩;have c0:(([]:List Int).length<=10/\∀p∈([]:List Int),IM s p):=⟨by simp,(λp hp=>by cases hp)⟩;have n0:¬(0:Int)<0:=by decide
   cases h with
   | int n k h=>exact Lb hs (Oc hs d0 c0 (λh=>absurd h n0) λh=>by cases h) hz hz hk
   | name n nm h=>exact Lb hs (Oc hs d0 c0 (λh=>absurd h n0) λh=>by cases h) hz hz hk
   | count n c h=>exact Lb hs (Oc hs d0 c0 (λh=>absurd h n0) λh=>by cases h) (h.needs hs (by omega)) hz hk
   | sum n op m c ho hm h=>exact Lb hs (Oc hs d0 c0 (λ_=>hm) λh=>by rcases ho with rfl|rfl<;>cases h) (h.needs hs (by omega)) hz hk
   | pair n op a b ho=>exact Lb hs (Oc hs d0 c0 (λh=>absurd h n0) λh=>by rcases ho with rfl|rfl|rfl|rfl<;>cases h) hz hz hk
theorem mg(hs:DS s){d:Nat}{e:Ap}(h:ET s e)(hd:41<d):Ok (C4 d s e) (NA s):=by
 obtain⟨d,rfl⟩:∃k,d=k+1:=⟨d-1,by omega⟩;have hz:=Xi hs (d:=d) (by omega);have hk:e.E.length<=2/\∀k∈e.E,Ok (C4 d s k) (NA s):=by rw[h.kids];exact⟨by simp,(λk hk=>by cases hk)⟩
 have d0:(([]:List Ad).length<=10/\∀p∈([]:List Ad),Ut s p):=⟨by simp,(λp hp=>by cases hp)⟩;have c0:(([]:List Int).length<=10/\∀p∈([]:List Int),IM s p):=⟨by simp,(λp hp=>by cases hp)⟩
 cases h with
 | table m dims c hm hD h=>exact Lb hs (Oc hs ⟨by have:=hD.len;show dims.length<=10;omega,λp hp=>(hD.all p hp).2⟩ c0 (λh=>hm.resolve_left (λe=>absurd h (by show ¬(0:Int)<m;omega))) λh=>by cases h) (h.needs hs (by omega)) hz hk
 | model m cols c hm hc h=>exact Lb hs (Oc hs d0 ⟨by have:=hc.len;show cols.length<=10;omega,λp hp=>(hc.all p hp).1⟩ (λ_=>hm) λh=>by cases h) (h.needs hs (by omega)) hz hk
 | curve m ev c hm hl he h=>exact Lb hs (Oc hs d0 c0 (λ_=>hm) λh=>by cases h) (h.needs hs (by omega)) (he.needs hs (by omega)) hk
 | hist m w c hw h=>exact Lb hs (Oc hs d0 c0 (λ_=>by obtain⟨i,e,i0,i1,hM,_⟩:=hw;exact⟨i,e,i0,i1,hM⟩) λ_=>hw) (h.needs hs (by omega)) hz hk
 | box m c hm h=>exact Lb hs (Oc hs d0 c0 (λ_=>hm) λh=>by cases h) (h.needs hs (by omega)) hz hk
theorem ES.right(hs:DS s)(hn:lG ns){e:Ap}(h:ES s ns e){d:Nat}(hd:50<=d):C7 d s e=some true/\Ok (C4 d s e) (NA s):=by
 obtain⟨d,rfl⟩:∃k,d=k+2:=⟨d-2,by omega⟩;have hr:BY (d+2) s e=some true:=h.elim (λh=>h.right hs hn (by omega)) λh=>h.right hs (by omega);refine⟨Ok.val ?_,h.elim (λh=>fw hs 2 _ h (by omega)) λh=>mg hs h (by omega)⟩;unfold C7;exact Ok.bindE hs.check (Ok.yes rfl (Ok.bindE hr (Ok.some rfl)))
theorem eY{x:As}{n:Nat}(hs:DS s)(hx:R7 s x n)(hn:n<=200)(hN:lG ns){bs:List A9}(hB:BD (λv=>v.Kind=1) ns bs){e:Ap}(h:ES s ns e){d:Nat}(hd:50<=d):KS d s x.X bs e=some (kd e,0):=by
 have hg:=hx.gx hs hn;have hpl:=hg.picks_len hs;obtain⟨h1,h2⟩:=h.right hs hN hd;refine Ok.val ?_;unfold KS;refine Ok.bindE h1 (Ok.no rfl (Ok.bindE (ky hs hg.picks hg.order (by omega)) (Ok.no rfl (h2.bind λr hr=>Ok.bindE (hx.covers hs hr) (Ok.no rfl (Ok.bindE (x:=(kd e,0)) ?_ (Ok.some rfl)))))));rcases h with h|h
 ·rw[jJ hB 2 d h (by omega)];unfold kd;rw[qf h.op.2]
 ·exact nT bs h (by omega)
end Go.Proofs.YthchnhoalhbkcaaGreatDoor.P
namespace Go.Proofs.YthchnhoalhbkcaaGreatDoor.P
open Go Go.Abs Go.Proofs
set_option maxRecDepth 100000
variable {s:Aa}
def vn(k:Nat):ByteArray:=({ data:=#[118] }:ByteArray)++jj k
theorem fV:∀k:Fin 6,CN (vn k)=some true:=by decide +kernel
theorem nx:∀i j:Fin 6,i≠j->(vn i).toList≠(vn j).toList:=by decide +kernel
def N1(l:List Au):List ByteArray:=(l.filter λx=>decide (x.An.Op<10)).map (·.H)
structure PR(s:Aa)(l:List Au):Prop where
 len:l.length<=4
 all:∀(k:Nat)(hk:k<l.length),l[k].H=vn k/\ES s (N1 (l.take k)) l[k].An
theorem PR.take{l:List Au}(h:PR s l)(n:Nat):PR s (l.take n):=by
 refine⟨by rw[qL];have:=h.len;omega,λk hk=>?_⟩;rw[qL]at hk;rw[sd,List.take_take,show min k n=k by omega];exact h.all k (by omega)
theorem PR.mem{l:List Au}(h:PR s l){k:Nat}(hk:k<=l.length){x:Au}(hx:x∈l.take k):∃j,j<k/\x.H=vn j:=by
 obtain⟨j,hj,rfl⟩:=List.mem_iff_getElem.1 hx;rw[qL]at hj;rw[sd];exact⟨j,by omega,(h.all j (by omega)).1⟩
theorem PR.ns{l:List Au}(h:PR s l){k:Nat}(hk:k<=l.length){nm:ByteArray}(hx:nm∈N1 (l.take k)):∃j,j<k/\nm=vn j:=by
 obtain⟨x,hy,rfl⟩:=List.mem_map.1 hx;exact h.mem hk (List.mem_filter.1 hy).1
theorem PR.nmok{l:List Au}(h:PR s l){k:Nat}(hk:k<=l.length):lG (N1 (l.take k)):=λnm hm=>by
 obtain⟨j,hj,rfl⟩:=h.ns hk hm;have:=h.len;exact fV ⟨j,by omega⟩
theorem ie{l:List Au}{k:Nat}(hk:k<l.length):N1 (l.take (k+1))=N1 (l.take k)++if l[k].An.Op<10 then[l[k].H]else[]:=by
 unfold N1;rw[KR _ _ hk,qx];grind
theorem BD.snoc{P:AA->Prop}{l:List Au}(h:PR s l){k:Nat}(hk:k<l.length){bs:List A9}(hB:BD P (N1 (l.take k)) bs)(hN:bs.map (·.H)=(l.take k).map (·.H)){o:Bool}{v:AA}(hv:l[k].An.Op<10->P v):BD P (N1 (l.take (k+1))) (bs++[{ H:=l[k].H,A0:=o,At:=v }]):=by
 have hl:=h.len;have hlen:bs.length=k:=by have:=congrArg List.length hN;simp at this;omega
 have hb:∀b∈bs,∃j,j<k/\b.H=vn j:=λb hb=>by
  have:b.H∈(l.take k).map (·.H):=by grind
  obtain⟨x,hx,he⟩:=List.mem_map.1 this;rw[<-he];exact h.mem (by omega) hx
 have ne:∀{i j:Nat},i<k->(vn i).toList≠(vn k).toList:=λ{i j} hi=>nx ⟨i,by omega⟩ ⟨k,by omega⟩ (by grind);have hk2:=(h.all k hk).1;rw[ie hk];refine⟨by simp;omega,λnm hm=>?_,λb hb' nm hm he=>?_⟩
 ·rcases List.mem_append.1 hm with hm|hm
  ·obtain⟨b,h1,h2⟩:=hB.2.1 nm hm;grind
  ·split at hm
   ·rw[List.mem_singleton.1 hm];exact⟨_,by simp;exact .inr rfl,rfl⟩
   ·cases hm
 ·rcases List.mem_append.1 hb' with hb'|hb'
  ·rcases List.mem_append.1 hm with hm|hm
   ·exact hB.2.2 b hb' nm hm he
   ·obtain⟨j,hj,e⟩:=hb b hb';split at hm
    ·rw[List.mem_singleton.1 hm,e,hk2]at he;exact absurd he (ne (j:=0) hj)
    ·grind
  ·rw[List.mem_singleton.1 hb']at he ⊢;rcases List.mem_append.1 hm with hm|hm
   ·obtain⟨j,hj,rfl⟩:=h.ns (by omega) hm;change l[k].H.toList=_ at he;rw[hk2]at he;exact absurd he.symm (ne (j:=0) hj)
   ·grind
theorem lN{l:List Au}{p:Au->Option Bool}(q:Au->Bool)(hp:∀x∈l,p x=some (q x))(hl:l.length<=1000000000):AN l p=some (l.any q):=by
 unfold AN;rw[show Bn l p=some (Gi q l)from Jp hp hl,qd,KB]
theorem kh{l:List Au}(hl:l.length<=4)(nm:ByteArray):C1 nm l=some (l.any λx=>x.H.toList==nm.toList):=by
 unfold C1;rw[lN (p:=λa0=>Eu a0 nm) (λx=>x.H.toList==nm.toList) (λ_ _=>rfl) (by omega)];rfl
theorem ES.sizes{ns:List ByteArray}{e:Ap}(h:ES s ns e){d:Nat}(hd:20<=d){f:ByteArray->Option Bool}(hf:∀nm∈ns,f nm=some true):Ok (E0 d e 60) (λr=>r<=60)/\Ok (FD d e) (λr=>r<=10)/\Dc d e f=some true:=by
 rcases h with h|h
 ·refine⟨(aH 2 d h (by omega) (by omega) (by omega) (by omega)).mono λr hr=>?_,(eU 2 d h (by omega) (by omega)).mono λr hr=>by omega,bM hf 2 d h (by omega)⟩;have:bn 2=7:=rfl;omega
 ·obtain⟨d,rfl⟩:∃k,d=k+1:=⟨d-1,by omega⟩;have hk:=h.kids;refine⟨?_,?_,Ok.val ?_⟩
  ·show Ok (Eg d (E0 d) e 60) _;unfold Eg;refine Ok.for (λq=>q.2) 0 (λk q=>q.1<=60) 0 (pY _) rfl (by grind) (by omega) (λrec q hq hI=>?_) λrec k q hk hq hI ih=>absurd hk (by omega);simp only[Gm,hq,hk];exact Ok.no rfl (Ok.some hI)
  ·show Ok (EQ d (FD d) e) _;unfold EQ;refine Ok.for (λq=>q.2) 0 (λk q=>q.1=0) 0 (pY _) rfl rfl (by omega) (λrec q hq hI=>?_) λrec k q hk hq hI ih=>absurd hk (by omega);simp only[GT,hq,hk,hI];exact Ok.no rfl (Ok.some (by decide))
  ·show Ok (Eh d (Dc d) (Cv d) e f) _;unfold Eh;have hc:Ok ((Av e.E (λa0=>Cv d a0 f)).bind λx18=>some (!x18)) (·=true):=Ok.bindE (Zf (λx hx=>by rw[hk]at hx;cases hx) (by grind)) (Ok.some rfl)
   cases h<;>exact Ok.no rfl hc
theorem PR.check(hs:DS s){l:List Au}(h:PR s l){d:Nat}(hd:50<=d):Hf d s l=some ((l.length:Int),0):=by
 have hl:=h.len;refine Ok.val ?_;unfold Hf;refine Ok.bindE hs.check (Ok.no rfl (Ok.f (Ok.lp l.length (λrec=>Ok.f (Ok.some rfl)) λrec k hk ih=>Ok.t (Ok.idxn hk (Ok.t ?_)))));obtain⟨h1,h2⟩:=h.all k hk;have hN:=h.nmok (k:=k) (by omega);have hlt:(l.take k).length<=4:=by grind
 rw[aK _ (by omega)];refine Ok.bindE (x:=0) (Ok.val ?_) (Ok.no rfl (ih _ EE))
 obtain⟨a1,a2,a3⟩:=h2.sizes (d:=d) (by omega) (f:=λa0=>C1 a0 (l.take k)) λnm hm=>by
  obtain⟨x,hx,rfl⟩:=List.mem_map.1 hm;rw[kh hlt];grind
 unfold It;rw[h1];refine Ok.bindE (fV ⟨k,by omega⟩) (Ok.no rfl ?_);rw[kh hlt];refine Ok.bindE rfl (Ok.no (List.any_eq_false.2 λx hx=>?_) (a1.bind λr hr=>Ok.f (a2.bind λr hr=>Ok.f (Ok.bindE (h2.right hs hN hd).1 (Ok.no rfl (Ok.bindE a3 (Ok.no rfl (Ok.some rfl))))))));obtain⟨j,hj,e⟩:=h.mem (by omega) hx;rw[e,beq_eq_false_iff_ne.2 (nx ⟨j,by omega⟩ ⟨k,by omega⟩ (by grind))];decide
theorem PR.types{x:As}{n:Nat}(hs:DS s)(hx:R7 s x n)(hn:n<=200){l:List Au}(h:PR s l){d:Nat}(hd:50<=d):Ok (IJ d s x.X l) λr=>r.2=((l.length:Int),0):=by
 have hl:=h.len;unfold IJ;refine Ok.bindE (h.check hs hd) (Ok.no rfl (Ok.for (λq=>q.1) l.length (λk q=>q.2.1.length=k/\q.2.2.map (·.H)=(l.take k).map (·.H)/\BD (λv=>v.Kind=1) (N1 (l.take k)) q.2.2) 0 (pY _) rfl ⟨rfl,rfl,by simp,(λnm hm=>by cases hm),(λb hb=>by cases hb)⟩ (by omega) (λrec q hq hI=>?_) λrec k q hk hq hI ih=>?_))
 ·simp only[I0,hq];exact Ok.f (Ok.some rfl)
 ·obtain⟨i1,i2,i3⟩:=hI;have hlen:q.2.2.length=k:=by have:=congrArg List.length i2;simp at this;omega
  simp only[I0,hq];refine Ok.t (Ok.idxn hk (Ok.bindE (eY hs hx hn (h.nmok (by omega)) i3 (h.all k hk).2 hd) (Ok.no rfl (Ok.rm (by simp;omega) (Ok.rm (by grind) (ih _ EE ⟨by simp;exact i1,?_,BD.snoc h hk i3 i2 λe=>qf e⟩))))));show List.map _ (q.2.2++[_])=_;rw[qx,i2,qo hk,qx];rfl
end Go.Proofs.YthchnhoalhbkcaaGreatDoor.P
