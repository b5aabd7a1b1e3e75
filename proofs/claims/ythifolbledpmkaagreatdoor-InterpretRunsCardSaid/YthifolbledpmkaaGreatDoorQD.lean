/- QD -/
import Derived.Test.YthifolbledpmkaaGreatDoorQB
open Option renaming some → θ
open Bool renaming true → ν, false → ξ
open Decidable renaming decide → υ
open List renaming length → Ξ
open Go.IntKind (i64 u64)
set_option linter.all false
open Go.IntKind (i64)
namespace Go.Proofs.YthifolbledpmkaaGreatDoor.P
open Go Go.Abs Go.Proofs
set_option maxRecDepth 100000
variable {s:Aa}
theorem mW:∀d c,nds d c<=d->d<=1000->Ok (D6 d c) λr=>1<=r/\r<=nds d c/\∀k:Nat,r<=k+1->DP k c
 | 0,c,h,_=>by have:=XZ 0 c;omega
 | d+1,c,h,hd=>by
   have u:nds (d+1) c=1+(c.D.map (nds d)).sum:=rfl;have f:=eN (d:=d) c.D (Ξ c.D) (Zam _);rw[Zaj]at f;show Ok (Ey d (D6 d) c) _;unfold Ey;refine Wf (λq=>q.2) (Ξ c.D) (λk q=>0<=q.1/\q.1<=(((c.D.take k).map (nds d)).sum)/\∀j b,j<k->1<=q.1/\∀m:Nat,q.1<=m+1->DP m c.D[j]) 0 (Zag _) rfl ⟨Zbh _,zs,λj _ b=>z0⟩ z0 (λrec q g i=>?_) λrec k q l g i ih=>?_;have⟨o,h1,h2⟩:=i;rw[Zaj]at h1;rw[FP,g];rw[Bl,wr];refine KK ⟨z0,z0,λk l=>?_⟩
   cases k with
   | zero=>
     cases e:c.D with
     | nil=>exact e
     | cons a r=>have:=(h2 0 (by grind) (by grind)).1;omega
   | succ m=>
     intro x hx;obtain⟨j,b,rfl⟩:=List.mem_iff_getElem.1 hx;grind
   have⟨o,h1,h2⟩:=i;have v:=UW (d:=d) l;have w:=Nz (d:=d) c.D (k+1);have y:=z0;rw[FP,g];rw[AK];refine JT l (Ok.bind (mW d c.D[k] z0 z0) λr hr=>ih _ BE ?_);have⟨z,A,p⟩:=hr;show 0<=(if r>q.1 then r else q.1)/\(if r>q.1 then r else q.1)<=_/\∀j b,j<k+1->1<=(if r>q.1 then r else q.1)/\∀m:Nat,(if r>q.1 then r else q.1)<=m+1->DP m c.D[j];refine⟨by split<;>omega,by split<;>omega,λj b t=>?_⟩;grind
inductive C1(s:Aa):Ae->Prop
 | all:C1 s ZA
 | under (i:Nat) (hi0:1<=i) (hi:i<Ξ s.A) (h:Iy s.A[i]) (L:Am) (hL:L∈Ym) (hL2:idx s.S s.A[i].Al=some L) (k:Int) (h0:0<=k) (h1:k<Ξ L.X):C1 s { Op:=2,B:=i,Af:=k,C:=0,E:=0,D:=[] }
 | between (i:Nat) (hi0:1<=i) (hi:i<Ξ s.A) (h:Do s.A[i]) (l u:Int) (h0:-1000000<=l) (h1:l<=u) (h2:u<=1000000):C1 s { Op:=3,B:=i,Af:=0,C:=l,E:=u,D:=[] }
 | miss (i:Nat) (hi0:1<=i) (hi:i<Ξ s.A) (h:Do s.A[i]) (ho:s.A[i].An=true):C1 s { Op:=4,B:=i,Af:=0,C:=0,E:=0,D:=[] }
 | two (op:Int) (ho:op=5\/op=6) (a b:Ae):C1 s { Op:=op,B:=0,Af:=0,C:=0,E:=0,D:=[a,b] }
 | not (a:Ae):C1 s { Op:=7,B:=0,Af:=0,C:=0,E:=0,D:=[a] }
def jW s c self:=iter (λrec1 s_1=>Ie c self s (λv7_1=>θ 0) rec1 s_1) Ay 0
def pY s(m k:Int):(∃(i:Nat)(b:i<Ξ s.A),m=i/\ID s m k=θ (s.A[i].Kind==k))\/((m<0\/m>=Ξ s.A)/\ID s m k=θ ξ):=by
 by_cases h:0<=m/\m<Ξ s.A;obtain⟨i,rfl⟩:∃i:Nat,m=i:=⟨m.toNat,z0⟩;exact .inl ⟨i,z0,rfl,nM z0 k⟩;refine .inr ⟨z0,?_⟩;unfold ID;grind
def rK{l:List Ae}(h:(Ξ l:Int)=0):l=[]:=Zau z0
theorem Adu{l:List Ae}(h:(Ξ l:Int)=1):∃a,l=[a]:=by
 match l,h with
 | [a],_=>grind
theorem kids2{l:List Ae}(h:(Ξ l:Int)=2):∃a b,l=[a,b]:=by
 match l,h with
 | [a,b],_=>grind
def pf{x:Int}(h:x≠0):(x != 0)=ν:=by grind
def tc{x:Int}(h:x≠0):(x==0)=ξ:=by grind
def pZ{l:List Ae}(h:Ξ l≠0):((Ξ l:Int) != 0)=ν:=by grind
def zt(R:DS s)d self c:∃e,Bn s c=θ e/\Eo d self s c=(bif e != 0 then θ e else jW s c self)/\(e=0->C1 s c):=by
 have⟨m,b,code,lo,k,f⟩:=c
 have q:∀(n c' S T U:Int),(bif(bif(bif(bif((Ξ f:Int) != n)then ν else(c' != b))then ν else(S != code))then ν else(T != lo))then ν else(U != k))=υ ¬((Ξ f:Int)=n/\c'=b/\S=code/\T=lo/\U=k):=by grind
 by_cases Z:m<1\/m>7
 ·refine⟨4,?_,?_,λh=>by cases h⟩
  ·unfold Bn;grind
  unfold Eo
  grind
 have p:∀n:Int,(m=1/\n=0)\/(m=5/\n=2)\/(m=6/\n=2)\/(m=7/\n=1)->∃e,Bn s ⟨m,b,code,lo,k,f⟩=θ e/\AH ⟨m,b,code,lo,k,f⟩ s self n 0 0 0 0=(bif e != 0 then θ e else jW s ⟨m,b,code,lo,k,f⟩ self)/\(e=0->(Ξ f:Int)=n/\b=0/\code=0/\lo=0/\k=0):=by
  intro n hon;have B:NV m=θ n:=by rcases hon with⟨rfl,rfl⟩|⟨rfl,rfl⟩|⟨rfl,rfl⟩|⟨rfl,rfl⟩<;>rfl
  have z:(bif υ (m<1)then ν else υ (m>7))=ξ:=by grind
  have V:(m==2)=ξ:=beq_eq_false_iff_ne.2 z0;have W:(m==3)=ξ:=beq_eq_false_iff_ne.2 z0;have Y:(m==4)=ξ:=beq_eq_false_iff_ne.2 z0;have m2:(m != 2)=ν:=by grind
  have m3:(m != 3)=ν:=by grind
  have m4:(m != 4)=ν:=by grind
  by_cases o:Ξ f=n/\0=b/\0=code/\0=lo/\0=k
  ·obtain⟨h1,rfl,rfl,rfl,rfl⟩:=o;refine⟨0,?_,?_,λ_=>⟨h1,rfl,rfl,rfl,rfl⟩⟩;unfold Bn DN;simp[z,B,h1,V,W,Y,m2,m3,m4];unfold AH BW C5;rw[q,Zap (by simp[h1])];simp only[V,W,Y,Zaq];rfl
  ·refine⟨11,?_,?_,λh=>by cases h⟩
   ·unfold Bn;dsimp only;rw[z,Zaq,B,Zad];by_cases r:(Ξ f:Int)=n
    ·have N:DN ⟨m,b,code,lo,k,f⟩=θ ξ:=by
      unfold DN;grind
     grind
    grind
   unfold AH;grind
 rcases(by omega:m=1\/m=2\/m=3\/m=4\/m=5\/m=6\/m=7)with rfl|rfl|rfl|rfl|rfl|rfl|rfl;have⟨e,h1,h2,u⟩:=p 0 (.inl ⟨rfl,rfl⟩);refine⟨e,h1,h2,λh=>?_⟩;obtain⟨a,rfl,rfl,rfl,rfl⟩:=u h;rw[rK a];exact .all
 ·
   by_cases o:(Ξ f:Int)=0/\b=b/\code=code/\0=lo/\0=k
   ·obtain⟨h1,_,_,rfl,rfl⟩:=o;have C:=rK h1;subst C
    have h2:∀X:Option Int,Eo d self s ⟨2,b,code,0,0,[]⟩=X↔(ID s b 2).bind (λD=>bif(!D)then θ 7 else BW ⟨2,b,code,0,0,[]⟩ s self)=X:=by
     intro X;show AH _ s self 0 b code 0 0=X↔_;unfold AH;grind
    have u:∀X:Option Int,Bn s ⟨2,b,code,0,0,[]⟩=X↔(bif(bif(υ (b<0))then ν else(υ (b>=Ξ s.A)))then θ 7 else Bh s ⟨2,b,code,0,0,[]⟩)=X:=λX=>Iff.rfl;rcases pY s b 2 with⟨i,k,rfl,w⟩|⟨hr,w⟩
    ·have l:(bif(υ ((i:Int)<0))then ν else(υ (((i:Nat):Int)>=(Ξ s.A:Int))))=ξ:=by rw[df,df];rfl
     have t:Bh s ⟨2,i,code,0,0,[]⟩=(bif(s.A[i].Kind != 2)then θ 7 else bif(υ (code<0))then θ 6 else(idx s.S s.A[i].Al).bind λx77=>bif(υ (code>=Ξ x77.X))then θ 6 else θ 0):=by
      unfold Bh;rw[AY k];rfl
     by_cases j:s.A[i].Kind=2
     ·have hm:Iy s.A[i]/\1<=i:=by
       rcases R.cl k with⟨_,g⟩|⟨P,g|g⟩;rw[g]at j;cases j;exact⟨g,P⟩;rw[g.kind]at j;cases j
      have⟨L,hL,E⟩:=R.clist hm.1;by_cases A:code<0
      ·refine⟨6,(u _).2 ?_,(h2 _).2 ?_,λh=>by cases h⟩;rw[l,Zaq,t,j,Zak A];rfl;rw[w,j];unfold BW;grind
      ·by_cases I:code>=Ξ L.X
       ·refine⟨6,(u _).2 ?_,(h2 _).2 ?_,λh=>by cases h⟩;rw[l,Zaq,t,j,Zap A,E,Zad,Zak I];rfl;rw[w,j];unfold BW;rw[Zap A,AY k,Zad,Zad,E,Zad,Zak I];rfl
       ·refine⟨0,(u _).2 ?_,(h2 _).2 ?_,λ_=>.under i hm.2 k hm.1 L hL E code z0 z0⟩;rw[l,Zaq,t,j,Zap A,E,Zad,Zap I];rfl;rw[w,j];unfold BW;rw[Zap A,AY k,Zad,Zad,E,Zad,Zap I];rfl
     ·have r:(s.A[i].Kind==2)=ξ:=beq_eq_false_iff_ne.2 j;refine⟨7,(u _).2 ?_,(h2 _).2 ?_,λh=>by cases h⟩;rw[l,Zaq,t,bne,r];rfl;grind
    ·refine⟨7,(u _).2 ?_,(h2 _).2 ?_,λh=>by cases h⟩
     all_goals grind
   ·refine⟨11,?_,?_,λh=>by cases h⟩
    ·unfold Bn;by_cases r:Ξ f=0
     ·have C:=Zau r;subst C
      have N:DN ⟨2,b,code,lo,k,[]⟩=θ ξ:=by
       by_cases F:lo=0;subst F;show θ (bif ξ then ν else bif ν then(k==0)else ξ)=_;rw[tc λG=>o ⟨rfl,rfl,rfl,rfl,G.symm⟩];rfl;show θ (bif ξ then ν else bif(lo==0)then(k==0)else ξ)=_;grind
      exact Ok.val (Ok.no rfl (qr (x:=0) rfl (Ok.no rfl (qr N (Vc rfl (KK rfl))))))
     exact Ok.val (Ok.no rfl (qr (x:=0) rfl (Vc (pZ r) (KK rfl))))
    show AH _ s self 0 b code 0 0=_;unfold AH;grind
 ·
   by_cases o:(Ξ f:Int)=0/\b=b/\0=code/\lo=lo/\k=k
   ·obtain⟨h1,_,rfl,_,_⟩:=o;have C:=rK h1;subst C
    have h2:∀X:Option Int,Eo d self s ⟨3,b,0,lo,k,[]⟩=X↔(ID s b 3).bind (λD=>bif(!D)then θ 7 else C5 ⟨3,b,0,lo,k,[]⟩ self s)=X:=by
     intro X;show AH _ s self 0 b 0 lo k=X↔_;unfold AH;rw[q,Zap zs];exact Iff.rfl
    have u:∀X:Option Int,Bn s ⟨3,b,0,lo,k,[]⟩=X↔(bif(bif(υ (b<0))then ν else(υ (b>=Ξ s.A)))then θ 7 else Bh s ⟨3,b,0,lo,k,[]⟩)=X:=λX=>Iff.rfl;rcases pY s b 3 with⟨i,v,rfl,w⟩|⟨hr,w⟩
    ·have l:(bif(υ ((i:Int)<0))then ν else(υ (((i:Nat):Int)>=Ξ s.A)))=ξ:=by rw[df,df];rfl
     have t:Bh s ⟨3,i,0,lo,k,[]⟩=(bif(s.A[i].Kind != 3)then θ 7 else bif(bif(bif(υ (lo>k))then ν else(υ (lo<(-1000000))))then ν else(υ (k>1000000)))then θ 2 else θ 0):=by
      unfold Bh;rw[AY v];rfl
     by_cases j:s.A[i].Kind=3
     ·have⟨P,g⟩:=wR R v j;by_cases hr:-1000000<=lo/\lo<=k/\k<=1000000
      ·refine⟨0,(u _).2 ?_,(h2 _).2 ?_,λ_=>.between i P v g lo k hr.1 hr.2.1 hr.2.2⟩;rw[l,Zaq,t,j,Zap (by grind),Zap (by grind),Zap (by grind)];rfl;rw[w,j];unfold C5;dsimp only;rw[Zap (by omega:¬lo>k),Zap (by grind),Zap (by grind)];rfl
      ·have r:(bif(bif(υ (lo>k))then ν else(υ (lo<(-1000000))))then ν else(υ (k>1000000)))=ν:=by
        grind
       have O:(bif(bif(υ (lo<(-1000000)))then ν else(υ (k>1000000)))then ν else(υ (lo>k)))=ν:=by grind
       refine⟨2,(u _).2 ?_,(h2 _).2 ?_,λh=>by cases h⟩;rw[l,Zaq,t,j,r];rfl;rw[w,j];unfold C5;grind
     ·have r:=beq_eq_false_iff_ne.2 j;refine⟨7,(u _).2 ?_,(h2 _).2 ?_,λh=>by cases h⟩;rw[l,Zaq,t,bne,r];rfl;grind
    ·refine⟨7,(u _).2 ?_,(h2 _).2 ?_,λh=>by cases h⟩
     all_goals grind
   ·refine⟨11,?_,?_,λh=>by cases h⟩
    ·unfold Bn;by_cases r:Ξ f=0;have C:=Zau r;subst C
     have N:DN ⟨3,b,code,lo,k,[]⟩=θ ξ:=by
      show(bif(code != 0)then θ ξ else θ ν)=_;grind
     exact Ok.val (Ok.no rfl (qr (x:=0) rfl (Ok.no rfl (qr N (Vc rfl (KK rfl))))));exact Ok.val (Ok.no rfl (qr (x:=0) rfl (Vc (pZ r) (KK rfl))))
    show AH _ s self 0 b 0 lo k=_;unfold AH;grind
 ·
   by_cases o:(Ξ f:Int)=0/\b=b/\0=code/\0=lo/\0=k
   ·obtain⟨h1,_,rfl,rfl,rfl⟩:=o;have C:=rK h1;subst C
    have h2:∀X:Option Int,Eo d self s ⟨4,b,0,0,0,[]⟩=X↔(ID s b 3).bind (λD=>bif(!D)then θ 7 else(idx s.A b).bind λQ=>bif(!Q.An)then θ 7 else jW s ⟨4,b,0,0,0,[]⟩ self)=X:=by
     intro X;show AH _ s self 0 b 0 0 0=X↔_;unfold AH;rw[q,Zap zs];exact Iff.rfl
    have u:∀X:Option Int,Bn s ⟨4,b,0,0,0,[]⟩=X↔(bif(bif(υ (b<0))then ν else(υ (b>=Ξ s.A)))then θ 7 else Bh s ⟨4,b,0,0,0,[]⟩)=X:=λX=>Iff.rfl;rcases pY s b 3 with⟨i,v,rfl,w⟩|⟨hr,w⟩
    ·have l:(bif(υ ((i:Int)<0))then ν else(υ (((i:Nat):Int)>=Ξ s.A)))=ξ:=by rw[df,df];rfl
     have t:Bh s ⟨4,i,0,0,0,[]⟩=(bif(bif(s.A[i].Kind != 3)then ν else(!s.A[i].An))then θ 7 else θ 0):=by
      unfold Bh;rw[AY v];rfl
     by_cases j:s.A[i].Kind=3
     ·have⟨P,g⟩:=wR R v j
      cases ho:s.A[i].An with
      | true=>
        refine⟨0,(u _).2 ?_,(h2 _).2 ?_,λ_=>.miss i P v g ho⟩;rw[l,Zaq,t,j,ho];rfl;rw[w,j,AY v,Zad,Zad,ho];rfl
      | false=>
        refine⟨7,(u _).2 ?_,(h2 _).2 ?_,λh=>by cases h⟩;rw[l,Zaq,t,j,ho];rfl;rw[w,j,AY v,Zad,Zad,ho];rfl
     ·have r:(s.A[i].Kind==3)=ξ:=beq_eq_false_iff_ne.2 j;refine⟨7,(u _).2 ?_,(h2 _).2 ?_,λh=>by cases h⟩;rw[l,Zaq,t,bne,r];rfl;grind
    ·refine⟨7,(u _).2 ?_,(h2 _).2 ?_,λh=>by cases h⟩
     all_goals grind
   ·refine⟨11,?_,?_,λh=>by cases h⟩
    ·unfold Bn;by_cases r:Ξ f=0
     ·have C:=Zau r;subst C
      have N:DN ⟨4,b,code,lo,k,[]⟩=θ ξ:=by
       show(bif(code != 0)then θ ξ else θ (bif ξ then ν else bif(lo==0)then(k==0)else ξ))=_;grind
      exact Ok.val (Ok.no rfl (qr (x:=0) rfl (Ok.no rfl (qr N (Vc rfl (KK rfl))))))
     exact Ok.val (Ok.no rfl (qr (x:=0) rfl (Vc (pZ r) (KK rfl))))
    show AH _ s self 0 b 0 0 0=_;unfold AH;grind
 have⟨e,h1,h2,u⟩:=p 2 (.inr (.inl ⟨rfl,rfl⟩));refine⟨e,h1,h2,λh=>?_⟩;obtain⟨a,rfl,rfl,rfl,rfl⟩:=u h;obtain⟨x,y,rfl⟩:=kids2 a;exact .two 5 (.inl rfl) x y;have⟨e,h1,h2,u⟩:=p 2 (.inr (.inr (.inl ⟨rfl,rfl⟩)));refine⟨e,h1,h2,λh=>?_⟩;obtain⟨a,rfl,rfl,rfl,rfl⟩:=u h;obtain⟨x,y,rfl⟩:=kids2 a;exact .two 6 (.inr rfl) x y;have⟨e,h1,h2,u⟩:=p 1 (.inr (.inr (.inr ⟨rfl,rfl⟩)));refine⟨e,h1,h2,λh=>?_⟩;obtain⟨a,rfl,rfl,rfl,rfl⟩:=u h;obtain⟨x,rfl⟩:=Adu a;exact .not x
def ue{c}{f g}(A:Ξ c.D<=1000)(h:∀k∈c.D,∃e,f s k=θ e/\g s k=θ e):
 ∃e,iter (λa b=>BV c f s (λd=>θ 0) a b) Ay 0=θ e/\jW s c g=θ e/\(e=0->∀k∈c.D,f s k=θ 0):=by
 have r:iter (λa b=>BV c f s (λd=>θ 0) a b) Ay 0=jW s c g:=by
  unfold jW;refine V8 (λv:Int=>0<=v) (λt u v B hr=>?_) Ay 0 (Zbh _);unfold BV Ie;by_cases l:v<Ξ c.D;rw[Zak l,Zav,Zav];obtain⟨k,rfl⟩:∃k:Nat,v=k:=⟨v.toNat,z0⟩;have m:k<Ξ c.D:=z0;rw[AY m,Zad,Zad];have⟨e,h1,h2⟩:=h _ (Zae m);rw[h1,h2,Zad,Zad];by_cases he:e=0;subst he;show t _=u _;exact hr _ (by rw[BE];omega);rw[pf he];rfl;grind
 have n:Ok (iter (λa b=>BV c f s (λd=>θ 0) a b) Ay 0) λe=>e=0->∀k∈c.D,f s k=θ 0:=by
  refine Wf (λq=>q) (Ξ c.D) (λk _=>∀j i,j<k->f s c.D[j]=θ 0) 0 (Zag _) rfl (λj _ i=>z0) z0 (λrec q o p=>?_) λrec k q m o p ih=>?_;rw[BV,o];rw[Bl];refine KK λ_ x hx=>?_;obtain⟨j,i,rfl⟩:=List.mem_iff_getElem.1 hx;exact p j i i;rw[BV,o];rw[AK];have⟨e,h1,_⟩:=h _ (Zae m);refine JT m (qr h1 (Ok.br (λhe=>KK λw=>?_) λhe=>ih _ BE λj i y=>?_));subst w;cases he;grind
 have⟨e,h1,h2⟩:=n;grind
theorem kI(v:DS s):∀d c,nds d c<=d->d<=1000->∃e,C3 d s c=θ e/\Fv d s c=θ e/\(e=0->RC s (nds d c-1) c)
 | 0,c,h,_=>by have:=XZ 0 c;omega
 | d+1,c,h,hd=>by
   have O:nds (d+1) c=1+(c.D.map (nds d)).sum:=rfl;have w:=eN (d:=d) c.D (Ξ c.D) (Zam _);rw[Zaj]at w
   have n:∀k∈c.D,nds d k<=d:=by
    intro x hx;obtain⟨j,F,rfl⟩:=List.mem_iff_getElem.1 hx;have C:=UW (d:=d) F;have P:=Nz (d:=d) c.D (j+1);omega
   have⟨D,h1,h2,C⟩:=zt v d (Fv d) c;by_cases he:D=0;subst he
   have⟨e,G,H,I⟩:=ue (s:=s) (c:=c) (f:=C3 d) (g:=Fv d) z0 λk r=>by
    have⟨e,a,b,_⟩:=kI v d k (n k r) z0;grind
   refine⟨e,?_,?_,λy=>?_⟩;show Cv d (C3 d) s c=_;unfold Cv;exact Ok.val (qr h1 (Ok.no rfl (Ok.eq G)));show Eo d (Fv d) s c=_;rw[h2,<-H];rfl
   have o:∀k∈c.D,RC s (nds d k-1) k:=by
    intro k r;have⟨Q,a,_,b⟩:=kI v d k (n k r) z0;grind
   have pos:=XZ d
   cases C rfl with
   | all=>exact .all _
   | under i m p q L J z k A B=>exact .under _ i m p q L J z k A B
   | between i m p q l u A B K=>exact .between _ i m p q l u A B K
   | miss i m p q ho=>exact .miss _ i m p q ho
   | two M ho a b=>
     have t:=o a zs;have E:=o b zs;have N:=pos a;have p2:=pos b;have e:nds (d+1) ⟨M,0,0,0,0,[a,b]⟩=1+(nds d a+nds d b):=by grind
     rcases ho with rfl|rfl;exact .and _ _ _ z0 a b t E;exact .or _ _ _ z0 a b t E
   | not a=>
     have t:=o a zs;have N:=pos a;have e:nds (d+1) ⟨7,0,0,0,0,[a]⟩=1+nds d a:=by grind
     exact .not _ _ z0 a t
   refine⟨D,?_,?_,λy=>absurd y he⟩;show Cv d (C3 d) s c=_;unfold Cv;exact Ok.val (qr h1 (Vc (pf he) (KK rfl)));show Eo d (Fv d) s c=_;grind
def ju(a:DS s)c{d}(hd:42<=d)(g:d<=1000):∃e,Bm d s c=θ e/\BY d s c=θ e/\(e=0->GC s c):=by
 have⟨h1,h2⟩:=bG d 40 c z0 z0;by_cases m:nds d c<=40;have⟨r,b,n,o,i⟩:=mW d c z0 z0;have f:IR d c=θ r:=by rw[<-Ze];exact b
 by_cases hr:r>10;refine⟨22,?_,?_,λh=>by cases h⟩;unfold Bm;exact Ok.val (qr a.check (Ok.no rfl (qr h1 (Ok.no df (qr b (Vc (Zak hr) (KK rfl)))))));unfold BY;exact Ok.val (qr a.rcheck (Ok.no rfl (qr h2 (Ok.no df (qr f (Vc (Zak hr) (KK rfl)))))));have⟨e,j,k,l⟩:=kI a d c z0 z0;refine⟨e,?_,?_,λh=>⟨_,l h,z0,i 9 z0⟩⟩;unfold Bm;exact Ok.val (qr a.check (Ok.no rfl (qr h1 (Ok.no df (qr b (Ok.no (Zap hr) (qr j (KK rfl))))))));unfold BY;exact Ok.val (qr a.rcheck (Ok.no rfl (qr h2 (Ok.no df (qr f (Ok.no (Zap hr) (qr k (KK rfl))))))));refine⟨1,?_,?_,λh=>by cases h⟩;unfold Bm;exact Ok.val (qr a.check (Ok.no rfl (qr h1 (Vc dt (KK rfl)))));unfold BY;exact Ok.val (qr a.rcheck (Ok.no rfl (qr h2 (Vc dt (KK rfl)))))
def GC.pneedsd(a:DS s){c}(h:GC s c){d}(hd:40<=d):Ok (CP d s c) (NO s (Nu d c)):=by
 have⟨n,h1,h2⟩:=h;exact P.pneeds a h1 z0 h2
def GC.rneedsd(a:DS s){c}(h:GC s c){d}(hd:40<=d):Ok (DF d s c) (NO s (Nu d c)):=by
 have⟨n,h1,h2⟩:=h;exact ct a h1 z0 h2
def GC.at_(b:DS s){c}(h:GC s c)d:∀a∈Nu d c,∃i S,AT s a i S:=by
 have⟨n,h1,h2⟩:=h;exact fl b n d h1
def GC.fuel{c}(h:GC s c){d d'}(hd:40<=d)(a:40<=d'):Nu d c=Nu d' c:=by
 have⟨n,h1,h2⟩:=h;exact mE n d d' h1 z0 z0
open F
def Io n:u64.wrap n=n%18446744073709551616:=by
 have:u64.wrap n=n%(2^64):=by simp[IntKind.wrap,IntKind.signed,IntKind.bits]
 grind
def Yz(a:Int)k:a.fdiv (2^k)=a/2^k:=by grind
def orU x y:u64.wrap ((BitVec.ofInt u64.bits x|||BitVec.ofInt u64.bits y).toNat)=((x%18446744073709551616).toNat|||(y%18446744073709551616).toNat:Nat):=by
 have e:(BitVec.ofInt u64.bits x|||BitVec.ofInt u64.bits y).toNat=((x%18446744073709551616).toNat|||(y%18446744073709551616).toNat):=by
  rw[BitVec.toNat_or,BitVec.toNat_ofInt,BitVec.toNat_ofInt];rfl
 rw[e,Io];have h1:((x%18446744073709551616).toNat|||(y%18446744073709551616).toNat)<2^64:=Nat.or_lt_two_pow z0 z0;omega
def xn n(a:0<=n)(h1:n<18446744073709551616):u64.wrap ((BitVec.ofInt u64.bits (if u64.signed=ν then -1 else u64.max) ^^^ BitVec.ofInt u64.bits n).toNat)=18446744073709551615-n:=by
 have e:(BitVec.ofInt 64 (-1) ^^^ BitVec.ofInt 64 n)= ~~~ (BitVec.ofInt 64 n):=by
  rw[show BitVec.ofInt 64 (-1)=BitVec.allOnes 64 from by decide,BitVec.allOnes_xor]
 rw[Io];show((BitVec.ofInt 64 (-1) ^^^ BitVec.ofInt 64 n).toNat:Int)%_=_;rw[e,BitVec.toNat_not,BitVec.toNat_ofInt];omega
def ah z:(0<=Hi z/\Hi z<18446744073709551616)/\0<=Lo z/\Lo z<18446744073709551616:=by unfold Hi Lo;omega
def Vm{n:Int}(h:0<=n/\n<18446744073709551616:=by omega):bp n=true:=Zak h
def VC{h l z}(h1:h=Hi z)(h2:l=Lo z):{ E:=h,C:=l }=LY z:=by rw[h1,h2];rfl
def IM(z:Int):Au:={ E:=Hi z,C:=Lo z }
def WS{h l z}(h1:h=Hi z)(h2:l=Lo z):{ E:=h,C:=l }=IM z:=by rw[h1,h2];rfl
def vG a b:BI (Lo a) (Lo b) 0=θ (Lo (a+b),(Lo a+Lo b)/18446744073709551616):=by
 have:=ah a;have:=ah b;unfold BI;rw[Vm,Vm];show θ _=_;rw[Int.add_zero,show(Lo a+Lo b)%18446744073709551616=Lo (a+b) by unfold Lo;omega]
def vF a b:BI (Hi a) (Hi b) ((Lo a+Lo b)/18446744073709551616)=θ (Hi (a+b),(Hi a+Hi b+(Lo a+Lo b)/18446744073709551616)/18446744073709551616):=by
 have:=ah a;have:=ah b;unfold BI;rw[Vm,Vm,show((Lo a+Lo b)/18446744073709551616==0||(Lo a+Lo b)/18446744073709551616==1)=ν by simp;omega];show θ _=_;rw[show(Hi a+Hi b+(Lo a+Lo b)/18446744073709551616)%18446744073709551616=Hi (a+b) by unfold Hi Lo;omega]
def y5 a b:Dj (LY a) (LY b)=θ (LY (a+b)):=by
 unfold Dj;show(BI (Lo a) (Lo b) 0).bind _=_;rw[vG];show(BI (Hi a) (Hi b) _).bind _=_;rw[vF];rfl
def ya a b:Np (IM a) (IM b)=θ (IM (a+b)):=by
 unfold Np;show(BI (Lo a) (Lo b) 0).bind _=_;rw[vG];show(BI (Hi a) (Hi b) _).bind _=_;rw[vF];rfl
def Aag a:Cw (LY a)=θ (LY (-a)):=by
 have:=ah a;unfold Cw;show((Dj { E:=_,C:=_ } _).bind _)=_;rw[show(LY a).E=Hi a from rfl,show(LY a).C=Lo a from rfl,xn _ z0 z0,xn _ z0 z0,VC (z:=-a-1) (by unfold Hi;omega) (by unfold Lo;omega),VC (h:=0) (z:=1) j0 j0,y5,show -a-1+1=-a by omega];rfl
def i7 a b:CJ (LY a) (LY b)=θ (LY (a-b)):=by
 unfold CJ;rw[Aag];show(Dj _ _).bind _=_;rw[y5,<-Int.sub_eq_add_neg];rfl
def cq a b:E2 (IM a) (IM b)=θ (IM (a-b)):=by
 have:=ah a;have:=ah b;unfold E2 MC;rw[show(IM a).E=Hi a from rfl,show(IM a).C=Lo a from rfl,show(IM b).E=Hi b from rfl,show(IM b).C=Lo b from rfl,Vm,Vm,Vm,Vm];show(bif(if Lo a<Lo b+0 then 1 else 0)==0||(if Lo a<Lo b+0 then 1 else 0)==1 then _ else _:Option (Int×Int)).bind _=_;rw[show((if Lo a<Lo b+0 then(1:Int)else 0)==0||(if Lo a<Lo b+0 then(1:Int)else 0)==1)=ν by split<;>rfl];show θ _=_;rw[WS (z:=a-b)];unfold Hi Lo;split<;>omega;unfold Lo;omega
def xh a b:BX (Lo a) (Lo b)=θ (Lo a*Lo b/18446744073709551616,Lo a*Lo b%18446744073709551616):=by
 have:=ah a;have:=ah b;unfold BX;rw[Vm,Vm];rfl
def lM a b:u64.wrap (u64.wrap (Lo a*Lo b/18446744073709551616+u64.wrap (Hi a*Lo b))+u64.wrap (Lo a*Hi b))=Hi (a*b)/\Lo a*Lo b%18446744073709551616=Lo (a*b):=by
 have h1:a=18446744073709551616*(a/18446744073709551616)+Lo a:=by unfold Lo;omega
 have h2:b=18446744073709551616*(b/18446744073709551616)+Lo b:=by unfold Lo;omega
 have c:a*b=18446744073709551616*(18446744073709551616*((a/18446744073709551616)*(b/18446744073709551616))+(a/18446744073709551616)*Lo b+Lo a*(b/18446744073709551616))+Lo a*Lo b:=z5;have d:Hi a*Lo b%18446744073709551616=(a/18446744073709551616)*Lo b%18446744073709551616:=by unfold Hi;rw[Zfa,Int.emod_emod,<-Zfa]
 have e:Lo a*Hi b%18446744073709551616=Lo a*(b/18446744073709551616)%18446744073709551616:=by unfold Hi;rw[Zfa,Int.emod_emod,<-Zfa]
 rw[Io,Io,Io,Io,d,e];refine⟨?_,by conv=>{ rhs;unfold Lo;rw[c] };omega⟩
 have f:Hi (a*b)=(18446744073709551616*((a/18446744073709551616)*(b/18446744073709551616))+(a/18446744073709551616)*Lo b+Lo a*(b/18446744073709551616)+Lo a*Lo b/18446744073709551616)%18446744073709551616:=by
  unfold Hi;grind
 grind
def iA a b:CK (LY a) (LY b)=θ (LY (a*b)):=by
 unfold CK;show(BX (Lo a) (Lo b)).bind _=_;rw[xh];exact congrArg θ (VC (lM a b).1 (lM a b).2)
def U5 a b:Ed (IM a) (IM b)=θ (IM (a*b)):=by
 unfold Ed;show(BX (Lo a) (Lo b)).bind _=_;rw[xh];exact congrArg θ (WS (lM a b).1 (lM a b).2)
def TD{n}(a:-9223372036854775808<=n)(h1:n<=9223372036854775807):BN n=θ (LY n):=by
 unfold BN;rw[show n.fdiv (2^min (Int.toNat 63) i64.bits)=n/9223372036854775808 from Yz n 63,Io,Io];exact congrArg θ (VC (by unfold Hi;omega) (by unfold Lo;omega))
def X6{n}(a:-9223372036854775808<=n)(h1:n<=9223372036854775807):BG n=θ (IM n):=by
 unfold BG;rw[Io];by_cases h:n<0;rw[dt h];exact congrArg θ (WS (by unfold Hi;omega) (by unfold Lo;omega));rw[df h];exact congrArg θ (WS (by unfold Hi;omega) (by unfold Lo;omega))
def SG z:=-170141183460469231731687303715884105728<z/\z<170141183460469231731687303715884105728
def xj{z}(h:SG z):((Int.fdiv (Hi z) (2^min (Int.toNat 63) u64.bits))==1)=υ (z<0):=by
 unfold SG at h;rw[show(Hi z).fdiv (2^min (Int.toNat 63) u64.bits)=Hi z/9223372036854775808 from Yz _ 63,Zgq,Zdk,decide_eq_true_iff];unfold Hi;omega
def eV{z}(h:SG z):((Hi z==0)&&((Lo z==0)&&ν))=υ (z=0):=by
 unfold SG at h;rw[Zgq,decide_eq_true_iff];unfold Hi Lo;grind
def dT{z}(h:SG z):Ci (LY z)=θ z.sign:=by
 unfold Ci;show(bif(Int.fdiv (Hi z) _==1)then _ else bif((Hi z==0)&&((Lo z==0)&&ν))then _ else _)=_;rw[xj h,eV h];grind
def Aa8{z}(h:SG z):Fp (LY z)=θ (LY z.natAbs):=by
 unfold Fp;rw[dT h];show(bif υ (z.sign<0)then _ else _)=_;by_cases q:z<0;rw[dt (Int.sign_neg_iff.2 q),Aag,show -z=z.natAbs by omega];rfl;grind
def Acs{z}(h:SG z):IE (IM z)=θ (υ (z<0)):=congrArg θ (xj h)
def sy{z}(h:SG z):PK (IM z)=θ (υ (z=0)):=congrArg θ (eV h)
def Aef{z}(h:SG z):Tn (IM z)=θ (IM z.natAbs):=by
 unfold Tn;rw[Acs h];show(bif υ (z<0)then _ else _)=_;by_cases q:z<0;rw[dt q];show(E2 (IM 0) (IM z)).bind _=_;rw[cq,show 0-z=z.natAbs by omega];rfl;grind
def lU{x y:Nat}(hx:x<340282366920938463463374607431768211456)(hy:y<340282366920938463463374607431768211456):Gy (IM x) (IM y)=θ (υ (x<y)):=by
 unfold Gy IM Hi Lo;apply congrArg θ;grind
def uO a(n:Nat)(b:n<=64):u64.wrap (a*2^(min ((n:Int)).toNat u64.bits))=a*(2^n:Nat)%18446744073709551616:=by
 rw[Io,Zaw,show u64.bits=64 from rfl,Zdp b];congr 2
def uP(a:Int)(n:Nat)(b:n<=64):a.fdiv (2^(min ((n:Int)).toNat u64.bits))=a/(2^n:Nat):=by
 rw[Zaw,show u64.bits=64 from rfl,Zdp b,Yz];congr 1
def rY i x y(hy:y<2^i):(2^i*x)|||y=2^i*x+y:=(Nat.two_pow_add_eq_or_of_lt hy x).symm
def bZ{n}(a:n<=64):18446744073709551616=2^n*2^(64-n):=by
 rw[<-Zdi,show n+(64-n)=64 by omega]
def Adq(A u v M:Nat)(a:M=u*v):(A%M)*u%M=u*(A%v):=by
 rw[Nat.mul_mod,Nat.mod_mod,<-Nat.mul_mod,Zcm A u,a,Nat.mul_mod_mul_left]
def Ae7 x u v M(a:M=u*v)(b:0<u)(c:0<M):x*u/M=u*(x/M)+x%M/v:=by
 have h:=Zei x M;generalize x/M=q at *;generalize x%M=r at *;subst h;rw[Zcu,Zde,Nat.mul_add_div c,Zcm q u,Zcm r u,a,Nat.mul_div_mul_left _ _ b]
def Adr q l u v M(b:M=u*v)(d:l<u)(c:0<v):(u*q+l)%M=u*(q%v)+l:=by
 have h:=Zei q v;have h2:=Zev q c;generalize q/v=a at *;generalize q%v=r at *;subst h;rw[show u*(v*a+r)+l=(u*r+l)+M*a from by rw[b];grind,Nat.add_mul_mod_self_left,Zdy];have:u*(r+1)<=u*v:=Zeh _ h2;grind
def Ae8 x u v M(a:M=u*v)(b:0<u):x/u=v*(x/M)+x%M/u:=by
 have h:=Zei x M;generalize x/M=q at *;generalize x%M=r at *;subst h;rw[a,Zde,Nat.mul_add_div b]
def zi x n(c:n<=64):(((x/18446744073709551616%18446744073709551616)*2^n%18446744073709551616)|||(x%18446744073709551616/2^(64-n)))=x*2^n/18446744073709551616%18446744073709551616:=by
 have a:=bZ c;have h1:=Zcs n;have h2:=Zcs (64-n)
 have b:x%18446744073709551616/2^(64-n)<2^n:=by
  rw[Zey h2,<-a];grind
 rw[Adq _ _ _ _ a,rY n _ _ b,Ae7 x _ _ _ a h1 z0,Adr _ _ _ _ _ a b h2]
def xS x n(d:n<=64):((x%18446744073709551616/2^n)|||((x/18446744073709551616%18446744073709551616)*2^(64-n)%18446744073709551616))=x/2^n%18446744073709551616:=by
 have b:=bZ d;have a:18446744073709551616=2^(64-n)*2^n:=by grind
 have h1:=Zcs n;have h2:=Zcs (64-n)
 have c:x%18446744073709551616/2^n<2^(64-n):=by
  rw[Zey h1,<-a];grind
 rw[Adq _ _ _ _ a,Nat.or_comm,rY _ _ _ c,Ae8 x _ _ _ b h1,Adr _ _ _ _ _ a c h1]
def re a b:((a:Nat)*((b:Nat):Int)%18446744073709551616%18446744073709551616).toNat=a*b%18446744073709551616:=by grind
def qZ a b(h:a<18446744073709551616):((a:Nat)/((b:Nat):Int)%18446744073709551616).toNat=a/b:=by
 rw[<-Zgh];have:=Zdx a b;grind
def vj(x:Nat):Hi x=(x/18446744073709551616%18446744073709551616:Nat):=by unfold Hi;omega
def sS(x:Nat):Lo x=(x%18446744073709551616:Nat):=by unfold Lo;omega
def jY x y:((x%18446744073709551616:Nat)*((y:Nat):Int))%18446744073709551616=(x*y%18446744073709551616:Nat):=by
 rw[<-Zez];have:x%18446744073709551616*y%18446744073709551616=x*y%18446744073709551616:=by rw[Nat.mul_mod,Nat.mod_mod,<-Nat.mul_mod]
 grind
def Aa2{n:Nat}(h:n<=64):i64.wrap (64-n)=(64-n:Nat):=by rw[wr]<;>omega
def Aa6(x:Nat){n:Nat}(a:n<128):Fo (LY x) n=θ (LY (x*2^n:Nat)):=by
 unfold Fo LY;dsimp only;by_cases h:(n:Int)>=64;obtain⟨j,rfl⟩:∃j,n=64+j:=⟨n-64,z0⟩;rw[AK h,show i64.wrap ((64+j:Nat)-64)=j by rw[wr]<;>omega,AK,uO _ j z0,Zdi,show x*(2^64*2^j)=18446744073709551616*(x*2^j)from by rw[Nat.mul_left_comm]];refine congrArg θ (VC ?_ ?_);rw[vj,sS,jY,Nat.mul_div_cancel_left _ z0];rw[sS,Nat.mul_mod_right];rfl;rw[Bl h,Aa2 z0,AK,AK,AK,uO _ n z0,uO _ n z0,uP _ (64-n) z0];refine congrArg θ (VC ?_ ?_);rw[orU,vj x,sS x,vj (x*2^n),<-zi x n z0,re,qZ _ _ (Zev _ z0)];rw[sS,sS,jY]
def Ac5{x n:Nat}(hx:x<340282366920938463463374607431768211456)(c:n<128):DZ (LY x) n=θ (LY (x/2^n:Nat)):=by
 unfold DZ LY;dsimp only;by_cases h:(n:Int)>=64;obtain⟨j,rfl⟩:∃j,n=64+j:=⟨n-64,z0⟩;have a:x/2^(64+j)=x/18446744073709551616/2^j:=by rw[Zdi,<-Zeu]
 have b:=Zdx (x/18446744073709551616) (2^j);rw[AK h,show i64.wrap ((64+j:Nat)-64)=j by rw[wr]<;>omega,AK,uP _ j z0,a];refine congrArg θ (VC ?_ ?_)<;>rw[vj];generalize x/18446744073709551616/2^j=q at *;omega;rw[sS,Zdy (show x/18446744073709551616<18446744073709551616 by omega),<-Zgh];generalize x/18446744073709551616/2^j=q at *;omega;rw[Bl h,Aa2 z0,AK,AK,AK,uP _ n z0,uP _ n z0,uO _ (64-n) z0];refine congrArg θ (VC ?_ ?_);rw[vj,vj,Zdy (show x/18446744073709551616<18446744073709551616 by omega),<-Zgh,Zeu x (2^n),Zcm (2^n),<-Zeu];have:=Zdx (x/18446744073709551616) (2^n);generalize x/18446744073709551616/2^n=q at *;omega;rw[orU,vj x,sS x,sS (x/2^n),<-xS x n z0,re,qZ _ _ (Zev _ z0)]
abbrev R7 x:=x<170141183460469231731687303715884105728
def sg{x}(h:R7 x):SG x:=by unfold SG R7 at *;omega
def xD{k x}(hx:R7 x)(h:2^k<=x):k<127:=by
 rcases Zbk k 127 with a|a;exact a;have:=Zch (n:=2) z0 a;grind
def RG{x k}(h:x<2^k):EJ x<=k:=by
 unfold EJ;split;omega;have:=(Nat.log2_lt (by grind)).2 h;omega
def eH{x}(h:x≠0):2^(EJ x-1)<=x/\x<2^EJ x/\1<=EJ x:=by
 unfold EJ;rw[Zah h];exact⟨Nat.log2_self_le h,Nat.lt_log2_self,z0⟩
def sL{x}(hx:R7 x):E0 (LY x)=θ (EJ x:Int):=by
 unfold E0 MB;show(bif υ (Hi x>0)then(bif bp (Hi x)then θ ((EJ (Hi x).toNat):Int)else none).bind _ else(bif bp (Lo x)then θ ((EJ (Lo x).toNat):Int)else none).bind _)=_;have:=ah x;unfold R7 at hx;by_cases h:Hi x>0;rw[AK h,Vm];have e:(Hi x).toNat=x/18446744073709551616:=by unfold Hi;omega
 have q:=RG (x:=x/18446744073709551616) (k:=63) z0;show θ (i64.wrap (64+(EJ (Hi x).toNat:Nat)))=_;rw[e,wr];have:x/18446744073709551616≠0:=by grind
 have a:x.log2=64+(x/18446744073709551616).log2:=by
  rw[Nat.log2_eq_iff z0];have h1:=Nat.log2_self_le this;have h2:=Nat.lt_log2_self (n:=x/18446744073709551616);grind
 unfold EJ;rw[Zah this,Zah z0,a];congr 1;rw[Bl h,Vm,show(Lo x).toNat=x by unfold Hi at h;unfold Lo;omega];rfl
theorem sE:∀k f m,k<f->tzN f (2^k*(2*m+1))=k
 | 0,f+1,m,_=>by unfold tzN;grind
 | k+1,f+1,m,h=>by
   have e:2^(k+1)*(2*m+1)=2*(2^k*(2*m+1)):=by grind
   unfold tzN;rw[e,Zah z0,show 2*(2^k*(2*m+1))/2=2^k*(2*m+1) by omega,sE k f m z0]
theorem WW:∀x,0<x->∃k m,x=2^k*(2*m+1)
 | x,h=>by
   by_cases h2:x%2=1;exact⟨0,x/2,z0⟩;have⟨k,m,e⟩:=WW (x/2) z0;exact⟨k+1,m,by rw[Zfc,show 2^k*2*(2*m+1)=2*(2^k*(2*m+1)) by grind,<-e];omega⟩
def zr{k m}(h:k<64):2^k*(2*m+1)%18446744073709551616=2^k*(2*(m%2^(63-k))+1):=by
 have e:18446744073709551616=2^k*(2*2^(63-k)):=by
  rw[<-Zde,Zcm _ 2,<-Nat.pow_succ',<-Zdi,show k+1+(63-k)=64 by omega]
 have h2:=Zcs (63-k);rw[e,Nat.mul_mod_mul_left];generalize 2^(63-k)=t at *;have h1:=Zei m t;have a:=Zev m h2;generalize m%t=r at *;generalize m/t=q at *;rw[show 2*m+1=(2*r+1)+2*t*q by grind,Nat.add_mul_mod_self_left,Zdy z0]
def nz{x:Int}(h:x≠0):(x != 0)=ν:=by grind
def nzf{x:Int}(h:x≠0):(x==0)=ξ:=by grind
def mu{k m:Nat}(hx:R7 (2^k*(2*m+1))):Dv (LY (2^k*(2*m+1):Nat))=θ (k:Int):=by
 have f:=xD hx (Zco _ z0);have b:=Zcs k;unfold Dv Fc LY R7 at *;dsimp only;have:=ah (2^k*(2*m+1):Nat);by_cases h:64<=k;obtain⟨j,rfl⟩:∃j,k=64+j:=⟨k-64,z0⟩;have e:2^(64+j)*(2*m+1)=18446744073709551616*(2^j*(2*m+1)):=by grind
 rw[e]at hx this ⊢;have c:=Zcs j;have d:0<2^j*(2*m+1):=Nat.mul_pos c z0;have a:Hi (18446744073709551616*(2^j*(2*m+1)):Nat)=(2^j*(2*m+1):Nat):=by unfold Hi;omega
 rw[show Lo (18446744073709551616*(2^j*(2*m+1)):Nat)=0 by unfold Lo;omega,a,Vm,Zaw,sE j 64 m z0,nz z0];show θ (i64.wrap (64+j))=_;rw[wr];rfl;have e:=zr (m:=m) (show k<64 by omega);have d:0<2^k*(2*(m%2^(63-k))+1):=Nat.mul_pos b z0;have a:Lo (2^k*(2*m+1):Nat)=(2^k*(2*(m%2^(63-k))+1):Nat):=by rw[sS,e]
 rw[a]at this ⊢;rw[nzf z0,Zaq,Vm,nz z0,Zaw,sE k 64 _ z0];rfl
def eP(A j B:Nat)(d:A%2=1):Nat.gcd A (2^j*B)=Nat.gcd A B:=by
 have h2:Nat.Coprime 2 A:=by
  unfold Nat.Coprime;have h1:=Nat.gcd_dvd_left 2 A;have b:=Nat.gcd_dvd_right 2 A;have c:=Nat.le_of_dvd z0 h1;have a:=Zfl A (show 0<2 by omega);rcases(show Nat.gcd 2 A=1\/Nat.gcd 2 A=2 by omega)with h|h;exact h;rw[h]at b;omega
 exact Nat.Coprime.gcd_mul_left_cancel_right B (Nat.Coprime.pow_left j h2)
def zb(i j A B:Nat)(a:A%2=1)(b:B%2=1):Nat.gcd (2^i*A) (2^j*B)=Nat.gcd A B*2^min i j:=by
 rcases Nat.le_total i j with h|h;obtain⟨e,rfl⟩:=Nat.le.dest h;rw[Zdi,Zde,Nat.gcd_mul_left,eP A e B a,Zdp h,Zcm];obtain⟨e,rfl⟩:=Nat.le.dest h;rw[Zdi,Zde,Nat.gcd_mul_left,Zfq,eP B e A b,Zfq,Nat.min_eq_right h,Zcm]
def kh{k m:Nat}(hx:R7 (2^k*(2*m+1))):DZ (LY (2^k*(2*m+1):Nat)) k=θ (LY (2*m+1:Nat)):=by
 have a:=xD hx (Zco _ z0);rw[Ac5 (by grind) z0,Nat.mul_div_cancel_left _ (Zcs k)]
def wV x:x<2^EJ x:=by
 by_cases h:x=0;subst h;decide;exact(eH h).2.1
def gr{a b}(h:a<=b):EJ a<=EJ b:=RG (Zgr h (wV b))
def nW{z y}(h:2*z<=y)(a:0<y):EJ z+1<=EJ y:=by
 have h1:=(eH (x:=y) z0).2
 have:EJ z<=EJ y-1:=RG (by
  have e:2^EJ y=2*2^(EJ y-1):=by rw[<-Nat.pow_succ'];congr 1;omega
  omega)
 omega
def vw(w:Ao):=(w.E*18446744073709551616+w.C).toNat
def bu{x}(h:R7 x):vw (LY x)=x:=by
 unfold vw LY Hi Lo R7 at *;grind
def Aaf{a b}(n:0<a)(d:R7 a)(c:R7 b):JB (LY a) (LY b)=θ (LY (Nat.gcd a b)):=by
 unfold JB;show(bif(Hi b==0)&&((Lo b==0)&&ν)then _ else _)=_;rw[eV (sg c)];by_cases o:b=0;subst o;rw[Nat.gcd_zero_right];rfl;rw[df z0];obtain⟨i,A,rfl⟩:=WW a n;obtain⟨j,B,rfl⟩:=WW b z0;have E:=xD d (Zco _ z0);have F:=xD c (Zco _ z0);have g:Nat.gcd (2^i*(2*A+1)) (2^j*(2*B+1))=Nat.gcd (2*A+1) (2^j*(2*B+1))*2^min i j:=by rw[zb i j _ _ z0 z0,eP _ _ _ z0]
 have G:2*A+1<=2^i*(2*A+1):=Zfr _ (Zcs i);refine Ok.val (qr (mu d) (qr (mu c) (qr (mu d) (qr (kh d) ?_))));rw[show(if(j:Int)<i then(j:Int)else i)=(min i j:Nat) by split<;>omega,g];generalize 2^j*(2*B+1)=y0 at *;refine Ok.loop (λt=>∃x y:Nat,t=(LY x,LY y)/\x%2=1/\R7 x/\R7 y/\Nat.gcd x y=Nat.gcd (2*A+1) y0) (λt=>2*(EJ (vw t.1)+EJ (vw t.2))+vw t.2%2) ⟨2*A+1,y0,rfl,z0,by unfold R7 at *;omega,c,rfl⟩ ?_ λrec t ⟨x,y,e,ho,hx,hy,f⟩ ih=>?_;have h1:=RG (x:=2*A+1) (k:=127) (by grind);have h2:=RG (x:=y0) (k:=127) (by grind);rw[bu c,bu (x:=2*A+1) (by grind)];unfold Ay;omega;subst e;rw[bu hx,bu hy]at ih;unfold Nm;show Ok (bif !((Hi y==0)&&((Lo y==0)&&ν))then _ else _) _;rw[eV (sg hy)];by_cases p:y=0;subst p;rw[Nat.gcd_zero_right]at f;refine Ok.no zs (qr (Aa6 x z0) (KK ?_));rw[f];obtain⟨k,m,rfl⟩:=WW y z0;have H:=xD hy (Zco _ z0)
 have l:2*m+1<=2^k*(2*m+1)/\(2^k*(2*m+1)%2=0->2*(2*m+1)<=2^k*(2*m+1)):=by
  refine⟨Zfr _ (Zcs k),λh=>?_⟩
  cases k with
  | zero=>omega
  | succ k=>
    rw[Zfc,Zcm _ 2,Zde];exact Zeh _ (Zfr _ (Zcs k))
 have w:(2*m+1)%2=1:=z0;rw[eP _ _ _ ho]at f;refine Vc (by grind) (qr (mu hy) (qr (kh hy) (qr (i7 _ _) ?_)));generalize 2^k*(2*m+1)=y at *;generalize 2*m+1=z at *;unfold R7 at *
 have key:∀u v:Nat,u%2=1->v%2=0->(u+v<=z/\u<=x\/u+v<=x/\u<=z)->Nat.gcd u v=Nat.gcd (2*A+1) y0->Ok (rec (LY u,LY v)) λr=>r=LY ((Nat.gcd (2*A+1) y0*2^min i j:Nat):Int):=λu v C I D f=>by
  refine ih _ ⟨u,v,rfl,C,z0,z0,f⟩ ?_;rw[bu (x:=u) z0,bu (x:=v) z0];have h1:=gr (a:=z) (b:=y) l.1
  have J:EJ u+EJ v<=EJ x+EJ z:=by
   rcases D with h|h;have:=gr h.2;have:=gr (a:=v) (b:=z) z0;omega;have:=gr h.2;have:=gr (a:=v) (b:=x) z0;omega
  by_cases q:y%2=0;have:=nW (l.2 q) z0;omega;omega
 refine qr (dT (by unfold SG;omega)) (bt (λh=>?_) λh=>?_);have h:=Int.sign_neg_iff.1 h;refine qr (i7 _ _) ?_;rw[show(x-z)=((x-z:Nat):Int) by omega];exact key z (x-z) w z0 z0 (by rw[Zfq,Nat.gcd_sub_self_left z0];exact f);have h:¬((z:Int)-x<0):=λq=>h (Int.sign_neg_iff.2 q);refine qr (i7 _ _) ?_;rw[show(z-x)=((z-x:Nat):Int) by omega];exact key x (z-x) ho z0 z0 (by rw[Nat.gcd_sub_self_right z0];exact f)
def Aa7{a b}(o:0<b)(e:R7 a)(f:R7 b):Ok (JX (LY a) (LY b)) λr=>r.2=υ (((a/b:Nat):Int)<=1152921504606846976)/\(r.2=ν->r.1=(a/b:Nat)):=by
 have g:=eH (x:=b) z0;have B:=wV a;have K:=RG (k:=127) e;have L:=RG (k:=127) f;unfold R7 at e f;unfold JX;refine qr (sL e) (qr (sL f) ?_);rw[wr];refine bt (λh=>KK ?_) λh=>?_;have h1:=(eH (x:=a) (by unfold EJ at h;grind)).1;have h2:2^(61+EJ b)<=2^(EJ a-1):=Zch z0 z0;rw[Zdi]at h2;have p:2^61*b<=2^61*2^EJ b:=Zeh _ z0;have M:2^61<=a/b:=(Nat.le_div_iff_mul_le o).2 z0;exact⟨(df z0).symm,λq=>by cases q⟩
 have C:a<2^((EJ a:Int)-EJ b+1).toNat*b:=by
  by_cases q:EJ b<=EJ a+1;have h2:2^EJ a=2^((EJ a:Int)-EJ b+1).toNat*2^(EJ b-1):=by rw[<-Zdi];congr 1;omega
  have p:2^((EJ a:Int)-EJ b+1).toNat*2^(EJ b-1)<=2^((EJ a:Int)-EJ b+1).toNat*b:=Zeh _ g.1;omega;rw[show((EJ a:Int)-EJ b+1).toNat=0 by omega,Nat.pow_zero,Nat.one_mul];have:=Zch (n:=2) z0 (show EJ a<=EJ b-1 by omega);omega
 have u:a<2^62*b:=by
  have h2:2^EJ a<=2^(62+(EJ b-1)):=Zch z0 z0;grind
 refine Ok.loop (λt=>∃q r:Nat,t.2.2=LY r/\t.1=q/\-130<=t.2.1/\t.2.1<=(EJ a:Int)-EJ b/\q*(2^(t.2.1+1).toNat*b)+r=a/\r<2^(t.2.1+1).toNat*b) (λt=>(t.2.1+1).toNat) ⟨0,a,rfl,rfl,by simp only;omega,Zbh _,zs,C⟩ (by simp only;unfold Ay;omega) λrec t ⟨q,r,y,z,D,E,c,hr⟩ ih=>?_;have⟨v,k,w⟩:=t;simp only at y z D E c hr ih;subst y;subst z;have F:=Zcs (k+1).toNat
 have G:q*2^(k+1).toNat<2^62:=by
  have:q*2^(k+1).toNat*b<2^62*b:=by grind
  exact Nat.lt_of_mul_lt_mul_right this
 refine bt (λ(h:k>=0)=>?_) λ(h:¬k>=0)=>?_;obtain⟨j,rfl⟩:∃j:Nat,k=j:=⟨k.toNat,z0⟩;rw[show((j:Int)+1).toNat=j+1 by omega,Zfc,Zcm _ 2]at c hr G F;have i:=Zcs j
 have H:2*q<2^62:=by
  have:2*q<=q*(2*2^j):=by
   rw[<-Zde,Zcm q 2];exact Zco _ i
  omega
 have A:((j:Int)-1+1).toNat=j:=z0
 have I:b*2^j<2^127:=by
  have h2:=Nat.mul_lt_mul_of_pos_right g.2.1 i;rw[<-Zdi]at h2;have:=Zch (n:=2) z0 (show EJ b+j<=127 by omega);omega
 rw[show 2*2^j*b=2*(b*2^j)from by rw[Zde,Zcm (2^j) b]]at c hr;refine qr (Aa6 b z0) (qr (i7 _ _) ?_)
 have key:∀(v:Int)(m l:Nat),v=m->m*(b*2^j)+l=a->l<b*2^j->Ok (rec (v,i64.wrap ((j:Int)-1),LY l)) λr=>r.2=υ (((a/b:Nat):Int)<=1152921504606846976)/\(r.2=ν->r.1=(a/b:Nat)):=λv m l J h1 h2=>by
  rw[wr];grind
 generalize b*2^j=d at *;refine qr (dT (by unfold SG;omega)) (bt (λh=>?_) λh=>?_)
 have h:d<=r:=by grind
 rw[show((r:Int)-d)=(r-d:Nat) by omega,wr (n:=(q:Int)*2),wr (n:=q*2+1)];exact key _ (2*q+1) (r-d) z0 (by grind) z0
 have h:r<d:=by grind
 rw[wr (n:=q*2)];exact key _ (2*q) r z0 (by grind) z0;rw[show(k+1).toNat=0 by omega,Nat.pow_zero,Nat.one_mul]at c hr
 have:a/b=q:=by
  rw[<-c,Nat.add_comm,Nat.add_mul_div_right _ _ o,Nat.div_eq_of_lt hr,Zbn]
 exact KK ⟨by rw[this],λ_=>by rw[this]⟩
def cn(n:Int)(d:Nat):A1×Int:=bif ((n.natAbs/Nat.gcd d n.natAbs:Nat):Int)<=1152921504606846976&&((d/Nat.gcd d n.natAbs:Nat):Int)<=1152921504606846976 then({ K:=(n.natAbs/Nat.gcd d n.natAbs:Nat)*n.sign,T:=(d/Nat.gcd d n.natAbs:Nat) },0)else({ K:=0,T:=0 },14)
def i9{n}{d}(hd:0<d)(e:SG n)(a:R7 d):Gd (LY n) (LY d)=θ (cn n d):=by
 have b:R7 n.natAbs:=by unfold SG R7 at *;omega
 have g:0<Nat.gcd d n.natAbs:=Zfl _ hd;have c:R7 (Nat.gcd d n.natAbs):=Zgr (Nat.le_of_dvd hd (Nat.gcd_dvd_left _ _)) a;unfold Gd cn;refine Ok.val (qr (Aa8 e) (qr (Aaf hd a b) (qr (Aa8 e) (Ok.bind (Aa7 g b c) λr hr=>Ok.bind (Aa7 g a c) λq f=>?_))));rw[hr.1,f.1];by_cases h1:((n.natAbs/Nat.gcd d n.natAbs:Nat):Int)<=1152921504606846976;by_cases h2:((d/Nat.gcd d n.natAbs:Nat):Int)<=1152921504606846976;rw[dt h1,dt h2];refine Ok.no rfl (qr (dT e) (KK ?_));have h:=Int.natCast_nonneg (n.natAbs/Nat.gcd d n.natAbs);rw[hr.2 (by grind)];generalize (n.natAbs/Nat.gcd d n.natAbs:Nat)=z at *
 have i:z*n.sign=z\/z*n.sign=-z\/z*n.sign=0:=by grind
 rw[f.2 (by grind),wr];rfl;rw[dt h1,df h2];exact KK rfl;rw[df h1];exact KK rfl
def XJ{n d}(hd:d≠0)(c:SG n)(a:SG d):Cf (LY n) (LY d)=θ (cn (if d<0 then -n else n) d.natAbs):=by
 unfold Cf;have b:R7 d.natAbs:=by unfold SG R7 at *;omega
 refine Ok.val (qr (dT a) ?_);by_cases h:d<0;rw[Zef h,Zai h];refine Vc rfl (qr (Aag _) (qr (Aag _) (Ok.eq ?_)));rw[show -d=d.natAbs by omega];exact i9 z0 (by unfold SG at *;omega) b;rw[Zet z0,Zah h];refine Ok.no rfl (Ok.eq ?_);rw[show d=d.natAbs by omega];exact i9 z0 c b
def Ae0 x:u64.wrap ((BitVec.ofInt u64.bits x&&&BitVec.ofInt u64.bits 1).toNat)=x%2:=by
 have e:(BitVec.ofInt u64.bits x&&&BitVec.ofInt u64.bits 1).toNat=(x%18446744073709551616).toNat%2:=by
  rw[BitVec.toNat_and,BitVec.toNat_ofInt,BitVec.toNat_ofInt];exact Nat.and_one_is_mod _
 rw[e,Io];omega
def xw(x t:Nat)(h:t<2):u64.wrap ((BitVec.ofInt u64.bits (Lo ((2*x:Nat):Int))|||BitVec.ofInt u64.bits (t:Int)).toNat)=Lo (2*x+t:Nat)/\Hi (2*x:Nat)=Hi (2*x+t:Nat):=by
 rw[orU,sS,sS,vj,vj,show(((2*x%18446744073709551616:Nat):Int)%18446744073709551616).toNat=2^1*(x%9223372036854775808) by omega,show((t:Int)%18446744073709551616).toNat=t by omega,rY 1 _ _ h];omega
def Aax(x t:Nat)(h:t<2):{ E:=(IM ((2*x:Nat):Int)).E,C:=u64.wrap (((BitVec.ofInt u64.bits (IM ((2*x:Nat):Int)).C|||BitVec.ofInt u64.bits (t:Int)).toNat:Nat):Int) }=IM (2*x+t:Nat):=WS (xw x t h).2 (xw x t h).1
def Acj x:{ E:=(IM ((2*x:Nat):Int)).E,C:=u64.wrap (((BitVec.ofInt u64.bits (IM ((2*x:Nat):Int)).C|||BitVec.ofInt u64.bits 1).toNat:Nat):Int) }=IM (2*x+1:Nat):=Aax x 1 z0
def ye(x:Nat):IS (IM x)=θ (IM (2*x:Nat)):=by
 have h:=ah x;unfold IS IM;dsimp only;refine congrArg θ (WS ?_ ?_);rw[show u64.wrap (Hi x*2^(min (1:Int).toNat u64.bits))=Hi x*2%18446744073709551616 from uO _ 1 z0,show(Lo x).fdiv (2^(min (63:Int).toNat u64.bits))=Lo x/9223372036854775808 from Yz _ 63,orU,vj,sS,vj,show(((x/18446744073709551616%18446744073709551616:Nat):Int)*2%18446744073709551616%18446744073709551616).toNat=2^1*(x/18446744073709551616%9223372036854775808) by omega,show(((x%18446744073709551616:Nat):Int)/9223372036854775808%18446744073709551616).toNat=x%18446744073709551616/9223372036854775808 by omega,rY 1 _ _ z0];omega;rw[show u64.wrap (Lo x*2^(min (1:Int).toNat u64.bits))=Lo x*2%18446744073709551616 from uO _ 1 z0];unfold Lo;omega
def Abi(a:Nat){j:Nat}(h:j<128):(if j<64 then(Lo a).fdiv (2^(min ((j:Int)).toNat u64.bits))else(Hi a).fdiv (2^(min (((j-64:Nat):Int)).toNat u64.bits)))%2=(a/2^j%2:Nat):=by
 split;rw[uP _ j z0,sS,<-Zgh,bZ (n:=j) z0,Nat.mod_mul_right_div_self];have e:2^(64-j)=2*2^(63-j):=by rw[<-Nat.pow_succ'];congr 1;omega
 rw[e];have:=Nat.mod_mul_right_mod (a/2^j) 2 (2^(63-j));omega;obtain⟨i,rfl⟩:∃i,j=64+i:=⟨j-64,z0⟩;rw[show 64+i-64=i by omega,uP _ i z0,vj,<-Zgh,Zdi,<-Zeu];generalize a/2^64=c;show(((c%2^64/2^i:Nat):Int))%2=_;rw[show 2^64=2^i*2^(64-i) by rw[<-Zdi];congr 1;omega,Nat.mod_mul_right_div_self];have e:2^(64-i)=2*2^(63-i):=by rw[<-Nat.pow_succ'];congr 1;omega
 rw[e];have:=Nat.mod_mul_right_mod (c/2^i) 2 (2^(63-i));omega
theorem sq{a b}(k:0<b)(m:R7 a)(n:R7 b):KR (IM a) (IM b)=θ (IM (a/b:Nat),IM (a%b:Nat)):=by
 unfold KR R7 at *;have o:a/2^128=0:=Nat.div_eq_of_lt z0;refine Ok.val (Ok.loop (λt=>∃j q r:Nat,t=((j:Int)-1,IM q,IM r)/\j<=128/\r<b/\q*b+r=a/2^j) (λt=>(t.1+1).toNat) ⟨128,0,0,rfl,z0,k,by rw[o];omega⟩ (by simp only;unfold Ay;omega) λrec t ⟨j,q,r,e,y,hr,l⟩ ih=>?_);subst e;simp only at ih
 cases j with
 | zero=>
   refine Ok.no (df (by grind)) (KK ?_);rw[Nat.pow_zero,Nat.div_one]at l;have:a/b=q:=by rw[<-l,Nat.add_comm,Nat.add_mul_div_right _ _ k,Nat.div_eq_of_lt hr,Zbn]
   have h2:=Zei a b;rw[this,Zcm]at h2;grind
 | succ j=>
   have hd:a/2^j=2*(a/2^(j+1))+a/2^j%2:=by rw[Zfc,<-Zeu];omega
   have d:=Abi a (j:=j) z0;have f:2*q*b+(2*r+a/2^j%2)=a/2^j:=by grind
   have h2:a/2^j%2<2:=Zev _ z0;have p:((j+1:Nat):Int)-1=j:=z0;have u:=Zdx a (2^j);rw[p]at ih ⊢;generalize a/2^j%2=t at *
   have key:∀X:Int,X%2=t->Ok ((IS (IM q)).bind λc=>(Gy ({ E:=(IM (2*r:Nat)).E,C:=(u64.wrap ((BitVec.ofInt u64.bits (IM ((2*r:Nat):Int)).C|||BitVec.ofInt u64.bits (u64.wrap (((BitVec.ofInt u64.bits X&&&BitVec.ofInt u64.bits 1).toNat:Nat):Int))).toNat:Nat)) }:Au) (IM b)).bind λg=>
    bif(!g)then
     (E2 ({ E:=(IM (2*r:Nat)).E,C:=(u64.wrap (((BitVec.ofInt u64.bits (IM (2*r:Nat)).C|||BitVec.ofInt u64.bits (u64.wrap ((BitVec.ofInt u64.bits X&&&BitVec.ofInt u64.bits 1).toNat:Nat))).toNat:Nat):Int)) }:Au) (IM b)).bind λi=>
     rec ((i64.wrap (j-1)),({ E:=c.E,C:=(u64.wrap ((BitVec.ofInt u64.bits c.C|||BitVec.ofInt u64.bits 1).toNat:Nat)) }:Au),i)
    else
     rec ((i64.wrap (j-1)),c,({ E:=(IM (2*r:Nat)).E,C:=(u64.wrap (((BitVec.ofInt u64.bits (IM (2*r:Nat)).C|||BitVec.ofInt u64.bits (u64.wrap ((BitVec.ofInt u64.bits X&&&BitVec.ofInt u64.bits 1).toNat:Nat))).toNat:Nat):Int)) }:Au))) λx=>x=(IM (a/b:Nat),IM (a%b:Nat)):=λX v=>by
    rw[Ae0,v,Aax r t h2];refine qr (ye q) (qr (lU z0 z0) ?_);rw[Acj,wr];by_cases h:2*r+t<b;rw[dt h];exact ih _ ⟨j,2*q,2*r+t,rfl,z0,h,f⟩ z0;rw[df h];refine Vc rfl (qr (cq _ _) ?_);rw[show((2*r+t:Nat)-b)=((2*r+t-b:Nat):Int) by omega];refine ih _ ⟨j,2*q+1,2*r+t-b,rfl,z0,z0,?_⟩ z0;grind
   refine Vc (dt z0) (qr (ye r) ?_);have w:u64.wrap (Int.tmod j 64)=(j%64:Nat):=by rw[Io,Zgf z0];omega
   rw[w];refine dg z0 (bt (λh=>?_) λh=>?_);rw[Zai z0]at d;rw[show u64.wrap j=j by rw[Io];omega];exact dg z0 (key _ d);rw[Zah z0,show j-64=j%64 by omega]at d;exact key _ d
def zB{a b}(c:R7 a)(d:R7 b)(l:0<a):Ox (IM a) (IM b)=θ (IM (Nat.gcd a b)):=by
 unfold Ox;refine Ok.val (Ok.loop (λt=>∃x y:Nat,t=(IM x,IM y)/\R7 x/\R7 y/\0<x/\Nat.gcd x y=Nat.gcd a b) (λt=>(λx y=>2*(EJ x+EJ y)+if x<y then 1 else 0) (vw ⟨t.1.E,t.1.C⟩) (vw ⟨t.2.E,t.2.C⟩)) ⟨a,b,rfl,c,d,l,rfl⟩ ?_ λrec t ⟨x,y,e,hx,hy,i,j⟩ ih=>?_);have h1:=RG (k:=127) c;have h2:=RG (k:=127) d;rw[show(⟨(IM a,IM b).1.E,(IM a,IM b).1.C⟩:Ao)=LY a from rfl,show(⟨(IM a,IM b).2.E,(IM a,IM b).2.C⟩:Ao)=LY b from rfl,bu c,bu d];simp only;unfold Ay;split<;>omega;subst e;have g:∀{z:Nat},R7 z->vw ⟨(IM z).E,(IM z).C⟩=z:=λh=>bu h;simp only[g hx,g hy]at ih;apply qr (sy (sg hy));by_cases h:y=0;subst h;rw[Nat.gcd_zero_right]at j;exact Ok.no rfl (KK (by rw[j]));have m:=Zev x (y:=y) z0;have f:R7 (x%y):=by grind
 refine Vc (by grind) (qr (sq z0 hx hy) (ih _ ⟨y,x%y,rfl,hy,f,z0,?_⟩ ?_));rw[<-j,Zfq x y,Nat.gcd_rec y x,Zfq];rw[g hy,g f];by_cases q:x<y;rw[Zdy q,Zai q,Zah z0];omega
 have:=nW (z:=x%y) (y:=x) (by have:=Zei x y
                              have:y*1<=y*(x/y):=Zeh _ (Nat.div_pos z0 z0);omega) i
 grind
def kr{n}{d}(hd:0<d)(e:SG n)(a:R7 d):JM (IM n) (IM d)=θ (cn n d):=by
 have b:R7 n.natAbs:=by unfold SG R7 at *;omega
 have f:0<Nat.gcd d n.natAbs:=Zfl _ hd;have c:R7 (Nat.gcd d n.natAbs):=Zgr (Nat.le_of_dvd hd (Nat.gcd_dvd_left _ _)) a;have h1:=Zdx n.natAbs (Nat.gcd d n.natAbs);have h2:=Zdx d (Nat.gcd d n.natAbs);unfold JM cn;refine Ok.val (qr (Aef e) (qr (zB a b hd) (qr (sq f b c) (qr (sq f a c) ?_))));generalize n.natAbs/Nat.gcd d n.natAbs=u at *;generalize d/Nat.gcd d n.natAbs=v at *;unfold R7 at *;rw[WS (h:=0) (l:=1152921504606846976) (z:=(1152921504606846976:Nat)) j0 j0];refine qr (lU z0 z0) (bt (λh=>?_) λh=>qr (lU z0 z0) (bt (λk=>?_) λk=>qr (Acs e) ?_));rw[df z0];exact KK rfl;rw[df (p:=(v:Int)<=_) z0,Bool.and_false];exact KK rfl;have g:Lo u=u:=by unfold Lo;omega
 have i:Lo v=v:=by unfold Lo;omega
 rw[dt (p:=(u:Int)<=_) z0,dt (p:=(v:Int)<=_) z0];show Ok (bif υ (n<0)then θ (({ K:=i64.wrap (0-i64.wrap (Lo u)),T:=i64.wrap (Lo v) }:A1),0)else θ ({ K:=i64.wrap (Lo u),T:=i64.wrap (Lo v) },0)) _;rw[g,i,wr (n:=v),wr (n:=u),wr (n:=0-u)];refine bt (λq=>KK ?_) λq=>KK ?_;rw[Zef q,show 0-(u:Int)=u * -1 by omega];rfl;grind
def zL{n d}(hd:d≠0)(b:SG n)(a:SG d):DO (IM n) (IM d)=Cf (LY n) (LY d):=by
 rw[XJ hd b a];unfold DO;have c:R7 d.natAbs:=by unfold SG R7 at *;omega
 refine Ok.val (qr (Acs a) (bt (λh=>?_) λh=>?_));rw[Zai h];refine qr (x:=IM (0-n)) (cq 0 n) (qr (x:=IM (0-d)) (cq 0 d) (Ok.eq ?_));rw[show 0-n=-n by omega,show 0-d=d.natAbs by omega];exact kr z0 (by unfold SG at *;omega) c;rw[Zah h,show d=d.natAbs by omega];exact Ok.eq (kr z0 b c)
structure VF(p:A1):Prop where
 d0:1<=p.T
 d1:p.T<=1152921504606846976
 n0:-1152921504606846976<=p.K
 n1:p.K<=1152921504606846976
 g:Nat.gcd p.T.natAbs p.K.natAbs=1
def wA{K}{a b}(i:a.natAbs<=1152921504606846976)(f:b.natAbs<=1152921504606846976){Q}(hK:∀g:Int,g.natAbs=Nat.gcd a.natAbs b.natAbs->(0<=a->0<=b->0<=g)->Ok (K g 0) Q):Ok (iter (λrec s=>M3 K rec s.1 s.2) Ay (a,b)) Q:=by
 refine Ok.loop (λt=>Nat.gcd t.1.natAbs t.2.natAbs=Nat.gcd a.natAbs b.natAbs/\t.2.natAbs<=1152921504606846976/\(0<=a->0<=b->0<=t.1/\0<=t.2)) (λt=>t.2.natAbs) ⟨rfl,f,λh1 h2=>⟨h1,h2⟩⟩ (by unfold Ay;simp only;omega) λrec ⟨x,y⟩ ⟨h1,h2,c⟩ ih=>?_;simp only at h1 h2 c ih;by_cases h:y=0;subst h;refine Ok.no rfl (hK x (by grind) λd e=>(c d e).1);refine Vc (nz h) (dg h (ih _ ⟨?_,?_,λd e=>⟨(c d e).2,Int.tmod_nonneg _ (c d e).1⟩⟩ ?_));show Nat.gcd y.natAbs (Int.tmod x y).natAbs=_;rw[<-h1,Int.natAbs_tmod,Zfq x.natAbs,Nat.gcd_rec y.natAbs x.natAbs,Zfq]
 all_goals
  simp[Int.natAbs_tmod];have:=Zev x.natAbs (y:=y.natAbs) z0;omega
def sN{p}(h:VF p):Ee p=θ ν:=by
 have⟨h1,h2,a,b,c⟩:=h;unfold Ee RD;rw[dt h1,dt h2,dt a,dt b];refine Ok.val (Vc rfl (Ok.bind (wA z0 z0 (Q:=(·=1)) λg e _=>KK ?_) λx e=>KK (by grind)));rw[Zfq,c]at e;rw[wr];grind
def sx{p}(h:VF p):Gz p=θ ν:=by
 have⟨h1,h2,c,d,a⟩:=h;unfold Gz Qh;rw[df (p:=p.T<1),df (p:=p.T>_),df (p:=p.K<_),df (p:=p.K>_),wr];refine Ok.val (Ok.no rfl ?_);show Ok ((iter (λrec s=>M3 (λv _=>θ v) rec s.1 s.2) Ay (p.T,_)).bind _) _;refine Ok.bind (wA (Q:=(·=1)) z0 (by grind) λg e b=>KK ?_) λx e=>KK (by grind);grind
def FR(r:A1×Int):=r.2=0->VF r.1
def Acq n{d}(hd:0<d):FR (cn n d):=by
 intro h;unfold cn at h ⊢;have g:0<Nat.gcd d n.natAbs:=Zfl _ hd;have e:=Nat.coprime_div_gcd_div_gcd g;have i:=Nat.div_pos (Nat.gcd_le_left _ hd) g;have f:n=0->n.natAbs/Nat.gcd d n.natAbs=0:=by rintro rfl;simp
 generalize n.natAbs/Nat.gcd d n.natAbs=a at *;generalize d/Nat.gcd d n.natAbs=b at *
 have c:(a*n.sign).natAbs=a:=by grind
 by_cases h1:(a:Int)<=1152921504606846976;by_cases h2:(b:Int)<=1152921504606846976;rw[dt h1,dt h2];generalize a*n.sign=z at *;refine⟨by simp[Zfz,Zav];omega,h2,?_,?_,?_⟩<;>simp[Zfz,Zav];omega;omega;rw[c];exact e;rw[df h2,Bool.and_false]at h;cases h;grind
def qo{n d}(hd:d≠0)(b:SG n)(a:SG d):∃r,Cf (LY n) (LY d)=θ r/\DO (IM n) (IM d)=θ r/\FR r:=
 ⟨_,XJ hd b a,(zL hd b a).trans (XJ hd b a),Acq _ z0⟩
def xo{n d:Int}(a:-9223372036854775808<=n:=by omega)(b:n<=9223372036854775807:=by omega)(c:-9223372036854775808<=d:=by omega)(e:d<=9223372036854775807:=by omega):∃r,Eb n d=some r/\QY n d=some r/\FR r:=by
 unfold Eb QY;by_cases h:d=0;subst h;exact⟨_,rfl,rfl,λh=>by cases h⟩;rw[nzf h,TD a b,TD c e,X6 a b,X6 c e];have⟨r,f,g,hr⟩:=qo h (n:=n) (by unfold SG;omega) (by unfold SG;omega);grind
def eQ{a b}(c:-1152921504606846976<=a/\a<=1152921504606846976)(d:-1152921504606846976<=b/\b<=1152921504606846976):-1329227995784915872903807060280344576<=a*b/\a*b<=1329227995784915872903807060280344576:=by
 have h:(a*b).natAbs<=1152921504606846976*1152921504606846976:=by rw[Int.natAbs_mul];exact Zec z0 z0
 omega
structure TW(p q:A1):Prop where
 a:SG (p.K*q.T)/\SG (q.K*p.T)/\SG (p.K*q.K)/\SG (p.K*q.T+q.K*p.T)/\SG (p.K*q.T-q.K*p.T)
 b:SG (p.T*q.T)/\p.T*q.T≠0
 c:q.K≠0->q.K*p.T≠0
def tw{p q}(j:VF p)(k:VF q):TW p q:=by
 have⟨m,c,d,e,_⟩:=j;have⟨n,f,g,i,_⟩:=k;have h1:=eQ ⟨d,e⟩ ⟨z0,f⟩;have h2:=eQ ⟨g,i⟩ ⟨z0,c⟩;have o:=eQ ⟨d,e⟩ ⟨g,i⟩;have r:=eQ (a:=p.T) (b:=q.T) ⟨z0,c⟩ ⟨z0,f⟩;have l:p.T*q.T≠0:=Int.mul_ne_zero z0 z0;refine⟨⟨?_,?_,?_,?_,?_⟩,⟨?_,l⟩,λh=>Int.mul_ne_zero h z0⟩<;>unfold SG<;>omega
def xu{p q}(g:VF p)(i:VF q):(∃r,L2 p q=θ r/\Vd p q=θ r/\FR r)/\(∃r,L3 p q=θ r/\Ve p q=θ r/\FR r)/\(∃r,H4 p q=θ r/\PI p q=θ r/\FR r)/\∃r,Ji p q=θ r/\S6 p q=θ r/\FR r:=by
 have⟨⟨F,G,H,I,J⟩,⟨t,u⟩,K⟩:=tw g i;have j:=sN g;have l:=sN i;have m:=sx g;have o:=sx i;have⟨L,M,N,O,_⟩:=g;have⟨P,Q,R,S,_⟩:=i;have A:=TD (n:=p.K) z0 z0;have v:=TD (n:=p.T) z0 z0;have B:=TD (n:=q.K) z0 z0;have w:=TD (n:=q.T) z0 z0;have x:=X6 (n:=p.K) z0 z0;have d:=X6 (n:=p.T) z0 z0;have y:=X6 (n:=q.K) z0 z0;have e:=X6 (n:=q.T) z0 z0
 have C:GA p q=θ (LY (p.K*q.T),LY (q.K*p.T)):=by
  unfold GA;exact Ok.val (qr A (qr w (qr (iA _ _) (qr B (qr v (qr (iA _ _) (KK rfl)))))))
 have D:∀{f:Ao->Ao->Option Ao}{z:Int}{r:A1×Int},f (LY (p.K*q.T)) (LY (q.K*p.T))=θ (LY z)->Cf (LY z) (LY (p.T*q.T))=θ r->G9 p q f=θ r:=λ{f z r} h k=>by
  unfold G9;exact Ok.val (qr j (Ok.no rfl (qr l (Ok.no rfl (qr C (qr h (qr v (qr w (qr (iA _ _) (qr k (KK rfl)))))))))))
 have E:∀{b:Bool}{z:Int}{r:A1×Int},(bif b then p.K*q.T-q.K*p.T else p.K*q.T+q.K*p.T)=z->DO (IM z) (IM (p.T*q.T))=θ r->S7 p q b=θ r:=λ{b z r} h k=>by
  subst h;unfold S7 VN;refine Ok.val (qr m (Ok.no rfl (qr o (Ok.no rfl (qr x (qr e (qr (U5 _ _) (qr y (qr d (qr (U5 _ _) ?_))))))))))
  cases b
  exact qr (ya _ _) (qr d (qr e (qr (U5 _ _) (qr k (KK rfl)))));exact qr (cq _ _) (qr d (qr e (qr (U5 _ _) (qr k (KK rfl)))))
 refine⟨?_,?_,?_,?_⟩;have⟨r,c,a,hr⟩:=qo u I t;exact⟨r,Ok.val (qr (D (y5 _ _) c) (KK rfl)),Ok.val (qr (E rfl a) (KK rfl)),hr⟩;have⟨r,c,a,hr⟩:=qo u J t;exact⟨r,Ok.val (qr (D (i7 _ _) c) (KK rfl)),Ok.val (qr (E rfl a) (KK rfl)),hr⟩;have⟨r,c,a,hr⟩:=qo u H t;unfold H4 PI
 exact⟨r,Ok.val (qr j (Ok.no rfl (qr l (Ok.no rfl (qr A (qr B (qr (iA _ _) (qr v (qr w (qr (iA _ _) (qr c (KK rfl)))))))))))),
  Ok.val (qr m (Ok.no rfl (qr o (Ok.no rfl (qr x (qr y (qr (U5 _ _) (qr d (qr e (qr (U5 _ _) (qr a (KK rfl)))))))))))),hr⟩
 unfold Ji S6;by_cases h:q.K=0;exact⟨_,Ok.val (qr j (Ok.no rfl (qr l (Ok.no rfl (Vc (by grind) (KK rfl)))))),Ok.val (qr m (Ok.no rfl (qr o (Ok.no rfl (Vc (by grind) (KK rfl)))))),λh=>by cases h⟩;have⟨r,c,a,hr⟩:=qo (K h) F G;rw[Int.mul_comm q.K]at a
 exact⟨r,Ok.val (qr j (Ok.no rfl (qr l (Ok.no rfl (Ok.no (nzf h) (qr C (qr c (KK rfl)))))))),
  Ok.val (qr m (Ok.no rfl (qr o (Ok.no rfl (Ok.no (nzf h) (qr x (qr e (qr (U5 _ _) (qr d (qr y (qr (U5 _ _) (qr a (KK rfl))))))))))))),hr⟩
set_option maxRecDepth 10000
theorem YY(d:Array Int)(hd:∀i,i+1<d.size->d[i]!<=d[i+1]!):∀m,m<=d.size->(Go.Lib.compactUpTo d m).Pairwise (·<·)/\(∀x,x∈Go.Lib.compactUpTo d m↔∃j,j<m/\d[j]! = x)/\∀x∈Go.Lib.compactUpTo d m,x<=d[m-1]!:=by
 intro m
 induction m with
 | zero=>intro _;simp[Go.Lib.compactUpTo]
 | succ m ih=>
   intro p;have⟨h1,h2,f⟩:=ih z0;rw[Go.Lib.compactUpTo_succ];by_cases l:m=0;subst l;have:Go.Lib.compactUpTo d 0=[]:=rfl;rw[this];have n:=Go.Lib.keeps_lt_one d 0 z0;rw[Zai n];refine⟨zs,λx=>?_,zs⟩;constructor;intro h;simp at h;exact⟨0,z0,h.symm⟩;rintro⟨j,c,rfl⟩;have:j=0:=z0;subst this;simp;have g:=hd (m-1) z0;rw[show m-1+1=m by omega]at g;by_cases he:d[m]! = d[m-1]!;rw[Go.Lib.keeps_neg z0 he];simp only[Zcz,if_false,Zcq];refine⟨h1,λx=>?_,λx hx=>?_⟩;rw[h2];constructor;rintro⟨j,c,rfl⟩;exact⟨j,z0,rfl⟩;rintro⟨j,c,rfl⟩;by_cases e:j=m;subst e;exact⟨j-1,z0,he.symm⟩;exact⟨j,z0,rfl⟩;have:=f x hx;rw[show m+1-1=m by omega,he];exact this;rw[Go.Lib.keeps_pos he,Zai rfl];grind
def uh{x}{xs}:x∈Fy xs↔x∈xs:=by simp[Fy,List.mem_mergeSort]
def mj xs:(Fy xs).Pairwise (·<=·):=by
 have:=Zgt (le:=λx y:Int=>υ (x<=y)) (λa b c h1 h2=>by simp at *;omega) (λa b=>zv) xs;exact this.imp zs
def AS(xs r:List Int):=r.Pairwise (·<·)/\∀x,x∈r↔x∈xs
def AS.eq{xs a b}(c:AS xs a)(d:AS xs b):a=b:=vJ c.1 d.1 λz=>(c.2 z).trans (d.2 z).symm
def fj xs:AS xs (Lib.compact (Fy xs)):=by
 have d:=mj xs;have e:∀x,x∈Fy xs↔x∈xs:=λx=>uh;generalize Fy xs=s at d e;have b:∀i (h:i<Ξ s),s.toArray[i]! = s[i]:=λi h=>by simp[h]
 have⟨h1,h2,_⟩:=YY s.toArray (λi c=>by
  have c:i+1<Ξ s:=by grind
  rw[b i z0,b (i+1) c];exact List.pairwise_iff_getElem.1 d i (i+1) z0 c z0) (Ξ s) zs
 refine⟨h1,λx=>?_⟩;unfold Go.Lib.compact;rw[h2,<-e];constructor;rintro⟨j,a,rfl⟩;rw[b j a];exact Zae a;intro h;obtain⟨j,a,rfl⟩:=Zbi h;grind
theorem jP x:∀l,l.Pairwise (·<·)->(pU x l).Pairwise (·<·)/\∀y,y∈pU x l↔y=x\/y∈l
 | [],_=>by simp[pU]
 | z::r,h=>by
   have⟨h1,h2⟩:=List.pairwise_cons.1 h;unfold pU;by_cases c:x<z;rw[Zak c,Zav];refine⟨List.pairwise_cons.2 ⟨λy hy=>?_,h⟩,λy=>zs⟩;rcases List.mem_cons.1 hy with rfl|hy;exact c;have:=h1 y hy;omega;rw[Zap c,Zaq];by_cases e:x=z;rw[show(x==z)=ν by simp[e],Zav];exact⟨h,λy=>by subst e;simp⟩;rw[show(x==z)=ξ by simp[e],Zaq];have⟨b,a⟩:=jP x r h2;refine⟨List.pairwise_cons.2 ⟨λy hy=>?_,b⟩,λy=>by simp[Zdd,a];exact⟨λh=>by rcases h with h|h|h<;>simp[h],λh=>by rcases h with h|h|h<;>simp[h]⟩⟩;grind
theorem c9:∀xs,(setU xs).Pairwise (·<·)/\∀x,x∈setU xs↔x∈xs
 | []=>by simp[setU]
 | z::r=>by
   have⟨h1,h2⟩:=c9 r;have⟨a,b⟩:=jP z (setU r) h1;exact⟨a,λx=>by rw[show setU (z::r)=pU z (setU r)from rfl,b,h2];simp⟩
def vI{xs r}(h:AS xs r)(a:Ξ r<=1000)x:Ok (N4 r x) λq=>AS (xs++[x]) q/\Ξ q<=Ξ r+1:=
 (sf a h.1).mono λq ⟨h1,h2,b⟩=>⟨⟨h1,λz=>by rw[h2,h.2];simp⟩,b⟩
def Adi{xs}(d:Ξ xs<=1000):Ok (Xs xs) λr=>AS xs r/\Ξ r<=Ξ xs:=by
 unfold Xs;refine Wf (λq=>q.2) (Ξ xs) (λk q=>AS (xs.take k) q.1/\Ξ q.1<=k) 0 (Zag _) rfl ⟨⟨.nil,zs⟩,Zam _⟩ z0 (λrec q b a=>?_) λrec k q c b a ih=>?_;rw[Um,b];rw[Zaj]at a;rw[Bl];exact KK a;rw[Um,b];have:=a.2;rw[AK];refine JT c (Ok.bind (vI a.1 z0 _) λr hr=>ih _ BE ?_);rw[Zab c];grind
def yu{a b}(d:Ξ a<=500)(f:Ξ b<=500):∃u,F6 a b=θ u/\NC a b=θ u/\AS (a++b) u/\Ξ u<=Ξ a+Ξ b:=by
 have⟨u,e,h,h2⟩:=Adi (xs:=a++b) zv;have c:=c9 (a++b);refine⟨u,?_,?_,h,by simpa using h2⟩;unfold F6;rw[dt ⟨z0,z0⟩,Zav,AS.eq c h];unfold NC;rw[II z0,II z0,e];rfl
def WD{α β}{m}{n}{Q:α->β->Prop}(h:Ok n λy=>Ok m λx=>Q x y):Ok m λx=>Ok n λy=>Q x y:=by
 have⟨y,h1,x,h2,a⟩:=h;exact⟨x,h2,y,h1,a⟩
def Ok.two{σ τ ρ π:Type}{f:(σ->Option ρ)->σ->Option ρ}{g:(τ->Option π)->τ->Option π}{Q:ρ->π->Prop}{s:σ}{t:τ}(len:Nat)(I:Nat->σ->τ->Prop)(j:I 0 s t)
 (he:∀a b s t,I len s t->Ok (f a s) λx=>Ok (g b t) (Q x))
 (l:∀a b i s t,i<len->I i s t->(∀c d,I (i+1) c d->Ok (a c) λx=>Ok (b d) (Q x))->Ok (f a s) λx=>Ok (g b t) (Q x)) (o:len<=1000000000000:=by omega):Ok (P.iter f Ay s) λx=>Ok (P.iter g Ay t) (Q x):=by
 have key:∀k n i s t,i+k=len->k<n->I i s t->Ok (P.iter f n s) λx=>Ok (P.iter g n t) (Q x):=by
  intro k
  induction k with
  | zero=>intro n i s t h1 h2 e;obtain⟨n,rfl⟩:∃m,n=m+1:=⟨n-1,z0⟩;obtain rfl:i=len:=z0
          exact he _ _ _ _ e
  | succ k ih=>intro n i s t h1 h2 e;obtain⟨n,rfl⟩:∃m,n=m+1:=⟨n-1,z0⟩
               exact l _ _ i _ _ z0 e λc d h=>ih n (i+1) c d z0 z0 h
 exact key len Ay 0 s t z0 (by unfold Ay;omega) j
def nf{α:Type}(p:α->Bool)(l:List α)(k:Nat):Int:=(Ξ ((l.take k).filter p))
def lP{α}p(l:List α):nf p l 0=0:=by simp[nf]
def Ue{α}p{l:List α}{k}h:nf p l (k+1)=nf p l k+bif p l[k]then 1 else 0:=by
 unfold nf;rw[Zab h,Zew,Zar]
 grind
def aF{α}p(l:List α)k:0<=nf p l k/\nf p l k<=k:=by
 unfold nf;grind
theorem qg{α}{p q r}{l:List α}(h:∀x∈l,(p x=ν↔q x=ν\/r x=ν)/\¬(q x=ν/\r x=ν)):∀k,k<=Ξ l->nf p l k=nf q l k+nf r l k
 | 0,_=>by simp[lP]
 | k+1,hk=>by
   rw[Ue _ z0,Ue _ z0,Ue _ z0,qg h k z0];grind
section
variable {ts:List Int} {es:List Bool}
abbrev oR t(p:Int×Bool):=p.1==t&&p.2
abbrev oU t(p:Int×Bool):=p.1==t&&!p.2
abbrev geq t(p:Int×Bool):=υ (t<=p.1)
def yF(t a e l:Int):Aj:={ Bh:=t,Bj:=a,Bk:=e,Bl:=l,Bm:={ K:=0,T:=0 } }
def yp{t a}(he:Ξ es=Ξ ts)(j:Ξ ts<=1000){K}{Q}(hK:Ok (K (Ξ ts) (yF t a (nf (oR t) (ts.zip es) (Ξ ts)) (nf (oU t) (ts.zip es) (Ξ ts)))) Q):
 Ok (iter (λrec s=>IK ts t es K rec s.1 s.2) Ay (0,yF t a 0 0)) Q:=by
 refine Wf (λq=>q.1) (Ξ ts) (λk q=>q.2=yF t a (nf (oR t) (ts.zip es) k) (nf (oU t) (ts.zip es) k)) 0 (Zag _) rfl (by simp[lP]) z0 (λrec q b c=>?_) λrec k q i b c ih=>?_;rw[IK,b,c];rw[Bl];exact hK;rw[IK,b,c];have h:k<Ξ (ts.zip es):=zv;have l:=aF (oR t) (ts.zip es) k;have m:=aF (oU t) (ts.zip es) k;have d:=Ue (oR t) h;have g:=Ue (oU t) h;rw[List.getElem_zip]at d g;rw[AK];refine JT i (Ok.br (λe=>ih _ BE ?_) λe=>JT z0 (Ok.br (λf=>ih _ BE ?_) λf=>ih _ BE ?_));have:(ts[k]==t)=ξ:=by grind
 rw[d,g,oR,oU,this];simp
 all_goals
  have:ts[k]=t:=by grind
  simp only[yF,d,g,oR,oU,this,f];simp;exact wr
def uw{t:Int}(he:Ξ es=Ξ ts)(m:Ξ ts<=1000){K:Int->Aj->Option (List Aj×Int)}{Q:List Aj×Int->Prop}(hK:Ok (K (Ξ ts) (yF t (nf (geq t) (ts.zip es) (Ξ ts)) (nf (oR t) (ts.zip es) (Ξ ts)) (nf (oU t) (ts.zip es) (Ξ ts)))) Q):
 Ok (iter (λrec s=>Lj ts es K rec s.1 s.2) Ay (0,yF t 0 0 0)) Q:=by
 refine Wf (λq=>q.1) (Ξ ts) (λk q=>q.2=yF t (nf (geq t) (ts.zip es) k) (nf (oR t) (ts.zip es) k) (nf (oU t) (ts.zip es) k)) 0 (Zag _) rfl (by simp[lP]) z0 (λrec q c d=>?_) λrec k q b c d ih=>?_
 ·simp only[Lj,c,d];rw[Bl];exact hK
 ·simp only[Lj,c,d];have g:k<Ξ (ts.zip es):=zv
  have o:=aF (geq t) (ts.zip es) k;have p:=aF (oR t) (ts.zip es) k;have r:=aF (oU t) (ts.zip es) k;have h:=Ue (geq t) g;have i:=Ue (oR t) g;have j:=Ue (oU t) g;rw[List.getElem_zip]at h i j;rw[AK]
  have fin:∀a,a=nf (geq t) (ts.zip es) (k+1)->Ok (IG ts k es rec (yF t a (nf (oR t) (ts.zip es) k) (nf (oU t) (ts.zip es) k))) Q:=λa l=>by
   subst l;unfold IG Ll Lk;refine JT b (Ok.br (λe=>JT z0 (Ok.br (λf=>JT b (Vc e (JT z0 (Ok.no (by rw[f];rfl) (ih _ BE ?_))))) λf=>JT b (Vc e (JT z0 (Vc (by rw[f];rfl) (ih _ BE ?_)))))) λe=>JT b (Ok.no e (ih _ BE ?_)))
   all_goals
    have e:(ts[k]==t)=_:=e;simp only[yF,i,j,oR,oU,e]
   ·simp[f];exact wr
   ·simp[f];exact wr
   ·simp
  refine JT b (bt (λe=>fin _ ?_) λe=>fin _ ?_)
  ·rw[h];have e:ts[k]>=t:=e;simp only[geq];rw[show υ (t<=ts[k])=ν from dt e];exact wr (n:=nf (geq t) (ts.zip es) k+1)
  ·rw[h];have e:¬ts[k]>=t:=e;simp only[geq];rw[show υ (t<=ts[k])=ξ from df e];exact(Int.add_zero _).symm
end
abbrev Sm{α}m n(P:α->Prop):=Ok m λx=>Ok n λy=>x=y/\P x
def Sm.bind{α β}{m n}{f g}{P:α->Prop}{Q:β->Prop}(h:Sm m n P)(k:∀x,P x->Sm (f x) (g x) Q):Sm (m.bind f) (n.bind g) Q:=by
 obtain⟨x,h1,y,h2,rfl,a⟩:=h;grind
def Sm.ret{α}{x:α}{P}(h:P x):Sm (θ x) (θ x) P:=KK (KK ⟨rfl,h⟩)
def Sm.of{α}{m n}{x:α}{P}(h1:m=θ x)(h2:n=θ x)(h:P x):Sm m n P:=h1▸h2▸Sm.ret h
def Sm.ex{α}{m n}{P:α->Prop}(h:Sm m n P):∃x,m=θ x/\n=θ x/\P x:=by
 obtain⟨x,h1,y,h2,rfl,a⟩:=h;grind
def Sm.br{α}{b}{x y a y'}{P:α->Prop}(h1:b=ν->Sm x a P)(h2:b=ξ->Sm y y' P):Sm (bif b then x else y) (bif b then a else y') P:=by grind
def Sm.mono{α}{m n}{P Q:α->Prop}(h:Sm m n P)(k:∀x,P x->Q x):Sm m n Q:=Ok.mono h λ_ h=>Ok.mono h λ_ h=>⟨h.1,k _ h.2⟩
def Sm.r{α}{m n}{P:α->Prop}(h:Ok n λy=>Ok m λx=>x=y/\P x):Sm m n P:=WD h
def NS p:Ξ (Lu p)=p.size:=by
 unfold Lu;rw[Zac];rfl
def pg{p}{v}(a:0<=v)(h:v.toNat<p.size):idx (Lu p) v=θ (Gi p v):=by
 rw[XW a (by rw[NS];exact h)];have h2:=h;unfold Lu Gi;grind
def ui{p}{a c d e}{v}(n:p.size<=16)(f:0<=v)(h1:v<=16)(g:a v=c v)(hr:d (i64.wrap (v+1))=e (i64.wrap (v+1))):Ib p a d v=Ml p c e v:=by
 unfold Ib Ml;rw[NS];by_cases h:v<p.size;have i:υ (0<=v/\v.toNat<p.size)=ν:=Zak ⟨f,z0⟩;rw[pg f z0,Zad,Zak h];rw[i,Zav];generalize Gi p v=b;have j:υ (b<97)=!υ (b>=97):=by grind
 have k:υ (b>122)=!υ (b<=122):=by grind
 have l:υ (b<48)=!υ (b>=48):=by grind
 have m:υ (b>57)=!υ (b<=57):=by grind
 rw[j,k,l,m,bne]
 cases υ (b>=97)<;>cases υ (b<=122)<;>cases υ (b>=48)<;>cases υ (b<=57)<;>cases(b==95)<;>first|rfl|exact hr
 grind
def g9 p:CQ p=D8 p:=by
 unfold CQ D8;by_cases h:p.size<=16
 have e:JV p=Mm p:=by
  unfold JV Mm;refine V8 (λv=>0<=v/\v<=16) (λb c v a hr=>?_) Ay 0 ⟨Zbh _,z0⟩;by_cases e:v=16;unfold Ib Ml;rw[NS,Zap z0];rfl;exact ui h a.1 a.2 rfl (hr _ (by rw[wr];omega))
 rw[e]
 grind
def VD p:Ok (CQ p) λ_=>True:=by
 unfold CQ;refine Ok.br (λ_=>KK trivial) λh=>?_
 have h1:1<=p.size/\p.size<=16:=by grind
 refine dg ⟨Zbh _,by show 0<p.size;omega⟩ (Ok.br (λ_=>KK trivial) λ_=>dg ⟨Zbh _,by show 0<p.size;omega⟩ (Ok.br (λ_=>KK trivial) λ_=>?_));have d:=NS p;unfold JV;refine Wf (λq=>q) (Ξ (Lu p)) (λ_ _=>True) 0 (Zag _) rfl trivial z0 (λrec q a b=>?_) λrec k q c a b ih=>?_;rw[Ib,a];rw[Bl];unfold Uv
 repeat refine Ok.br (λ_=>KK trivial) λ_=>?_
 exact KK trivial;rw[Ib,a];rw[AK];exact JT c (Ok.br (λ_=>KK trivial) λ_=>ih _ BE trivial)
theorem oq(a:DS s)p:∃e,G3 s p=θ e/\FW s p=θ e/\(e=0↔XK s p):=by
 have d:=a.cols_length;by_cases h:1<=p.B/\p.B<Ξ s.A;obtain⟨i,b⟩:∃i:Nat,p.B=i:=⟨p.B.toNat,z0⟩;have f:=a.fin_ok (i:=i) z0 z0
 have h1:FW s p=θ (bif υ (0<=p.H/\p.H<=fin s i)then 0 else 8):=by
  apply Ok.val;unfold FW;refine qr a.rcheck (Ok.no rfl (Ok.no (by grind) ?_));rw[b];apply qr (a.rfinest (i:=i) z0 z0);rw[JC,Zad]
  cases υ (0<=p.H/\p.H<=fin s i)<;>exact KK rfl
 have h2:G3 s p=θ (bif υ (0<=p.H/\p.H<=fin s i)then 0 else 8):=by
  apply Ok.val;unfold G3;rw[b];refine qr (a.pfinest (i:=i) z0 z0) (Ok.no df ?_);by_cases e:0<=p.H/\p.H<=fin s i;rw[Zak e,Zap (by grind),Zap (by grind)];exact KK rfl;rw[Zap e];by_cases c:p.H<0;rw[Zak c];exact KK rfl;rw[Zap c,Zak (by grind)];exact KK rfl
 refine⟨_,h2,h1,λh=>?_,λ⟨j,_,_,h1,h2⟩=>?_⟩
 cases e:υ (0<=p.H/\p.H<=fin s i)with
 | false=>grind
 | true=>exact⟨i,z0,z0,b,(Zal e).1,(Zal e).2⟩
 obtain rfl:i=j:=z0;rw[dt h2];rfl;refine⟨7,?_,?_,λh=>by(cases h),λ⟨j,_,_,h1,_⟩=>z0⟩;apply Ok.val;unfold G3;refine qr (x:=-1) ?_ (Vc rfl (KK rfl));unfold G2;refine Ok.val (Vc ?_ (KK rfl));by_cases e:p.B<1;rw[dt];rfl;rw[df,dt];rfl;apply Ok.val;unfold FW;refine qr a.rcheck (Ok.no rfl (Vc ?_ (KK rfl)));grind
def kj(g:DS s){l}(B:Ξ l<=1000000):Sm (HQ s l) (DC s l) λe=>e=0->(∀p∈l,XK s p)/\l.Pairwise λa b=>a.B<b.B:=by
 unfold HQ DC;refine qr g.check (Ok.no rfl (WD (qr g.rcheck (Ok.no rfl (WD ?_)))));refine Ok.two (Ξ l) (λk u v=>u=k/\v=k/\(∀p∈l.take k,XK s p)/\(l.take k).Pairwise λa b=>a.B<b.B) ⟨rfl,rfl,zs,zs⟩ (λt w u v ⟨i,f,h1,h2⟩=>?_) λt w k u v c ⟨i,f,h1,h2⟩ ih=>?_;subst i;subst f;rw[Zaj]at h1 h2;exact Ok.f (Sm.r (Ok.f (KK (KK ⟨rfl,λ_=>⟨h1,h2⟩⟩))));subst i;subst f;have⟨e,x,p2,p3⟩:=oq g l[k]
 have q:e=0->∀p∈l.take (k+1),XK s p:=λh p d=>by
  rw[Zab c]at d;grind
 refine Ok.t (Sm.r (Ok.t (WD (JT c (qr x ?_)))));refine WD (JT c (qr p2 (Ok.br (λh=>KK (Vc h (KK ⟨rfl,λm=>by subst m;cases h⟩))) λh=>?_)));have r:e=0:=by grind
 refine WD (Ok.no h (WD ?_));by_cases n:k=0;subst n;exact Ok.f (WD (Ok.f (ih _ _ ⟨BE,BE,q r,by rw[Zab c];simp⟩)));have f:i64.wrap (k-1)=(k-1:Nat):=by rw[wr]<;>omega
 refine Ok.t (JT c ?_);rw[f];refine JT z0 (WD (Ok.t (JT z0 (bt (λh=>KK (Ok.t (KK ⟨rfl,λm=>by cases m⟩) h)) λh=>WD (Ok.f (WD (ih _ _ ⟨BE,BE,q r,?_⟩)) h)))));rw[Zab c,Zea];refine⟨h2,zs,λa y b z=>?_⟩;rw[List.mem_singleton.1 z];obtain⟨j,A,rfl⟩:=Zbi y;rw[Zan]at A;rw[Zbs];by_cases o:j=k-1;subst o;omega;have:=List.pairwise_iff_getElem.1 h2 j (k-1) (by grind) (by grind) z0;grind
theorem ld{α ρ:Type}(l:List α)(q:α->Bool){a:(Int->Option ρ)->Int->Option ρ}{Q:ρ->Prop}(he:l.any q=false->∀rec,Ok (a rec (Ξ l:Int)) Q)
 (d:∀rec (i:Nat) (g:i<Ξ l),(q l[i]=true->l.any q=true->Ok (a rec (i:Int)) Q)/\(q l[i]=false->Ok (rec ((i+1:Nat):Int)) Q->Ok (a rec (i:Int)) Q)) (f:Ξ l<=1000000000000:=by omega):Ok (P.iter a Ay 0) Q:=by
 refine Wf (λv=>v) (Ξ l) (λk _=>(l.take k).any q=false) 0 (Zag _) rfl zs f (λrec v b h=>?_) λrec k v c b h ih=>?_;rw[Zaj]at h;have b:=b;rw[b];exact he h rec;have b:=b;rw[b]
 cases e:q l[k]with
 | true=>grind
 | false=>exact(d rec k c).2 e (ih _ rfl (by rw[Zab c,Zgp,h];simp[e]))
def yn{c}(h:Do c){l:Int}(a:1<=l)(h1:l<=Ξ c.L)v:Ok (IU c l v) λr=>r.2.2=ν↔v%Fb c l=0/\c.C<=v+Fb c l-1/\v<=c.E:=by
 have b:=h.low;have d:=h.high;have f:=Fw h a h1;unfold IU;apply Ok.no (beq_eq_false_iff_ne.2 z0);by_cases g:v < -2000000\/v>1000000;refine Vc ?_ (KK ⟨λe=>by(cases e),λe=>z0⟩);rcases g with g|g;rw[dt g];rfl;rw[df z0,dt g];rfl;refine Ok.no (by grind) (qr (lT h a h1) (qr (TO f.1 z0 z0 z0) (KK ?_)));rw[wr (n:=v+Fb c l),wr (n:=v+Fb c l-1)];grind
def tf{c}(h:Do c){l:Int}(a:1<=l)(h1:l<=Ξ c.L){v}(b:v≠B0):Ok (Gw c l v) λr=>r.2.2=ν↔v%Fb c l=0/\c.C<=v+Fb c l-1/\v<=c.E:=by
 have d:=h.low;have f:=h.high;have i:=Fw h a h1;unfold Gw KO;refine Ok.no (beq_eq_false_iff_ne.2 z0) (qr (lY h a h1) (Ok.no (beq_eq_false_iff_ne.2 b) (qr (JC _ _ _) ?_)));by_cases g:-2000000<=v/\v<=2000000;refine Ok.no (by grind) (dg z0 ?_);rw[wr (n:=v+Fb c l),wr (n:=v+Fb c l-1)];generalize Fb c l=w at *;have j:=T9 v i.1;have k:=Zdb v (by omega:w≠0);have m:=Zcv v (by omega:0<w);refine Ok.br (λe=>KK ⟨λe=>by(cases e),λh=>?_⟩) λe=>KK ?_;exact absurd (Int.tmod_eq_zero_of_dvd (Zfh h.1)) (bne_iff_ne.1 e);have:v.tmod w=0:=by grind
 show decide _=ν↔_;rw[decide_eq_true_iff];split<;>split<;>omega;refine Vc (by grind) (KK ⟨λe=>by(cases e),λe=>z0⟩)
def kR(n:DS s){p}(R:XK s p)v:∃u b,Bi s p.B p.H v=θ (u,b)/\D5 s p.B p.H v=θ b/\(b=ν->XV s p v):=by
 have⟨i,m,a,C,y,D⟩:=R;have A:=n.rfinest m a;have d:(EL p.H 0 (fin s i))=θ ν:=by rw[JC,dt ⟨y,D⟩]
 rw[C];rcases n.col m a with h|h;have⟨L,f,c⟩:=n.clist h;have N:=ZX a h c;have S:(Ξ (AW L))<=10:=by have:=List.all_eq_true.1 Od L f;simpa using this
 have o:=SN f y (l:=p.H) z0
 obtain⟨u,E,t⟩:Ok (Bi s i p.H v) λr=>r.2=(AW L).any λw=>cv L p.H w==v:=by
  rw[Yi a h f c];refine ld (AW L) (λw=>cv L p.H w==v) (λg rec=>Ok.f (KK g.symm)) λrec i a=>⟨λe g=>Ok.t (JT a (qr (o.2 _ (Zae a)).2.1 (Vc e (KK g.symm)))),λe ih=>Ok.t (JT a (qr (o.2 _ (Zae a)).2.1 (Ok.no e ?_)))⟩;rw[BE];exact ih
 obtain⟨b,T,O⟩:Ok (D5 s i p.H v) λb=>b=(AW L).any λw=>cv L p.H w==v:=by
  unfold D5;refine qr A (qr d (Ok.no rfl (JT a (Vc (by rw[h.kind];rfl) (qr (rleaves a f c) ?_)))));refine ld (AW L) (λw=>cv L p.H w==v) (λg rec=>Ok.f (KK g.symm)) λrec j B=>⟨λe g=>Ok.t (JT B (qr (GD n m a h f c y D (Zae B)) (Vc e (KK g.symm)))),λe ih=>Ok.t (JT B (qr (GD n m a h f c y D (Zae B)) (Ok.no e ?_)))⟩;rw[BE];exact ih
 refine⟨u.1,b,by rw[E,O,<-t],T,λP=>?_⟩;rw[O]at P;have⟨w,F,e⟩:=List.any_eq_true.1 P;exact⟨i,a,w,m,C,au h f c F,by rw[Kl h c];exact(beq_iff_eq.1 e).symm⟩;have G:=Cs (s:=s) h;rw[<-E8 a]at G;have U:=h.low;have H:=h.high;have I:(s.A[i].Kind==3)=ν:=by rw[h.kind];rfl
 have k:(s.A[i].Kind==2)=ξ:=by grind
 have J:∀w,iE s s.A[i] w->v=mv s.A[i] p.H w->XV s p v:=λw F e=>⟨i,a,w,m,C,F,by rw[Vn h];exact e⟩;unfold Bi D5;by_cases z:p.H=0;rw[z];refine⟨s.A[i].C,v==0,Ok.val (JT a (Vc I (Ok.no rfl (KK rfl)))),Ok.val (qr A (qr (z▸d) (Ok.no rfl (JT a (Ok.no k (Ok.no rfl (KK rfl))))))),λe=>J s.A[i].C (.inr (.inr ⟨h.kind,.inl ⟨Zbh _,H.1⟩⟩)) ?_⟩;rw[z,rS];exact beq_iff_eq.1 e;by_cases K:v=B0;subst K;refine⟨B0,s.A[i].An,Ok.val (JT a (Vc I (Vc (by rw[dt];rfl) (KK rfl)))),Ok.val (qr A (qr d (Ok.no rfl (JT a (Ok.no k (Vc (by rw[dt];rfl) (KK rfl))))))),λe=>J B0 (.inr (.inr ⟨h.kind,.inr ⟨e,rfl⟩⟩)) ?_⟩;rw[xi _ z0];have M:(v==-1099511627776)=ξ:=beq_eq_false_iff_ne.2 K;have⟨V,E,W⟩:=yn h (l:=p.H) z0 z0 v;have⟨X,t,Q⟩:=tf h (l:=p.H) z0 z0 K;have x:(bif υ (p.H>0)then v==-1099511627776 else ξ)=ξ:=by grind
 refine⟨V.1,X.2.2,Ok.val (JT a (Vc I (Ok.no x (qr E (KK (by grind)))))),Ok.val (qr A (qr d (Ok.no rfl (JT a (Ok.no k (Ok.no x (qr t (KK rfl)))))))),λe=>?_⟩;have Z:=Fw h (l:=p.H) z0 z0;have⟨Y,m1,m2⟩:=Q.1 e;refine J (if s.A[i].C>v then s.A[i].C else v) (.inr (.inr ⟨h.kind,.inl (by grind)⟩)) ?_;have hr:=I8 h (l:=p.H) (v:=if s.A[i].C>v then s.A[i].C else v) z0 z0 (by grind);rw[hr.1];generalize Fb s.A[i] p.H=w at *;have⟨q,hq⟩:=Zfh Y
 have:(if s.A[i].C>v then s.A[i].C else v)%w=(if s.A[i].C>v then s.A[i].C else v)-v:=by
  have e:(if s.A[i].C>v then s.A[i].C else v)=((if s.A[i].C>v then s.A[i].C else v)-v)+w*q:=z0;have e':((if s.A[i].C>v then s.A[i].C else v)-v)%w=(if s.A[i].C>v then s.A[i].C else v)-v:=Int.emod_eq_of_lt (by grind) (by grind);have t:=congrArg (·%w) e;rw[Int.add_mul_emod_self_left]at t;omega
 omega
def ku{ρ:Type}(n:Nat)(q:Nat->Bool){a:(Int->Option ρ)->Int->Option ρ}{A B:Option ρ}(he:∀rec,a rec (n:Int)=A)
 (b:∀rec (i:Nat),i<n->a rec (i:Int)=bif q i then B else rec ((i+1:Nat):Int)) (c:n<=1000000000000:=by omega):P.iter a Ay 0=bif(List.range' 0 n).any q then B else A:=by
 have key:∀m N k,k+m=n->m<N->P.iter a N k=bif(List.range' k m).any q then B else A:=by
  intro m
  induction m with
  | zero=>intro N k h1 h2;obtain⟨N,rfl⟩:∃M,N=M+1:=⟨N-1,z0⟩;obtain rfl:k=n:=z0
          exact he _
  | succ m ih=>intro N k h1 h2;obtain⟨N,rfl⟩:∃M,N=M+1:=⟨N-1,z0⟩
               rw[Fs,b _ k z0,ih N (k+1) z0 z0,List.range'_succ,List.any_cons]
               cases q k<;>rfl
 exact key n Ay 0 z0 (by unfold Ay;omega)
def RX s(x:Ad)r:=Ξ r=Ξ x.I+1/\0<=hd r/\hd r<=1048575/\∀k p v,x.I[k]?=θ p->r[k+1]?=θ v->XV s p v
def wG(f:DS s){x}(g:∀p∈x.I,XK s p)(m:Ξ x.I<=1000000){r}(h1:Ξ r=Ξ x.I+1):∃b,J9 x.I r s=θ (!b)/\(∀v rec,KU x r s v rec=bif b then θ 9 else OE v r x rec (Ξ x.I))/\(b=ξ->∀k p v,x.I[k]?=θ p->r[k+1]?=θ v->XV s p v):=by
 let q:Nat->Bool:=λk=>match x.I[k]?,r[k+1]? with
  | some p,some v=>!((D5 s p.B p.H v).getD ξ)
  | _,_=>ξ
 have j:∀k d,q k=!((D5 s x.I[k].B x.I[k].H (r[k+1]'z0)).getD ξ):=λk d=>by
  grind
 refine⟨(List.range' 0 (Ξ x.I)).any q,?_,λv rec=>?_,λl k p v e a=>?_⟩;unfold J9;rw[ku (Ξ x.I) q (A:=θ ν) (B:=θ ξ) (λrec=>?_) λrec i c=>?_]
 cases(List.range' 0 (Ξ x.I)).any q<;>rfl
 unfold Hh;rw[Bl];obtain⟨u,b,e,a,-⟩:=kR f (g _ (Zae c)) (r[i+1]'z0);unfold Hh;rw[AK,AY c,Zad,BE,AY z0,Zad,e,Zad,j i c,a];rfl;unfold KU;refine ku (Ξ x.I) q (λrec=>?_) λrec i c=>?_;unfold IF;rw[Bl];obtain⟨u,b,e,a,-⟩:=kR f (g _ (Zae c)) (r[i+1]'z0);unfold IF;rw[AK,AY c,Zad,Zad,BE,AY z0,Zad,a,Zad,j i c,a];rfl;have d:=List.getElem?_eq_some_iff.1 e |>.1
 rw[Zaa d]at e;rw[Zaa (by grind)]at a
 cases e;cases a
 obtain⟨u,b,-,a,h⟩:=kR f (g _ (Zae d)) (r[k+1]'z0);grind
theorem nw(l:DS s)x(B:Ξ x.I<=1000000):Sm (DK s x) (FI s x) λe=>e=0->GX s x:=by
 unfold DK FI;refine qr l.check (Ok.no rfl (WD (qr l.rcheck (Ok.no rfl (WD ?_)))));obtain⟨b,o,-⟩:=VD x.Aq;have m:=(g9 x.Aq).symm.trans o;refine qr o (WD (qr m (WD (Sm.br (λ_=>Sm.ret λh=>by cases h) λp=>Sm.br (λ_=>Sm.ret λh=>by cases h) λn=>?_))));refine Sm.bind (kj l B) λe E=>Sm.br (λh=>Sm.ret λq=>by subst q;cases h) λhe=>Sm.br (λ_=>Sm.ret λh=>by cases h) λhr=>?_;have⟨C,p2⟩:=E (by grind);have hr:=Zcb hr;have p:b=ν:=by grind
 subst p;refine Ok.two (Ξ x.G) (λk u v=>u=k/\v=k/\(∀r∈x.G.take k,RX s x r)/\sQ (x.G.take k)) ⟨rfl,rfl,zs,by simp[sQ]⟩ (λF G u v ⟨t,w,h1,h2⟩=>?_) λF G k u v d ⟨t,w,h1,h2⟩ ih=>?_;subst t;subst w;rw[Zaj]at h1 h2;refine Ok.f (Sm.r (Ok.f (KK (KK ⟨rfl,λ_=>⟨⟨m,o⟩,?_,C,p2,h1,h2,z0⟩⟩))));by_cases h:x.As<0;rw[dt h]at n;cases n;rw[df h,Zaq]at n;have:=Zcb n;omega;subst t;subst w;refine Ok.t (Sm.r (Ok.t (WD (JT d (WD (JT d ?_))))));have H:i64.wrap (Ξ x.I+1)=Ξ x.I+1:=wr;unfold L1;rw[H];by_cases g:Ξ x.G[k]=Ξ x.I+1;have f:x.G[k]≠[]:=λh=>by rw[h]at g;simp at g
 have gb:((Ξ x.G[k]:Int) != Ξ x.I+1)=ξ:=by grind
 rw[gb,Zaq,Zaq,FV f];simp only[Zad];by_cases y:hd x.G[k]<0;rw[dt y];exact KK (KK ⟨rfl,λh=>by cases h⟩);by_cases D:hd x.G[k]>1048575;rw[df y,dt D];exact KK (KK ⟨rfl,λh=>by cases h⟩);rw[df y,df D,Zaq,Zaq,Zaq,Zaq];have⟨b,I,J,K⟩:=wG l C B g;rw[J];refine WD (qr I ?_)
 cases b with
 | true=>exact KK (KK ⟨rfl,λh=>by cases h⟩)
 | false=>
   rw[Zaq];apply Ok.no rfl
   have i:∀r∈x.G.take (k+1),RX s x r:=λr hr=>by
    rw[Zab d]at hr;rcases List.mem_append.1 hr with hr|hr;exact h1 r hr;rw[List.mem_singleton.1 hr];exact⟨g,z0,z0,K rfl⟩
   unfold OE;by_cases z:k=0;subst z;exact Ok.f (WD (Ok.f (WD (ih _ _ ⟨BE,BE,i,by rw[Zab d];simp[sQ]⟩))));have m:i64.wrap (k-1)=(k-1:Nat):=by rw[wr]<;>omega
   have L:=h1 (x.G[k-1]'z0) (List.mem_iff_getElem.2 ⟨k-1,by rw[Zan];omega,Zbs⟩);have c:x.G[k-1]'z0≠[]:=λh=>by have:=L.1;rw[h]at this;simp at this
   rw[FV f,m];refine Ok.t (JT z0 ?_);rw[FV c];refine bt (λh=>KK (Ok.t (JT z0 (qr (FV c) (Ok.t (KK ⟨rfl,λq=>by cases q⟩) h))))) λh=>WD (Ok.t (JT z0 (qr (FV c) (Ok.f (WD (ih _ _ ⟨BE,BE,i,?_⟩)) h))));rw[Zab d];unfold sQ;rw[Zea];refine⟨h2,zs,λa M b N=>?_⟩;rw[List.mem_singleton.1 N];obtain⟨j,O,rfl⟩:=Zbi M;rw[Zan]at O;rw[Zbs];by_cases A:j=k-1;subst A;omega;have:=List.pairwise_iff_getElem.1 h2 j (k-1) (by grind) (by grind) z0;grind
 have gb:((Ξ x.G[k]:Int) != Ξ x.I+1)=ν:=by grind
 rw[gb];exact KK (KK ⟨rfl,λh=>by cases h⟩)
def TE:Nat->Ag->Prop| 0,e=>e.D=[]| k+1,e=>∀x∈e.D,TE k x
def b9:Nat->Ag->Nat| 0,_=>1| d+1,c=>1+(c.D.map (b9 d)).sum
theorem eM:∀d c,1<=b9 d c
 | 0,_=>Zam _
 | d+1,c=>by unfold b9;omega
def aD{d}{l:List Ag}{k}a:((l.take (k+1)).map (b9 d)).sum=((l.take k).map (b9 d)).sum+b9 d l[k]:=by
 rw[Zab a,Zay,Zdq];simp
def QX{d}(l:List Ag)k:((l.take k).map (b9 d)).sum<=(l.map (b9 d)).sum:=by
 have:(l.map (b9 d)).sum=((l.take k).map (b9 d)).sum+((l.drop k).map (b9 d)).sum:=by
  rw[<-Zdq,<-Zay,Zdj]
 omega
theorem lO{d}(l:List Ag)k(a:k<=Ξ l):k<=((l.take k).map (b9 d)).sum:=by
 induction k with
 | zero=>omega
 | succ k ih=>rw[aD z0];have:=eM d l[k];grind
theorem Zh:∀d m c,m<d->m<=1000->Ka d c m=θ ((min (b9 d c) (m+1):Nat):Int)/\ND d c (m+1:Nat)=θ ((min (b9 d c) (m+1):Nat):Int)
 | d+1,m,c,hd,hm=>by
   have l:b9 (d+1) c=1+(c.D.map (b9 d)).sum:=rfl;constructor;apply Ok.val;show Ok (JG d (Ka d) c m) _;unfold JG;refine Ok.loop (λq=>∃k:Nat,q.2=k/\k<=Ξ c.D/\q.1=(min (1+((c.D.take k).map (b9 d)).sum) (m+1):Nat)/\k<=m) (λq=>m+1-q.2.toNat) ⟨0,rfl,Zag _,zs,Zag _⟩ (by unfold Ay;show m+1-(0:Int).toNat<_;simp;omega) λrec q ⟨k,e,n,f,g⟩ ih=>?_;rw[P6,e,f];refine bt (λb=>?_) λo=>KK ?_;have a:k<Ξ c.D:=z0;have h1:=QX (d:=d) c.D k;have h2:=QX (d:=d) c.D (k+1);have p:=aD (d:=d) a;have r:=lO (d:=d) c.D k z0;have t:=eM d c.D[k];refine JT a (bt (λh=>KK ?_) λi=>?_);rw[l];congr 1;omega
   have j:i64.wrap (m-(min (1+((c.D.take k).map (b9 d)).sum) (m+1):Nat))=(m-(1+((c.D.take k).map (b9 d)).sum):Nat):=by
    rw[wr];omega
   rw[j];refine qr (Zh d _ c.D[k] z0 z0).1 (ih _ ⟨k+1,BE,z0,?_,z0⟩ ?_);show i64.wrap (_+_)=_;rw[wr];omega;show m+1-(i64.wrap (k+1)).toNat<m+1-q.2.toNat;rw[BE,e];omega;rw[show c.D.take k=c.D from Zbe z0];rfl;apply Ok.val;show Ok (Mt d (ND d) c (m+1:Nat)) _;unfold Mt;refine Ok.loop (λq=>∃k:Nat,q.2=k/\k<=Ξ c.D/\q.1=(min (1+((c.D.take k).map (b9 d)).sum) (m+1):Nat)/\k<=m) (λq=>m+1-q.2.toNat) ⟨0,rfl,Zag _,zs,Zag _⟩ (by unfold Ay;show m+1-(0:Int).toNat<_;simp;omega) λrec q ⟨k,e,n,f,g⟩ ih=>?_;rw[Tt,e,f];by_cases b:(k:Int)<Ξ c.D;rw[Zak b,Zav];have a:k<Ξ c.D:=z0;have h1:=QX (d:=d) c.D k;have h2:=QX (d:=d) c.D (k+1);have p:=aD (d:=d) a;have r:=lO (d:=d) c.D k z0;have t:=eM d c.D[k];refine bt (λi=>JT a ?_) λh=>KK ?_
   have j:i64.wrap ((m+1:Nat)-(min (1+((c.D.take k).map (b9 d)).sum) (m+1):Nat))=((m-(1+((c.D.take k).map (b9 d)).sum))+1:Nat):=by
    rw[wr];omega
   rw[j];refine qr (Zh d _ c.D[k] z0 z0).2 (ih _ ⟨k+1,BE,z0,?_,z0⟩ ?_);show i64.wrap (_+_)=_;rw[wr];omega;show m+1-(i64.wrap (k+1)).toNat<m+1-q.2.toNat;rw[BE,e];omega;rw[l];congr 1;omega;rw[Zap b,Zaq,Zaq];apply KK;grind
theorem dm:∀d c,Gp d c=Lb d c
 | 0,_=>rfl
 | d+1,c=>by
   show IB d (Gp d) c=Qk d (Lb d) c;rw[show Gp d=Lb d from funext (dm d)];rfl
theorem jB:∀d c,b9 d c<=d->d<=1000->Ok (Gp d c) λr=>1<=r/\r<=b9 d c/\∀k:Nat,r<=k+1->TE k c
 | 0,c,h,_=>by have:=eM 0 c;omega
 | d+1,c,h,hd=>by
   have u:b9 (d+1) c=1+(c.D.map (b9 d)).sum:=rfl;have f:=lO (d:=d) c.D (Ξ c.D) (Zam _);rw[Zaj]at f;show Ok (IB d (Gp d) c) _;unfold IB;refine Wf (λq=>q.2) (Ξ c.D) (λk q=>0<=q.1/\q.1<=(((c.D.take k).map (b9 d)).sum)/\∀j b,j<k->1<=q.1/\∀m:Nat,q.1<=m+1->TE m c.D[j]) 0 (Zag _) rfl ⟨Zbh _,zs,λj _ b=>z0⟩ z0 (λrec q g i=>?_) λrec k q l g i ih=>?_;have⟨o,h1,h2⟩:=i;rw[Zaj]at h1;rw[MD,g];rw[Bl,wr];refine KK ⟨z0,z0,λk l=>?_⟩
   cases k with
   | zero=>
     cases e:c.D with
     | nil=>exact e
     | cons a r=>have:=(h2 0 (by grind) (by grind)).1;omega
   | succ m=>
     intro x hx;obtain⟨j,b,rfl⟩:=List.mem_iff_getElem.1 hx;grind
   have⟨o,h1,h2⟩:=i;have v:=aD (d:=d) l;have w:=QX (d:=d) c.D (k+1);have y:=z0;rw[MD,g];rw[AK];refine JT l (Ok.bind (jB d c.D[k] z0 z0) λr hr=>ih _ BE ?_);have⟨z,A,p⟩:=hr;show 0<=(if r>q.1 then r else q.1)/\(if r>q.1 then r else q.1)<=_/\∀j b,j<k+1->1<=(if r>q.1 then r else q.1)/\∀m:Nat,(if r>q.1 then r else q.1)<=m+1->TE m c.D[j];refine⟨by split<;>omega,by split<;>omega,λj b t=>?_⟩;grind
def la{ρ:Type}{a:(Int->Option ρ)->Int->Option ρ}{Q:ρ->Prop}(n N:Nat)(J:Nat->Prop)(c:J 0)(d:∀i,i<=n->J i->i<=N)(he:∀rec,J n->Ok (a rec (n:Int)) Q)
 (f:∀rec (i:Nat),i<n->i<=N->J i->(J (i+1)->Ok (rec ((i+1:Nat):Int)) Q)->Ok (a rec (i:Int)) Q) (l:N<=1000000:=by omega):Ok (P.iter a Ay 0) Q:=by
 refine Ok.loop (λv=>∃k:Nat,v=k/\k<=n/\J k) (λv:Int=>N+1-v.toNat) ⟨0,rfl,Zag _,c⟩ (by unfold Ay;omega) λrec v ⟨k,g,j,b⟩ ih=>?_;subst g;have:=d k j b;by_cases e:k=n;subst e;exact he rec b;exact f rec k z0 this b λh=>ih _ ⟨k+1,rfl,z0,h⟩ zv
theorem lR:∀(n:Nat)(l:List Int),l.Nodup->(∀v∈l,0<=v/\v<n)->Ξ l<=n
 | 0,l,_,h=>by
   cases l with
   | nil=>simp
   | cons a t=>have:=h a zs;omega
 | n+1,l,hd,h=>by
   by_cases e:(n:Int)∈l
   have h1:=lR n (l.erase n) (hd.erase _) λv b=>by
    grind
   rw[List.length_erase_of_mem e]at h1;omega
   have h1:=lR n l hd λv b=>by
    grind
   omega
def MS(s:Aa)v:=∃(i:Nat)(hi:i<Ξ s.A),1<=i/\v=(i:Int)/\Do s.A[i]
def yG(s:Aa)v:=∃(i:Nat)(hi:i<Ξ s.A),1<=i/\v=(i:Int)/\Iy s.A[i]
def MS.range{v}(h:MS s v):0<=v/\v<Ξ s.A:=by obtain⟨i,a,_,rfl,_⟩:=h;omega
def yG.range{v}(h:yG s v):0<=v/\v<Ξ s.A:=by obtain⟨i,a,_,rfl,_⟩:=h;omega
def DQ s(l:List Ab):=(∀p∈l,yG s p.B/\XK s p)/\(l.map (·.B)).Nodup
def TQ s m(l:List Int):=(∀v∈l,MS s v/\v≠m)/\l.Nodup
def DQ.len{l}(h:DQ s l):Ξ l<=Ξ s.A:=by
 have:=lR (Ξ s.A) (l.map (·.B)) h.2 λv a=>by
  obtain⟨p,b,rfl⟩:=List.mem_map.1 a;exact(h.1 p b).1.range
 grind
def TQ.len{m}{l}(h:TQ s m l):Ξ l<=Ξ s.A:=lR _ l h.2 λv a=>(h.1 v a).1.range
def I0{α}(l:List α)(k:Nat):Ia l 0 k=l.take k:=by unfold Ia;simp
def cz(a:DS s)p:∃e,NI s p=θ e/\FW s p=θ e/\(e=0↔XK s p):=by
 have⟨e,h1,h2,b⟩:=oq a p;refine⟨e,Ok.val ?_,h2,b⟩;unfold NI;exact qr a.check (Ok.no rfl (qr h1 (KK rfl)))
def DQ.snoc{l:List Ab}{k}e(h:DQ s (l.take k))(h1:yG s l[k].B/\XK s l[k])(h2:∀p∈l.take k,p.B≠l[k].B):DQ s (l.take (k+1)):=by
 rw[Zab e];refine⟨λp c=>?_,?_⟩;rcases List.mem_append.1 c with c|c;exact h.1 p c;rw[List.mem_singleton.1 c];exact h1;rw[Zay,Zeq];refine⟨h.2,zs,λa f b d=>?_⟩;grind
def DQ.dup{l}{k}c(h:DQ s l):∀p∈l.take k,p.B≠l[k].B:=λp a e=>by
 obtain⟨j,b,rfl⟩:=Zbi a;rw[Zan]at b;rw[Zbs]at e;have:=List.pairwise_iff_getElem.1 h.2 j k (by grind) (by grind) z0;grind
def iu{l:List Ab}{k}c:((l.take k).any λx=>x.B==c)=ξ↔∀p∈l.take k,p.B≠c:=by grind
def ou(d:DS s){p}(h:XK s p):∃(i:Nat)(a:i<Ξ s.A),p.B=i/\((s.A[i].Kind==2)=ν↔yG s p.B):=by
 have⟨i,b,a,c,_⟩:=h;refine⟨i,a,c,?_⟩;rw[c];refine⟨λe=>⟨i,a,b,rfl,?_⟩,λ⟨j,f,g,e,h⟩=>?_⟩;rcases d.col b a with h|h;exact h;rw[h.kind]at e;cases e;obtain rfl:i=j:=z0;rw[h.kind];rfl
def Abp(g:DS s)l:Ok (Oh s l) λb=>b=ν↔(1<=Ξ l/\Ξ l<=3)/\DQ s l:=by
 have n:=g.cols_length;unfold Oh;refine la (Ξ l) (Ξ s.A) (λk=>DQ s (l.take k)) ⟨zs,zs⟩ (λi o h=>by have:=h.len;rw[Zan]at this;omega) (λrec h=>?_) λrec k a t h ih=>?_;rw[Zaj]at h;refine Ok.f (KK ?_);rw[Zdl,Zax,decide_eq_true_iff,decide_eq_true_iff];exact⟨λh1=>⟨z0,h⟩,λh1=>z0⟩;have⟨e,r,_,p⟩:=cz g l[k];refine Ok.t (JT a (qr r (Ok.br (λf=>KK ⟨λh=>by(cases h),λh=>?_⟩) λf=>?_)));rw[p.2 (h.2.1 _ (Zae a)).2]at f;cases f;have q:=p.1 (by grind);have⟨i,o,n,h2⟩:=ou g q;rw[n];refine JT o (Ok.br (λc=>KK ⟨λh=>by(cases h),λh=>?_⟩) λc=>dg z0 ?_);have:=h2.2 (h.2.1 _ (Zae a)).1;rw[bne,this]at c;cases c;have j:=h2.1 (by grind);have m:AD (Ia l 0 k) (λa0=>ME a0 l[k])=θ ((Ia l 0 k).any λx=>x.B==l[k].B):=eF _ (λ_ _=>rfl) (by rw[I0,Zan];omega);refine qr m (Ok.br (λd=>KK ⟨λh=>by(cases h),λh=>?_⟩) λd=>?_);rw[I0,(iu _).2 (h.2.dup a)]at d;cases d;rw[BE];rw[I0]at d;exact ih (h.snoc a ⟨j,q⟩ ((iu _).1 d))
theorem Ae5{l}{k:Nat}c(d:k<=1000)R:(iter (λa s=>Ig k l (λ_=>R) a s) Ay 0=θ 10/\¬∀p∈l.take k,p.B≠l[k].B)\/(iter (λa s=>Ig k l (λ_=>R) a s) Ay 0=R/\∀p∈l.take k,p.B≠l[k].B):=by
 rw[ku k (λj=>match l[j]? with|θ p=>p.B==l[k].B|none=>ξ) (A:=R) (B:=θ 10) (λrec=>by unfold Ig;rw[Bl]) λrec i g=>?_]
 cases e:(List.range' 0 k).any λj=>match l[j]? with|θ p=>p.B==l[k].B|none=>ξ with
 | true=>
   have⟨j,b,h⟩:=List.any_eq_true.1 e;have b:=(List.mem_range'_1.1 b).2;rw[Zaa (by grind)]at h;exact .inl ⟨rfl,λh2=>h2 l[j] (List.mem_iff_getElem.2 ⟨j,by rw[Zan];omega,Zbs⟩) (by grind)⟩
 | false=>
   refine .inr ⟨rfl,λp f h=>?_⟩;obtain⟨j,b,rfl⟩:=Zbi f;rw[Zan]at b;have:=List.any_eq_false.1 e j (List.mem_range'_1.2 z0);grind
 unfold Ig;rw[AK,AY (by grind),Zad,AY c,Zad,BE,Zaa (by grind)]
def is8{i:Nat}a k:Mp s i k=θ (s.A[i].Kind==k):=nM a k
def wk(d:DS s)l:Ok (KT s l) λe=>e=0↔(1<=Ξ l/\Ξ l<=3)/\DQ s l:=by
 have n:=d.cols_length;unfold KT;refine Ok.br (λh=>KK ⟨λh=>by(cases h),λ⟨h1,_⟩=>?_⟩) λb=>?_;rw[df z0,df z0]at h;cases h
 have h1:1<=Ξ l/\Ξ l<=3:=by grind
 refine la (Ξ l) (Ξ s.A) (λk=>DQ s (l.take k)) ⟨zs,zs⟩ (λi o h=>by have:=h.len;rw[Zan]at this;omega) (λrec h=>?_) λrec k a t h ih=>?_;rw[Zaj]at h;exact Ok.f (KK ⟨λ_=>⟨h1,h⟩,λ_=>rfl⟩);have⟨e,_,r,p⟩:=cz d l[k];refine Ok.t (JT a (qr r (Ok.br (λf=>KK ⟨λh=>by(subst h;cases f),λh=>?_⟩) λf=>JT a ?_)));exact p.2 (h.2.1 _ (Zae a)).2;have q:=p.1 (by grind);have⟨i,o,n,h2⟩:=ou d q;rw[n];refine qr (is8 o 2) (Ok.br (λc=>KK ⟨λh=>by(cases h),λh=>?_⟩) λc=>?_);have:=h2.2 (h.2.1 _ (Zae a)).1;rw[this]at c;cases c;have g:=h2.1 (by grind);rcases Ae5 a z0 (rec (i64.wrap (k+1)))with⟨j,m⟩|⟨j,m⟩;rw[j];exact KK ⟨λh=>by(cases h),λh=>absurd (h.2.dup a) m⟩;rw[j,BE];exact ih (h.snoc a ⟨g,q⟩ m)
def IP(a:DS s)m:Ok (Mp s m 3) λb=>b=ν↔MS s m:=lS a m
def TQ.snoc{m}{l:List Int}{k}d(h:TQ s m (l.take k))(h1:MS s l[k]/\l[k]≠m)(h2:l[k]∉l.take k):TQ s m (l.take (k+1)):=by
 rw[Zab d];refine⟨λp c=>?_,?_⟩;rcases List.mem_append.1 c with c|c;exact h.1 p c;rw[List.mem_singleton.1 c];exact h1;rw[Zeq];refine⟨h.2,zs,λa f b g e=>?_⟩;grind
def TQ.dup{m}{l}{k}a(h:TQ s m l):l[k]∉l.take k:=λb=>by
 have⟨j,c,e⟩:=Zbi b;rw[Zan]at c;rw[Zbs]at e;exact List.pairwise_iff_getElem.1 h.2 j k z0 a z0 e
theorem zY(d:DS s)m l:Ok (Mi s m l) λb=>b=ν↔(1<=Ξ l/\Ξ l<=3)/\TQ s m l:=by
 have j:=d.cols_length;unfold Mi;refine la (Ξ l) (Ξ s.A) (λk=>TQ s m (l.take k)) ⟨zs,zs⟩ (λi n h=>by have:=h.len;rw[Zan]at this;omega) (λrec h=>?_) λrec k a o h ih=>?_;rw[Zaj]at h;refine Ok.f (KK ?_);rw[Zdl,Zax,decide_eq_true_iff,decide_eq_true_iff];exact⟨λh1=>⟨z0,h⟩,λh1=>z0⟩;refine Ok.t (JT a (Ok.bind (IP d l[k]) λb f=>Ok.br (λe=>KK ⟨λh=>by(cases h),λh=>?_⟩) λe=>dg z0 (Ok.bind (Vv (by rw[I0,Zan];omega)) λz g=>Ok.br (λc=>KK ⟨λh=>by(cases h),λh=>?_⟩) λc=>?_)));have⟨h1,h2⟩:=h.2.1 _ (Zae a);rw[f.2 h1,beq_eq_false_iff_ne.2 h2]at e;cases e;have:=g.1 c;rw[I0]at this;exact absurd this (h.2.dup a);rw[BE];refine ih (h.snoc a ⟨f.1 ?_,λh=>?_⟩ λh=>?_)
 cases b with
 | true=>rfl
 | false=>cases e
 rw[beq_iff_eq.2 h]at e
 cases b<;>cases e
 rw[g.2 (by rw[I0];exact h)]at c;cases c
def zZ(g:DS s)m l:Ok (NB s m l) λe=>e=0↔(1<=Ξ l/\Ξ l<=3)/\TQ s m l:=by
 have o:=g.cols_length;unfold NB;refine Ok.br (λh=>KK ⟨λh=>by(cases h),λ⟨h1,_⟩=>?_⟩) λc=>?_;rw[df z0,df z0]at h;cases h
 have h1:1<=Ξ l/\Ξ l<=3:=by grind
 refine la (Ξ l) (Ξ s.A) (λk=>TQ s m (l.take k)) ⟨zs,zs⟩ (λi p h=>by have:=h.len;rw[Zan]at this;omega) (λrec h=>?_) λrec k a q h ih=>?_;rw[Zaj]at h;exact Ok.f (KK ⟨λ_=>⟨h1,h⟩,λ_=>rfl⟩);refine Ok.t (JT a (Ok.bind (IP g l[k]) λb j=>Ok.br (λe=>KK ⟨λh=>by(cases h),λh=>?_⟩) λe=>JT a (Ok.br (λf=>KK ⟨λh=>by(cases h),λh=>?_⟩) λf=>dg z0 (JT a (Ok.bind (pS (by rw[I0,Zan];omega)) λz n=>Ok.br (λd=>KK ⟨λh=>by(cases h),λh=>?_⟩) λd=>?_)))));rw[j.2 (h.2.1 _ (Zae a)).1]at e;cases e;exact absurd (beq_iff_eq.1 f) (h.2.1 _ (Zae a)).2;have:=n.1 d;rw[I0]at this;exact absurd this (h.2.dup a);rw[BE];refine ih (h.snoc a ⟨j.1 (by grind),beq_eq_false_iff_ne.1 f⟩ λh=>?_);rw[n.2 (by rw[I0];exact h)]at d;cases d
def NY(c:Ae):=bif(bif(bif(bif(bif(c.Op==0)then(c.B==0)else ξ)then(c.Af==0)else ξ)then(c.C==0)else ξ)then(c.E==0)else ξ)then((Ξ c.D:Int)==0)else ξ
def Ack c:Kb c=θ (NY c):=rfl
def bI{c}(h:NY c=ν):c=R5:=by
 have⟨i,b,code,lo,j,a⟩:=c;unfold NY at h;simp only[Zdl,Zax,Zdk]at h;obtain⟨⟨⟨⟨⟨h1,h2⟩,d⟩,e⟩,f⟩,k⟩:=h;have g:a=[]:=Zau z0;subst h1;subst h2;subst d;subst e;subst f;subst g;rfl
theorem xN d c:Nq (d+1) c=θ (NY c):=by
 cases h:NY c with
 | true=>rw[bI h];rfl
 | false=>
   apply Ok.val;unfold Nq;refine qr (x:=ξ) ?_ (KK rfl);show Ow d (PE d) c { Op:=0,B:=0,Af:=0,C:=0,E:=0,D:=[] }=θ ξ;apply Ok.val;unfold Ow;refine Vc ?_ (KK rfl);unfold NY at h;grind
def tF a:Ok (EK a) λ_=>True:=by
 unfold EK H8
 repeat refine Ok.br (λ_=>KK trivial) λ_=>?_
 exact KK trivial
def F4 op:=(EK op).getD ({ By:=ξ,Bz:=ξ,Bv:=ξ,B3:=ξ,B4:=ξ,Bg:=ξ,Bn:=ξ },ξ)
def bL a:EK a=θ (F4 a):=by
 have⟨r,h,_⟩:=tF a;unfold F4;grind
def Im(op:Int):=bif op>=6 then υ (op<=9)else ξ
def usA(u:AX)(e:Ag):=(bif(bif(bif(bif(bif u.By then ν else(e.K==0))then(bif u.Bz then ν else(e.J.toList==({ data:=#[] }:ByteArray).toList))else ξ)then(bif u.Bv then ν else(e.B==0))else ξ)then(bif u.B3 then ν else((Ξ e.A:Int)==0))else ξ)then(bif u.B4 then ν else((Ξ e.V:Int)==0))else ξ)
def qI u e:=usA u e&&(u.Bg||NY e.Q)&&(u.Bn||NY e.Y)
def qH e u:KJ e u=θ (qI u e&&(Im e.Op||(Ξ e.D:Int)==0)):=by
 unfold KJ qI;simp only[Ack,Zad];show(bif usA u e then _ else _)=_;have a:D3 e.Op=θ (Im e.Op):=rfl;grind
def Ug{e}{u:AX}{n c}{nm}{cs}{ds}d(g:n=if u.By then e.K else 0)(a:nm=if u.Bz then e.J else ByteArray.empty)(h:c=if u.Bv then e.B else 0)(b:cs=if u.B3 then e.A else[])(f:ds=if u.B4 then e.V else[]):
 C0 e (d+1) u.Bg u.Bn n nm c cs ds=θ (qI u e):=by
 have i:(n==e.K)=(bif u.By then ν else e.K==0):=by grind
 have j:(nm.toList==e.J.toList)=(bif u.Bz then ν else(e.J.toList==({ data:=#[] }:ByteArray).toList)):=by
  rw[a];cases u.Bz;exact BEq.comm;grind
 have k:(c==e.B)=(bif u.Bv then ν else e.B==0):=by grind
 have l:((Ξ cs:Int)==Ξ e.A)=(bif u.B3 then ν else((Ξ e.A:Int)==0)):=by grind
 have m:(Ξ ds==(Ξ e.V:Int))=(bif u.B4 then ν else((Ξ e.V:Int)==0)):=by grind
 unfold C0 qI;rw[i,j,k,l,m];show(bif usA u e then _ else _)=_;rw[xN,xN]
 grind
def aL(a:Int):(a<1\/a>14)\/a=1\/a=2\/a=3\/a=4\/a=5\/a=6\/a=7\/a=8\/a=9\/a=10\/a=11\/a=12\/a=13\/a=14:=z0
def zu d e:DR (d+1) e=θ ((F4 e.Op).2&&qI (F4 e.Op).1 e):=by
 rcases aL e.Op with h|h|h|h|h|h|h|h|h|h|h|h|h|h|h
 have b:(F4 e.Op).2=ξ:=by
  have a:=bL e.Op;unfold EK H8 at a;rw[beq_eq_false_iff_ne.2 (show e.Op≠1 by omega),beq_eq_false_iff_ne.2 (show e.Op≠2 by omega),beq_eq_false_iff_ne.2 (show e.Op≠3 by omega),beq_eq_false_iff_ne.2 (show e.Op≠4 by omega),beq_eq_false_iff_ne.2 (show e.Op≠5 by omega),beq_eq_false_iff_ne.2 (show e.Op≠14 by omega),beq_eq_false_iff_ne.2 (show e.Op≠6 by omega),beq_eq_false_iff_ne.2 (show e.Op≠7 by omega),beq_eq_false_iff_ne.2 (show e.Op≠8 by omega),beq_eq_false_iff_ne.2 (show e.Op≠9 by omega),beq_eq_false_iff_ne.2 (show e.Op≠10 by omega),beq_eq_false_iff_ne.2 (show e.Op≠11 by omega),beq_eq_false_iff_ne.2 (show e.Op≠12 by omega),beq_eq_false_iff_ne.2 (show e.Op≠13 by omega),Zaq]at a;grind
 rw[b];unfold DR;rw[beq_eq_false_iff_ne.2 (show e.Op≠1 by omega),beq_eq_false_iff_ne.2 (show e.Op≠2 by omega),beq_eq_false_iff_ne.2 (show e.Op≠3 by omega),beq_eq_false_iff_ne.2 (show e.Op≠4 by omega),beq_eq_false_iff_ne.2 (show e.Op≠5 by omega),beq_eq_false_iff_ne.2 (show e.Op≠14 by omega),beq_eq_false_iff_ne.2 (show e.Op≠6 by omega),beq_eq_false_iff_ne.2 (show e.Op≠7 by omega),beq_eq_false_iff_ne.2 (show e.Op≠8 by omega),beq_eq_false_iff_ne.2 (show e.Op≠9 by omega),beq_eq_false_iff_ne.2 (show e.Op≠10 by omega),beq_eq_false_iff_ne.2 (show e.Op≠11 by omega),beq_eq_false_iff_ne.2 (show e.Op≠12 by omega),beq_eq_false_iff_ne.2 (show e.Op≠13 by omega),Zaq];rfl;rw[h];unfold DR;rw[h];exact Ug (u:=(F4 1).1) d rfl rfl rfl rfl rfl;rw[h];unfold DR;rw[h];exact Ug (u:=(F4 2).1) d rfl rfl rfl rfl rfl;rw[h];unfold DR;rw[h];exact Ug (u:=(F4 3).1) d rfl rfl rfl rfl rfl;rw[h];unfold DR;rw[h];exact Ug (u:=(F4 4).1) d rfl rfl rfl rfl rfl;rw[h];unfold DR;rw[h];exact Ug (u:=(F4 5).1) d rfl rfl rfl rfl rfl;rw[h];unfold DR;rw[h];exact Ug (u:=(F4 6).1) d rfl rfl rfl rfl rfl;rw[h];unfold DR;rw[h];exact Ug (u:=(F4 7).1) d rfl rfl rfl rfl rfl;rw[h];unfold DR;rw[h];exact Ug (u:=(F4 8).1) d rfl rfl rfl rfl rfl;rw[h];unfold DR;rw[h];exact Ug (u:=(F4 9).1) d rfl rfl rfl rfl rfl;rw[h];unfold DR;rw[h];exact Ug (u:=(F4 10).1) d rfl rfl rfl rfl rfl;rw[h];unfold DR;rw[h];exact Ug (u:=(F4 11).1) d rfl rfl rfl rfl rfl;rw[h];unfold DR;rw[h];exact Ug (u:=(F4 12).1) d rfl rfl rfl rfl rfl;rw[h];unfold DR;rw[h];exact Ug (u:=(F4 13).1) d rfl rfl rfl rfl rfl;rw[h];unfold DR;rw[h];exact Ug (u:=(F4 14).1) d rfl rfl rfl rfl rfl
def RA{a}(h:(F4 a).2=ν):1<=a/\a<=14:=by
 rcases aL a with e|e;have b:=bL a;unfold EK H8 at b;rw[beq_eq_false_iff_ne.2 (show a≠1 by omega),beq_eq_false_iff_ne.2 (show a≠2 by omega),beq_eq_false_iff_ne.2 (show a≠3 by omega),beq_eq_false_iff_ne.2 (show a≠4 by omega),beq_eq_false_iff_ne.2 (show a≠5 by omega),beq_eq_false_iff_ne.2 (show a≠14 by omega),beq_eq_false_iff_ne.2 (show a≠6 by omega),beq_eq_false_iff_ne.2 (show a≠7 by omega),beq_eq_false_iff_ne.2 (show a≠8 by omega),beq_eq_false_iff_ne.2 (show a≠9 by omega),beq_eq_false_iff_ne.2 (show a≠10 by omega),beq_eq_false_iff_ne.2 (show a≠11 by omega),beq_eq_false_iff_ne.2 (show a≠12 by omega),beq_eq_false_iff_ne.2 (show a≠13 by omega),Zaq]at b;rw[<-Zaf b]at h
 cases h
 omega
def vX(b:DS s)c{d}(hd:42<=d)(a:d<=1000):Ok (Bm d s c) λe=>e=0↔GC s c:=by
 have⟨e,h1,_,h2⟩:=ju b c hd a;exact⟨e,h1,h2,λh=>by rw[h.check b z0]at h1;exact(Zaf h1).symm⟩
def vY(b:DS s)c{d}(hd:42<=d)(a:d<=1000):Ok (BY d s c) λe=>e=0↔GC s c:=by
 have⟨e,_,h1,h2⟩:=ju b c hd a;exact⟨e,h1,h2,λh=>by rw[h.rcheck b z0]at h1;exact(Zaf h1).symm⟩
def PT s(e:Ag):=if e.Op=1 then -1099511627776<=e.K/\e.K<=1099511627776 else if e.Op=2 then CQ e.J=θ ν else if e.Op=4\/e.Op=5\/e.Op=14 then MS s e.B else if e.Op=10 then((1<=Ξ e.V/\Ξ e.V<=3)/\DQ s e.V)/\(e.B=-1\/MS s e.B)else if e.Op=11 then MS s e.B/\(1<=Ξ e.A/\Ξ e.A<=3)/\TQ s e.B e.A else if e.Op=12 then ∃(i:Nat)(hi:i<Ξ s.A),1<=i/\e.B=i/\Do s.A[i]/\0<=s.A[i].C else if e.Op=13 then ∃(i:Nat)(hi:i<Ξ s.A),1<=i/\e.B=i/\Do s.A[i]/\e.K∈s.A[i].L else True
def fw{b c}{A}(h:b=ν↔A)(k:c=ν↔A):b=c:=by grind
def eK{m}(h:MS s m):∃(i:Nat)(a:i<Ξ s.A),m=i/\Do s.A[i]/\∀P:Ax->Prop,(P s.A[i]↔∃(i:Nat)(a:i<Ξ s.A),1<=i/\m=i/\Do s.A[i]/\P s.A[i]):=by
 obtain⟨i,a,c,rfl,h⟩:=h;refine⟨i,a,rfl,h,λP=>⟨λb=>⟨i,a,c,rfl,h,b⟩,λ⟨j,d,_,e,_,b⟩=>?_⟩⟩;grind
def x4(m:DS s)e:Ok (Oi s e) λb=>b=ν↔PT s e:=by
 have p:Ok ((BJ s e.B).bind λx=>θ x) λb=>b=ν↔MS s e.B:=Ok.bind (IP m _) λb d=>KK d;unfold Oi PT;by_cases h1:e.Op=1;rw[h1];refine Vc rfl (KK ?_);rw[Zai rfl,Zdl,Zax,decide_eq_true_iff,decide_eq_true_iff];by_cases h2:e.Op=2;have⟨b,d,_⟩:=VD e.J;rw[h2];refine Ok.no rfl (Vc rfl (qr d (KK ?_)));rw[Zah j0,Zai rfl,d];exact⟨λh=>by rw[h],λh=>Zaf h⟩;by_cases u:e.Op=4;rw[u];exact Ok.no rfl (Ok.no rfl (Vc rfl p));by_cases v:e.Op=5;rw[v];exact Ok.no rfl (Ok.no rfl (Ok.no rfl (Vc rfl p)));by_cases n:e.Op=14;rw[n];exact Ok.no rfl (Ok.no rfl (Ok.no rfl (Ok.no rfl (Vc rfl p))));by_cases f:e.Op=10;rw[f];refine Ok.no rfl (Ok.no rfl (Ok.no rfl (Ok.no rfl (Ok.no rfl (Vc rfl ?_)))));rw[Zah j0,Zah j0,Zah j0,Zai rfl];refine Ok.bind (Abp m _) λb d=>Ok.br (λa=>Ok.br (λq=>KK ⟨λ_=>⟨d.1 a,.inl (beq_iff_eq.1 q)⟩,λ_=>rfl⟩) λq=>p.mono λc o=>⟨λh=>⟨d.1 a,.inr (o.1 h)⟩,λh=>o.2 (h.2.resolve_left (beq_eq_false_iff_ne.1 q))⟩) λa=>KK ⟨λh=>by(cases h),λh=>by rw[d.2 h.1]at a;cases a⟩;by_cases g:e.Op=11;rw[g];refine Ok.no rfl (Ok.no rfl (Ok.no rfl (Ok.no rfl (Ok.no rfl (Ok.no rfl (Vc rfl ?_))))));rw[Zah j0,Zah j0,Zah j0,Zah j0,Zai rfl];exact Ok.bind (IP m _) λb d=>Ok.br (λa=>Ok.bind (zY m _ _) λc o=>KK ⟨λh=>⟨d.1 a,o.1 h⟩,λh=>o.2 h.2⟩) λa=>KK ⟨λh=>by(cases h),λh=>by rw[d.2 h.1]at a;cases a⟩;by_cases j:e.Op=12;rw[j];refine Ok.no rfl (Ok.no rfl (Ok.no rfl (Ok.no rfl (Ok.no rfl (Ok.no rfl (Ok.no rfl (Vc rfl ?_)))))));rw[Zah j0,Zah j0,Zah j0,Zah j0,Zah j0,Zai rfl];refine Ok.bind (IP m _) λb d=>Ok.br (λa=>?_) λa=>KK ⟨λh=>by(cases h),λ⟨i,k,r,h1,h2,_⟩=>by rw[d.2 ⟨i,k,r,h1,h2⟩]at a;cases a⟩;have⟨i,k,h1,_,t⟩:=eK (d.1 a);have:=t λc=>0<=c.C;rw[h1]at this ⊢;exact JT k (KK (Iff.trans (by grind) this));by_cases l:e.Op=13;rw[l];refine Ok.no rfl (Ok.no rfl (Ok.no rfl (Ok.no rfl (Ok.no rfl (Ok.no rfl (Ok.no rfl (Ok.no rfl (Vc rfl ?_))))))));rw[Zah j0,Zah j0,Zah j0,Zah j0,Zah j0,Zah j0,Zai rfl];refine Ok.bind (IP m _) λb d=>Ok.br (λa=>?_) λa=>KK ⟨λh=>by(cases h),λ⟨i,k,r,h1,h2,_⟩=>by rw[d.2 ⟨i,k,r,h1,h2⟩]at a;cases a⟩;have⟨i,k,h1,h2,t⟩:=eK (d.1 a);have:=t λc=>e.K∈c.L;rw[h1]at this ⊢;have w:=B6 h2;exact JT k (Ok.bind (Vv z0) λz y=>KK (y.trans this));rw[Zah h1,Zah h2,Zah z0,Zah f,Zah g,Zah j,Zah l];exact Ok.no (beq_eq_false_iff_ne.2 h1) (Ok.no (beq_eq_false_iff_ne.2 h2) (Ok.no (beq_eq_false_iff_ne.2 u) (Ok.no (beq_eq_false_iff_ne.2 v) (Ok.no (beq_eq_false_iff_ne.2 n) (Ok.no (beq_eq_false_iff_ne.2 f) (Ok.no (beq_eq_false_iff_ne.2 g) (Ok.no (beq_eq_false_iff_ne.2 j) (Ok.no (beq_eq_false_iff_ne.2 l) (KK ⟨λ_=>trivial,λ_=>rfl⟩)))))))))
def R1 s e:=((F4 e.Op).2=ν/\qI (F4 e.Op).1 e=ν)/\PT s e/\((F4 e.Op).1.Bg=ν->GC s e.Q)/\((F4 e.Op).1.Bn=ν->GC s e.Y)
def RQ(s:Aa):Nat->Ag->Prop| 0,e=>R1 s e/\Im e.Op=ξ/\e.D=[]| k+1,e=>R1 s e/\(Im e.Op=ν->∃a b,e.D=[a,b]/\(a.Op<10/\RQ s k a)/\b.Op<10/\RQ s k b)/\(Im e.Op=ξ->e.D=[])
theorem RQ.one:∀{k}{e},RQ s k e->R1 s e
 | 0,_,h=>h.1
 | _+1,_,h=>h.1
def vV{a b}{p}{x y}(c:p a=θ x)(d:p b=θ y):A3 [a,b] p=θ (x||y):=by
 unfold A3;rw[show Da [a,b] p=θ (Gb (λx=>(p x).getD ξ) [a,b])from JY (λx hx=>?_) zs,Zad,Pu];simp[c,d];grind
def pk p:A3 [] p=θ ξ:=rfl
def rI{a}(h:Im a=ν):6<=a/\a<=9:=by
 unfold Im at h;grind
theorem RQ.no{k}{e}(h:RQ s k e)(a:Im e.Op=ξ):e.D=[]:=by
 cases k with
 | zero=>exact h.2.2
 | succ k=>exact h.2.2 a
theorem RQ.two{k}{e}(h:RQ s k e)(c:Im e.Op=ν):Ξ e.D=2:=by
 cases k with
 | zero=>have:=h.2.1;grind
 | succ k=>have⟨a,b,h,_⟩:=h.2.1 c;grind
theorem TE.kid{k}{e a b}(h:TE k e)(c:e.D=[a,b]):∃m,k=m+1/\TE m a/\TE m b:=by
 cases k with
 | zero=>have:=h;rw[this]at c;cases c
 | succ m=>exact⟨m,rfl,h a (by grind),h b (by grind)⟩
theorem RQ.mk{k}{e}(h1:R1 s e)(a:Im e.Op=ξ)(b:e.D=[]):RQ s k e:=by
 cases k with
 | zero=>exact⟨h1,a,b⟩
 | succ k=>exact⟨h1,λh=>by(rw[a]at h;cases h),λ_=>b⟩
theorem nN{l:List Ag}(h:Ξ l=2):∃a b,l=[a,b]:=by
 match l,h with
 | [a,b],_=>grind
def kf{a}(h:(F4 a).2=ν):I9 a=θ (υ (a<10)):=by
 have:=RA h;unfold I9;grind
theorem so(u:DS s):∀k d e,TE k e->44+2*k<=d->d<=1000->Ok (Gu d s e) λb=>b=ν↔RQ s k e
 | k,0,e,_,h,_=>by omega
 | k,d+1,e,ht,hd,hd2=>by
   show Ok (JI d (Gu d) (Dr d) s e) _;unfold JI;refine qr (bL _) (Ok.br (λl=>KK ⟨λh=>by(cases h),λh=>by rw[h.one.1.1]at l;cases l⟩) λl=>qr (qH _ _) (Ok.br (λn=>KK ⟨λh=>by(cases h),λh=>?_⟩) λn=>Ok.bind (x4 u e) λL C=>Ok.br (λv=>KK ⟨λh=>by(cases h),λh=>by rw[C.2 h.one.2.1]at v;cases v⟩) λv=>?_));rw[h.one.1.2]at n
   cases hp:Im e.Op with
   | true=>grind
   | false=>rw[hp,h.no hp]at n;cases n
   have l:(F4 e.Op).2=ν:=by grind
   have g:qI (F4 e.Op).1 e=ν/\(Im e.Op||(Ξ e.D:Int)==0)=ν:=by grind
   have o:=C.1 (by grind)
   have j:((F4 e.Op).1.Bg=ν->GC s e.Q)->((F4 e.Op).1.Bn=ν->GC s e.Y)->Ok ((D3 e.Op).bind λf=>bif(bif f then((Ξ e.D:Int) != 2)else ξ)then θ ξ else(A3 e.D λa0=>Dr d a0 s).bind λx59=>θ (!x59)) λb=>b=ν↔RQ s k e:=by
    intro p D;apply qr (x:=Im e.Op) rfl
    cases hp:Im e.Op with
    | false=>
      have E:e.D=[]:=by
       rw[hp]at g;exact Zau (by grind)
      rw[E];exact Ok.no rfl (qr (pk _) (KK ⟨λ_=>RQ.mk ⟨⟨l,g.1⟩,o,p,D⟩ hp E,λ_=>rfl⟩))
    | true=>
      refine Ok.br (λw=>KK ⟨λh=>by(cases h),λh=>?_⟩) λw=>?_;rw[h.two hp]at w;cases w
      have F:Ξ e.D=2:=by grind
      obtain⟨a,b,i⟩:=nN F;obtain⟨m,rfl,G,A⟩:=ht.kid i
      have r:∀x,TE m x->Ok (Dr d x s) λb=>b=ξ↔x.Op<10/\RQ s m x:=by
       intro x hx;obtain⟨d,rfl⟩:∃d',d=d'+1:=⟨d-1,z0⟩;show Ok (GP d (Gu d) (Dr d) x s) _;unfold GP;refine qr (x:=bif υ (x.Op>=1)then υ (x.Op<=9)else ξ) rfl (Ok.br (λc=>KK ⟨λh=>by(cases h),λh=>?_⟩) λc=>Ok.bind (so u m d x hx z0 z0) λb A=>KK ?_);have:=RA h.2.one.1.1;rw[dt,dt]at c;cases c
       grind
      obtain⟨x,H,I⟩:=r a G;obtain⟨y,J,K⟩:=r b A;rw[i];refine qr (vV H J) (KK ?_);rw[Zgc,Bool.or_eq_false_iff,I,K];refine⟨λh=>⟨⟨⟨l,g.1⟩,o,p,D⟩,λ_=>⟨a,b,i,h⟩,λh=>by(rw[hp]at h;cases h)⟩,λh=>?_⟩;obtain⟨M,N,h1,h2⟩:=h.2.1 hp;grind
   unfold LB
   have ev:((F4 e.Op).1.Bg=ν->GC s e.Q)->Ok (bif(F4 e.Op).1.Bn then(Bm d s e.Y).bind λB=>bif(B != 0)then θ ξ else((D3 e.Op).bind λf=>bif(bif f then((Ξ e.D:Int) != 2)else ξ)then θ ξ else(A3 e.D λa0=>Dr d a0 s).bind λx59=>θ (!x59))else((D3 e.Op).bind λf=>bif(bif f then((Ξ e.D:Int) != 2)else ξ)then θ ξ else(A3 e.D λa0=>Dr d a0 s).bind λx59=>θ (!x59))) λb=>b=ν↔RQ s k e:=by
    intro p;refine Ok.br (λq=>Ok.bind (vX u _ z0 z0) λz t=>Ok.br (λc=>KK ⟨λh=>by(cases h),λh=>?_⟩) λc=>j p λ_=>t.1 (by grind)) λq=>j p λh=>by(rw[q]at h;cases h)
    rw[t.2 (h.one.2.2.2 q)]at c;cases c
   refine Ok.br (λq=>Ok.bind (vX u _ z0 z0) λz t=>Ok.br (λc=>KK ⟨λh=>by(cases h),λh=>?_⟩) λc=>ev λ_=>t.1 (by grind)) λq=>ev λh=>by(rw[q]at h;cases h)
   rw[t.2 (h.one.2.2.1 q)]at c;cases c
theorem Afb(f:DS s)e b{d}(hd:42<=d)(a:d<=1000):Ok (BP 0 d s e b) λr=>r=ν↔b=ν/\GC s e.Q:=by
 unfold BP
 cases b with
 | false=>exact KK ⟨λh=>by(cases h),λh=>h.1⟩
 | true=>exact Vc rfl (Ok.no rfl (Ok.bind (vY f _ hd a) λz c=>KK ⟨λh=>⟨rfl,c.1 (by grind)⟩,λh=>by rw[c.2 h.2];rfl⟩))
def Afa(n:DS s)e(h1:(F4 e.Op).2=ν){d}(hd:42<=d)(p:d<=1000):Ok (La s e (if Im e.Op then 2 else 0) d) λr=>r=ν↔PT s e/\((F4 e.Op).1.Bg=ν->GC s e.Q)/\((F4 e.Op).1.Bn=ν->GC s e.Y):=by
 unfold La;refine Ok.bind (IP n _) λm g=>?_;have ho:=RA h1;have key:e.Op=1\/e.Op=2\/e.Op=3\/(e.Op=4\/e.Op=5\/e.Op=14)\/(e.Op=6\/e.Op=7\/e.Op=8\/e.Op=9)\/e.Op=10\/e.Op=11\/e.Op=12\/e.Op=13:=z0;have k:∀b,Ok (BP 0 d s e b) λr=>r=ν↔b=ν/\GC s e.Q:=λb=>Afb n e b hd p;unfold PT;rcases key with h|h|h|h|h|h|h|h|h;rw[h];refine Vc rfl (KK ?_);rw[Zai rfl,Zdl,Zax,decide_eq_true_iff,decide_eq_true_iff];exact⟨λh=>⟨h,λh=>by(cases h),λh=>by cases h⟩,λh=>h.1⟩;have⟨b,y,_⟩:=VD e.J;rw[h];refine Ok.no rfl (Vc rfl (qr ((g9 _).symm.trans y) (KK ?_)));rw[Zah j0,Zai rfl,y];exact⟨λh=>⟨by rw[h],λh=>by(cases h),λh=>by cases h⟩,λh=>Zaf h.1⟩;rw[h];exact Ok.no rfl (Ok.no rfl (Vc rfl ((k ν).mono λr hr=>hr.trans ⟨λh=>⟨trivial,λ_=>h.2,λh=>by cases h⟩,λh=>⟨rfl,h.2.1 rfl⟩⟩)));have q:∀o,(F4 o).1.Bg=ν->(F4 o).1.Bn=ξ->(o=4\/o=5\/o=14)->Ok (BP 0 d s e m) λr=>r=ν↔MS s e.B/\((F4 o).1.Bg=ν->GC s e.Q)/\((F4 o).1.Bn=ν->GC s e.Y):=λo u v _=>(k m).mono λr hr=>hr.trans ⟨λh=>⟨g.1 h.1,λ_=>h.2,λh=>by(rw[v]at h;cases h)⟩,λh=>⟨g.2 h.1,h.2.1 u⟩⟩;rcases h with h|h|h<;>rw[h]<;>exact Ok.no rfl (Ok.no rfl (Ok.no rfl (Ok.no rfl (Ok.no rfl (Ok.no rfl (Ok.no rfl (Ok.no rfl (Ok.no rfl (Ok.no rfl (Ok.no rfl (q _ rfl rfl j0)))))))))))
 have q:∀o,(F4 o).1.Bg=ξ->(F4 o).1.Bn=ξ->Ok (BP 2 d s e ν) λr=>r=ν↔True/\((F4 o).1.Bg=ν->GC s e.Q)/\((F4 o).1.Bn=ν->GC s e.Y):=λo u v=>by
  unfold BP;exact KK ⟨λ_=>⟨trivial,λh=>by(rw[u]at h;cases h),λh=>by(rw[v]at h;cases h)⟩,λ_=>rfl⟩
 rcases h with h|h|h|h<;>rw[h];exact Ok.no rfl (Ok.no rfl (Ok.no rfl (Vc rfl (q _ rfl rfl))));exact Ok.no rfl (Ok.no rfl (Ok.no rfl (Ok.no rfl (Vc rfl (q _ rfl rfl)))));exact Ok.no rfl (Ok.no rfl (Ok.no rfl (Ok.no rfl (Ok.no rfl (Vc rfl (q _ rfl rfl))))));exact Ok.no rfl (Ok.no rfl (Ok.no rfl (Ok.no rfl (Ok.no rfl (Ok.no rfl (Vc rfl (q _ rfl rfl)))))));rw[h];refine Ok.no rfl (Ok.no rfl (Ok.no rfl (Ok.no rfl (Ok.no rfl (Ok.no rfl (Ok.no rfl (Vc rfl (Ok.bind (wk n _) λz f=>Ok.br (λa=>KK ⟨λh=>by(cases h),λh=>?_⟩) λa=>(k _).mono λr hr=>hr.trans ?_))))))));rw[f.2 h.1.1]at a;cases a;rw[Bool.cond_true_left,Zft,g,Zdk];exact⟨λh=>⟨⟨f.1 (by grind),h.1.symm⟩,λ_=>h.2,λh=>by cases h⟩,λh=>⟨h.1.2.symm,h.2.1 rfl⟩⟩;rw[h];refine Ok.no rfl (Ok.no rfl (Ok.no rfl (Ok.no rfl (Ok.no rfl (Ok.no rfl (Ok.no rfl (Ok.no rfl (Vc rfl (Ok.bind (zZ n _ _) λz f=>Ok.br (λa=>KK ⟨λh=>by(cases h),λh=>?_⟩) λa=>(k _).mono λr hr=>hr.trans ⟨λh=>⟨⟨g.1 h.1,f.1 (by grind)⟩,λ_=>h.2,λh=>by cases h⟩,λh=>⟨g.2 h.1.1,h.2.1 rfl⟩⟩)))))))));rw[f.2 h.1.2]at a;cases a;rw[h];refine Ok.no rfl (Ok.no rfl (Ok.no rfl (Ok.no rfl (Ok.no rfl (Ok.no rfl (Ok.no rfl (Ok.no rfl (Ok.no rfl (Vc rfl (Ok.br (λa=>KK ⟨λh=>by(cases h),λ⟨⟨i,j,w,h1,h2,_⟩,_⟩=>by rw[g.2 ⟨i,j,w,h1,h2⟩]at a;cases a⟩) λa=>?_))))))))));have a:m=ν:=by grind
 have⟨i,j,h1,_,x⟩:=eK (g.1 a);have:=x λc=>0<=c.C;subst a;rw[h1]at this ⊢;refine JT j (bt (λl=>KK ⟨λh=>by(cases h),λh=>?_⟩) λl=>Ok.bind (vY n _ hd p) λz f=>Ok.br (λt=>KK ⟨λh=>by(cases h),λh=>by rw[f.2 (h.2.2 rfl)]at t;cases t⟩) λt=>(k _).mono λr hr=>hr.trans ⟨λh=>⟨this.1 z0,λ_=>h.2,λ_=>f.1 (by grind)⟩,λh=>⟨rfl,h.2.1 rfl⟩⟩);have:=this.2 h.1;omega;rw[h];refine Ok.no rfl (Ok.no rfl (Ok.no rfl (Ok.no rfl (Ok.no rfl (Ok.no rfl (Ok.no rfl (Ok.no rfl (Ok.no rfl (Ok.no rfl (Vc rfl (Ok.br (λa=>KK ⟨λh=>by(cases h),λ⟨⟨i,j,w,h1,h2,_⟩,_⟩=>by rw[g.2 ⟨i,j,w,h1,h2⟩]at a;cases a⟩) λa=>?_)))))))))));have a:m=ν:=by grind
 have⟨i,j,h1,h2,x⟩:=eK (g.1 a);have:=x λc=>e.K∈c.L;subst a;have A:=B6 h2;rw[h1]at this ⊢;refine JT j (Ok.bind (pS z0) λz f=>Ok.br (λl=>KK ⟨λh=>by(cases h),λh=>?_⟩) λl=>(k _).mono λr hr=>hr.trans ⟨λh=>⟨this.1 (f.1 (by grind)),λ_=>h.2,λh=>by cases h⟩,λh=>⟨rfl,h.2.1 rfl⟩⟩);grind
theorem lX(u:DS s):∀k d e,TE k e->44+k<=d->d<=1000->Ok (FK d s e) λb=>b=ν↔RQ s k e
 | k,0,e,_,h,_=>by omega
 | k,d+1,e,ht,hd,hd2=>by
   show Ok (Mr d (FK d) s e) _;unfold Mr;obtain⟨d',rfl⟩:∃d',d=d'+1:=⟨d-1,z0⟩;refine qr u.rcheck (Ok.no rfl (qr (zu d' e) (Ok.br (λj=>KK ⟨λh=>by(cases h),λh=>by rw[h.one.1.1,h.one.1.2]at j;cases j⟩) λj=>?_)));have j:(F4 e.Op).2=ν/\qI (F4 e.Op).1 e=ν:=by grind
   have p:=Afa u e j.1 (d:=d'+1) z0 z0;unfold OG KZ;show Ok (bif Im e.Op then _ else _) _
   cases hp:Im e.Op with
   | false=>
     rw[hp]at p;refine Ok.no rfl (Ok.br (λn=>KK ⟨λh=>by(cases h),λh=>by rw[h.no hp]at n;cases n⟩) λn=>?_);have A:e.D=[]:=Zau (by grind);refine Wf (λv=>v) 0 (λ_ _=>True) 0 (Zam _) rfl trivial z0 (λrec v f _=>?_) λrec i v o=>by omega
     unfold KY;have f:=f;rw[f,A];refine Ok.f (p.mono λr hr=>hr.trans ⟨λh=>RQ.mk ⟨j,h⟩ hp A,λh=>h.one.2⟩) zs
   | true=>
     rw[hp]at p;refine Vc rfl (Ok.br (λn=>KK ⟨λh=>by(cases h),λh=>by rw[h.two hp]at n;cases n⟩) λn=>?_);have⟨a,b,g⟩:=nN (l:=e.D) (by grind);obtain⟨m,rfl,E,F⟩:=ht.kid g
     have c:RQ s (m+1) e↔(PT s e/\((F4 e.Op).1.Bg=ν->GC s e.Q)/\((F4 e.Op).1.Bn=ν->GC s e.Y))/\∀x∈e.D,x.Op<10/\RQ s m x:=by
      refine⟨λh=>⟨h.one.2,?_⟩,λh=>⟨⟨j,h.1⟩,λ_=>⟨a,b,g,h.2 a (by grind),h.2 b (by grind)⟩,λh=>by(rw[hp]at h;cases h)⟩⟩;have⟨C,D,h1,h2⟩:=h.2.1 hp;grind
     have G:Ξ e.D=2:=by grind
     refine Wf (λv=>v) (Ξ e.D) (λk _=>∀x∈e.D.take k,x.Op<10/\RQ s m x) 0 (Zag _) rfl zs z0 (λrec v f q=>?_) λrec i v o f q ih=>?_;have f:=f;rw[Zaj]at q;unfold KY;rw[f];exact Ok.f (p.mono λr hr=>hr.trans ⟨λh=>c.2 ⟨h,q⟩,λh=>(c.1 h).1⟩);have f:=f;unfold KY;rw[f];have hx:=Zae o;have w:=ht _ hx;refine Ok.t (JT o (bt (λh=>KK ⟨λh=>by(cases h),λy=>by have:=((c.1 y).2 _ hx).1;omega⟩) λh=>JT o (Ok.bind (lX u m (d'+1) _ w z0 z0) λz B=>Ok.br (λt=>KK ⟨λh=>by(cases h),λy=>by rw[B.2 ((c.1 y).2 _ hx).2]at t;cases t⟩) λt=>ih _ BE ?_)));grind
def Yg(f:DS s){k d}{e}(g:TE k e)(hd:44+2*k<=d)(a:d<=1000):∃b,Eg d s e=θ b/\FK d s e=θ b/\(b=ν↔RQ s k e):=by
 have⟨b,h1,h2⟩:=so f k d e g hd a;have⟨c,h,i⟩:=lX f k d e g z0 a;refine⟨b,Ok.val ?_,by rw[h,fw h2 i],h2⟩;unfold Eg;exact qr f.check (Vc rfl (qr h1 (KK rfl)))
def TG:Nat->Ag->List ByteArray| 0,e=>if e.Op=2 then[e.J]else[]| k+1,e=>if e.Op=2 then[e.J]else e.D.flatMap (TG k)
def aJ{k}{e}(h:e.Op=2):TG k e=[e.J]:=by cases k<;>exact Zai h
theorem eO{k}{e}(h:e.Op≠2)(a:e.D=[]):TG k e=[]:=by
 cases k with
 | zero=>exact Zah h
 | succ k=>unfold TG;grind
theorem WU:∀{k}{e},RQ s k e->Ξ (TG k e)<=2^k
 | 0,e,h=>by
   by_cases c:e.Op=2;rw[aJ c];simp;rw[eO c h.2.2];simp
 | k+1,e,h=>by
   have h2:=Nat.one_le_two_pow (n:=k);rw[Zfc];by_cases c:e.Op=2;rw[aJ c,List.length_singleton];omega
   cases hp:Im e.Op with
   | false=>rw[eO c (h.no hp)];simp
   | true=>
     have⟨a,b,d,⟨_,f⟩,_,g⟩:=h.2.1 hp;unfold TG;rw[Zah c,d];have:=WU f;have:=WU g;grind
theorem rT{f}{g}(l:∀nm,f nm=θ (g nm)):∀k d{e},RQ s k e->2*k+2<=d->Gt d e f=θ ((TG k e).all g)
 | k,0,e,_,h=>by omega
 | k,d+1,e,h,hd=>by
   show JH d (Gt d) (Fu d) e f=_;apply Ok.val;unfold JH;rw[l];by_cases c:e.Op=2;have m:=h.no (by rw[c];rfl);rw[aJ c,c,m,pk];refine Vc rfl (qr rfl ?_);rw[List.all_cons,List.all_nil,Bool.and_true]
   cases g e.J with
   | true=>exact Ok.no rfl (qr rfl (KK rfl))
   | false=>exact Vc rfl (KK rfl)
   apply Ok.no (beq_eq_false_iff_ne.2 c)
   cases hp:Im e.Op with
   | false=>rw[eO c (h.no hp),h.no hp];exact qr (pk _) (KK rfl)
   | true=>
     cases k with
     | zero=>have:=h.2.1;grind
     | succ k=>
       have⟨a,b,j,⟨_,n⟩,_,o⟩:=h.2.1 hp
       have i:∀x,RQ s k x->Fu d x f=θ (!(TG k x).all g):=λx hx=>by
        obtain⟨d,rfl⟩:∃d',d=d'+1:=⟨d-1,z0⟩;show GO d (Gt d) (Fu d) x f=_;unfold GO;rw[rT l k d hx z0];rfl
       unfold TG;rw[Zah c,j];refine qr (vV (i a n) (i b o)) (KK ?_);grind
theorem lN:∀k d{e},RQ s k e->k+1<=d->k<=20->KW d e=θ (TG k e)
 | k,0,e,_,h,_=>by omega
 | k,d+1,e,h,hd,hk=>by
   show Mq d (KW d) e=_;refine Ok.val ?_;unfold Mq;by_cases f:e.Op=2;rw[aJ f,f];exact Vc rfl (KK rfl);refine Ok.no (beq_eq_false_iff_ne.2 f) ?_
   cases hp:Im e.Op with
   | false=>
     rw[eO f (h.no hp)];refine Wf (λq=>q.1) 0 (λ_ q=>q.2=[]) 0 (Zam _) rfl rfl z0 (λrec q g c=>?_) λrec i v m=>by omega
     unfold KX;rw[g,h.no hp];exact Ok.f (KK c) zs
   | true=>
     cases k with
     | zero=>have:=h.2.1;grind
     | succ k=>
       have⟨a,b,j,⟨_,o⟩,_,p⟩:=h.2.1 hp
       have n:∀x∈e.D,KW d x=θ (TG k x)/\Ξ (TG k x)<=1048576:=λx hx=>by
        rw[j]at hx;have l:2^k<=2^20:=Zch z0 z0;rcases(by simpa using hx:x=a\/x=b)with rfl|rfl;exact⟨lN k d o z0 z0,Zbl (WU o) l⟩;exact⟨lN k d p z0 z0,Zbl (WU p) l⟩
       have r:Ξ e.D=2:=by grind
       rw[show TG (k+1) e=e.D.flatMap (TG k)from Zah f];refine Wf (λq=>q.1) (Ξ e.D) (λi q=>q.2=(e.D.take i).flatMap (TG k)/\Ξ q.2<=i*1048576) 0 (Zag _) rfl ⟨rfl,zs⟩ z0 (λrec q g c=>?_) λrec i q m g c ih=>?_;unfold KX;rw[g];rw[Zaj]at c;exact Ok.f (KK c.1);unfold KX;rw[g];have⟨h1,h2⟩:=n _ (Zae m);have t:=c.2;refine Ok.t (JT m (qr h1 (Ok.rm ?_ (ih _ BE ⟨?_,?_⟩))));omega;show q.2++_=_;rw[c.1,Zab m,Zcw];simp;grind
def yN{l}{p}q(a:∀x∈l,p x=θ (q x))(b:Ξ l<=1000000000):Bj l p=θ (l.any q):=by
 unfold Bj;rw[show BS l p=θ (Gb q l)from JY a b,Zad,Pu]
def ly(l:List Az)(nm:ByteArray):=l.any λx=>x.J.toList==nm.toList
def xq{l}(a:Ξ l<=1000)nm:EP nm l=θ (ly l nm):=by
 unfold EP;rw[yN (p:=λa0=>Gm a0 nm) (λx=>x.J.toList==nm.toList) (λ_ _=>rfl) z0];rfl
def gJ{α:Type}{l:List α}{k}(c:k<=Ξ l)g:(List.range' 0 k).any (λj=>(l[j]?).any g)=(l.take k).any g:=by
 rw[Zgq,Zff,Zff];constructor;intro⟨j,a,h⟩;have a:=(List.mem_range'_1.1 a).2;rw[Zaa (by grind)]at h;exact⟨l[j],List.mem_iff_getElem.2 ⟨j,by rw[Zan];omega,Zbs⟩,h⟩;intro⟨p,b,h⟩;obtain⟨j,a,rfl⟩:=Zbi b;rw[Zan]at a;refine⟨j,List.mem_range'_1.2 z0,?_⟩;grind
def jp{l}{k:Nat}(a:k<=Ξ l)(b:k<=1000)nm:LE l k nm=θ (ly (l.take k) nm):=by
 unfold LE ly;rw[ku k (λj=>(l[j]?).any λp=>p.J.toList==nm.toList) (A:=θ ξ) (B:=θ ν) (λrec=>by unfold MM;rw[Bl]) λrec i c=>?_,gJ a]
 cases(l.take k).any λx=>x.J.toList==nm.toList<;>rfl
 unfold MM;rw[AK,AY (by grind),Zad,BE,Zaa (by grind)];rfl
structure ST(s:Aa)(l:List Az)(st:Az):Prop where
 name:CQ st.J=some true
 new:ly l st.J=false
 expr:RQ s 9 st.At
 names:∀nm∈TG 9 st.At,ly l nm=true
def yq(w:DS s){p}{k}y(f:k<=1000){d}(hd:70<=d)(n:d<=1000):Sm (IA d s (p.take k) p[k]) (JN d s p k) λe=>e=0->ST s (p.take k) p[k]:=by
 have g:Ξ (p.take k)<=1000:=by grind
 unfold IA JN;rw[AY y,Zad];obtain⟨b,o,-⟩:=VD p[k].J;refine Sm.bind (Sm.of o ((g9 _).symm.trans o) (P:=λx=>x=b) rfl) λx hx=>?_;subst hx;refine Sm.br (λ_=>Sm.ret λh=>by cases h) λh1=>?_;refine Sm.bind (Sm.of (xq g _) (jp z0 f _) (P:=λx=>x=ly (p.take k) p[k].J) rfl) λx hx=>?_;refine Sm.br (λ_=>Sm.ret λh=>by cases h) λh2=>?_;have⟨z,C⟩:=Zh d 60 p[k].At z0 z0;refine Sm.bind (Sm.of z C (P:=λx=>x=((min (b9 d p[k].At) (60+1):Nat):Int)) rfl) λc K=>?_;refine Sm.br (λ_=>Sm.ret λh=>by cases h) λq=>?_;have q:=Zcb q;have⟨r,t,L,M,D⟩:=jB d p[k].At z0 z0;refine Sm.bind (Sm.of t ((dm d _)▸t) (P:=λx=>x=r) rfl) λx a=>?_;subst a;refine Sm.br (λ_=>Sm.ret λh=>by cases h) λu=>?_;have u:=Zcb u;have⟨b,E,F,G⟩:=Yg w (D 9 z0) (d:=d) z0 n;refine Sm.bind (Sm.of E F (P:=λx=>x=b) rfl) λx a=>?_;subst a;refine Sm.br (λ_=>Sm.ret λh=>by cases h) λH=>?_;have m:=G.1 (by grind);rw[rT (λnm=>xq g nm) 9 d m z0,lN 9 d m z0 z0,Zad,Zad];have I:=WU m;rw[ku (Ξ (TG 9 p[k].At)) (λj=>((TG 9 p[k].At)[j]?).any λnm=>!ly (p.take k) nm) (A:=θ 0) (B:=θ 24) (λrec=>by unfold Jr;rw[Bl]) λrec i v=>?_,gJ (Zam _),Zaj]
 have l:((TG 9 p[k].At).any λnm=>!ly (p.take k) nm)=!(TG 9 p[k].At).all λnm=>ly (p.take k) nm:=by grind
 rw[l];refine Sm.br (λ_=>Sm.ret λh=>by cases h) λJ=>Sm.ret λ_=>⟨?_,?_,m,?_⟩;rw[o];simpa using h1;rw[<-hx];exact h2;exact List.all_eq_true.1 (by grind);unfold Jr;rw[AK,AY v,Zad,jp z0 f,Zad,BE,Zaa v];rfl
def PG s(p:List Az):=Ξ p<=30/\∀k hk,ST s (p.take k) p[k]
def ox(b:DS s)p{d}(hd:70<=d)(c:d<=1000):Sm (JZ d s p) (Rh d s p) λr=>r.2=0->PG s p:=by
 unfold JZ Rh;refine qr b.check (Ok.no rfl (WD (qr b.rcheck (Ok.no rfl (WD ?_)))));refine Sm.br (λ_=>Sm.ret λh=>by cases h) λh1=>?_;have h1:=Zcb h1;refine Ok.two (Ξ p) (λk u v=>u=k/\v=k/\∀j a,j<k->ST s (p.take j) p[j]) ⟨rfl,rfl,λ_ _ h=>z0⟩ (λn o u v ⟨f,g,h⟩=>?_) λn o k u v m ⟨f,g,h⟩ ih=>?_;subst f;subst g;exact Ok.f (Sm.r (Ok.f (KK (KK ⟨rfl,λ_=>⟨z0,λj a=>h j a a⟩⟩))));subst f;subst g;refine Ok.t (Sm.r (Ok.t (WD (JT m (dg z0 ?_)))));rw[I0];refine Sm.bind (yq b m z0 hd c) λe he=>Sm.br (λi=>Sm.ret λl=>?_) λi=>?_;have:=l;subst this;cases i;refine ih _ _ ⟨BE,BE,λj a t=>?_⟩;grind
section
section
variable {s:Aa}
def LsV s i b L:=∀hi a,0<=a->L<=a->a<=fin s i->∀v,iE s s.A[i] v->F9 s i a (CV s s.A[i] a v) b=θ (CV s s.A[i] b v,ν)
def tx L o b:=bif(bif(b==0)then ν else(o>=b))then θ ν else iter (λrec1 v11=>bif(v11<(Ξ (AW L):Int))then iter (λrec2 v12=>bif(v12<v11)then(idx (AW L) v11).bind λx50=>(θ (cv L b x50)).bind λx52=>(idx (AW L) v12).bind λx58=>(θ (cv L b x58)).bind λx60=>bif(x52 != x60)then(idx (AW L) v11).bind λx68=>(θ (cv L o x68)).bind λx70=>(idx (AW L) v12).bind λx76=>(θ (cv L o x76)).bind λx78=>bif(x70==x78)then θ ξ else rec2 (i64.wrap (v12+1))else rec2 (i64.wrap (v12+1))else rec1 (i64.wrap (v11+1))) Ay 0 else θ ν) Ay 0
def cLr L b:=iter (λrec1 st=>(tx L st b).bind λx=>bif(!x)then rec1 (i64.wrap (st+1))else θ st) Ay 0
def cLp L b:=iter (λrec1 st=>bif(st>0)then(Ex L (i64.wrap (st-1))).bind λu=>(Ex L st).bind λt=>bif((Ξ u:Int)==Ξ t)then rec1 (i64.wrap (st-1))else θ st else θ st) Ay b
def wT(L:Am)(b:Int):Bool:=match cLp L b,cLr L b with
 | some r,some q=>(r==q)&&decide (0<=r)&&decide (r<=b)&&(uf L).all λa=>decide (a<r)||(AW L).all λv=>MY L a (cv L a v) b==θ (cv L b v,ν)
 | _,_=>ξ
def wU:(Ym.all λL=>(uf L).all λb=>wT L b)=ν:=by decide +kernel
def qn(g:DS s){i}(j:1<=i)c(h:Iy s.A[i]){L}(d:L∈Ym)(a:idx s.S s.A[i].Al=θ L){o b}(k:0<=o)(l:0<=b)(m:b<=fin s i):F7 s i o b=tx L o b:=by
 unfold F7 tx;rw[AY c,Zad];by_cases e:(bif(b==0)then ν else(decide (o>=b)))=ν;grind;have e:(bif(b==0)then ν else(decide (o>=b)))=ξ:=by grind
 have ho:o<=fin s i:=z5;rw[e,Zaq,Zaq,h.kind];show(Dk s i).bind _=_;rw[rleaves c d a,Zad];refine congrArg (λf=>iter f Ay 0) (funext λn=>funext λv=>?_);unfold P8;apply congrArg (λz=>bif _ then z else _);refine congrArg (λf=>iter f Ay 0) (funext λp=>funext λw=>?_);unfold P9;apply congrArg (λz=>bif _ then z else _);refine Px λx hx=>?_;rw[GD g j c h d a l m hx];rw[Zad];refine Px λy hy=>?_;rw[GD g j c h d a l m hy];rw[Zad];apply congrArg (λz=>bif _ then z else _);refine Px λx hx=>?_;rw[GD g j c h d a k ho hx];simp only[Zad];refine Px λy hy=>?_;rw[GD g j c h d a k ho hy];grind
def gq(m:DS s){i}(t:1<=i)k(h:Iy s.A[i]){b}(C:0<=b)(F:b<=fin s i):∃r,CO s i b=θ r/\CE s i b=θ r/\0<=r/\r<=b/\LsV s i b r:=by
 have⟨L,w,d⟩:=m.clist h;have G:=ZX k h d;have H:=QH w;have I:=H.lev3;have j:∀{l:Int},0<=l->l<KF L->l∈uf L:=λa b=>List.mem_map.2 ⟨_,List.mem_range.2 z0,Zdh a⟩;have o:=List.all_eq_true.1 (List.all_eq_true.1 wU L w) b (j C z0);unfold wT at o
 have J:CO s i b=cLp L b:=by
  unfold CO cLp;rw[m.pFinest t k,Zad,df,df,Zaq,Zaq];refine congrArg (λf=>iter f Ay b) (funext λg=>funext λc=>?_)
  have D:∀l,FA s i l=(Ex L l).bind λu=>θ (Ξ u:Int):=λl=>by
   refine Eq.trans (b:=(idx s.S s.A[i].Al).bind λy=>(Ex y l).bind λA=>θ (Ξ A:Int)) ?_ ?_;unfold FA;rw[AY k,Zad,h.kind];rfl;grind
  grind
 have T:∀n c,0<=c->c<=b->iter (λg c=>GQ s i b (λp=>θ p) g c) n c=iter (λg c=>(tx L c b).bind λx=>bif(!x)then g (i64.wrap (c+1))else θ c) n c:=by
  intro n
  induction n with
  | zero=>intro c _ _;rfl
  | succ n ih=>
    intro c K h1;rw[Fs,Fs];unfold GQ;rw[qn m t k h w d K C F];have M:i64.wrap (c+1)=c+1:=wr;rw[M]
    cases e:tx L c b with
    | none=>rfl
    | some x=>
      cases x
      apply ih (c+1) z0;by_cases U:c=b;unfold tx at e;grind;omega;rfl
 have N:CE s i b=cLr L b:=by
  unfold CE cLr;rw[m.rfinest t k,Zad,JC,Zad,dt,Zfy,Zaq];grind
 rw[J,N];split at o;rename_i r q hr O;simp only[Zax,Zdk,decide_eq_true_eq]at o;obtain⟨⟨⟨rfl,h2⟩,P⟩,Q⟩:=o;refine⟨_,hr,O,h2,P,λ_ a a0 V R v B=>?_⟩;rw[G]at R;have B:=B.code h d;have E:=List.all_eq_true.1 Q a (j a0 z0);rw[Zap z0,Bool.false_or]at E;have S:=beq_iff_eq.1 (List.all_eq_true.1 E v B);rw[Kl h d,Kl h d];apply Ok.val;unfold F9;exact qr (m.pfinest t k) (Ok.no z5 (JT k (Vc (by rw[h.kind];rfl) (qr d (qr S (Ok.no rfl (KK rfl)))))))
 cases o
def XK.least(g:DS s){p}(h:XK s p):∃r,CO s p.B p.H=θ r/\CE s p.B p.H=θ r/\0<=r/\r<=p.H:=by
 have⟨i,j,f,e,k,h1⟩:=h;rw[e];rcases g.col j f with h|h;have⟨r,a,b,c,d,_⟩:=gq g j f h k h1;exact⟨r,a,b,c,d⟩;exact gp g j f h k (by rw[E8 f,Cs h]at h1;exact h1)
structure AQ(r:List Ab)(m:Nat)(A:List Ab):Prop where
 len:Ξ r<=m
 pos:∀p∈r,0<p.H
 iff:∀picks,(∀p∈r,one picks p.B p.H)↔∀p∈A,one picks p.B p.H
def AQ.covers{r A:List Ab}{m:Nat}(h:AQ r m A)(picks:List Ab):covers picks r=ν↔∀p∈A,one picks p.B p.H:=(Zb h.pos).trans (h.iff picks)
def AQ.congr{r A B}{m}(h:AQ r m A)(e:∀p,p∈A↔p∈B):AQ r m B:=⟨h.len,h.pos,λpicks=>(h.iff picks).trans ⟨λk p a=>k p ((e p).2 a),λk p a=>k p ((e p).1 a)⟩⟩
def AQ.mono{r A}{m n}(h:AQ r m A)(e:m<=n):AQ r n A:=⟨Zbl h.len e,h.pos,h.iff⟩
def AQ.cols{r A}{m}(h:AQ r m A):∀p∈r,∃a∈A,p.B=a.B:=by
 intro p b;rcases(h.iff A).2 (λa c=>.inr ⟨a,c,rfl,Zbh _⟩) p b with h1|⟨q,d,h2,_⟩;have:=h.pos p b;omega;grind
def AQ.raise{r A}{m}(h:AQ r m A)(b:m<=1000000)c n:Ok (DG r c n) λq=>AQ q (m+1) (A++[{ B:=c,H:=n }]):=
 (yc (Zbl h.len b) h.pos).mono λq a=>⟨by have:=h.len;omega,a.2.1,λpicks=>(a.2.2 picks).trans (by rw[h.iff picks,NQ])⟩
def iG{A B:List Ab}{P:Ab->Prop}:(∀p∈A++B,P p)↔(∀p∈A,P p)/\∀p∈B,P p:=by grind
def AQ.raises{r A l}{m}(h:AQ r m A)(j:m+Ξ l<=1000000){β}{a:(List Ab×Int->Option β)->List Ab->Int->Option β}{Q}(he:∀rec q,AQ q (m+Ξ l) (A++l)->Ok (a rec q (Ξ l:Int)) Q)(i:∀rec q (k:Nat) (d:k<Ξ l),AQ q (m+k) (A++l.take k)->(Ok (DG q l[k].B l[k].H) λb=>AQ b (m+(k+1)) (A++l.take (k+1)))->(∀b,AQ b (m+(k+1)) (A++l.take (k+1))->Ok (rec (b,((k+1:Nat):Int))) Q)->Ok (a rec q (k:Int)) Q):
 Ok (P.iter (λrec g=>a rec g.1 g.2) Ay (r,0)) Q:=by
 refine Wf (λq=>q.2) (Ξ l) (λk q=>AQ q.1 (m+k) (A++l.take k)) 0 (Zag _) rfl (by grind) z0 (λrec q e c=>?_) λrec k q d e c ih=>?_;rw[e];rw[Zaj]at c;exact he rec q.1 c;rw[e];refine i rec q.1 k d c ((c.raise z0 _ _).mono λb f=>?_) λb f=>ih _ rfl f;rw[Zab d,<-Zcn];exact f
def cA(s:Aa)(c:Ae):List Ab:=(Nu 60 c).map λa=>{ B:=a.B,H:=Yo s a }
def NO.aq{c}{r}(h:NO s (Nu 60 c) r):AQ r 100 (cA s c):=⟨h.len,h.pos,λpicks=>(h.iff picks).trans ⟨λk p d=>by
 obtain⟨a,b,rfl⟩:=List.mem_map.1 d;exact k a b,λk a b=>k _ (List.mem_map.2 ⟨a,b,rfl⟩)⟩⟩
def AQ.nil:AQ [] 0 []:=⟨Zam _,(λp a=>by cases a),λpicks=>Iff.rfl⟩
def ov(a:DS s){c}(h:GC s c\/c=R5){d}(hd:40<=d):Ok (CP d s c) λr=>AQ r 100 (cA s c):=by
 rcases h with h|rfl;have:=h.pneedsd a hd;rw[h.fuel hd (d':=60) z0]at this;exact this.mono λr hr=>hr.aq;obtain⟨d,rfl⟩:∃d',d=d'+1:=⟨d-1,z0⟩;exact⟨_,a.pneeds_zero d,AQ.nil.mono z0⟩
def xU(a:DS s){c}(h:GC s c\/c=R5){d}(hd:40<=d):Ok (DF d s c) λr=>AQ r 100 (cA s c):=by
 rcases h with h|rfl;have:=h.rneedsd a hd;rw[h.fuel hd (d':=60) z0]at this;exact this.mono λr hr=>hr.aq;obtain⟨d,rfl⟩:∃d',d=d'+1:=⟨d-1,z0⟩;exact⟨_,a.rneeds_zero d,AQ.nil.mono z0⟩
def Aam(e:DS s){c}(h:GC s c\/c=R5){d}(hd:40<=d){r A}{m}(hr:AQ r m A)(j:m<=800000):Ok (NE d s r c) λq=>AQ q (m+100) (A++cA s c):=by
 unfold NE;refine Ok.bind (xU e h hd) λx hx=>?_;have f:=hx.len;refine hr.raises (l:=x) z0 (λrec q a=>Ok.f (KK ⟨by have:=a.len;omega,a.pos,λpicks=>(a.iff picks).trans ?_⟩)) λrec q k b a h1 ih=>Ok.t (JT b (JT b (Ok.bind h1 λg i=>by rw[BE];exact ih g i)));rw[iG,iG,hx.iff picks]
def LV{u}{e}(h:qI u e=ν):(u.Bv=ξ->e.B=0)/\(u.B3=ξ->e.A=[])/\(u.B4=ξ->e.V=[])/\(u.Bg=ξ->e.Q=R5)/\(u.Bn=ξ->e.Y=R5):=by
 unfold qI usA at h;rw[Zax,Zax,Zft,Zft]at h;have⟨⟨h1,h2⟩,a⟩:=h;simp only[Zdl,Zax]at h1;obtain⟨⟨⟨⟨_,_⟩,c⟩,cs⟩,ds⟩:=h1;refine⟨λg=>?_,λg=>?_,λg=>?_,λg=>?_,λg=>?_⟩;rw[g]at c;exact beq_iff_eq.1 c;rw[g]at cs;exact Zau (by grind);rw[g]at ds;exact Zau (by grind);rw[g]at h2;exact bI (h2.resolve_left zs);rw[g]at a;exact bI (a.resolve_left zs)
theorem R1.cond{e}(h:R1 s e):GC s e.Q\/e.Q=R5:=by
 cases g:(F4 e.Op).1.Bg with
 | true=>exact .inl (h.2.2.1 g)
 | false=>exact .inr ((LV h.1.2).2.2.2.1 g)
theorem R1.event{e}(h:R1 s e):GC s e.Y\/e.Y=R5:=by
 cases g:(F4 e.Op).1.Bn with
 | true=>exact .inl (h.2.2.2 g)
 | false=>exact .inr ((LV h.1.2).2.2.2.2 g)
def tN{a}(h:a≠10):(F4 a).2=ν->(F4 a).1.B4=ξ:=λh2=>by
 have:=RA h2;rcases aL a with e|e|e|e|e|e|e|e|e|e|e|e|e|e|e<;>first|omega|exact absurd e h|(rw[e];rfl)
def ln{a}(h:a≠11):(F4 a).2=ν->(F4 a).1.B3=ξ:=λh2=>by
 have:=RA h2;rcases aL a with e|e|e|e|e|e|e|e|e|e|e|e|e|e|e<;>first|omega|exact absurd e h|(rw[e];rfl)
def R1.dims{e}(h:R1 s e):Ξ e.V<=3/\(∀p∈e.V,XK s p):=by
 by_cases g:e.Op=10;have:=h.2.1;unfold PT at this;rw[Zah z0,Zah z0,Zah z0,Zai g]at this;exact⟨this.1.1.2,λp a=>(this.1.2.1 p a).2⟩;rw[(LV h.1.2).2.2.1 (tN g h.1.1)];grind
def R1.columns{e}(h:R1 s e):Ξ e.A<=3/\(∀v∈e.A,MS s v):=by
 by_cases g:e.Op=11;have:=h.2.1;unfold PT at this;rw[Zah z0,Zah z0,Zah z0,Zah z0,Zai g]at this;exact⟨this.2.1.2,λp a=>(this.2.2.1 p a).1⟩;rw[(LV h.1.2).2.1 (ln g h.1.1)];grind
def lsA(s:Aa)(p:Ab):Ab:={ B:=p.B,H:=(CO s p.B p.H).getD 0 }
def oS s v:=lsA s { B:=v,H:=(Ek s v).getD 0 }
def iK s(e:Ag):=if e.Op=4\/e.Op=5\/e.Op=11\/e.Op=12\/e.Op=14\/(e.Op=10/\0<=e.B)then[oS s e.B]else if e.Op=13 then[lsA s { B:=e.B,H:=(G5 s e.B e.K).getD 0 }]else[]
def gF s e:=e.V.map (lsA s)++iK s e++e.A.map (oS s)
def MS.exact(c:DS s){v}(h:MS s v):∃f,Ek s v=θ f/\CO s v f=θ (oS s v).H/\B3 s v=θ f/\CE s v f=θ (oS s v).H/\(oS s v).B=v/\XK s (oS s v):=by
 obtain⟨i,a,b,rfl,h⟩:=h;have n:fin s i=Ξ s.A[i].L:=by rw[E8 a,Cs h]
 have g:=B6 h;obtain⟨L,e,j,k,m⟩:=gp c b a h (l:=fin s i) z0 z0
 have d:(oS s i).H=L:=by
  unfold oS lsA;rw[c.pFinest b a];show(CO s i (fin s i)).getD 0=L;rw[e];rfl
 exact⟨fin s i,c.pFinest b a,by rw[e,d],c.rfinest b a,by rw[j,d],rfl,i,b,a,rfl,by rw[d];exact k,by rw[d];exact m⟩
def XK.lsA(c:DS s){p:Ab}(h:XK s p):CO s p.B p.H=θ (lsA s p).H/\CE s p.B p.H=θ (lsA s p).H/\(lsA s p).B=p.B/\XK s (lsA s p):=by
 obtain⟨L,b,d,f,k⟩:=h.least c;have a:(P.lsA s p).H=L:=by unfold P.lsA;rw[b];rfl
 obtain⟨i,g,j,e,l,h1⟩:=h;exact⟨by rw[b,a],by rw[d,a],rfl,i,g,j,e,by rw[a];exact f,by rw[a];omega⟩
def R1.level(m:DS s){e}(h:R1 s e)(b:e.Op=13):∃l,G5 s e.B e.K=θ l/\Lf s e.B e.K=θ l/\XK s { B:=e.B,H:=l }:=by
 have:=h.2.1;unfold PT at this;rw[Zah z0,Zah z0,Zah z0,Zah z0,Zah z0,Zah z0,Zai b]at this;have⟨i,a,f,g,c,j⟩:=this;have⟨n,d,k⟩:=Zbi j;have o:fin s i=Ξ s.A[i].L:=by rw[E8 a,Cs c]
 rw[g,<-k];exact⟨_,nZ a c d,ko a c d,i,f,a,rfl,by show 0<=(Ξ s.A[i].L:Int)-n;omega,by show(Ξ s.A[i].L:Int)-n<=_;omega⟩
def R1.col{e}(h:R1 s e)(ho:e.Op=4\/e.Op=5\/e.Op=11\/e.Op=12\/e.Op=14\/(e.Op=10/\0<=e.B)):MS s e.B:=by
 have:=h.2.1;unfold PT at this;rw[Zah z0,Zah z0]at this;by_cases g:e.Op=4\/e.Op=5\/e.Op=14;rw[Zai g]at this;exact this;rw[Zah g]at this;by_cases g:e.Op=10;rw[Zai g]at this;rcases this.2 with h|h;omega;exact h;rw[Zah g]at this;by_cases g:e.Op=11;rw[Zai g]at this;exact this.1;rw[Zah g]at this;have g:e.Op=12:=z0;rw[Zai g]at this;have⟨i,a,b,c,d,_⟩:=this;exact⟨i,a,b,c,d⟩
def Ad1(p:DS s){e}(h:R1 s e):Vl s e=θ (gF s e):=by
 apply Ok.val;have hd:=h.dims;have C:=h.columns;unfold Vl;refine Wf (λq=>q.1) (Ξ e.V) (λk q=>q.2=(e.V.take k).map (lsA s)) 0 (Zag _) rfl rfl z0 (λrec q g d=>?_) λrec k q j g d ih=>?_;rw[Zaj]at d;unfold Ss;rw[g,d];refine Ok.f ?_
 have fin:∀l,Ξ l<=10->l=e.V.map (lsA s)++iK s e->Ok (BK e s l) (·=gF s e):=by
  intro l D E;unfold BK;refine Wf (λq=>q.1) (Ξ e.A) (λk q=>q.2=l++(e.A.take k).map (oS s)) 0 (Zag _) rfl zs z0 (λrec q g d=>?_) λrec k q j g d ih=>?_;rw[Zaj]at d;unfold Su;rw[g,d,E];exact Ok.f (KK rfl);have⟨f,m,y,_⟩:=(C.2 _ (Zae j)).exact p;unfold Su Es;rw[g,d];refine Ok.t (JT j (qr (Ok.val (qr m (qr y (Ok.rm ?_ (KK rfl))))) (ih _ BE ?_)));simp;omega;show _++[oS s e.A[k]]=_;rw[Zab j,Zay,Zcn];rfl
 have F:Ξ (e.V.map (lsA s))<=3:=by grind
 have a:MS s e.B->iK s e=[oS s e.B]->Ok (bif decide (e.B>0)then(Es e.B (e.V.map (lsA s)) s).bind λx47=>BK e s x47 else BK e s (e.V.map (lsA s))) (·=gF s e):=by
  intro z b;have⟨f,m,y,_⟩:=z.exact p;refine Ok.t ?_ (by have⟨i,_,_,h,_⟩:=z;omega);unfold Es;exact qr (Ok.val (qr m (qr y (Ok.rm zv (KK rfl))))) (fin _ zv (by rw[b];rfl))
 have none:iK s e=[]->Ok (BK e s (e.V.map (lsA s))) (·=gF s e):=λb=>fin _ z0 (by grind);unfold Sv;have ho:=RA h.1.1;have o:∀n,e.Op≠n->(e.Op==n)=ξ:=λn h=>beq_eq_false_iff_ne.2 h;by_cases w:e.Op=4
 rw[w];exact Vc rfl (a (h.col (.inl w)) (Zai (.inl w)));apply Ok.no (o _ w);by_cases x:e.Op=5;rw[x];exact Vc rfl (a (h.col (.inr (.inl x))) (Zai (.inr (.inl x))));apply Ok.no (o _ x);by_cases r:e.Op=10;rw[r];apply Vc rfl;by_cases z:0<=e.B;exact a (h.col z0) (Zai z0);exact Ok.f (none ((Zah z0).trans (Zah z0)));apply Ok.no (o _ r);by_cases t:e.Op=11;rw[t];exact Vc rfl (a (h.col z0) (Zai z0));apply Ok.no (o _ t);by_cases u:e.Op=12;rw[u];exact Vc rfl (a (h.col z0) (Zai z0));apply Ok.no (o _ u);by_cases v:e.Op=14;rw[v];exact Vc rfl (a (h.col z0) (Zai z0));apply Ok.no (o _ v);by_cases c:e.Op=13;have⟨l,A,_,G⟩:=h.level p c;have⟨m,_,_⟩:=G.lsA p;rw[c];refine Vc rfl (qr A (qr m (Ok.rm zv (fin _ zv ?_))));rw[show iK s e=[lsA s { B:=e.B,H:=l }]from((Zah z0).trans (Zai c)).trans (by grind)];rfl;exact Ok.no (o _ c) (none ((Zah z0).trans (Zah c)));have⟨m,_⟩:=(hd.2 _ (Zae j)).lsA p;unfold Ss;rw[g,d];refine Ok.t (JT j (qr m (Ok.rm zv (ih _ BE ?_))));rw[Zab j,Zay];rfl
def VG s e:=gF s e++cA s e.Q++cA s e.Y
def QF(s:Aa):Nat->Ag->List Ab| 0,e=>VG s e| k+1,e=>VG s e++e.D.flatMap (QF s k)
def CR(l:List Ab):=∀p∈l,0<=p.B/\p.B<=1000
def CR.app{a b}(h:CR a)(k:CR b):CR (a++b):=iG.2 ⟨h,k⟩
def XK.range(a:DS s){p}(h:XK s p):0<=p.B/\p.B<=1000:=by
 have:=a.cols_length;have⟨i,b,c,e,_⟩:=h;omega
def qY(b:DS s){c}(h:GC s c\/c=R5):CR (cA s c):=by
 have g:=b.cols_length;intro p f;obtain⟨a,d,rfl⟩:=List.mem_map.1 f;rcases h with h|rfl;have⟨i,S,e⟩:=h.at_ b 60 a d;have:=e.i1;show 0<=a.B/\a.B<=1000;rw[e.col];omega
 cases d
def qi(a:DS s){e}(h:R1 s e):CR (VG s e):=by
 unfold VG gF;refine CR.app (CR.app (CR.app (CR.app ?_ ?_) ?_) (qY a h.cond)) (qY a h.event);intro p b;obtain⟨q,c,rfl⟩:=List.mem_map.1 b;exact((h.dims.2 q c).lsA a).2.2.2.range a;unfold iK;split;intro p b;rw[List.mem_singleton.1 b];have⟨f,_,_,_,_,_,h⟩:=(h.col (by grind)).exact a;exact h.range a;split;rename_i d;have⟨l,g,_,i⟩:=h.level a d;intro p b;rw[List.mem_singleton.1 b,g];exact(i.lsA a).2.2.2.range a;intro p b;cases b;intro p b;obtain⟨q,c,rfl⟩:=List.mem_map.1 b;have⟨f,_,_,_,_,_,h⟩:=(h.columns.2 q c).exact a;exact h.range a
def rU(f:DS s){e}(h:R1 s e){d}(hd:40<=d){self}{K}(J:Ξ e.D<=2)(g:∀x∈e.D,Ok (self s x) (λr=>AQ r 1001 (K x))/\CR (K x)):Ok (M2 d self s e) λr=>AQ r 1001 (VG s e++e.D.flatMap K):=by
 have n:=qi f h;unfold M2;refine qr (Ad1 f h) (Ok.bind (ov f h.cond hd) λB h1=>Ok.bind (ov f h.event hd) λC h2=>?_)
 have c:∀{r A:List Ab}{m:Nat},AQ r m A->CR A->CR r:=λhr D p o=>by
  have⟨a,E,e⟩:=hr.cols p o;rw[e];exact D a E
 have t:Ξ (gF s e)<=1001:=by
  unfold gF iK;have:=h.dims.1;have:=h.columns.1;grind
 refine Wf (λq=>q.1) (Ξ e.D) (λi q=>Ξ q.2=3+i/\(∀l∈q.2,Ξ l<=1001/\CR l)/\∀picks,(∀l∈q.2,∀p∈l,one picks p.B p.H)↔∀p∈VG s e++(e.D.take i).flatMap K,one picks p.B p.H) 0 (Zag _) rfl ⟨rfl,λl b=>?_,λpicks=>?_⟩ z0 (λrec q u v=>?_) λrec i q w u v ih=>?_;have F:=h1.len;have G:=h2.len;rcases(by simpa using b:l=gF s e\/l=B\/l=C)with rfl|rfl|rfl;exact⟨t,λp o=>n p (Zby _ (Zby _ o))⟩;exact⟨z0,c h1 (qY f h.cond)⟩;exact⟨z0,c h2 (qY f h.event)⟩;rw[List.take_zero,Zeo,Zcq];unfold VG;rw[iG,iG,<-h1.iff picks,<-h2.iff picks];simp[Zdd,Zdc,or_false,forall_eq_or_imp,forall_eq,and_assoc];have⟨z,j,k⟩:=v;rw[Zaj]at k;unfold Ph;rw[u];refine Ok.f (Ok.bind (xc z0 (λl b=>by have:=(j l b).1;omega) λl b=>(j l b).2) λr hr=>KK ⟨hr.len,hr.pos,λpicks=>(hr.iff picks).trans (k picks)⟩);have⟨z,j,k⟩:=v;have⟨⟨r,H,y⟩,I⟩:=g _ (Zae w);unfold Ph;rw[u];refine Ok.t (JT w (qr H (Ok.rm zv (ih _ BE ⟨?_,λl b=>?_,λpicks=>?_⟩))));show(Ξ (q.2++[r]))=_;rw[Zar,z];rfl;rcases List.mem_append.1 b with b|b;exact j l b;rw[List.mem_singleton.1 b];exact⟨y.len,c y I⟩;rw[Zab w,Zcw,<-Zcn,iG,<-k picks];rw[Zcf,Zeo,Zcq,<-y.iff picks];grind
theorem RQ.te:∀{k}{e},RQ s k e->TE k e
 | 0,_,h=>h.2.2
 | k+1,e,h=>by
   cases hp:Im e.Op with
   | false=>intro x hx;rw[h.2.2 hp]at hx;cases hx
   | true=>
     have⟨a,b,c,⟨_,d⟩,_,f⟩:=h.2.1 hp;intro x hx;rw[c]at hx;rcases(by simpa using hx:x=a\/x=b)with rfl|rfl;exact d.te;exact f.te
def ru(a:DS s){v}(b:MS s v){r A}{m}(hr:AQ r m A)(c:m<=1000000):Ok (EX s r v) λq=>AQ q (m+1) (A++[oS s v]):=by
 have⟨f,_,_,d,e,h,_⟩:=b.exact a;unfold EX;refine qr d (qr e (Ok.bind (hr.raise c v _) λq g=>KK ?_));exact g
def rV(w:DS s){k}{e}(J:RQ s k e){d}(hd:44+k<=d)(L:d<=1000){self}{K}{m}(W:m<=300000)(X:Ξ e.D<=2)(B:∀x∈e.D,Ok (self s x) λr=>AQ r m (K x)):Ok (Mu d self s e) λr=>AQ r (300+2*m) (VG s e++e.D.flatMap K):=by
 have h:=J.one;have M:=h.dims;have N:=h.columns;unfold Mu;refine Ok.bind (lX w k d e J.te hd L) λb Y=>Ok.no (by grind) (Ok.bind (Aam w h.cond z0 AQ.nil z0) λr1 h1=>Ok.bind (Aam w h.event z0 h1 z0) λr2 h2=>?_);have Z:Ξ (e.V.map (lsA s))=Ξ e.V:=Zac ..
 have C:∀r A,AQ r 210 A->(∀p,p∈A↔p∈VG s e)->Ok (OL e self s r) λr=>AQ r (300+2*m) (VG s e++e.D.flatMap K):=by
  intro r A hr O;have hr:=hr.congr O;unfold OL;refine Wf (λq=>q.2) (Ξ e.D) (λi q=>AQ q.1 (210+i*m) (VG s e++(e.D.take i).flatMap K)) 0 (Zag _) rfl (by grind) z0 (λrec q a t=>?_) λrec i q y a t ih=>?_;rw[Zaj]at t;unfold OJ;rw[a];have:Ξ e.D*m<=2*m:=Zcx _ X;exact Ok.f (KK (t.mono z0));unfold OJ;rw[a];have him:i*m<=2*m:=Zcx _ z0;refine Ok.t (JT y (Ok.bind (B _ (Zae y)) λx hx=>?_));have hxl:=hx.len;refine t.raises (l:=x) z0 (λD T u=>Ok.f (ih _ BE ⟨by have:=u.len;rw[Zcu];show Ξ T<=_;omega,u.pos,λpicks=>(u.iff picks).trans ?_⟩)) λD T j P u h1 ih2=>Ok.t (JT P (JT P (Ok.bind h1 λQ R=>by rw[BE];exact ih2 Q R)));rw[iG,hx.iff picks,Zab y,Zcw,<-Zcn,iG];grind
 have cols:∀r A,AQ r 205 A->(∀p,p∈A++e.A.map (oS s)↔p∈VG s e)->Ok (Ck e s self r) λr=>AQ r (300+2*m) (VG s e++e.D.flatMap K):=by
  intro r A hr O;unfold Ck;refine Wf (λq=>q.2) (Ξ e.A) (λi q=>AQ q.1 (205+i) (A++(e.A.take i).map (oS s))) 0 (Zag _) rfl (by grind) z0 (λrec q a t=>?_) λrec i q y a t ih=>?_;rw[Zaj]at t;unfold OI;rw[a];exact Ok.f (C _ _ (t.mono z0) O);unfold OI;rw[a];refine Ok.t (JT y (Ok.bind (ru w (N.2 _ (Zae y)) t z0) λx hx=>ih _ BE ?_));rw[Zab y,Zay,<-Zcn];exact hx
 refine h2.raises (l:=e.V.map (lsA s)) z0 (λrec q a=>?_) λrec q j P a h1 ih=>?_;unfold OH;rw[Z];refine Ok.f ?_
 have g:∀c:List Ab,iK s e=c->∀p,p∈((([]++cA s e.Q)++cA s e.Y)++e.V.map (lsA s))++c++e.A.map (oS s)↔p∈VG s e:=λc E p=>by
  unfold VG gF;grind
 have a:AQ q 203 ((([]++cA s e.Q)++cA s e.Y)++e.V.map (lsA s)):=a.mono z0;have f:MS s e.B->iK s e=[oS s e.B]->Ok ((EX s q e.B).bind λx=>Ck e s self x) λr=>AQ r (300+2*m) (VG s e++e.D.flatMap K):=λhM E=>Ok.bind (ru w hM a z0) λx hx=>cols _ _ (hx.mono z0) (g _ E);have none:iK s e=[]->Ok (Ck e s self q) λr=>AQ r (300+2*m) (VG s e++e.D.flatMap K):=λE=>cols _ _ (a.mono z0) λp=>by have:=g _ E p;rwa [Zcq]at this
 unfold OK;have z:∀n,e.Op≠n->(e.Op==n)=ξ:=λn h=>beq_eq_false_iff_ne.2 h;by_cases U:e.Op=4;rw[U];exact Vc rfl (f (h.col z0) (Zai z0));apply Ok.no (z _ U);by_cases V:e.Op=5;rw[V];exact Vc rfl (f (h.col z0) (Zai z0));apply Ok.no (z _ V);by_cases F:e.Op=11;rw[F];exact Vc rfl (f (h.col z0) (Zai z0));apply Ok.no (z _ F);by_cases G:e.Op=12;rw[G];exact Vc rfl (f (h.col z0) (Zai z0));apply Ok.no (z _ G);by_cases H:e.Op=14;rw[H];exact Vc rfl (f (h.col z0) (Zai z0));apply Ok.no (z _ H);by_cases I:e.Op=10;rw[I];apply Vc rfl;by_cases W:0<=e.B;exact Ok.t (f (h.col z0) (Zai z0));exact Ok.f (none ((Zah z0).trans (Zah z0)));apply Ok.no (z _ I);by_cases o:e.Op=13;have⟨l,l1,l3,l2⟩:=h.level w o;have⟨_,S,_⟩:=l2.lsA w;rw[o];refine Vc rfl (qr l3 (qr S (Ok.bind (a.raise z0 e.B _) λx hx=>cols _ _ (hx.mono z0) (g _ ?_))));exact((Zah z0).trans (Zai o)).trans (by rw[l1];rfl);exact Ok.no (z _ o) (none ((Zah z0).trans (Zah o)));unfold OH;have v:j<Ξ e.V:=z0;have⟨_,S,_⟩:=(M.2 _ (Zae v)).lsA w;rw[Zbu]at h1;refine Ok.t (JT v (JT v (JT v (qr S (Ok.bind h1 λQ R=>by rw[BE];exact ih Q R)))))
theorem RQ.kids2{k}{e}(h:RQ s k e):Ξ e.D<=2:=by
 cases hp:Im e.Op with
 | false=>rw[h.no hp];simp
 | true=>rw[h.two hp];grind
theorem RQ.kid{k}{e x}(h:RQ s (k+1) e)(hx:x∈e.D):RQ s k x:=by
 cases hp:Im e.Op with
 | false=>rw[h.no hp]at hx;cases hx
 | true=>
   have⟨a,b,c,⟨_,d⟩,_,f⟩:=h.2.1 hp;grind
def RQ.nil0{e}(h:RQ s 0 e):e.D=[]:=h.2.2
theorem vK(a:DS s):∀{k}{e},RQ s k e->CR (QF s k e)
 | 0,e,h=>qi a h.one
 | k+1,e,h=>(qi a h.one).app λp b=>by
   have⟨x,hx,b⟩:=List.mem_flatMap.1 b;exact vK a (h.kid hx) p b
theorem gA(a:DS s):∀k d{e},RQ s k e->41+k<=d->Ok (IX d s e) λr=>AQ r 1001 (QF s k e)
 | k,0,e,h,hd=>by omega
 | 0,d+1,e,h,hd=>by
   have:=rU a h.one (d:=d) z0 (self:=IX d) (K:=λ_=>[]) h.kids2 (by rw[h.nil0];intro x hx;cases hx);rw[h.nil0,Zeo,Zcq]at this;exact this
 | k+1,d+1,e,h,hd=>rU a h.one (d:=d) z0 (self:=IX d) (K:=QF s k) h.kids2 λx hx=>⟨gA a k d (h.kid hx) z0,vK a (h.kid hx)⟩
def bd:Nat->Nat| 0=>300| k+1=>300+2*bd k
theorem aE(b:DS s):∀k d{e},RQ s k e->k<=9->45+k<=d->d<=1000->Ok (G0 d s e) λr=>AQ r (bd k) (QF s k e)
 | k,0,e,h,_,hd,_=>by omega
 | 0,d+1,e,h,_,hd,hd2=>by
   have:=rV b h (d:=d) z0 z0 (self:=G0 d) (K:=λ_=>[]) (m:=0) z0 h.kids2 (by rw[h.nil0];intro x hx;cases hx);rw[h.nil0,Zeo,Zcq]at this;exact this
 | k+1,d+1,e,h,hk,hd,hd2=>by
   have c:bd k<=300000:=by
    have:=z0;have a:∀j:Fin 9,bd j<=300000:=j0;exact a ⟨k,z0⟩
   exact rV b h (d:=d) z0 z0 (self:=G0 d) (K:=QF s k) (m:=bd k) c h.kids2 λx hx=>aE b k d (h.kid hx) z0 z0 z0
def TZ(bs:List Ar)(nm:ByteArray):Nat->Option Ar
 | 0=>none
 | n+1=>match bs[n]? with
   | some b=>if b.J.toList=nm.toList then θ b else TZ bs nm n
   | none=>none
def SZ{bs}{nm}{n}h:TZ bs nm (n+1)=if bs[n].J.toList=nm.toList then θ bs[n]else TZ bs nm n:=by
 rw[TZ,Zaa h]
def bH{ρ}{bs}{nm}{a}{A:Option ρ}{B}(he:∀rec,a rec (-1)=A)(b:∀rec (i:Nat) (f:i<Ξ bs),a rec (i:Int)=bif bs[i].J.toList==nm.toList then B bs[i]else rec (i64.wrap ((i:Int)-1)))(g:Ξ bs<=1000):
 P.iter a Ay (i64.wrap (Ξ bs-1))=(TZ bs nm (Ξ bs)).elim A B:=by
 have key:∀n N,n<=Ξ bs->n<N->P.iter a N (n-1)=(TZ bs nm n).elim A B:=by
  intro n
  induction n with
  | zero=>intro N _ h;obtain⟨N,rfl⟩:∃M,N=M+1:=⟨N-1,z0⟩;exact he _
  | succ n ih=>
    intro N h1 h2;obtain⟨N,rfl⟩:∃M,N=M+1:=⟨N-1,z0⟩;have c:((n+1:Nat):Int)-1=n:=z0;have d:i64.wrap ((n:Int)-1)=n-1:=wr;rw[c,Fs,b _ n z0,d,ih N z0 z0];rw[SZ z0];grind
 rw[show i64.wrap ((Ξ bs:Int)-1)=(Ξ bs:Int)-1 from wr];exact key (Ξ bs) Ay (Zam _) (by unfold Ay;omega)
def TX bs nm:=TZ bs nm (Ξ bs)
def KD(bs:List Ar):Nat->Ag->Int->Prop| 0,e,t=>if e.Op=2 then ∃b,TX bs e.J=θ b/\b.Ai.Kind=t else t=if e.Op<10 then 1 else e.Op-8| k+1,e,t=>if e.Op=2 then ∃b,TX bs e.J=θ b/\b.Ai.Kind=t else t=(if e.Op<10 then 1 else e.Op-8)/\∀x∈e.D,KD bs k x 1
theorem KD.mk{bs}{k}{e}{t}(h2:e.Op≠2)(b:e.D=[])(a:t=if e.Op<10 then 1 else e.Op-8):KD bs k e t:=by
 cases k with
 | zero=>unfold KD;grind
 | succ k=>unfold KD;grind
theorem KD.name{bs}{k}{e}{b}(h2:e.Op=2)(h:TX bs e.J=θ b):KD bs k e b.Ai.Kind:=by
 cases k with
 | _=>unfold KD;grind
theorem KD.of_name{bs}{k}{e}{t}(h:KD bs k e t)(h2:e.Op=2):∃b,TX bs e.J=θ b/\b.Ai.Kind=t:=by
 cases k with
 | _=>unfold KD at h;grind
theorem jQ{bs}(w:Ξ bs<=1000){k}{e}(h:RQ s k e)(j:e.D=[])d:Sm (J3 (d+1) bs e) (Js (d+1) bs e) λr=>(r.2=0->KD bs k e r.1)/\∀t,KD bs k e t->r.2=0:=by
 show Sm (Gr d (J3 d) bs e) (Gq d (Js d) bs e) _;have ho:=RA h.one.1.1
 have o:Gr d (J3 d) bs e=Kh e bs ν:=by
  unfold Gr;rw[show Ay=(Ay-1)+1 by decide,Fs];grind
 have p:Gq d (Js d) bs e=Ih e bs 1:=by
  unfold Gq;rw[show Ay=(Ay-1)+1 by decide,Fs];grind
 rw[o,p];unfold Kh Ih;rw[j];refine WD (Ok.no rfl (WD ?_));by_cases c:e.Op=2;rw[beq_iff_eq.2 c];rw[Zav];unfold VR
 rw[bH (bs:=bs) (nm:=e.J) (A:=θ (0,24)) (B:=λb=>θ (b.Ai.Kind,0)) (λrec=>by unfold QC;rfl) (λrec i m=>by
  unfold QC;rw[Zak (by grind),AY m];rfl) w]
 have x:∀G:Int->Option (Int×Int),(G (-1)=θ (0,24))->(∀(i:Nat)m,G i=θ (bs[i].Ai.Kind,0))->(iter (λa s=>Mw bs e.J (λl=>θ (-1)) a s) Ay (i64.wrap (Ξ bs-1))).bind G=(TZ bs e.J (Ξ bs)).elim (θ (0,24)) (λb=>θ (b.Ai.Kind,0)):=by
  intro G h1 h2
  have y:∀n N,n<=Ξ bs->n<N->(P.iter (λa s=>Mw bs e.J (λl=>θ (-1)) a s) N (n-1)).bind G=(TZ bs e.J n).elim (θ (0,24)) (λb=>θ (b.Ai.Kind,0)):=by
   intro n
   induction n with
   | zero=>intro N _ h;obtain⟨N,rfl⟩:∃M,N=M+1:=⟨N-1,z0⟩;exact h1
   | succ n ih=>
     intro N C D;obtain⟨N,rfl⟩:∃M,N=M+1:=⟨N-1,z0⟩;have o:(n+1:Nat)-1=(n:Int):=z0;have p:i64.wrap (n-1)=(n:Int)-1:=wr;rw[o,Fs];unfold Mw;rw[Zak (by grind),Zav,AY (by grind),Zad,p];rw[SZ z0];grind
  rw[show i64.wrap ((Ξ bs:Int)-1)=Ξ bs-1 from wr];exact y (Ξ bs) Ay (Zam _) (by unfold Ay;omega)
 rw[x (λx59=>bif(decide (x59<0))then θ (0,24)else(idx bs x59).bind λq=>θ (q.Ai.Kind,0)) rfl λi m=>by
  show(bif decide (i<0)then _ else _)=_;rw[Zap z0,Zaq,AY m];rfl]
 cases e3:TZ bs e.J (Ξ bs) with
 | none=>exact Sm.ret ⟨λh=>by(cases h),λt z=>by
  have⟨b,u,_⟩:=z.of_name c;unfold TX at u;rw[e3]at u;cases u⟩
 | some b=>exact Sm.ret ⟨λ_=>KD.name c e3,λ_ _=>rfl⟩
 have f:∀n,e.Op≠n->(e.Op==n)=ξ:=λn h=>beq_eq_false_iff_ne.2 h;rw[f _ c];rw[Zaq,Zfy];rw[kf h.one.1.1,Zad];by_cases g:e.Op<10;rw[Zak g,f 10 z0,f 11 z0,f 12 z0,f 13 z0,f 14 z0];exact Sm.ret ⟨λ_=>KD.mk c j (by grind),λ_ _=>rfl⟩;have v:KD bs k e (e.Op-8):=KD.mk c j (by grind);rw[Zap g,Zaq];rcases(by omega:e.Op=10\/e.Op=11\/e.Op=12\/e.Op=13\/e.Op=14)with h|h|h|h|h<;>rw[h]at v ⊢<;>exact Sm.ret ⟨λ_=>v,λ_ _=>rfl⟩
def qa{bs}{e a b}{self}{x y}(c:e.D=[a,b])(f:self bs a=θ x)(g:self bs b=θ y)d:
 Gr d self bs e=bif x.2 != 0 then θ (0,x.2)else bif y.2 != 0 then θ (0,y.2)else Kh e bs (bif(x.1==1)then(y.1==1)else ξ):=by
 unfold Gr;rw[show Ay=(Ay-3)+1+1+1 by decide,Fs];unfold QB;rw[c];show(self bs a).bind _=_;rw[f,Zad];apply congrArg (λz=>bif x.2 != 0 then _ else z);rw[Fs];show(self bs b).bind _=_;rw[g,Zad];rfl
def qb{bs}{e a b}{self}{x y}(c:e.D=[a,b])(f:self bs a=θ x)(g:self bs b=θ y)d:
 Gq d self bs e=bif x.2 != 0 then θ (0,x.2)else bif y.2 != 0 then θ (0,y.2)else bif y.1 != 1 then θ (0,16)else Ih e bs x.1:=by
 unfold Gq;rw[show Ay=(Ay-3)+1+1+1 by decide,Fs];unfold Ql;rw[c];show(self bs a).bind _=_;rw[f,Zad];apply congrArg (λz=>bif x.2 != 0 then _ else z);rw[Fs];show(bif(bif x.1 != 1 then ξ else ξ)then _ else(self bs b).bind _)=_;rw[g,Zad];have:(bif x.1 != 1 then ξ else ξ)=ξ:=by grind
 rw[this,Zaq];apply congrArg (λz=>bif y.2 != 0 then _ else z);show(bif(bif y.1 != 1 then ν else ξ)then θ (0,16)else Ih e bs x.1)=_
 grind
theorem KD.one:∀{k}{bs}{e}{t u},KD bs k e t->KD bs k e u->t=u
 | 0,bs,e,t,u,h1,h2=>by
   unfold KD at h1 h2;grind
 | k+1,bs,e,t,u,h1,h2=>by
   unfold KD at h1 h2;grind
theorem an{bs}(o:Ξ bs<=1000):∀k d{e},RQ s k e->k<d->Sm (J3 d bs e) (Js d bs e) λr=>(r.2=0->KD bs k e r.1)/\∀t,KD bs k e t->r.2=0
 | k,0,e,h,hd=>by omega
 | 0,d+1,e,h,hd=>jQ o h h.nil0 d
 | k+1,d+1,e,h,hd=>by
   cases hp:Im e.Op with
   | false=>exact jQ o h (h.no hp) d
   | true=>
     have⟨a,b,g,⟨_,w⟩,_,A⟩:=h.2.1 hp;have⟨x,B,C,p,q⟩:=(an o k d w z0).ex;have⟨y,D,E,u,v⟩:=(an o k d A z0).ex;show Sm (Gr d (J3 d) bs e) (Gq d (Js d) bs e) _;rw[qa g B D,qb g C E];have ho:=rI hp
     have c:∀t,KD bs (k+1) e t->KD bs k a 1/\KD bs k b 1:=λt f=>by
      unfold KD at f;grind
     refine Sm.br (λh=>Sm.ret ⟨λi=>?_,λt f=>?_⟩) λh1=>Sm.br (λh=>Sm.ret ⟨λi=>?_,λt f=>?_⟩) λh2=>?_;have i:=i;rw[i]at h;cases h;exact q _ (c t f).1;have i:=i;rw[i]at h;cases h;exact v _ (c t f).2;unfold Kh Ih;have F:(e.Op==2)=ξ:=beq_eq_false_iff_ne.2 z0;have m:∀n,e.Op≠n->(e.Op==n)=ξ:=λn h=>beq_eq_false_iff_ne.2 h;rw[F,kf h.one.1.1,Zak (by grind),m 10 z0,m 11 z0,m 12 z0,m 13 z0,m 14 z0,g];simp[Zaq,Zad,Zav,bne];have H:(Ξ [a,b])==2:=rfl;by_cases l:x.1=1;by_cases j:y.1=1;rw[beq_iff_eq.2 l,beq_iff_eq.2 j];refine Sm.ret ⟨λ_=>?_,λ_ _=>rfl⟩;unfold KD;rw[Zah z0,Zai z0,g];refine⟨rfl,λz G=>?_⟩;rcases(by simpa using G:z=a\/z=b)with rfl|rfl;rw[<-l];exact p (by grind);rw[<-j];exact u (by grind);rw[beq_iff_eq.2 l,beq_eq_false_iff_ne.2 j];exact Sm.ret ⟨λh=>by(cases h),λt f=>absurd ((u (v _ (c t f).2)).one (c t f).2) j⟩;rw[beq_eq_false_iff_ne.2 l];by_cases j:y.1=1;rw[beq_iff_eq.2 j];exact Sm.ret ⟨λh=>by(cases h),λt f=>absurd ((p (q _ (c t f).1)).one (c t f).1) l⟩;rw[beq_eq_false_iff_ne.2 j];exact Sm.ret ⟨λh=>by(cases h),λt f=>absurd ((p (q _ (c t f).1)).one (c t f).1) l⟩
def wB(f:DS s){picks}(a:Ξ picks<=1000000){bs}(l:Ξ bs<=1000){e}(h:RQ s 9 e){d}(hd:70<=d)(c:d<=1000):Sm (TA d s picks bs e) (Ld d s picks bs e) λr=>(r.2=0->(∀p∈QF s 9 e,one picks p.B p.H)/\KD bs 9 e r.1):=by
 have⟨b,m,n,o⟩:=Yg f h.te (d:=d) z0 c;have q:=o.2 h;subst q;unfold TA Ld;refine Sm.bind (Sm.of m n (P:=λx=>x=ν) rfl) λx hx=>?_;subst hx;refine Sm.bind (kj f a) λA _=>Sm.br (λ_=>Sm.ret λh=>by cases h) λ_=>?_;have⟨g,t,p2⟩:=gA f 9 d h z0;have⟨j,u,k⟩:=aE f 9 d h z0 z0 c;have v:bd 9<=1000000:=j0;have w:=fw (p2.covers picks) (k.covers picks);have B:=p2.len;have C:=k.len;rw[t,u,Zad,Zad];refine Sm.bind (Sm.of (lQ picks g a z0) ((eR picks j a z0).trans (by rw[<-w])) (P:=λx=>x=covers picks g) rfl) λx hx=>Sm.br (λ_=>Sm.ret λh=>by cases h) λi=>?_;have i:x=ν:=by grind
 rw[i]at hx;have y:=(p2.covers picks).1 hx.symm;exact Sm.bind (an l 9 d h z0) λr hr=>Sm.ret λz=>⟨y,hr.1 z⟩
def Abv(g:DS s){picks}(c:Ξ picks<=1000000)(f:DC s picks=θ 0){bs}(l:Ξ bs<=1000){e}(h:RQ s 9 e){d}(hd:70<=d)(a:d<=1000)(m:∀p∈QF s 9 e,one picks p.B p.H){t}(i:KD bs 9 e t):Ld d s picks bs e=θ (t,0):=by
 have⟨b,B,n,o⟩:=Yg g h.te (d:=d) z0 a;have q:=o.2 h;subst q;have⟨u,v,j⟩:=aE g 9 d h z0 z0 a;have w:bd 9<=1000000:=j0;have C:=j.len;have⟨r,_,x,y,z⟩:=(an l 9 d h z0).ex;have k:=z t i;have A:=(y k).one i;apply Ok.val;unfold Ld;exact qr n (Ok.no rfl (qr f (Ok.no rfl (qr v (qr (eR picks u c z0) (Ok.no (by rw[(j.covers picks).2 m];rfl) (qr x (KK (by rw[A,k])))))))))
def Rn(bs:List Ar):=bs.map λb=>(b.J,b.Ai.Kind)
def mL{bs cs}(h:Rn bs=Rn cs):Ξ bs=Ξ cs:=by
 have:=congrArg List.length h;unfold Rn at this;grind
def yM{bs cs}(h:Rn bs=Rn cs){i}a(b:i<Ξ cs):bs[i].J=cs[i].J/\bs[i].Ai.Kind=cs[i].Ai.Kind:=by
 have h1:(Rn bs)[i]?=(Rn cs)[i]?:=by rw[h]
 unfold Rn at h1;grind
theorem zg{bs cs}(h:Rn bs=Rn cs)nm:∀n,n<=Ξ bs->(TZ bs nm n).map (λb=>b.Ai.Kind)=(TZ cs nm n).map (λb=>b.Ai.Kind):=by
 intro n;have a:=mL h
 induction n with
 | zero=>intro _;rfl
 | succ n ih=>
   intro c;rw[SZ z0,SZ z0];have⟨h1,h2⟩:=yM h (i:=n) z0 z0;grind
theorem KD.cong{bs cs}(h:Rn bs=Rn cs):∀{k}{e}{t},KD bs k e t->KD cs k e t
 | k,e,t,a=>by
   have nm:∀nm t,(∃b,TX bs nm=θ b/\b.Ai.Kind=t)->∃b,TX cs nm=θ b/\b.Ai.Kind=t:=by
    intro nm t ⟨b,h1,h2⟩;have:=zg h nm (Ξ bs) (Zam _);unfold TX at h1 ⊢;rw[<-mL h];rw[h1]at this
    cases e:TZ cs nm (Ξ bs) with
    | none=>grind
    | some c=>grind
   cases k with
   | zero=>
     unfold KD at a ⊢;split at a;rename_i g;rw[Zai g];exact nm _ _ a;grind
   | succ k=>
     unfold KD at a ⊢;split at a;rename_i g;rw[Zai g];exact nm _ _ a;rename_i g;rw[Zah g];exact⟨a.1,λx hx=>KD.cong h (a.2 x hx)⟩
structure TY(s:Aa)(picks:List Ab)(p:List Az)(n:Nat)(g:List (ByteArray×Int)):Prop where
 len:Ξ g=n
 all:∀(j:Nat)(hj:j<Ξ p)(hg:j<Ξ g),g[j].1=p[j].J/\(∀a∈QF s 9 p[j].At,one picks a.B a.H)/\∀bs,Rn bs=g.take j->KD bs 9 p[j].At g[j].2
def TY.snoc{picks}{p}{n}{bs}r(h:TY s picks p n (Rn bs)){t}{b}(f:b.J=p[n].J/\b.Ai.Kind=t)(k:∀a∈QF s 9 p[n].At,one picks a.B a.H)(l:KD bs 9 p[n].At t):TY s picks p (n+1) (Rn (bs++[b])):=by
 have e:Rn (bs++[b])=Rn bs++[(p[n].J,t)]:=by
  unfold Rn;grind
 have g:=h.len;rw[e];refine⟨by rw[Zar,g];rfl,λj m d=>?_⟩;by_cases q:j=n;subst q
 have o:(Rn bs++[(p[j].J,t)])[j]'d=(p[j].J,t):=by grind
 rw[o];refine⟨rfl,k,λcs i=>?_⟩;rw[Zfm z0,Zbe z0]at i;exact l.cong i.symm;rw[Zar]at d;have c:j<Ξ (Rn bs):=by grind
 have:=h.all j m c;grind
def uZ(o:DS s){picks}(f:Ξ picks<=1000000)p{d}(hd:70<=d)(b:d<=1000):Sm (Il d s picks p) (Mv d s picks p) λr=>r.2.2=0->∃g,TY s picks p (Ξ p) g:=by
 unfold Il Mv;refine Sm.bind (ox o p hd b) λr hr=>Sm.br (λh=>Sm.ret λa=>?_) λh=>?_;have a:=a;rw[a]at h;cases h;have⟨A,i⟩:=hr (by grind);refine Ok.two (Ξ p) (λk u v=>u=v/\u.1=k/\Ξ u.2.1=k/\Ξ u.2.2=k/\TY s picks p k (Rn u.2.2)) ⟨rfl,rfl,rfl,rfl,rfl,λ_ _ h=>by cases h⟩ (λq t u v ⟨e,j,_,_,l⟩=>?_) λq t k u v c ⟨e,j,w,y,l⟩ ih=>?_;subst e;unfold LU LF;rw[j];exact Ok.f (Sm.r (Ok.f (KK (KK ⟨rfl,λ_=>⟨_,l⟩⟩))));subst e;unfold LU LF;rw[j];refine Ok.t (Sm.r (Ok.t (WD (JT c (WD (JT c (WD ?_)))))));have m:=i k c;refine Sm.bind (wB o f z0 m.expr hd b) λx hx=>Sm.br (λh=>Sm.ret λa=>?_) λh=>?_;have a:=a;rw[a]at h;cases h;have⟨z,n⟩:=hx (by grind);refine Ok.rm zv (Ok.rm zv (WD (Ok.rm zv (JT c (Ok.rm zv (WD (ih _ _ ⟨rfl,BE,?_,?_,?_⟩)))))));show(Ξ (u.2.1++_))=_;rw[Zar,w];rfl;show(Ξ (u.2.2++_))=_;rw[Zar,y];rfl;exact l.snoc c ⟨rfl,rfl⟩ z n
end
section
variable {s:Aa} {x:Ad}
def UU s x(cols:List Int)j:=cols.all λc=>ao s x c.toNat (fin s c.toNat) j
def MS.nat{c}(h:MS s c):c=(c.toNat:Nat)/\1<=c.toNat/\∃a:c.toNat<Ξ s.A,Do s.A[c.toNat]:=by
 obtain⟨i,a,b,rfl,h⟩:=h;grind
def MS.kv(f:DS s)(hx:GX s x){c:Int}(h:MS s c){j:Nat}(g:j<Ξ x.G):Bg s x j c (fin s c.toNat)=θ (KV s x c.toNat (fin s c.toNat) j)/\Cz s x j c (fin s c.toNat)=θ (KV s x c.toNat (fin s c.toNat) j)/\(((KV s x c.toNat (fin s c.toNat) j).1=B0/\(KV s x c.toNat (fin s c.toNat) j).2=ν)\/(-1000<=(KV s x c.toNat (fin s c.toNat) j).1/\(KV s x c.toNat (fin s c.toNat) j).1<=1000)):=by
 obtain⟨e,i,d,a⟩:=h.nat;have l:fin s c.toNat=Ξ s.A[c.toNat].L:=by rw[E8 d,Cs a]
 have k:=B6 a;have:=gk f hx i d a (b:=fin s c.toNat) z0 z0 g;rw[<-e]at this;exact this
def MS.fin(a:DS s){c}(h:MS s c):Ek s c=θ (P.fin s c.toNat)/\B3 s c=θ (P.fin s c.toNat):=by
 have⟨e,b,d,f⟩:=h.nat;have h1:=a.pFinest b d;have h2:=a.rfinest b d;grind
def GC.cover{c}(h:GC s c)(b:∀p∈cA s c,one x.I p.B p.H){d}(hd:40<=d):∀a∈Nu d c,one x.I a.B (Yo s a):=λa e=>by
 rw[h.fuel hd (d':=60) z0]at e;exact b _ (List.mem_map.2 ⟨a,e,rfl⟩)
def ep d s x c cols:=(bP (EB d s c x) (Ξ x.G)).filter (UU s x cols)
def aV(f:DS s)(hx:GX s x){c}(h:GC s c)(e:∀p∈cA s c,one x.I p.B p.H){d}(hd:40<=d){cols}(m:∀v∈cols,MS s v)(o:Ξ cols<=10):Ep d s x c cols=θ (ints (ep d s x c cols)):=by
 have i:=h.cover e hd;have⟨n,hr,q,t⟩:=h;have y:=hx.len;have u:=Nl (EB d s c x) (Ξ x.G);apply Ok.val;unfold Ep;refine qr (hx.check f) (Ok.no rfl (qr (XU f hx hr z0 ⟨q,t⟩ i) (qr (yU (λz=>!UU s x cols z.toNat) (λz g=>?_) (by rw[AE];omega)) (KK ?_))));obtain⟨j,w,rfl⟩:=List.mem_map.1 g;have k:=aa j w;unfold Jz
 have l:∀z∈cols,Fj z s x j=θ (!ao s x z.toNat (fin s z.toNat) j):=by
  intro z g;have⟨h1,_⟩:=(m z g).kv f hx k;apply Ok.val;unfold Fj;refine qr ((m z g).fin f).1 (qr h1 (KK ?_));unfold ao;grind
 rw[bF _ l z0,Zaw];unfold UU;rw[Zgu,Bool.not_not];rfl;rw[nK];congr 1;refine Zgd λj _=>?_;simp
theorem Uj(j:DS s)(hx:GX s x){c}(h:GC s c)(l:∀p∈cA s c,one x.I p.B p.H){d}(hd:40<=d){cols}(H:∀v∈cols,MS s v)(I:Ξ cols<=10):Dl d s x c cols=θ (ints (ep d s x c cols)):=by
 have o:=h.cover l hd;have⟨n,C,J,K⟩:=h;have Q:=hx.len;apply Ok.val;unfold Dl ep;refine qr (hx.rcheck j) (Ok.no rfl ?_);refine Wf (λq=>q.1) (Ξ x.G) (λm q=>q.2=ints ((bP (EB d s c x) m).filter (UU s x cols))) 0 (Zag _) rfl rfl z0 (λrec q y A=>?_) λrec m q w y A ih=>?_;rw[Hk,y,A];rw[Bl];exact KK rfl;rw[Hk,y,A];rw[AK];have hr:=Zae w;have L:=(hx.rows _ hr).1;have⟨t,h1,h2,_⟩:=Us j hx hr C z0 o;have M:=Nl (EB d s c x) m;have D:=Zce (UU s x cols) (bP (EB d s c x) m)
 have N:EB d s c x m=(t==1):=by
  unfold EB;grind
 have a:(bP (EB d s c x) (m+1)).filter (UU s x cols)=bif(bif(t==1)then UU s x cols m else ξ)then(bP (EB d s c x) m).filter (UU s x cols)++[m]else(bP (EB d s c x) m).filter (UU s x cols):=by
  rw[WG,N]
  grind
 refine JT w (dg z0 ?_);rw[yR];apply qr (WZ j hx hr C z0 ⟨J,K⟩ o h2)
 have r:∀b z,b=(bif(t==1)then UU s x cols m else ξ)->Ok (MO (ints ((bP (EB d s c x) m).filter (UU s x cols))) m rec b z) (·=ints ((bP (EB d s c x) (Ξ x.G)).filter (UU s x cols))):=by
  intro b z e;unfold MO;refine Ok.br (λf=>Ok.rm (by rw[AE];simp;omega) (ih _ BE ?_)) λf=>ih _ BE ?_;rw[a,<-e,f];exact(S3 _ _).symm;grind
 refine Ok.loop (λq=>∃k:Nat,q.2=k/\k<=Ξ cols/\q.1=(bif(t==1)then UU s x (cols.take k) m else ξ)) (λq=>Ξ cols-q.2.toNat) ⟨0,rfl,Zag _,by cases(t==1)<;>rfl⟩ (by unfold Ay;omega) λE O ⟨k,F,R,f⟩ ih2=>?_;rw[MN,F];have u:UU s x cols m=ν->UU s x (cols.take k) m=ν:=λh=>List.all_eq_true.2 λv P=>List.all_eq_true.1 h v (Zbo P);by_cases g:k<Ξ cols;rw[dt (by grind),Zav];refine Ok.br (λi=>?_) λi=>r _ _ ?_;have G:=H _ (Zae g);have⟨_,B,_⟩:=G.kv j hx w;refine JT g (JT g (qr (G.fin j).2 (qr B (ih2 _ ⟨k+1,BE,g,?_⟩ ?_))));show ao s x _ _ m=_;rw[i]at f;unfold UU;rw[Zab g,Zfw]
 cases ht:(t==1)with
 | false=>grind
 | true=>
   rw[ht]at f;have:(cols.take k).all (λc=>ao s x c.toNat (fin s c.toNat) m)=ν:=f.symm;grind
 show Ξ cols-(i64.wrap (k+1)).toNat<Ξ cols-O.2.toNat;rw[F,BE];omega;rw[f]at i ⊢
 cases ht:(t==1)with
 | false=>rfl
 | true =>grind
 rw[df (by grind),Zaq];refine Ok.no rfl (r _ _ ?_);grind
def Ur{d}{c}{cols}{j}(h:j∈ep d s x c cols):j<Ξ x.G/\∀v∈cols,ao s x v.toNat (fin s v.toNat) j=ν:=by
 have⟨h1,h2⟩:=List.mem_filter.1 h;exact⟨(lp h1).1,List.all_eq_true.1 h2⟩
def Uq(hx:GX s x)d c cols:Ξ (ep d s x c cols)<=200:=by
 have h1:=Zce (UU s x cols) (bP (EB d s c x) (Ξ x.G));have h2:=Nl (EB d s c x) (Ξ x.G);have:=hx.len;unfold ep;omega
def yi d c cols:(ep d s x c cols).Pairwise (·<·):=((List.pairwise_lt_range (n:=Ξ x.G)).filter _).filter _
end
end
