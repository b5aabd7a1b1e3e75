/- QE -/
import Derived.Test.YthifolbledpmkaaGreatDoorQD
open Option renaming some → θ
open Bool renaming true → ν, false → ξ
open List renaming length → Ξ
open Go.IntKind (i64)
set_option linter.all false
open Bool renaming true → ν
open Go.IntKind (i8 i64 u64)
namespace Go.Proofs.YthifolbledpmkaaGreatDoor.P
open Go Go.Abs Go.Proofs
set_option maxRecDepth 100000
variable {s:Aa} {x:Ad}
theorem bW{α:Type}[DecidableEq α]:∀(m l:List α),l.Nodup->(∀v∈l,v∈m)->Ξ l<=Ξ m
 | [],l,_,h=>by
   cases l with
   | nil=>simp
   | cons a t=>exact absurd (h a zs) zs
 | b::m,l,hd,h=>by
   by_cases e:b∈l
   have h1:=bW m (l.erase b) (hd.erase _) λv c=>by
    grind
   rw[List.length_erase_of_mem e]at h1;have:=List.length_pos_of_mem e;rw[Zbq];omega;have h1:=bW m l hd λv c=>(List.mem_cons.1 (h v c)).resolve_left λd=>e (d▸c);rw[Zbq];omega
def LN(x:Ad)(L:List Int):=L.Pairwise (·<·)/\∀v∈L,v∈x.G.map hd
def LN.len(hx:GX s x){L}(h:LN x L):Ξ L<=200:=by
 have:=bW (x.G.map hd) L (h.1.imp λh=>z0) h.2;rw[Zac]at this;have:=hx.len;omega
def LN.nil:LN x []:=⟨List.Pairwise.nil,λv h=>by cases h⟩
def WQ(x:Ad)(l:List Nat):=l.map λj=>hd (x.G.getD j [])
def rJ(hx:GX s x){l}(d:l.Pairwise (·<·))(c:∀j∈l,j<Ξ x.G):LN x (WQ x l):=by
 refine⟨?_,λv e=>?_⟩;unfold WQ;rw[List.pairwise_map];refine d.imp_of_mem λ{a b} ha hb hab=>?_;have h1:=c a ha;have h2:=c b hb;rw[BQ h1,BQ h2];exact List.pairwise_iff_getElem.1 hx.asc a b h1 h2 hab;obtain⟨j,f,rfl⟩:=List.mem_map.1 e;grind
def ak(hx:GX s x){l}(b:Ξ l<=200)(h:∀j∈l,j<Ξ x.G):Db x (ints l)=θ (WQ x l)/\Jt x (ints l)=θ (WQ x l):=by
 have a:∀r∈x.G,r≠[]:=λr hr e=>by
  have:=(hx.rows r hr).1;grind
 exact⟨sc z0 h a,sp z0 h a⟩
structure VB(v:A4):Prop where
 dims:Ξ v.Table.V<=1000000
 cells:Ξ v.Table.Av<=1000000
 cell:∀c∈v.Table.Av,Ξ c.X<=1000000/\Ξ c.G<=1000000
 terms:Ξ v.Model.A0<=1000000
 coefs:Ξ v.Model.A9<=1000000
 curve:Ξ v.Curve<=1000000
 hist:Ξ v.Hist<=1000000
 line:Ξ v.Lineage<=1000000
def numV(q:A1)(L:List Int):A4:={ Kind:=1,Number:=q,Table:={ V:=[],Ah:=0,Av:=[] },Model:={ Ah:=0,A0:=[],A9:=[],A2:={ K:=0,T:=0 },A3:={ K:=0,T:=0 },Z:=0,Bf:=0 },Curve:=[],Hist:=[],Box:={ Z:=0,Bo:=0,Bp:=0,Bq:=0,Br:=0,Bs:=0 },Lineage:=L }
structure GV(x:Ad)(v:A4):Prop where
 vb:VB v
 num:v.Kind=1->VF v.Number/\LN x v.Lineage
def GV.numV(hx:GX s x){q}{L}(b:VF q)(a:LN x L):GV x (P.numV q L):=by
 have:=a.len hx;exact⟨⟨by simp[P.numV],by simp[P.numV],(λc d=>by cases d),by simp[P.numV],by simp[P.numV],by simp[P.numV],by simp[P.numV],by show Ξ L<=_;omega⟩,λ_=>⟨b,a⟩⟩
def mq{n}(a:-1152921504606846976<=n)(h1:n<=1152921504606846976):VF { K:=n,T:=1 }:=⟨by show 1<=1;omega,by show 1<=_;omega,a,h1,by show Nat.gcd 1 _=1;exact Nat.gcd_one_left _⟩
def Acg{n}(a:-1000000000<=n)(h1:n<=1000000000):Eb n 1=θ ({ K:=n,T:=1 },0):=by
 unfold Eb;rw[nzf j0,Zaq,TD z0 z0,Zad,TD z0 z0,Zad,XJ j0 (by unfold SG;omega) (by unfold SG;omega),Zad]
 have e:cn (if(1:Int)<0 then -n else n) (1:Int).natAbs=({ K:=n,T:=1 },0):=by
  rw[Zah j0];show cn n 1=_;unfold cn;rw[Nat.gcd_one_left,Nat.div_one,Nat.div_one,Zak z0,Zak z0]
  grind
 rw[e]
theorem zW{l:List Int}(h:∀v∈l,-1000000<=v/\v<=1000000):∀k,k<=Ξ l->-1000000*k<=(l.take k).sum/\(l.take k).sum<=1000000*k:=by
 intro k
 induction k with
 | zero=>intro _;simp
 | succ k ih=>
   intro a;have:=ih z0;have b:=h _ (Zae (by omega:k<Ξ l));rw[Zab z0,Zdq];grind
def bq b i l:Ξ (vals s x i b l)=Ξ l:=Zac ..
def PV x t(r:A4×Int):=r.2=0->r.1.Kind=t/\GV x r.1
def PV.err{t}{v}{k}(h:(k != 0)=ν):PV x t (v,k):=λa=>by
 grind
def zR d c:ep d s x c []=bP (EB d s c x) (Ξ x.G):=List.filter_eq_self.2 λ_ _=>rfl
def yP(i:DS s)(hx:GX s x){e}(k:e.Op=3)(c:GC s e.Q)(a:∀p∈cA s e.Q,one x.I p.B p.H){d}(hd:40<=d):
 Sm ((Dt d s x e.Q).bind λb=>(Db x b).bind λf=>θ (numV { K:=Ξ b,T:=1 } f,0)) (Dm d s x e) (PV x 1):=by
 have g:=c.cover a hd;have hr:=Uj i hx c a hd (cols:=[]) (λv l=>by cases l) zs;have⟨n,m,o,q⟩:=id c;have r:=Uq hx d e.Q [];have⟨t,u⟩:=ak hx r λj h=>(Ur h).1;rw[XU i hx m z0 ⟨o,q⟩ g,<-zR,Zad,t,Zad];unfold Dm Hl;refine Sm.r (Ok.no (by rw[k];rfl) (qr hr (qr u (Vc (by grind) (qr rfl (KK (KK ⟨?_,λ_=>⟨rfl,?_⟩⟩)))))));rfl;refine GV.numV hx (mq ?_ ?_) (rJ hx (yi d e.Q []) λj h=>(Ur h).1);omega;rw[AE];omega
def Abt:A4:={ Kind:=0,Number:={ K:=0,T:=0 },Table:={ V:=[],Ah:=0,Av:=[] },Model:={ Ah:=0,A0:=[],A9:=[],A2:={ K:=0,T:=0 },A3:={ K:=0,T:=0 },Z:=0,Bf:=0 },Curve:=[],Hist:=[],Box:={ Z:=0,Bo:=0,Bp:=0,Bq:=0,Br:=0,Bs:=0 },Lineage:=[] }
def Aej(y:DS s)(hx:GX s x){bs}{e}(ho:e.Op=4\/e.Op=5)(A:MS s e.B)(G:GC s e.Q)(r:∀p∈cA s e.Q,one x.I p.B p.H){d}(hd:40<=d):
 Sm (Cj d { N:={ Ak:=s,U:=x },A5:=bs } e) (Dm d s x e) (PV x 1):=by
 have⟨P,H,C,m⟩:=A.nat;have hf:fin s e.B.toNat=Ξ s.A[e.B.toNat].L:=by rw[E8 C,Cs m]
 have Q:=B6 m;have h:∀v∈[e.B],MS s v:=λv B=>by rw[List.mem_singleton.1 B];exact A
 have I:=aV y hx G r hd h zs;have hr:=Uj y hx G r hd h zs;have D:=Uq hx d e.Q [e.B];have t:=λj (f:j∈ep d s x e.Q [e.B])=>Ur f;have u:=rJ hx (yi d e.Q [e.B]) λj f=>(t j f).1;generalize ep d s x e.Q [e.B]=L at I hr D t u;have⟨J,R⟩:=ak hx D λj f=>(t j f).1;have B:=Rl y hx H C m D λj f=>(t j f).1;rw[<-P]at B;have V:=mo y hx H C m (b:=fin s e.B.toNat) z0 z0 (l:=L) λj f=>⟨(t j f).1,(t j f).2 _ (List.mem_singleton.2 rfl)⟩;have i:=zW V;have E:Ξ (vals s x e.B.toNat (fin s e.B.toNat) L)=Ξ L:=bq ..;obtain⟨S,M⟩:∃S,S=(vals s x e.B.toNat (fin s e.B.toNat) L).sum:=⟨_,rfl⟩
 have W:-200000000<=S/\S<=200000000:=by
  have:=i _ (Zam _);rw[Zaj]at this;omega
 have w:(Ξ (ints L))=Ξ L:=by rw[AE]
 have⟨q,X,Y,Z⟩:=xo (n:=S) (d:=Ξ L)
 have hP:Cj d { N:={ Ak:=s,U:=x },A5:=bs } e=θ (if e.Op=5 then(if q.2=0 then(numV q.1 (WQ x L),0)else(Abt,q.2))else(numV { K:=S,T:=1 } (WQ x L),0)):=by
  apply Ok.val;unfold Cj;refine qr I (qr B ?_);refine Wf (λq=>q.2) (Ξ (vals s x e.B.toNat (fin s e.B.toNat) L)) (λk q=>q.1=((vals s x e.B.toNat (fin s e.B.toNat) L).take k).sum) 0 (Zag _) rfl rfl z0 (λrec F a o=>?_) λrec k F z a o ih=>?_;rw[Zaj,<-M]at o;unfold Fh Fi;rw[a,o];refine Ok.f ?_;by_cases g:e.Op=5;rw[beq_iff_eq.2 g,Zai g,w];refine Vc rfl (qr X ?_);by_cases c:q.2=0;rw[Zai c,c];exact Ok.no rfl (qr J (KK rfl));rw[Zah c];exact Vc (bne_iff_ne.2 c) (KK rfl);rw[beq_eq_false_iff_ne.2 g,Zah g];exact Ok.no rfl (qr (Acg z0 z0) (Ok.no rfl (qr J (KK rfl))));unfold Fh;rw[a,o];have h1:=i k z0;have h2:=i (k+1) z0;rw[Zab z,Zdq]at h2;rw[List.sum_cons,List.sum_nil]at h2;refine Ok.t (JT z (ih _ BE ?_));show i64.wrap _=_;rw[wr,Zab z,Zdq];simp
 have hR:Dm d s x e=θ (if e.Op=5 then(if q.2=0 then(numV q.1 (WQ x L),0)else(Abt,q.2))else(numV { K:=S,T:=1 } (WQ x L),0)):=by
  apply Ok.val;unfold Dm Hl;refine Vc (bne_iff_ne.2 z0) (Ok.rm zs (qr hr (qr R (Ok.no (beq_eq_false_iff_ne.2 z0) ?_))));refine Wf (λq=>q.2) (Ξ L) (λk q=>q.1=((vals s x e.B.toNat (fin s e.B.toNat) L).take k).sum) 0 (Zag _) rfl rfl z0 (λrec F a o=>?_) λrec k F z a o ih=>?_;rw[<-E,Zaj,<-M]at o;unfold MQ Wl;rw[a,o,w];refine Ok.f (qr rfl ?_);by_cases g:e.Op=5;rw[beq_iff_eq.2 g,Zai g];refine Vc rfl (qr Y ?_);by_cases c:q.2=0;rw[Zai c,c];exact Ok.no rfl (KK rfl);rw[Zah c];exact Vc (bne_iff_ne.2 c) (KK rfl);rw[beq_eq_false_iff_ne.2 g,Zah g];exact Ok.no rfl (KK rfl);unfold MQ;rw[a,o,w];have h1:=i k z0;have h2:=i (k+1) z0;rw[Zab (by omega:k<Ξ (vals s x e.B.toNat (fin s e.B.toNat) L)),Zdq]at h2;rw[List.sum_cons,List.sum_nil]at h2;have f:=(t _ (Zae z)).1
  have e1:idx (ints L) k=θ (L[k]:Nat):=by
   rw[AY (by rw[AE];exact z)];simp[ints]
  have O:(vals s x e.B.toNat (fin s e.B.toNat) L)[k]'z0=(KV s x e.B.toNat (fin s e.B.toNat) L[k]).1:=by unfold vals;rw[Zbu]
  refine Ok.t (qr e1 (qr (A.fin y).2 (qr (A.kv y hx f).2.1 (ih _ BE ?_))));show i64.wrap _=_;rw[O]at h2;rw[wr,Zab (by grind),Zdq,O];simp
 rw[hP,hR];by_cases g:e.Op=5;rw[Zai g];by_cases c:q.2=0;rw[Zai c];exact Sm.ret λ_=>⟨rfl,GV.numV hx (Z c) u⟩;rw[Zah c];exact Sm.ret (PV.err (bne_iff_ne.2 c));rw[Zah g];exact Sm.ret λ_=>⟨rfl,GV.numV hx (mq z0 z0) u⟩
def td{α:Type}{b}{x y z:α}(h:y=z):(bif b then x else y)=bif b then x else z:=by rw[h]
theorem dd picks r:∀n d d'{c},RC s n c->n<d->n<d'->B9 d s c picks r=B9 d' s c picks r
 | n,0,_,c,_,h,_=>by omega
 | n,_,0,c,_,_,h=>by omega
 | n,d+1,d'+1,c,h,hd,hd'=>by
   show Cy d (B9 d) s c picks r=Cy d' (B9 d') s c picks r;unfold Cy;apply td;refine V8 (f:=λb i=>EW c (B9 d) s picks r (λj a=>(Jq c.Op a).bind λl=>θ l) b i.1 i.2) (g:=λb i=>EW c (B9 d') s picks r (λj a=>(Jq c.Op a).bind λl=>θ l) b i.1 i.2) (λi=>∃k:Nat,i.1=k) (λq t i ⟨k,o⟩ ih=>?_) Ay (0,[]) ⟨0,rfl⟩;unfold EW;rw[o];by_cases e:(k:Int)<Ξ c.D;rw[Zak e,Zav,Zav,AY (by grind),Zad,Zad];have⟨m,u,hr⟩:=h.kids.2 _ (Zae (by omega:k<Ξ c.D));rw[dd picks r m d d' hr z0 z0]
   cases B9 d' s c.D[k] picks r with
   | none=>rfl
   | some z=>
     have p:=h.kids.1;rw[Zad,Zad,ih _ ⟨k+1,BE⟩]
   rw[Zap e];rfl
def yh{c}(h:GC s c){d d'}(hd:40<=d)(a:40<=d')cols:ep d s x c cols=ep d' s x c cols:=by
 have⟨n,hr,b,_⟩:=h;unfold ep
 have:EB d s c x=EB d' s c x:=funext λj=>by
  unfold EB;rw[dd _ _ n d d' hr z0 z0]
 rw[this]
def VJ(f:DS s)(hx:GX s x){c}(h:GC s c)(a:∀p∈cA s c,one x.I p.B p.H){d d'}(hd:40<=d)(b:40<=d'){cols}(g:∀v∈cols,MS s v)(e:Ξ cols<=10):Dl d s x c cols=Dl d' s x c cols:=by
 rw[Uj f hx h a hd g e,Uj f hx h a b g e,yh h hd b]
def dP(i:DS s)(hx:GX s x){e}(j:e.Op≠3->MS s e.B)(h:GC s e.Q)(a:∀p∈cA s e.Q,one x.I p.B p.H){d d'}(hd:40<=d)(b:40<=d'):Dm d s x e=Dm d' s x e:=by
 unfold Dm Hl;by_cases g:e.Op=3;rw[g];show((Dl d s x e.Q []).bind _)=_;rw[VJ i hx h a hd b (λv f=>by cases f) zs];rfl
 have c:∀v∈[]++[e.B],MS s v:=λv f=>by
  grind
 rw[VJ i hx h a hd b c zs,VJ i hx h a hd b (λv f=>by cases f) zs]
def mR{v}(h:VB v):ES v=θ v:=by
 have r:∀{n:Nat},n<=1000000->rm 0 n=ν:=λh=>II z0
 have a:Wy v.Table.Av=θ v.Table.Av:=by
  unfold Wy;rw[Zak h.cells,List.all_eq_true.2 λc a=>by rw[r (h.cell c a).1,r (h.cell c a).2];rfl];rfl
 unfold ES CB Dq Fa Dp FL A0;rw[r h.dims,r h.cells,r h.terms,r h.coefs,r h.curve,r h.hist,r h.line];simp[Zav,Zad,a]
theorem jR{bs}{nm}{b}:∀{n},n<=Ξ bs->TZ bs nm n=θ b->b∈bs
 | 0,_,h=>by cases h
 | n+1,hn,h=>by
   rw[SZ z0]at h;split at h
   cases h;exact Zae _
   exact jR z0 h
def tY{bs}{nm}{b}(h:TX bs nm=θ b):b∈bs:=jR (Zam _) h
def zp{bs}(c:Ξ bs<=1000){nm}{b}(h:TX bs nm=θ b)(d:VB b.Ai):D7 { N:={ Ak:=s,U:=x },A5:=bs } nm=θ b.Ai:=by
 unfold D7;show iter _ Ay (i64.wrap (Ξ bs-1))=_
 rw[bH (bs:=bs) (nm:=nm) (A:=I7 (-1)) (B:=λb=>(ES b.Ai).bind λa=>θ a) (λrec=>by unfold E1;rfl) (λrec i e=>by
  unfold E1;show(bif decide ((i:Int)>=0)then(idx bs i).bind _ else _)=_;rw[Zak (by grind),Zav,AY e,Zad];rfl) c]
 unfold TX at h;rw[h];show(ES b.Ai).bind _=_;rw[mR d];rfl
def zo{bs}(c:Ξ bs<=1000){e}{b}(h:TX bs e.J=θ b)K:iter (λa s=>Lp bs e K a s) Ay (i64.wrap (Ξ bs-1))=θ (b.Ai,0):=by
 rw[bH (bs:=bs) (nm:=e.J) (A:=K (-1)) (B:=λb=>θ (b.Ai,0)) (λrec=>by unfold Lp;rfl) (λrec i d=>by
  unfold Lp;rw[Zak (by grind),Zav,AY d,Zad,Zad]) c]
 unfold TX at h;rw[h];rfl
def LN.union(hx:GX s x){a b}(c:LN x a)(d:LN x b):∃u,F6 a b=θ u/\NC a b=θ u/\LN x u:=by
 have g:=c.len hx;have i:=d.len hx;have⟨u,h1,h2,e,_⟩:=yu (a:=a) (b:=b) z0 z0;refine⟨u,h1,h2,e.1,λv f=>?_⟩;rcases List.mem_append.1 ((e.2 v).1 f)with h|h;exact c.2 v h;exact d.2 v h
def Abk(hx:GX s x){d}(ho:6<=d/\d<=9){a b}(e:VF a.Number/\LN x a.Lineage)(f:VF b.Number/\LN x b.Lineage){F}(g:∀q,F q=bif q.2 != 0 then θ (Abt,q.2)else(F6 a.Lineage b.Lineage).bind λu=>θ (numV q.1 u,0)):
 Sm (bif d==7 then(L3 a.Number b.Number).bind F else bif d==8 then(H4 a.Number b.Number).bind F else bif d==9 then(Ji a.Number b.Number).bind F else(L2 a.Number b.Number).bind F) (Tz d a b) (PV x 1):=by
 have⟨u,i,j,k⟩:=e.2.union hx f.2;have⟨⟨l,m,n,o⟩,⟨p2,p,r,t⟩,⟨p3,v,w,y⟩,⟨z,A,B,C⟩⟩:=xu e.1 f.1
 have fin:∀q:A1×Int,FR q->Sm (F q) (Ej a b q.2 q.1) (PV x 1):=λq D=>by
  rw[g,i];unfold Ej;rw[j];exact Sm.br (λh=>Sm.ret (PV.err h)) λh=>Sm.ret λ_=>⟨rfl,GV.numV hx (D (by simpa using h)) k⟩
 unfold Tz;grind
def zI(s:Aa)(x:Ad)(bs:List Ar):A6:={ N:={ Ak:=s,U:=x },A5:=bs }
def R1.gc{e}(h:R1 s e)(ho:e.Op=3\/e.Op=4\/e.Op=5):GC s e.Q:=h.2.2.1 (by rcases ho with h|h|h<;>rw[h]<;>rfl)
theorem Mf{k}{e}(h:∀p∈QF s k e,one x.I p.B p.H):∀p∈cA s e.Q,one x.I p.B p.H:=λp a=>by
 apply h p
 cases k with
 | zero=>exact Zby _ (Zbp _ a)
 | succ k=>exact Zby _ (Zby _ (Zbp _ a))
def qR{k}{e y}(h:∀p∈QF s (k+1) e,one x.I p.B p.H)(hy:y∈e.D):∀p∈QF s k y,one x.I p.B p.H:=λp a=>h p (Zbp _ (List.mem_flatMap.2 ⟨y,hy,a⟩))
theorem cJ(v:DS s)(hx:GX s x){bs}(H:Ξ bs<=1000)(I:∀b∈bs,GV x b.Ai):∀k d d'{e}{t},RQ s k e->e.Op<10->KD bs k e t->(∀p∈QF s k e,one x.I p.B p.H)->44+2*k<=d->44+k<=d'->Sm (Bq d (zI s x bs) e) (E3 d' s x bs e) (PV x t)
 | k,0,_,e,t,_,_,_,_,h,_=>by omega
 | k,_,0,e,t,_,_,_,_,_,h=>by omega
 | k,d+1,d'+1,e,t,h,ho,hk,ha,hd,hd'=>by
   have h1:=h.one;have W:=RA h1.1.1;have A:=h1.2.1;have l:∀n,e.Op≠n->(e.Op==n)=ξ:=λn h=>beq_eq_false_iff_ne.2 h
   have c:e.Op≠2->t=1:=λg=>by
    cases k with
    | zero=>unfold KD at hk;rw[Zah g,Zai ho]at hk;exact hk
    | succ k=>unfold KD at hk;rw[Zah g,Zai ho]at hk;exact hk.1
   show Sm (Cb d (Bq d) (Dw d) (zI s x bs) e) (Ii d' (E3 d') s x bs e) (PV x t);unfold Cb Ii;by_cases J:e.Op=1
   ·have L:=c z0;subst L;unfold PT at A;rw[Zai J]at A;rw[J];exact Sm.ret λ_=>⟨rfl,GV.numV hx (mq z0 z0) LN.nil⟩
   by_cases w:e.Op=2
   ·have:∃b,TX bs e.J=θ b/\b.Ai.Kind=t:=by
     cases k with
     | _=>unfold KD at hk;rw[Zai w]at hk;exact hk
    have⟨b,u,M⟩:=this;have B:=I b (tY u);rw[w];exact Ok.no rfl (Vc rfl (qr (zp H u B.vb) (KK (Ok.no rfl (Vc rfl ⟨_,zo H u _,rfl,λ_=>⟨M,B⟩⟩)))))
   have L:=c w;subst L;have o:=Mf ha;by_cases C:e.Op=3
   ·rw[C];have D:=h1.gc (.inl C);show Sm ((Dt d s x e.Q).bind λE=>(Db x E).bind λN=>θ (numV { K:=Ξ E,T:=1 } N,0)) ((Dm d' s x e).bind λf=>θ (f.1,f.2)) _;rw[dP v hx (λg=>absurd C g) D o (d:=d') (d':=d) z0 z0];have⟨r,O,P,Q⟩:=(yP v hx C D o (d:=d) z0).ex;rw[O,P,Zad];exact Sm.ret Q
   by_cases y:e.Op=4\/e.Op=5
   ·have D:=h1.gc (.inr y);have U:=h1.col z0;have⟨r,O,P,Q⟩:=(Aej v hx (bs:=bs) y U D o (d:=d) z0).ex;have X:=dP v hx (λ_=>U) D o (d:=d') (d':=d) z0 z0;rcases y with y|y<;>rw[y] <;>
    ·show Sm ((Cj d (zI s x bs) e).bind λx53=>θ (x53.1,x53.2)) ((Dm d' s x e).bind λf=>θ (f.1,f.2)) _;rw[X,show Cj d (zI s x bs) e=_ from O,P,Zad];exact Sm.ret Q
   have V:Im e.Op=ν:=by unfold Im;rw[dt,dt];rfl
   rw[l 1 J,l 2 w,l 3 C,l 4 z0,l 5 z0,l 10 z0,l 11 z0,l 12 z0,l 13 z0,l 14 z0];rw[Zaq]
   cases k with
   | zero=>have:=h.2.1;rw[V]at this;cases this
   | succ k=>
     have⟨a,b,i,⟨Y,Z⟩,ob,rb⟩:=h.2.1 V
     have F:KD bs k a 1/\KD bs k b 1:=by
      unfold KD at hk;grind
     obtain⟨d,rfl⟩:∃z,d=z+1:=⟨d-1,z0⟩;have⟨va,a1,a2,a3⟩:=(cJ v hx H I k d d' Z Y F.1 (qR ha (by rw[i];simp)) z0 z0).ex;have⟨vb,b1,b2,b3⟩:=(cJ v hx H I k d d' rb ob F.2 (qR ha (by rw[i];simp)) z0 z0).ex;show Sm ((Dz d (Bq d) (Dw d) (zI s x bs) e).bind λj=>θ (j.1,j.2)) _ _;have G:∀m:Option (A4×Int),(m.bind λj=>θ (j.1,j.2))=m:=λm=>by cases m<;>rfl
     rw[G];unfold Dz;rw[i];show Sm ((Bq d (zI s x bs) a).bind _) ((E3 d' s x bs a).bind _) _;rw[a1,a2];refine Sm.br (λh=>Sm.ret (PV.err h)) λh1=>?_;show Sm ((Bq d (zI s x bs) b).bind _) ((E3 d' s x bs b).bind _) _;rw[b1,b2];refine Sm.br (λh=>Sm.ret (PV.err h)) λh2=>?_;have⟨ka,R⟩:=a3 (by simpa using h1);have⟨kb,S⟩:=b3 (by simpa using h2);rw[G];exact Abk hx z0 (R.num ka) (S.num kb) λq=>rfl
structure US(d:Nat)(s:Aa)(x:Ad)(e:Ag):Prop where
 pr:Eg d s e=some true
 pn:∃r,IW d s e=some r/\CU x.I r=some true
 rr:FK d s e=some true
 rn:∃r,G0 d s e=some r/\F8 r x.I=some true
def Ael(a:DS s)(hx:GX s x){e}(h:RQ s 9 e)(f:∀p∈QF s 9 e,one x.I p.B p.H){d}(hd:70<=d)(c:d<=1000):US d s x e:=by
 have l:=hx.picks_len a;have⟨b,g,m,n⟩:=Yg a h.te (d:=d) z0 c;have o:=n.2 h;subst o;have⟨i,q,p2⟩:=gA a 9 d h z0;have⟨j,r,k⟩:=aE a 9 d h z0 z0 c;have t:bd 9<=1000000:=j0;have u:=p2.len;have v:=k.len;refine⟨g,⟨i,Ok.val ?_,(lQ x.I i z0 z0).trans (congrArg θ ((p2.covers _).2 f))⟩,m,⟨j,r,(eR x.I j z0 z0).trans (congrArg θ ((k.covers _).2 f))⟩⟩;unfold IW;exact qr a.check (Ok.no rfl (qr g (Ok.no rfl (qr q (KK rfl)))))
def US.usable(a:DS s)(hx:GX s x){d}{e}(h:US d s x e):N2 d s x e=θ 0/\Lg d s x e=θ 0:=by
 have⟨h1,⟨r,h2,b⟩,c,⟨q,f,g⟩⟩:=h;constructor;unfold N2;exact Ok.val (qr (hx.check a) (Ok.no rfl (qr h1 (Ok.no rfl (qr h2 (qr b (Ok.no rfl (KK rfl))))))));unfold Lg;exact Ok.val (qr (hx.rcheck a) (Ok.no rfl (qr c (Ok.no rfl (qr f (qr g (Ok.no rfl (KK rfl))))))))
def nameless(e:Ag):={ e with J:=ByteArray.empty }
def yw{u}{e}(h:qI u e=ν):qI u (nameless e)=ν:=by
 unfold qI usA at h ⊢;show((bif(bif(bif(bif(bif u.By then ν else(e.K==0))then(bif u.Bz then ν else(ByteArray.empty.toList==({ data:=#[] }:ByteArray).toList))else ξ)then(bif u.Bv then ν else(e.B==0))else ξ)then(bif u.B3 then ν else((Ξ e.A:Int)==0))else ξ)then(bif u.B4 then ν else((Ξ e.V:Int)==0))else ξ)&&(u.Bg||NY e.Q)&&(u.Bn||NY e.Y))=ν
 have:(bif u.Bz then ν else(ByteArray.empty.toList==({ data:=#[] }:ByteArray).toList))=ν:=by
  cases u.Bz
  exact Zbd _;rfl
 grind
theorem RQ.nameless{k}{e}(h:RQ s k e)(h2:e.Op≠2):RQ s k (P.nameless e):=by
 have h1:R1 s (P.nameless e):=by
  have⟨⟨a,b⟩,c,d⟩:=h.one;refine⟨⟨a,yw b⟩,?_,d⟩;unfold PT at c ⊢;show if e.Op=1 then _ else if e.Op=2 then CQ ByteArray.empty=θ ν else _;rw[Zah h2]at c;rw[Zah h2];exact c
 cases k with
 | _=>exact⟨h1,h.2.1,h.2.2⟩
def kN k e:QF s k (nameless e)=QF s k e:=by cases k<;>rfl
theorem Wv{k}{e}(h:RQ s k e)(ho:10<=e.Op):e.D=[]:=h.no (by
 cases hp:Im e.Op with
 | false=>rfl
 | true=>have:=rI hp;omega)
def Rk(b:DS s)(hx:GX s x){e}(h:RQ s 9 e)(ho:10<=e.Op)(c:∀p∈QF s 9 e,one x.I p.B p.H){d}(hd:70<=d)(a:d<=1000):US d s x (nameless e):=
 Ael b hx (h.nameless z0) (by rw[kN];exact c) hd a
def po{k}{e}(b:∀p∈QF s k e,one x.I p.B p.H)(c:GC s e.Q){d}(hd:40<=d):∀a∈Nu d e.Q,one x.I a.B (Yo s a):=c.cover (Mf b) hd
def Abx(b:DS s)(hx:GX s x){e}(h:RQ s 9 e)(ho:e.Op=13)(M:∀p∈QF s 9 e,one x.I p.B p.H){d}(hd:70<=d)(u:d<=1000):∃r:List Co×List Int×Int,S4 d s x e.B e.K e.Q=θ r/\PO d s x e.B e.K e.Q=θ r/\Ξ r.1<=200/\Ξ r.2.1<=200:=by
 have hl:=hx.len;have h1:=h.one;have R:=Wv h z0;have v:=LV h1.1.2;have t:=(Rk b hx h z0 M hd u).usable b hx
 have S:nameless e={ Op:=13,K:=e.K,J:=ByteArray.empty,B:=e.B,A:=[],V:=[],Q:=e.Q,Y:={ Op:=0,B:=0,Af:=0,C:=0,E:=0,D:=[] },D:=[] }:=by
  have T:=v.2.1 (by rw[ho];rfl);have U:=v.2.2.1 (by rw[ho];rfl);have W:=v.2.2.2.2 (by rw[ho];rfl);unfold nameless;rw[ho,T,U,W,R];rfl
 rw[S]at t;have N:=h1.2.2.1 (by rw[ho];rfl);have a:=po M N (d:=d) z0;have c:=h1.2.1;unfold PT at c;rw[Zah z0,Zah z0,Zah z0,Zah z0,Zah z0,Zah z0,Zai ho]at c;have⟨i,y,f,X,g,z⟩:=c;have⟨n,F,G⟩:=Zbi z;rw[X,<-G]at t ⊢;have⟨k,hr,m,o⟩:=N;have Z:=B6 g;have hfl:=Nl (EB d s e.Q x) (Ξ x.G);have hfk:=Zce (ao s x i ((Ξ s.A[i].L)-n)) (bP (EB d s e.Q x) (Ξ x.G));have z:=y4 g F
 have⟨q,H,I,L⟩:=yK (l:=vals s x i ((Ξ s.A[i].L)-n) ((bP (EB d s e.Q x) (Ξ x.G)).filter (ao s x i ((Ξ s.A[i].L)-n)))) (w:=s.A[i].L[n]) (by unfold vals;rw[Zac];omega) z.1 z0
  (mo b hx f y g z0 z0 λj O=>⟨aa j (List.mem_filter.1 O).1,(List.mem_filter.1 O).2⟩)
 refine⟨(q,((bP (EB d s e.Q x) (Ξ x.G)).filter (ao s x i ((Ξ s.A[i].L)-n))).map λj=>P.hd (x.G.getD j []),0),?_,?_,H,?_⟩;unfold S4;exact Ok.val (qr t.1 (Ok.no rfl (qr (XU b hx hr z0 ⟨m,o⟩ a) (Ok.eq (qj b hx f y g F z0 aa I)))));unfold PO;exact Ok.val (qr t.2 (Ok.no rfl (qr (vZ b hx hr z0 ⟨m,o⟩ a) (Ok.eq (qt b hx f y g F z0 aa L)))));grind
theorem Adk(i:DS s)(hx:GX s x){e}(h:RQ s 9 e)(ho:e.Op=14)(w:∀p∈QF s 9 e,one x.I p.B p.H){d}(hd:70<=d)(y:d<=1000):∃r:K2×List Int×Int,Tf d s x e.B e.Q=θ r/\PN d s x e.B e.Q=θ r/\Ξ r.2.1<=200:=by
 have h1:=h.one;have R:=Wv h z0;have t:=LV h1.1.2;have n:=(Rk i hx h z0 w hd y).usable i hx
 have z:e.K=0:=by
  have:=h1.1.2;unfold qI usA at this;rw[ho,show(F4 14).1.By=ξ from rfl]at this;rw[Zax,Zax]at this;have:=this.1.1;simp only[Zdl,Zax]at this;exact beq_iff_eq.1 this.1.1.1.1
 have S:nameless e={ Op:=14,K:=0,J:=ByteArray.empty,B:=e.B,A:=[],V:=[],Q:=e.Q,Y:={ Op:=0,B:=0,Af:=0,C:=0,E:=0,D:=[] },D:=[] }:=by
  have T:=t.2.1 (by rw[ho];rfl);have U:=t.2.2.1 (by rw[ho];rfl);have W:=t.2.2.2.2 (by rw[ho];rfl);unfold nameless;rw[ho,T,U,W,R,z];rfl
 rw[S]at n;have N:=h1.2.2.1 (by rw[ho];rfl);have O:=h1.col z0;have c:∀v∈[e.B],MS s v:=λv o=>by rw[List.mem_singleton.1 o];exact O
 have F:=aV i hx N (Mf w) (d:=d) z0 c zs;have hr:=Uj i hx N (Mf w) (d:=d) z0 c zs;have k:=Uq hx d e.Q [e.B];have m:=λj (g:j∈ep d s x e.Q [e.B])=>Ur g;generalize ep d s x e.Q [e.B]=L at F hr k m;have⟨X,G,u,f⟩:=O.nat;have t:fin s e.B.toNat=Ξ s.A[e.B.toNat].L:=by rw[E8 u,Cs f]
 have hwl:=B6 f;have P:=mo i hx G u f (b:=fin s e.B.toNat) z0 z0 (l:=L) λj g=>⟨(m j g).1,(m j g).2 _ (List.mem_singleton.2 rfl)⟩;have q:Ξ (vals s x e.B.toNat (fin s e.B.toNat) L)<=200:=by rw[bq];exact k
 have⟨r,H⟩:=un q P;have I:FX (vals s x e.B.toNat (fin s e.B.toNat) L)=θ r:=by rw[<-xG q P];exact H
 have o:=Rl i hx G u f k λj g=>(m j g).1;have a:=ut i hx G u f k (λj g=>(m j g).1) I;rw[<-X]at o a;have⟨k1,k2⟩:=ak hx k λj g=>(m j g).1;have M:Ξ (WQ x L)<=200:=by unfold WQ;rw[Zac];exact k
 cases er:(r.2 != 0)with
 | true=>
   rw[er]at a;refine⟨({ Z:=0,Bo:=0,Bp:=0,Bq:=0,Br:=0,Bs:=0 },[],r.2),?_,?_,zs⟩;unfold Tf;exact Ok.val (qr n.1 (Ok.no rfl (qr F (qr o (qr H (Vc er (KK rfl)))))));unfold PN;exact Ok.val (qr n.2 (Ok.no rfl (qr hr (Ok.eq a))))
 | false=>
   rw[er]at a;refine⟨(r.1,WQ x L,0),?_,?_,M⟩;unfold Tf;exact Ok.val (qr n.1 (Ok.no rfl (qr F (qr o (qr H (Ok.no er (qr k1 (KK rfl))))))));unfold PN;exact Ok.val (qr n.2 (Ok.no rfl (qr hr (Ok.eq a))))
def xp{n d}(h:0<=n)(i:n<=1000)(j:1<=d)(k:d<=1000):∃q,Eb n d=θ (q,0)/\QY n d=θ (q,0)/\VF q:=by
 have⟨r,h1,h2,f⟩:=xo (n:=n) (d:=d)
 have a:Eb n d=θ (cn n d.natAbs):=by
  unfold Eb;rw[nzf (by omega:d≠0),Zaq,TD z0 z0,Zad,TD z0 z0,Zad,XJ z0 (by unfold SG;omega) (by unfold SG;omega),Zad,Zah z0]
 have g:(cn n d.natAbs).2=0:=by
  unfold cn;have l:=Zdx n.natAbs (Nat.gcd d.natAbs n.natAbs);have m:=Zdx d.natAbs (Nat.gcd d.natAbs n.natAbs);rw[Zak z0,Zak z0];rfl
 rw[a]at h1;have e:=Zaf h1;have b:r.2=0:=by rw[<-e];exact g
 have c:r=(r.1,0):=by rw[<-b]
 refine⟨r.1,by rw[a,e,<-c],by rw[h2,<-c],f b⟩
def xk{α}{p q}{l:List α}(h:∀x∈l,p x=q x)k:nf p l k=nf q l k:=by
 unfold nf;rw[Zgd λx hx=>h x (Zbo hx)]
def Acd{α}{p}{l:List α}(h:∀x∈l,p x=ν):nf p l (Ξ l)=Ξ l:=by
 unfold nf;rw[Zaj,List.filter_eq_self.2 h]
def fm(v:Int):=bif(v<0)then ν else(v>1000000)
def kq{ts}(l:Ξ ts<=200){K}{Q}(h1:ts.any fm=ν->Q ([],2))(h2:ts.any fm=ξ->∀D,AS ts D->Ξ D<=200->Ok (K D (Ξ ts)) Q):Ok (iter (λb s=>Li ts K b s.1 s.2) Ay ([],0)) Q:=by
 refine Wf (λq=>q.2) (Ξ ts) (λk q=>(ts.take k).any fm=ξ/\AS (ts.take k) q.1/\Ξ q.1<=k) 0 (Zag _) rfl ⟨rfl,⟨List.Pairwise.nil,λx=>zs⟩,zs⟩ z0 (λrec q f ⟨d,e,i⟩=>?_) λrec k q a f ⟨d,e,i⟩ ih=>?_;rw[Zaj]at d e;unfold Li;rw[f];exact Ok.f (h2 d _ e z0);unfold Li;rw[f];have c:fm ts[k]=ν->ts.any fm=ν:=λh=>List.any_eq_true.2 ⟨_,Zae a,h⟩;refine Ok.t (JT a (bt (λh=>KK (h1 (c (by unfold fm;rw[dt h];rfl)))) λg=>JT a (bt (λh=>KK (h1 (c (by unfold fm;rw[df g,dt h];rfl)))) λj=>JT a (Ok.bind (vI e z0 ts[k]) λr hr=>ih _ BE ⟨?_,?_,?_⟩))));rw[Zab a,Zgp,d];rw[List.any_cons,List.any_nil,Bool.or_false,Bool.false_or];unfold fm;rw[df g,df j];rfl;rw[Zab a];exact hr.1;have:=hr.2;show Ξ r<=_;omega
def co(D:List Int)k(p:Int×Bool):=decide (p.1∉D.take k)
def VZ{D:List Int}(c:D.Pairwise (·<·)){k}b{t}(d:t∈D):t∉D.take k↔D[k]<=t:=by
 obtain⟨j,f,rfl⟩:=Zbi d;have a:=List.pairwise_iff_getElem.1 c;constructor;intro h;by_cases e:j<k;exact absurd (List.mem_iff_getElem.2 ⟨j,by rw[Zan];omega,Zbs⟩) h;by_cases g:j=k;subst g;exact Zbh _;have:=a k j b f z0;omega;intro h l;have⟨i,m,e⟩:=Zbi l;rw[Zan]at m;rw[Zbs]at e;have:=a i k z0 b z0;omega
theorem yo{ts}{es}(he:Ξ es=Ξ ts)(H:Ξ ts<=200):∃r,Ij ts es=θ r/\Lh ts es=θ r/\Ξ r.1<=200:=by
 suffices h:Ok (Ij ts es) λr=>Ok (Lh ts es) λI=>r=I/\Ξ r.1<=200 by
  obtain⟨r,a,I,b,rfl,c⟩:=h;exact⟨r,a,b,c⟩
 have o:AR ts LM=θ (ts.any fm):=bF fm (λ_ _=>rfl) z0;unfold Ij;refine Ok.no (by rw[he];simp) (Ok.f (qr o ?_));unfold Lh
 cases hb:ts.any fm with
 | true=>
   exact Vc rfl (KK (Ok.no (by rw[he];simp) (Ok.f (kq H (λ_=>⟨rfl,zs⟩) λh=>by rw[hb]at h;cases h))))
 | false=>
   have t:=fj ts;have K:Ξ (Fy ts)=Ξ ts:=by unfold Fy;exact Zgb ts
   refine Ok.no rfl (qr (x:=ts) (by unfold A0;rw[II z0];rfl) (qr (x:=Fy ts) (by unfold B1;rw[II z0];rfl) (qr (x:=Lib.compact (Fy ts)) (by unfold E4;rw[dt z0];rfl) ?_)));generalize Lib.compact (Fy ts)=D at t;refine WD (Ok.no (by rw[he];simp) (Ok.f (kq H (λh=>by rw[hb]at h;cases h) λ_ D' w y=>?_)));have M:=t.eq w;subst M;refine WD ?_;unfold OR;have⟨g,f⟩:=t;have N:Ξ (ts.zip es)=Ξ ts:=by rw[List.length_zip];omega
   have z:∀p∈ts.zip es,p.1∈D:=λp i=>(f _).2 (List.of_mem_zip i).1;refine Ok.two (Ξ D) (λk u v=>u.2.1=(k:Int)/\v.1=(k:Int)/\u.1=nf (co D k) (ts.zip es) (Ξ ts)/\u.2.2.1=v.2.1/\Ξ u.2.2.1=k/\u.2.2.2=v.2.2/\VF u.2.2.2) ⟨rfl,rfl,?_,rfl,rfl,rfl,mq j0 j0⟩ (λO P u v ⟨A,B,_,l,C,_,_⟩=>?_) λO P k u v e ⟨A,B,Q,l,C,S,T⟩ ih=>?_;rw[<-N,Acd λp _=>by unfold co;simp];unfold LK OQ;rw[A,B];exact Ok.f (KK (Ok.f (KK ⟨by rw[l],by rw[C];exact y⟩)));have hR:=aF (co D k) (ts.zip es) (Ξ ts);have hE:=aF (oR D[k]) (ts.zip es) (Ξ ts);have hL:=aF (oU D[k]) (ts.zip es) (Ξ ts);have U:=aF (co D (k+1)) (ts.zip es) (Ξ ts)
   have V:nf (geq D[k]) (ts.zip es) (Ξ ts)=nf (co D k) (ts.zip es) (Ξ ts):=xk (λp i=>by
    unfold co;show decide (D[k]<=p.1)=_;rw[decide_eq_decide];exact(VZ g e (z p i)).symm) _
   have W:nf (co D k) (ts.zip es) (Ξ ts)=nf (co D (k+1)) (ts.zip es) (Ξ ts)+nf (λp=>p.1==D[k]) (ts.zip es) (Ξ ts):=by
    refine qg (λp i=>?_) _ z0;unfold co;rw[decide_eq_true_iff,decide_eq_true_iff,Zdk,Zab e,Zcj,Zbb];have F:D[k]∉D.take k:=(VZ g e (Zae e)).2 (Zbh _);constructor;constructor;intro h;by_cases q:p.1=D[k];exact .inr q;exact .inl λG=>G.elim h q;rintro(h|h);exact λG=>h (.inl G);rw[h];exact F;exact λh=>h.1 (.inr h.2)
   have X:nf (λp=>p.1==D[k]) (ts.zip es) (Ξ ts)=nf (oR D[k]) (ts.zip es) (Ξ ts)+nf (oU D[k]) (ts.zip es) (Ξ ts):=by
    refine qg (λp i=>?_) _ z0;unfold oR oU
    cases(p.1==D[k])<;>cases p.2<;>simp
   have J:1<=nf (co D k) (ts.zip es) (Ξ ts):=by
    have Y:=(f D[k]).1 (Zae e);have⟨j,hj,Z⟩:=Zbi Y
    have:(ts[j],es[j]'z0)∈(ts.zip es).filter (co D k):=by
     refine List.mem_filter.2 ⟨List.mem_iff_getElem.2 ⟨j,z0,by rw[List.getElem_zip]⟩,?_⟩;unfold co;rw[decide_eq_true_iff];show ts[j]∉_;rw[Z];exact(VZ g e (Zae e)).2 (Zbh _)
    have:=List.length_pos_of_mem this;unfold nf;rw[Zbe z0];omega
   unfold LK OQ;rw[A,B,Q];refine Ok.t (JT e (yp he z0 ?_));refine WD (Ok.t (JT e (uw he z0 (WD ?_))));rw[V];unfold PU Tw;simp only[yF];generalize nf (co D k) (ts.zip es) (Ξ ts)=R at *;generalize nf (oR D[k]) (ts.zip es) (Ξ ts)=E at *;generalize nf (oU D[k]) (ts.zip es) (Ξ ts)=L at *;have w1:i64.wrap (R-E)=R-E:=wr;have w2:i64.wrap (E+L)=E+L:=wr;have w3:i64.wrap (R-(E+L))=R-(E+L):=wr;rw[w1,w2,w3];have⟨q,q1,q2,q3⟩:=xp (n:=R-E) (d:=R) z0 z0 z0 z0;obtain⟨-,-,⟨m,m1,m2,m3⟩,-⟩:=xu T q3;refine qr q1 (qr m1 (WD (qr q2 (qr (by rw[<-S];exact m2) (WD ?_)))));refine Ok.br (λh=>KK (Vc h (KK ⟨rfl,zs⟩))) λh=>WD (Ok.no h (WD (Ok.rm zv (WD (Ok.rm (by rw[<-l];simp;omega) (WD (ih _ _ ⟨BE,BE,?_,?_,?_,rfl,m3 (by simpa using h)⟩)))))));show R-(E+L)=_;omega;show u.2.2.1++_=v.2.1++_;rw[l];show(Ξ (u.2.2.1++_))=_;rw[Zar,C];rfl
def GC.row{d}(hd:40<=d)(e:DS s)(hx:GX s x){c}(h:GC s c)(b:∀a∈Nu d c,one x.I a.B (Yo s a)){j}f:Ok (Jp d s c x.I (x.G[j].drop 1)) λt=>EB d s c x j=(t==1):=by
 have⟨n,h1,h2⟩:=h;have hr:=Zae f;have⟨t,_,g,_⟩:=Us e hx hr h1 (d:=d) z0 b;refine⟨t,WZ e hx hr h1 z0 h2 b g,?_⟩;unfold EB;rw[BQ f,g];rfl
def rq d x s ev(l:List Nat):=l.map (EB d s ev x)
def Ab8{d}(B:DS s)(hx:GX s x){i}(t:1<=i)C(h:Do s.A[i]){ev}{l}(D:Ξ l<=200)(f:∀j∈l,j<Ξ x.G){w}(E:Ij (vals s x i (fin s i) l) (rq d x s ev l)=θ w):
 iter (λa g=>Hn (ints l) (ints (bP (EB d s ev x) (Ξ x.G))) (Na s x (ints l) i) a g.1 g.2) Ay (0,List.replicate (Ξ (ints l):Int).toNat ξ)
  = (bif(w.2 != 0)then θ ([],[],w.2)else θ (w.1,l.map λj=>hd (x.G.getD j []),0)):=by
 have F:=hx.len;have G:=Nl (EB d s ev x) (Ξ x.G)
 have n:Ok (iter (λa g=>Hn (ints l) (ints (bP (EB d s ev x) (Ξ x.G))) (Na s x (ints l) i) a g.1 g.2) Ay (0,List.replicate (Ξ (ints l):Int).toNat ξ)) λz=>θ z=(bif(w.2 != 0)then θ ([],[],w.2)else θ (w.1,l.map λj=>hd (x.G.getD j []),0)):=by
  rw[Zaw,AE];refine Wf (λq=>q.1) (Ξ l) (λm q=>q.2=rq d x s ev (l.take m)++List.replicate (Ξ l-m) ξ) 0 (Zag _) rfl rfl z0 (λrec q u o=>?_) λrec m q p u o ih=>?_;have o:q.2=rq d x s ev l:=by rw[o,Zaj,Zes];simp
  rw[Hn,u,o,AE];rw[Bl];unfold Na;refine qr (Rl B hx t C h D f) (qr E (Ok.br (λe=>KK ?_) λe=>qr (sc z0 f λr hr=>hx.ne hr) (KK ?_)));rw[e];rfl;rw[e];rfl;have v:=f _ (Zae p);rw[Hn,u,o,AE];rw[AK];have c:Ξ (rq d x s ev (l.take m))=m:=by unfold rq;rw[Zac,Zan];omega
  refine JT (by rw[AE];exact p) ?_;rw[QS p];refine Ok.bind (Vv (by rw[AE];omega)) λb H=>JT (by rw[Zar,c,Zdw];omega) (ih _ BE ?_)
  have y:b=EB d s ev x l[m]:=by
   have:b=ν↔EB d s ev x l[m]=ν:=by
    rw[H];unfold ints;rw[List.mem_map];constructor;rintro⟨j,I,e⟩;obtain rfl:j=l[m]:=z0;exact(lp I).2;intro e;exact⟨_,List.mem_filter.2 ⟨List.mem_range.2 v,e⟩,rfl⟩
   exact fw this Iff.rfl
  show(rq d x s ev (l.take m)++List.replicate (Ξ l-m) ξ).set ((m:Int)).toNat b=_;rw[Zaw,Zab p,y,Zga _ _ z0,c,Zes];obtain⟨k,J⟩:∃k,Ξ l-m=k+1:=⟨Ξ l-m-1,z0⟩;rw[J,show Ξ l-(m+1)=k by omega,List.replicate_succ,List.set_cons_zero];unfold rq;rw[Zay];simp
 have⟨z,K,A⟩:=n;rw[K,A]
def Ab9{d}(A:40<=d)(B:DS s)(hx:GX s x){i}(n:1<=i)C(h:Do s.A[i]){ev}(D:GC s ev)(o:∀a∈Nu d ev,one x.I a.B (Yo s a)){l}(M:Ξ l<=200)(p:∀j∈l,j<Ξ x.G){w}(H:Lh (vals s x i (fin s i) l) (rq d x s ev l)=θ w):
 iter (λc g=>Kg (ints l) s i x d ev (Q4 x (ints l)) c g.1 g.2.1 g.2.2) Ay (0,[],[])
  = (bif(w.2 != 0)then θ ([],[],w.2)else θ (w.1,l.map λj=>hd (x.G.getD j []),0)):=by
 have N:fin s i=Ξ s.A[i].L:=by rw[E8 C,Cs h]
 have I:=B6 h
 have u:Ok (iter (λc g=>Kg (ints l) s i x d ev (Q4 x (ints l)) c g.1 g.2.1 g.2.2) Ay (0,[],[])) λz=>θ z=(bif(w.2 != 0)then θ ([],[],w.2)else θ (w.1,l.map λj=>hd (x.G.getD j []),0)):=by
  refine Wf (λq=>q.1) (Ξ l) (λm q=>q.2.1=vals s x i (fin s i) (l.take m)/\q.2.2=rq d x s ev (l.take m)) 0 (Zag _) rfl ⟨rfl,rfl⟩ z0 (λrec q E v=>?_) λrec m q k E v ih=>?_;rw[Kg,E,v.1,v.2,AE,Zaj];rw[Bl];unfold Q4;refine qr H (Ok.br (λe=>KK ?_) λe=>qr (sp z0 p λr hr=>hx.ne hr) (KK ?_));rw[e];rfl;rw[e];rfl;have f:=p _ (Zae k);rw[Kg,E,v.1,v.2,AE];rw[AK];have⟨_,h1,_⟩:=gk B hx n C h (b:=fin s i) z0 z0 f;have y:m<Ξ (ints l):=by rw[AE];exact k
  have J:=(hx.rows _ (Zae f)).1;have⟨t,K,F⟩:=D.row A B hx o f;apply JT y;rw[QS k];refine qr (B.rfinest n C) (qr h1 (Ok.rm (by simp[vals];omega) (JT y ?_)));rw[QS k];refine JT f (dg z0 ?_);rw[yR];refine qr K (Ok.rm (by simp[rq];omega) (ih _ BE ⟨?_,?_⟩));show vals s x i (fin s i) (l.take m)++[_]=_;rw[Zab k];unfold vals;rw[Zay];rfl;show rq d x s ev (l.take m)++[_]=_;rw[Zab k,<-F];unfold rq;rw[Zay];rfl
 have⟨z,L,G⟩:=u;rw[L,G]
theorem sZ{k}{e}(h:∀p∈QF s k e,one x.I p.B p.H):∀p∈cA s e.Y,one x.I p.B p.H:=λp a=>by
 apply h p
 cases k with
 | zero=>exact Zbp _ a
 | succ k=>exact Zby _ (Zbp _ a)
def Acf{e}(h:R1 s e)(a:(F4 e.Op).1.By=ξ):e.K=0:=by
 have:=h.1.2;unfold qI usA at this;rw[a,Zax,Zax]at this;have:=this.1.1;simp only[Zdl,Zax]at this;exact beq_iff_eq.1 this.1.1.1.1
def yQ(b:DS s)(hx:GX s x){e}(h:RQ s 9 e)(ho:e.Op=12)(k:∀p∈QF s 9 e,one x.I p.B p.H){d}(hd:70<=d)(m:d<=1000):∃r:List Aj×List Int×Int,LJ d s x e.B e.Y e.Q=θ r/\PM d s x e.B e.Y e.Q=θ r/\Ξ r.1<=200/\Ξ r.2.1<=200:=by
 have h1:=h.one;have N:=Wv h z0;have z:=LV h1.1.2;have o:=Rk b hx h z0 k hd m
 have O:nameless e={ Op:=12,K:=0,J:=ByteArray.empty,B:=e.B,A:=[],V:=[],Q:=e.Q,Y:=e.Y,D:=[] }:=by
  have P:=z.2.1 (by rw[ho];rfl);have R:=z.2.2.1 (by rw[ho];rfl);have S:=Acf h1 (by rw[ho];rfl);unfold nameless;rw[ho,P,R,S,N]
 rw[O]at o;have q:=(o.usable b hx).2;have⟨T,⟨u2,U,W⟩,_,_⟩:=o;have C:=h1.2.2.1 (by rw[ho];rfl);have c:=h1.2.2.2 (by rw[ho];rfl);have f:=c.cover (sZ k) (d:=d) z0;have E:=h1.col z0;have a:∀v∈[e.B],MS s v:=λv X=>by rw[List.mem_singleton.1 X];exact E
 have F:=aV b hx C (Mf k) (d:=d) z0 a zs;have hr:=Uj b hx C (Mf k) (d:=d) z0 a zs;have l:=Uq hx d e.Q [e.B];have t:=λj (g:j∈ep d s x e.Q [e.B])=>Ur g;generalize ep d s x e.Q [e.B]=L at F hr l t;have⟨Z,G,H,i⟩:=E.nat;have u:Ξ (vals s x e.B.toNat (fin s e.B.toNat) L)=Ξ L:=bq ..;have⟨w,w1,w2,w3⟩:=yo (ts:=vals s x e.B.toNat (fin s e.B.toNat) L) (es:=rq d x s e.Y L) (by unfold rq;rw[Zac,u]) z0;have I:=Ab8 b hx G H i l (λj g=>(t j g).1) w1;have M:=Ab9 (by omega:40<=d) b hx G H i c f l (λj g=>(t j g).1) w2;rw[<-Z]at I M;have y:Ξ (WQ x L)<=200:=by unfold WQ;rw[Zac];exact l
 have⟨n,hR,hn⟩:=id c;refine⟨(bif(w.2 != 0)then([],[],w.2)else(w.1,WQ x L,0)),?_,?_,?_,?_⟩;unfold LJ;refine Ok.val (qr (hx.check b) (Ok.no rfl (qr T (Ok.no rfl (qr U (qr W (Ok.no rfl (qr F (qr (XU b hx hR z0 hn f) (is ?_ (Ok.eq ?_)))))))))));rw[AE,II z0,dt z0];rfl;rw[I];cases(w.2 != 0)<;>rfl;unfold PM;refine Ok.val (qr q (Ok.no rfl (qr hr (Ok.eq ?_))));rw[M];cases(w.2 != 0)<;>rfl
 cases(w.2 != 0)
 exact w3;simp
 cases(w.2 != 0)
 exact y;simp
def vT(g:DS s){i}(k:1<=i)c(h:Iy s.A[i]){L}(d:L∈Ym)(b:idx s.S s.A[i].Al=θ L){a}(a0:0<=a)(l:a<=fin s i)v:D5 s i a v=θ ((AW L).any λw=>cv L a w==v):=by
 have n:(Ξ (AW L))<=10:=by have:=List.all_eq_true.1 Od L d;simpa using this
 apply Ok.val;unfold D5;refine qr (g.rfinest k c) (qr (JC _ _ _) (Ok.no (by rw[dt ⟨a0,l⟩];rfl) (JT c (Vc (by rw[h.kind];rfl) (qr (rleaves c d b) ?_)))));refine ld (AW L) (λw=>cv L a w==v) (λm rec=>Ok.f (KK m.symm)) λrec j f=>⟨λe m=>Ok.t (JT f (qr (GD g k c h d b a0 l (Zae f)) (Vc e (KK m.symm)))),λe ih=>Ok.t (JT f (qr (GD g k c h d b a0 l (Zae f)) (Ok.no e ?_)))⟩;rw[BE];exact ih
def ia(l:DS s){i}(r:1<=i)f(h:Iy s.A[i]){a b B}(a0:0<=a)(t:a<=fin s i)(C:0<=b)(D:b<=fin s i)(m:LsV s i b B)(n:B<=a){v}(E:iE s s.A[i] v):KP s i a (CV s s.A[i] a v) b=θ (CV s s.A[i] b v,ν):=by
 have⟨L,j,c⟩:=l.clist h;have F:(Ξ (AW L))<=10:=by have:=List.all_eq_true.1 Od L j;simpa using this
 have o:=E.code h c
 have g:∀w∈AW L,cv L a w=cv L a v->cv L b w=cv L b v:=λw G e=>by
  have h1:=m f a a0 n t w (au h j c G);have h2:=m f a a0 n t v E;rw[Kl h c,Kl h c,e]at h1;rw[Kl h c,Kl h c,h1]at h2;exact congrArg Prod.fst (Zaf h2)
 rw[Kl h c,Kl h c];apply Ok.val;unfold KP Qf;refine qr (vT l r f h j c a0 t _) (Ok.no ?_ (qr (l.rfinest r f) (qr (JC _ _ _) (Ok.no (by rw[dt ⟨C,D⟩];rfl) (JT f (Vc (by rw[h.kind];rfl) (qr (rleaves f j c) ?_)))))));have H:((AW L).any λw=>cv L a w==cv L a v)=ν:=List.any_eq_true.2 ⟨v,o,Zbd _⟩;rw[H];rfl;refine Wf (λq=>q.2) (Ξ (AW L)) (λk q=>(q.1=cv L b v)\/(q.1=-1/\v∉(AW L).take k)) 0 (Zag _) rfl (.inr ⟨rfl,zs⟩) z0 (λrec q z d=>?_) λrec k q u z d ih=>?_;unfold Qe;rw[z];rw[Zaj]at d;refine Ok.f (KK ?_);rw[d.resolve_right λh=>h.2 o];have y:=Zae u;unfold Qe;rw[z];refine Ok.t (JT u (qr (GD l r f h j c a0 t y) (Ok.br (λe=>ih _ BE ?_) λe=>JT u (qr (GD l r f h j c C D y) (Ok.no ?_ (ih _ BE (.inl ?_)))))));rcases d with d|⟨h1,h2⟩;exact .inl d;refine .inr ⟨h1,λp=>?_⟩;rw[Zab u]at p;rcases List.mem_append.1 p with A|A;exact h2 A;rw[<-List.mem_singleton.1 A]at e;rw[bne_self_eq_false]at e;cases e;have es:=g _ y (bne_eq_false_iff_eq.1 e);rw[es];rcases d with d|⟨h1,_⟩;rw[d,bne_self_eq_false];cases decide (cv L b v>=0)<;>rfl;rw[h1];rfl;exact g _ y (bne_eq_false_iff_eq.1 e)
theorem zh{L}(b:L∈Ym):∃v,v∈AW L:=by
 have h:(Ym.all λL=>!(AW L).isEmpty)=ν:=by decide +kernel
 have:=List.all_eq_true.1 h L b
 cases e:AW L with
 | nil=>rw[e]at this;cases this
 | cons a t=>exact⟨a,zs⟩
theorem pm(o:DS s)(hx:GX s x){i}(H:1<=i)I(h:Iy s.A[i]){b r}(P:0<=b)(Q:b<=fin s i)(a:LsV s i b r)(X:0<=r)(c:one x.I i r){j}(J:j<Ξ x.G):∃z,Bg s x j i b=θ (z,ν)/\Cz s x j i b=θ (z,ν):=by
 have Y:=hx.picks_len o;have t:AZ x.I (λa0=>G8 a0 i)=θ (Gb (λp=>p.B==(i:Int)) x.I):=JY (λ_ _=>rfl) z0;have hr:=hx.rows _ (Zae J);have⟨L,K,u⟩:=o.clist h
 cases hff:x.I.findIdx? (λp=>p.B==(i:Int))with
 | none=>
   have y:=List.findIdx?_eq_none_iff.1 hff
   have A:r<=0:=by
    rcases c with h|⟨p,M,h1,_⟩;exact h;have:=y p M;rw[h1,Zbd]at this;cases this
   have⟨v,R⟩:=zh K;have B:=au h K u R;have hf:=o.fin_ok H I;have Z:CV s s.A[i] 0 v=0:=by rw[Kl h u];exact rl K R
   have F:=a I 0 (Zbh _) A z0 v B;have G:=ia o H I h (Zbh _) z0 P Q a A B;rw[Z]at F G;refine⟨CV s s.A[i] b v,Ok.val ?_,Ok.val ?_⟩;unfold Bg;apply qr t;unfold Gb;rw[hff];exact Vc rfl (qr F (KK rfl));unfold Cz;refine Ok.no ?_ ?_;rw[df,df,df,df];rfl;refine Wf (λq=>q) (Ξ x.I) (λ_ _=>True) 0 (Zag _) rfl trivial z0 (λrec q n N=>?_) λrec m q d n N ih=>?_;rw[FJ,n];rw[Bl];exact qr G (KK rfl);rw[FJ,n];rw[AK];exact JT d (Ok.no (y _ (Zae d)) (ih _ BE trivial))
 | some k=>
   have⟨f,g,C⟩:=List.findIdx?_eq_some_iff_getElem.1 hff;have g:x.I[k].B=i:=by simpa using g
   have⟨S,h1,h2,h3,T,h5⟩:=hx.picks _ (Zae f);obtain rfl:S=i:=z0;have l:k+1<Ξ x.G[j]:=z0;have⟨U,D,w,_,g1,V,W⟩:=hr.2.2.2 k _ _ (Zaa f) (Zaa l);obtain rfl:U=S:=z0
   have A:r<=x.I[k].H:=by
    rcases c with h|⟨p,M,h1,O⟩;omega;obtain⟨m,d,rfl⟩:=Zbi M;have E:=List.pairwise_iff_getElem.1 hx.order;rcases Zed m k with q|q|q;have:=E m k d f q;omega;subst q;exact O;have:=E k m f d q;omega
   have F:=a D _ T A z0 w V;have G:=ia o H D h T z0 P Q a A V;refine⟨CV s s.A[U] b w,Ok.val ?_,Ok.val ?_⟩;unfold Bg;apply qr t;unfold Gb;rw[hff];refine Ok.no (Zap (by show ¬(k:Int)<0;omega)) (JT f (JT J ?_));rw[BE];apply JT l;rw[W];exact qr F (KK rfl);unfold Cz;refine Ok.no ?_ ?_;rw[df,df,df,df];rfl;refine Wf (λq=>q) (Ξ x.I) (λm _=>m<=k) 0 (Zag _) rfl (Zag _) z0 (λrec q n N=>z0) λrec m q d n N ih=>?_;rw[FJ,n];rw[AK];by_cases e:m=k;subst e;refine JT f (Vc (by rw[g];exact Zbd _) (JT f (JT J ?_)));rw[BE];apply JT l;rw[W];exact qr G (KK rfl);have:=C m z0;exact JT d (Ok.no (by simpa using this) (ih _ BE z0))
def Abg:(Ym.all λL=>(List.range (KF L).toNat).all λl=>Ex L l==Mk L l&&(Ex L l).isSome&&Ξ ((Ex L l).getD [])<=20)=ν:=by decide +kernel
def UC(s:Aa)(p:Ab):=(((idx s.A p.B).bind λc=>idx s.S c.Al).bind λL=>Ex L p.H).getD []
def kO(j:DS s){p}(h:yG s p.B/\XK s p):∃(i:Nat)(b:i<Ξ s.A)(L:Am),p.B=i/\idx s.S s.A[i].Al=θ L/\Ex L p.H=θ (UC s p)/\Mk L p.H=θ (UC s p)/\Ξ (UC s p)<=20:=by
 have⟨⟨i,b,o,e,f⟩,k,_,_,q,l,r⟩:=h;obtain rfl:i=k:=z0;have⟨L,m,a⟩:=j.clist f;have t:=ZX b f a;have h1:=List.all_eq_true.1 (List.all_eq_true.1 Abg L m) p.H.toNat (List.mem_range.2 z0);rw[Zdh l,Zax,Zax,Zdk]at h1;have⟨⟨h2,n⟩,g⟩:=h1;have⟨A,c⟩:=Option.isSome_iff_exists.1 n
 have d:UC s p=A:=by
  unfold UC;rw[e,AY b,Zad,a,Zad,c];rfl
 rw[c]at h2 g;exact⟨i,b,L,e,a,by rw[c,d],by rw[<-h2,d],by rw[d];exact Zal g⟩
def LX:List (List Int)->List (List Int)| []=>[[]]| B::Bs=>B.flatMap λc=>(LX Bs).map (c :: ·)
theorem jX:∀{Bs}{y},y∈LX Bs->Ξ y=Ξ Bs
 | [],y,h=>by rw[List.mem_singleton.1 h];rfl
 | B::Bs,y,h=>by
   have⟨c,_,h⟩:=List.mem_flatMap.1 h;obtain⟨z,a,rfl⟩:=List.mem_map.1 h;rw[Zbq,jX a];rfl
def R3(acc:List (List Int))(B:List Int):=acc.flatMap λy=>B.map λc=>y++[c]
theorem rA:∀(Bs a:List (List Int)),Bs.foldl R3 a=a.flatMap λy=>(LX Bs).map (y++·)
 | [],a=>by simp[LX]
 | B::Bs,a=>by
   rw[List.foldl_cons,rA Bs];rw[show LX (B::Bs)=B.flatMap λc=>(LX Bs).map (c :: ·)from rfl];unfold R3;rw[List.flatMap_assoc];refine congrArg (λf=>List.flatMap f a) (funext λy=>?_);rw[List.flatMap_map,List.map_flatMap];refine congrArg (λf=>List.flatMap f B) (funext λc=>?_);rw[Zfo];refine congrArg (λf=>List.map f (LX Bs)) (funext λz=>?_);simp
def Mg Bs:Bs.foldl R3 [[]]=LX Bs:=by
 rw[rA];simp
def Hb:List (List Int)->Nat| []=>1| B::Bs=>Ξ B*Hb Bs
theorem Ta:∀Bs:List (List Int),Ξ (LX Bs)=Hb Bs
 | []=>rfl
 | B::Bs=>by
   unfold LX Hb;rw[List.length_flatMap];simp[Zac,Ta Bs]
   induction B with
   | nil=>simp
   | cons b B ih=>rw[Zas,List.sum_cons,ih,Zbq,Nat.succ_mul];omega
theorem Yk b B:Ξ (R3 b B)=Ξ b*Ξ B:=by
 unfold R3;rw[List.length_flatMap];simp[Zac]
 induction b with
 | nil=>simp
 | cons a r ih=>rw[Zas,List.sum_cons,ih,Zbq,Nat.succ_mul];omega
def Di s(dims:List Ab):=dims.map λp=>(-1)::UC s p
theorem aY s:∀a:List Ab,1<=Hb (Di s a)
 | []=>Zam _
 | p::r=>by
   show 1<=Ξ (_::UC s p)*Hb (Di s r);have:=aY s r;exact Nat.mul_pos zs this
theorem kk s:∀a k,Hb (Di s (a.take k))<=Hb (Di s a)
 | [],k=>by simp
 | p::r,0=>aY s (p::r)
 | p::r,k+1=>by
   show _*Hb (Di s (r.take k))<=_*Hb (Di s r);exact Zeh _ (kk s r k)
def zj(y:DS s){a}(hd:Ξ a<=3/\∀p∈a,yG s p.B/\XK s p):Lr s a=θ (if Hb (Di s a)>2000 then([],ξ)else(LX (Di s a),ν)):=by
 apply Ok.val;unfold Lr;refine qr (x:=[[]]) rfl (Wf (λq=>q.2) (Ξ a) (λk q=>q.1=(Di s (a.take k)).foldl R3 [[]]/\Hb (Di s (a.take k))<=2000) 0 (Zag _) rfl ⟨rfl,by show 1<=2000;omega⟩ z0 (λrec q m ⟨h1,h2⟩=>?_) λrec k q n m ⟨h1,h2⟩ ih=>?_);rw[Zaj]at h1 h2;unfold Kv;rw[m,h1,Mg,Zah z0];exact Ok.f (KK rfl);have⟨i,A,L,B,C,D,_,N⟩:=kO y (hd.2 _ (Zae n))
 have e:Di s (a.take (k+1))=Di s (a.take k)++[(-1)::UC s a[k]]:=by
  unfold Di;rw[Zab n,Zay];rfl
 have b:(Di s (a.take (k+1))).foldl R3 [[]]=R3 q.1 ((-1)::UC s a[k]):=by
  rw[e,List.foldl_append,<-h1];rfl
 have E:Ξ q.1=Hb (Di s (a.take k)):=by rw[h1,Mg,Ta]
 have o:Hb (Di s (a.take (k+1)))=Ξ q.1*(Ξ (UC s a[k])+1):=by
  rw[<-Ta,<-Mg,b,Yk];rfl
 have O:Ξ q.1*(Ξ (UC s a[k])+1)<=2000*21:=Zec z0 z0;have f:Ξ ([(-1)]++UC s a[k])=Ξ (UC s a[k])+1:=zs
 have F:i64.wrap (Ξ q.1*(Ξ ([(-1)]++UC s a[k]):Int))=(Hb (Di s (a.take (k+1))):Nat):=by
  rw[f,<-Zez,o,wr]
 have G:=kk s a (k+1);unfold Kv;rw[m];refine Ok.t (JT n ?_);rw[B];refine JT A (qr C (qr D (Ok.rm zv ?_)));rw[F];refine bt (λH=>KK (by rw[Zai z0])) λI=>?_;refine Wf (λr=>r.1) (Ξ q.1) (λj r=>r.2=R3 (q.1.take j) ((-1)::UC s a[k])) 0 (Zag _) rfl rfl z0 (λg r hr h=>?_) λg j r u hr h ih2=>?_;rw[Zaj]at h;unfold Kw;rw[hr];exact Ok.f (ih _ BE ⟨by rw[b];exact h,z0⟩)
 have J:Ξ r.2<=42000:=by
  rw[h,Yk,Zan];have:(min j (Ξ q.1))*Ξ ((-1)::UC s a[k])<=Ξ q.1*(Ξ (UC s a[k])+1):=Zec z0 (Zam _);omega
 unfold Kw;rw[hr];refine Ok.t (JT u ?_)
 have K:Ξ q.1[j]<=10:=by
  have M:q.1[j]∈LX (Di s (a.take k)):=by rw[<-Mg,<-h1];exact Zae u
  rw[jX M];unfold Di;rw[Zac,Zan];omega
 refine Wf (λz=>z.1) (Ξ ([(-1)]++UC s a[k])) (λt z=>z.2=r.2++(([(-1:Int)]++UC s a[k]).take t).map λc=>q.1[j]++[c]) 0 (Zag _) rfl zs z0 (λl z v d=>?_) λl t z w v d ih3=>?_;rw[Zaj]at d;unfold Kx;rw[v];refine Ok.f (ih2 _ BE ?_);show z.2=_;rw[d,h,Zab u];unfold R3;rw[Zcw];simp;unfold Kx;rw[v];refine Ok.t (JT w (qr (x:=q.1[j]) (by unfold A0;rw[II z0];rfl) (Ok.rm zv (Ok.rm ?_ (ih3 _ BE ?_)))));rw[d,Zar,Zac,Zan];simp;omega;show z.2++_=_;rw[d,Zab w,Zay,Zcn];rfl
def rk{α}(a:α)l:Ia (a::l) 1 ((Ξ (a::l):Nat))=l:=by
 unfold Ia;simp
theorem rO(y:DS s):∀dims d,(∀p∈dims,yG s p.B/\XK s p)->Ξ dims<d->Ξ dims<=10->Hb (Di s dims)<=100000->NF d s dims=θ (LX (Di s dims))
 | dims,0,_,h,_,_=>by omega
 | [],d+1,_,_,_,_=>rfl
 | p::r,d+1,h,hd,h10,hp=>by
   show My d (NF d) s (p::r)=_;have⟨i,A,L,B,C,G,D,H⟩:=kO y (h p zs);have E:Di s (p::r)=((-1)::UC s p)::Di s r:=rfl;have n:Hb (Di s (p::r))=(Ξ (UC s p)+1)*Hb (Di s r):=rfl;have F:Hb (Di s r)<=Hb (Di s (p::r)):=by rw[n];exact Zfr _ z0
   have ih:=rO y r d (λq f=>h q (by simp[f])) (by simp at hd;omega) (by simp at h10;omega) z0;have o:=Ta (Di s r);apply Ok.val;unfold My;refine Ok.no ?_ (dg (by rw[Zbq];omega) ?_);rw[Zbt];rw[Zbq];omega;rw[rk];refine qr ih (qr (x:=p) rfl ?_);rw[B];refine JT A (qr C (qr (x:=p) rfl (qr D (Ok.rm zv ?_))));rw[E];have t:LX (((-1)::UC s p)::Di s r)=([(-1)]++UC s p).flatMap λc=>(LX (Di s r)).map (c :: ·):=rfl
   have b:∀k,k<=Ξ (UC s p)+1->(Ξ ((([(-1)]++UC s p).take k).flatMap λc=>(LX (Di s r)).map (c :: ·))<=100000):=λk g=>by
    rw[List.length_flatMap];simp only[Zac,o];rw[List.map_const',List.sum_replicate_nat,Zan];have:min k (Ξ ([(-1)]++UC s p))*Hb (Di s r)<=(Ξ (UC s p)+1)*Hb (Di s r):=Zcx _ zv;omega
   refine Wf (λq=>q.1) (Ξ ([(-1)]++UC s p)) (λk q=>q.2=(([(-1)]++UC s p).take k).flatMap λc=>(LX (Di s r)).map (c :: ·)) 0 (Zag _) rfl rfl zv (λrec q f l=>?_) λrec k q g f l ih1=>?_
   rw[Zaj]at l;unfold ON;rw[f];exact Ok.f (KK (by rw[l,t]));unfold ON;rw[f];have u:k+1<=Ξ (UC s p)+1:=by simp at g;omega
   have e:=b (k+1) u;rw[Zab g,Zcw,Zar]at e;rw[Zcf,Zeo,Zcq,Zac]at e;refine Ok.t (Wf (λz=>z.1) (Ξ (LX (Di s r))) (λj z=>z.2=q.2++((LX (Di s r)).take j).map (([(-1)]++UC s p)[k] :: ·)) 0 (Zag _) rfl zs z0 (λm z v a=>?_) λm j z w v a ih2=>?_)
   rw[Zaj]at a;unfold OP;rw[v];refine Ok.f (ih1 _ BE ?_);show z.2=_;rw[a,l,Zab g,Zcw];simp;unfold OP;rw[v]
   have hy:Ξ (LX (Di s r))[j]=Ξ r:=by
    rw[jX (Zae w)];unfold Di;rw[Zac]
   refine Ok.t (JT g (JT w (Ok.rm ?_ (Ok.rm ?_ (ih2 _ BE ?_)))));rw[hy];simp at h10 ⊢;omega;rw[a,l,Zar,Zac,Zan];simp;simp at e;omega;show z.2++_=_;rw[a,Zab w,Zay,Zcn];rfl
def lA(o c:List Int):=(List.range' 0 (Ξ c)).all λj=>(c.getD j 0==-1)||(c.getD j 0==o.getD j 0)
def wO{o c}(h:Ξ c<=Ξ o)(b:Ξ o<=1000):DL o c=θ (lA o c):=by
 unfold DL lA;rw[ku (Ξ c) (λj=>!((c.getD j 0==-1)||(c.getD j 0==o.getD j 0))) (A:=θ ν) (B:=θ ξ) (λrec=>by unfold J1;rw[Bl]) λrec i a=>?_,Zgu]
 cases(List.range' 0 (Ξ c)).any λj=>!((c.getD j 0==-1)||(c.getD j 0==o.getD j 0))<;>rfl
 unfold J1;rw[AK,AY a,Zad,BE,BQ a,BQ (by omega:i<Ξ o),AY (by omega:i<Ξ o)];simp[bne,Zad]
 cases(c[i]==-1)<;>cases(c[i]==o[i]'z0)<;>rfl
abbrev Ln:=List Int×Int×Int
def jh b c(l:Ln):=bif lA l.1 c.X then BD c l.2.1 l.2.2 b else c
def oZ c k v b:(BD c k v b).X=c.X/\(BD c k v b).G=c.G++[k]:=by
 unfold BD
 cases b
 exact⟨rfl,rfl⟩;rw[Zav]
 cases decide (c.A7<max v (i64.wrap (-v)))<;>cases decide (c.Ba<max v (i64.wrap (-v)))<;>exact⟨rfl,rfl⟩
def ky b c l:(jh b c l).X=c.X/\Ξ (jh b c l).G<=Ξ c.G+1:=by
 unfold jh
 cases lA l.1 c.X
 exact⟨rfl,by show Ξ c.G<=_;omega⟩;have⟨h1,h2⟩:=oZ c l.2.1 l.2.2 b;exact⟨h1,by rw[Zav,h2,Zar];simp⟩
theorem rf b l(a:Ξ l.1<=1000):∀cs:List Ap,(∀c∈cs,Ξ c.X<=Ξ l.1/\Ξ c.G<=1000000)->FO l.1 l.2.1 l.2.2 b cs=θ (cs.map λc=>jh b c l)
 | [],_=>rfl
 | c::r,h=>by
   have⟨h1,h2⟩:=h c zs;unfold FO;rw[dt h2,Zav,wO h1 a,Zad,rf b l a r λc d=>h c (by simp[d])];rfl
def xH(c:Ap)(k v:Int):Ap:={ X:=c.X,Z:=i64.wrap (c.Z+1),Bc:=i64.wrap (c.Bc+v),Be:=i64.wrap (c.Be+(if i64.wrap (0-v)>v then i64.wrap (0-v)else v)),A7:=(if(if i64.wrap (0-v)>v then i64.wrap (0-v)else v)>c.A7 then(if i64.wrap (0-v)>v then i64.wrap (0-v)else v)else c.A7),Ba:=(if(if i64.wrap (0-v)>v then i64.wrap (0-v)else v)>c.A7 then(if c.A7>c.Ba then c.A7 else c.Ba)else(if(if i64.wrap (0-v)>v then i64.wrap (0-v)else v)>c.Ba then(if i64.wrap (0-v)>v then i64.wrap (0-v)else v)else c.Ba)),G:=c.G++[k] }
def IV b(c:Ap):=(b=ν->c.Ba<=c.A7)/\(b=ξ->c.Bc=0/\c.Be=0/\c.A7=0/\c.Ba=0)
theorem z9{b}{c}(h:IV b c)k{v}(f:b=ξ->v=0):xH c k v=BD c k v b/\IV b (BD c k v b):=by
 have⟨codes,n,o,q,a,d,j⟩:=c
 cases b with
 | false=>
   have⟨h1,h2,l,m⟩:=h.2 rfl;have f:=f rfl;simp only at h1 h2 l m;subst h1;subst h2;subst l;subst m;subst f;exact⟨rfl,(λh=>by cases h),λ_=>⟨rfl,rfl,rfl,rfl⟩⟩
 | true=>
   have h1:d<=a:=h.1 rfl
   have p:max v (i64.wrap (-v))=(if i64.wrap (0-v)>v then i64.wrap (0-v)else v):=by
    rw[Int.zero_sub,Int.max_def];split<;>split<;>omega
   unfold xH BD;rw[p,Zav];generalize (if i64.wrap (0-v)>v then i64.wrap (0-v)else v)=A;by_cases e:a<A;rw[Zak e,Zai e,Zai e];refine⟨?_,λ_=>by show a<=A;omega,λh=>by cases h⟩;by_cases g:a>d;rw[Zai g];rfl;rw[Zah g,show d=a by omega];rfl;rw[Zap e,Zah z0,Zah z0];by_cases i:d<A;rw[Zak i,Zai i];exact⟨rfl,λ_=>by show A<=a;omega,λh=>by cases h⟩;rw[Zap i,Zah z0];exact⟨rfl,λ_=>h1,λh=>by cases h⟩
def Acx{b}{c}(h:IV b c){l}(a:b=ξ->l.2.2=0):jh b c l=(bif lA l.1 c.X then xH c l.2.1 l.2.2 else c)/\IV b (jh b c l):=by
 have⟨h1,h2⟩:=z9 h l.2.1 a;unfold jh
 cases lA l.1 c.X
 exact⟨rfl,h⟩;exact⟨h1.symm,h2⟩
def zC(codes:List Int):Ap:={ X:=codes,Z:=0,Bc:=0,Be:=0,A7:=0,Ba:=0,G:=[] }
def Aer b codes:IV b (zC codes):=⟨λ_=>Zbh _,λ_=>⟨rfl,rfl,rfl,rfl⟩⟩
theorem Zi b:∀(ls:List Ln) c,(ls.foldl (jh b) c).X=c.X/\Ξ (ls.foldl (jh b) c).G<=Ξ c.G+Ξ ls
 | [],c=>⟨rfl,zs⟩
 | l::r,c=>by
   have⟨h1,h2⟩:=Zi b r (jh b c l);have⟨a,d⟩:=ky b c l;exact⟨h1.trans a,by rw[List.foldl_cons,Zbq];omega⟩
def wX(l:Ln):C6:={ B7:=l.2.1,Bb:=l.2.2,B8:=l.1 }
def Abl{b}{ls:List Ln}{codes}(K:Ξ ls<=1000)(L:Ξ codes<=10)(h:∀l∈ls,Ξ l.1=Ξ codes/\(b=ξ->l.2.2=0)):Tv (ls.map wX) codes=θ (ls.foldl (jh b) (zC codes)):=by
 apply Ok.val;unfold Tv;have y:Ξ (ls.map wX)=Ξ ls:=Zac ..;refine Wf (λq=>q.1) (Ξ (ls.map wX)) (λk q=>IV b ((ls.take k).foldl (jh b) (zC codes))/\{ X:=codes,Z:=q.2.1,Bc:=q.2.2.1,Be:=q.2.2.2.1,A7:=q.2.2.2.2.1,Ba:=q.2.2.2.2.2.1,G:=q.2.2.2.2.2.2 }=(ls.take k).foldl (jh b) (zC codes)) 0 (Zag _) rfl ⟨Aer b codes,rfl⟩ z0 (λrec q A ⟨_,n⟩=>?_) λrec k q E A ⟨F,n⟩ ih=>?_;rw[y,Zaj]at n;unfold Qs YL;rw[A];exact Ok.f (KK n);have p:k<Ξ ls:=z0;have⟨H,I⟩:=h _ (Zae p);have d:idx (ls.map wX) k=θ (wX ls[k]):=by rw[AY E,Zbu]
 have r:=Zi b (ls.take k) (zC codes)
 have J:Ξ q.2.2.2.2.2.2<=1000:=by
  have e:=congrArg (λc:Ap=>Ξ c.G) n;have:=r.2;rw[Zan]at this;have z:Ξ (zC codes).G=0:=rfl;simp only at e;omega
 have⟨f,o⟩:=Acx F (l:=ls[k]) I
 have a:(ls.take (k+1)).foldl (jh b) (zC codes)=jh b ((ls.take k).foldl (jh b) (zC codes)) ls[k]:=by
  rw[Zab p,List.foldl_append];rfl
 unfold Qs;rw[A]
 have u:Ok (Qu rec k q.2.1 q.2.2.1 q.2.2.2.1 q.2.2.2.2.1 q.2.2.2.2.2.1 q.2.2.2.2.2.2 (ls.map wX) (lA ls[k].1 codes)) (·=ls.foldl (jh b) (zC codes)):=by
  unfold Qu;have m:((ls.take k).foldl (jh b) (zC codes)).X=codes:=r.1;rw[m]at f;refine Ok.br (λe=>ih _ BE ⟨by rw[a];exact o,?_⟩) λe=>?_;have e:lA ls[k].1 codes=ξ:=by simpa using e
  rw[a,f,e];exact n;have e:lA ls[k].1 codes=ν:=by simpa using e
  rw[e,Zav,<-n]at f;refine qr d (Ok.rm zv (qr d (qr d (qr d (bt (λg=>ih _ BE ⟨by rw[a];exact o,?_⟩) λg=>ih _ BE ⟨by rw[a];exact o,?_⟩)))));rw[a,<-n,f];unfold xH;have B:(if i64.wrap (0-ls[k].2.2)>ls[k].2.2 then i64.wrap (0-ls[k].2.2)else ls[k].2.2)>q.2.2.2.2.1:=g;simp only[Zai B];rfl;rw[a,<-n,f];unfold xH;have B:¬(if i64.wrap (0-ls[k].2.2)>ls[k].2.2 then i64.wrap (0-ls[k].2.2)else ls[k].2.2)>q.2.2.2.2.1:=g;simp only[Zah B];rfl
 refine Ok.t (Wf (λz=>z.2) (Ξ codes) (λj z=>z.1=(List.range' 0 j).all λj=>(codes.getD j 0==-1)||(codes.getD j 0==ls[k].1.getD j 0)) 0 (Zag _) rfl rfl z0 (λv z C i=>?_) λv j z w C i ih2=>?_);unfold Qt;rw[C];refine Ok.f ?_;rw[i];exact u;have hr:∀t:Nat,List.range' 0 (t+1)=List.range' 0 t++[t]:=λt=>by rw[List.range'_concat];simp
 unfold Qt;rw[C];refine Ok.t (Ok.br (λe=>JT w (Ok.br (λD=>ih2 _ BE ?_) λD=>JT w (qr d (JT (by show j<Ξ ls[k].1;omega) (ih2 _ BE ?_))))) λe=>ih2 _ BE ?_);rw[hr,Zfw,<-i,e];rw[List.all_cons,List.all_nil,BQ w,D];rfl;rw[hr,Zfw,<-i,e];rw[List.all_cons,List.all_nil,BQ w,D,BQ (by omega:j<Ξ ls[k].1)];simp[wX];rw[hr,Zfw,<-i,e];rfl
section
section
variable {s:Aa} {x:Ad}
structure TB(s:Aa)(dims:List Ab)(m:Int)(c:Ae):Prop where
 len:1<=Ξ dims/\Ξ dims<=3
 dims:DQ s dims
 m:m=-1\/MS s m
 cond:GC s c
def Adj(n:DS s){a}{m}{c}(h:TB s a m c){d}(hd:42<=d):Pg d s a m c=θ 0:=by
 have w:CQ { data:=#[116] }=θ ν:=by decide +kernel
 have⟨⟨K,L⟩,v,y,z⟩:=h;have f:Ok (bif(decide ((Ξ ([]:List Int))>0))then θ (11:Int)else(FQ { Op:=0,B:=0,Af:=0,C:=0,E:=0,D:=[] }).bind λo=>bif(!o)then θ 11 else θ 0) (·=0):=Ok.no rfl (qr (x:=ν) rfl (Ok.no rfl (KK rfl)))
 have b:∀{i:Nat}j,Ch s i=θ s.A[i].Kind:=λ{i} j=>by
  apply Ok.val;unfold Ch;exact Ok.no (by grind) (JT j (KK rfl))
 apply Ok.val;unfold Pg Hv;refine qr (x:=0) (Ok.val (qr n.check (Ok.no rfl (qr w (Ok.no rfl (Ok.no rfl (qr (z.check n z0) (Ok.no rfl (Vc rfl (qr (x:=0) (Ok.val ?_) (KK rfl))))))))))) (KK rfl);unfold Ko;dsimp only;refine Ok.no (by grind) (Wf (λq=>q) (Ξ a) (λ_ _=>True) 0 (Zag _) rfl trivial z0 (λrec q g _=>?_) λrec k q p g _ ih=>?_);have g:=g;unfold Hw K8;dsimp only;rw[g];refine Ok.f (Ok.br (λe=>?_) λ_=>f);have⟨i,j,A,l,F⟩:=y.resolve_left (λl=>by rw[l]at e;cases e);show Ok ((Ch s m).bind _) _;rw[l];exact qr (b j) (Ok.no (by rw[F.kind];rfl) f);have g:=g;have⟨r,G⟩:=v.1 _ (Zae p);have⟨i,j,A,t,H⟩:=r;have⟨e,I,_,l⟩:=cz n a[k];have J:=l.2 G;subst J;have u:AD (Ia a 0 k) (λa0=>Hx a0 a[k])=θ ((Ia a 0 k).any λx=>x.B==a[k].B):=eF _ (λ_ _=>rfl) (by rw[I0,Zan];omega);unfold Hw;dsimp only;rw[g];refine Ok.t (JT p (qr I (Ok.no rfl ?_)));show Ok ((Ch s a[k].B).bind _) _;refine qr (x:=2) (by rw[t,b j,H.kind]) (Ok.no rfl (dg (by grind) (qr u (Ok.no ?_ (ih _ BE trivial)))));rw[I0];exact(iu _).2 (v.dup p)
def yb(f:DS s){a}{m}{c}(h:TB s a m c){d}(hd:42<=d):Ei d s { J:=({ data:=#[116] }:ByteArray),Kind:=1,Bu:=c,V:=a,Ah:=m,A0:=[],Y:=({ Op:=0,B:=0,Af:=0,C:=0,E:=0,D:=[] }:Ae) }=θ 0:=by
 have i:D8 { data:=#[116] }=θ ν:=by decide +kernel
 have⟨j,k,e,l⟩:=h;obtain⟨d,rfl⟩:∃z,d=z+1:=⟨d-1,z0⟩;apply Ok.val;unfold Ei;refine qr f.rcheck (Ok.no rfl (qr i (Ok.no rfl (Ok.no rfl (qr (l.rcheck f z0) (Ok.no rfl (qr (x:=0) (Ok.val ?_) (Ok.no rfl (Ok.no rfl (Vc rfl (qr (x:=ν) rfl (Ok.no rfl (KK rfl)))))))))))));unfold Ra;refine Ok.bind (IP f m) λb n=>Vc rfl (Ok.bind (wk f a) λz o=>?_);have g:=o.2 ⟨j,k⟩;subst g;refine Ok.no rfl (Ok.no ?_ (KK rfl));grind
def bY s x(dims:List Ab)(j:Nat):=dims.map λp=>((Bg s x j p.B p.H).getD (0,false)).1
def vk(s:Aa)(x:Ad)(dims:List Ab)(m:Int)(j:Nat):Ln:=(bY s x dims j,hd (x.G.getD j []),if 0<=m then(KV s x m.toNat (fin s m.toNat) j).1 else 0)
def KD2 s(x:Ad)(dims:List Ab):=∀p∈dims,∀j,j<Ξ x.G->∃z,Bg s x j p.B p.H=θ (z,ν)/\Cz s x j p.B p.H=θ (z,ν)
def pt(c:DS s)(hx:GX s x){a}(h:∀p∈a,yG s p.B/\XK s p)(n:∀p∈a.map (lsA s),one x.I p.B p.H):KD2 s x a:=by
 intro p d j o;have⟨⟨i,f,g,e,k⟩,q,_,_,y,l,m⟩:=h p d;obtain rfl:i=q:=z0;have⟨r,h1,_,t,_,u⟩:=gq c g f k l m;have b:=n _ (List.mem_map.2 ⟨p,d,rfl⟩);have v:(lsA s p).H=r:=by unfold lsA;rw[e,h1];rfl
 have w:(lsA s p).B=i:=e;rw[v,w]at b;rw[e];exact pm c hx g f k l m u t b o
theorem xz{j}(b:j<Ξ x.G):∀{a},KD2 s x a->J2 s x j a=θ (bY s x a j)
 | [],_=>rfl
 | p::r,h=>by
   have⟨z,h1,_⟩:=h p zs j b;unfold J2;rw[h1,Zad,xz b λq c=>h q (by simp[c])];unfold bY;grind
def Aad(c:DS s)(hx:GX s x){m}(d:m=-1\/MS s m){j}(f:j<Ξ x.G):Ls s x m j=θ (if 0<=m then(KV s x m.toNat (fin s m.toNat) j).1 else 0):=by
 unfold Ls;by_cases a:0<=m;have g:=d.resolve_left z0;have⟨e,h,i,b⟩:=g.nat;have:=Rl c hx h i b (l:=[j]) zs (λk n=>by rw[List.mem_singleton.1 n];exact f);rw[<-e]at this;rw[dt a,Zav,Zai a,show[(j:Int)]=ints [j]from rfl,this];rfl;grind
theorem xY(k:DS s)(hx:GX s x){a}(g:Ξ a<=3)(l:KD2 s x a){m}(n:m=-1\/MS s m):∀L cs,(∀j∈L,j<Ξ x.G)->(∀c∈cs,Ξ c.X<=Ξ a/\Ξ c.G+Ξ L<=1000)->GU s x a m (ints L) cs=θ (cs.map λc=>(L.map (vk s x a m)).foldl (jh (0<=m)) c)
 | [],cs,_,_=>by
   show θ cs=θ (cs.map λc=>c);rw[List.map_id']
 | j::L,cs,hj,hc=>by
   have b:=hj j zs
   have h:x.G[j]≠[]:=λe=>by
    have:=(hx.rows _ (Zae b)).1;grind
   show GU s x a m ((j:Int)::ints L) cs=_;unfold GU;rw[Aad k hx n b,Zad,xz b l,Zad,AY b,Zad,FV h,Zad];have o:Ξ (bY s x a j)=Ξ a:=Zac ..
   have:=rf (decide (0<=m)) (vk s x a m j) (by show(Ξ (bY s x a j))<=_;omega) cs λc d=>by
    have⟨h1,h2⟩:=hc c d;exact⟨by show _<=Ξ (bY s x a j);omega,z0⟩
   unfold vk at this;rw[BQ b]at this;rw[this,Zad,xY k hx g l n L _ (λj i=>hj j (by simp[i])) λc d=>?_];rw[Zfo];refine congrArg θ (Zck λc _=>?_);rw[Zas,List.foldl_cons];unfold vk;rw[BQ b];rfl;obtain⟨c',f,rfl⟩:=List.mem_map.1 d;have⟨h1,h2⟩:=hc c' f;have⟨p,q⟩:=ky (decide (0<=m)) c' (bY s x a j,hd x.G[j],if 0<=m then(KV s x m.toNat (fin s m.toNat) j).1 else 0);grind
def bn(m:Int):=if 0<=m then[m]else[]
def sA{m}(b:m=-1\/MS s m):Ξ (bn m)<=10/\∀v∈bn m,MS s v:=by
 unfold bn;grind
def pj s x dims m(L:List Nat):=(LX (Di s dims)).map λcodes=>(L.map (vk s x dims m)).foldl (jh (0<=m)) (zC codes)
def uV(s:Aa)(x:Ad)(dims:List Ab)(m:Int)(L:List Nat):BL×Int:=if Hb (Di s dims)>2000 then({ V:=[],Ah:=0,Av:=[] },1)else({ V:=dims,Ah:=m,Av:=pj s x dims m L },0)
def Aca(i:DS s)(hx:GX s x){a}{m}{c}(h:TB s a m c)(H:KD2 s x a){d}(hd:42<=d){e}(he:e={ Op:=10,K:=0,J:=ByteArray.empty,B:=m,A:=[],V:=a,Q:=c,Y:={ Op:=0,B:=0,Af:=0,C:=0,E:=0,D:=[] },D:=[] })(I:US d s x e)(l:∀p∈cA s c,one x.I p.B p.H):
 Ik d s x a m c=θ (uV s x a m (ep d s x c (bn m))):=by
 subst he;have⟨⟨X,y⟩,M,z,n⟩:=id h;have⟨_,⟨Z,N,O⟩,_,_⟩:=I;have⟨P,R⟩:=sA z;have f:=aV i hx n l (d:=d) z0 R P;have S:=Uq hx d c (bn m);have o:=λj (T:j∈ep d s x c (bn m))=>(Ur T).1;generalize ep d s x c (bn m)=L at f S o;apply Ok.val;unfold Ik uV;refine qr (hx.check i) (Ok.no rfl (qr (Adj i h hd) (Ok.no rfl (qr N (qr O (Ok.no rfl (qr (zj i ⟨y,M.1⟩) ?_)))))));by_cases g:Hb (Di s a)>2000;rw[Zai g,Zai g];exact Vc rfl (KK rfl);rw[Zah g,Zah g];refine Ok.no rfl (qr (x:=a) (by unfold CB;rw[II z0];rfl) ?_);have U:=Ta (Di s a);have F:=aY s a;refine Wf (λq=>q.1) (Ξ (LX (Di s a))) (λk q=>q.2=((LX (Di s a)).take k).map zC) 0 (Zag _) rfl rfl z0 (λrec q u t=>?_) λrec k q r u t ih=>?_;rw[Zaj]at t;unfold LQ;dsimp only;rw[u,t]
 have W:∀c∈(LX (Di s a)).map zC,Ξ c.X<=Ξ a/\Ξ c.G+Ξ L<=1000:=λc n=>by
  obtain⟨codes,v,rfl⟩:=List.mem_map.1 n;have:Ξ codes=Ξ a:=by rw[jX v];unfold Di;rw[Zac]
  exact⟨by show Ξ codes<=_;omega,by show 0+Ξ L<=_;omega⟩
 have b:QA s x a m (ints L) ((LX (Di s a)).map zC)=θ (pj s x a m L):=by
  unfold QA;rw[Zak ⟨by rw[AE];omega,z0,by rw[Zac];omega,by rw[Zac];omega⟩,List.all_eq_true.2 λc n=>by obtain⟨codes,_,rfl⟩:=List.mem_map.1 n;rfl];rw[show(ν&&ν)=ν from rfl,Zav,xY i hx y H z L _ o W,Zfo];rfl
 refine Ok.f ?_;unfold LR IL;unfold bn at f;by_cases G:0<=m;rw[Zai G]at f;exact Ok.t (qr f (qr b (KK rfl)));rw[Zah G]at f;exact Ok.f (qr f (qr b (KK rfl)));unfold LQ;dsimp only;rw[u,t];have w:Ξ (((LX (Di s a)).take k).map zC)<=1000000:=by grind
 refine Ok.t (JT r (qr (x:=((LX (Di s a)).take k).map zC++[zC (LX (Di s a))[k]]) ?_ (ih _ BE ?_)));unfold mO;rw[dt w];rfl;show _++_=_;rw[Zab r,Zay];rfl
def zH(G:DS s)(hx:GX s x){a}{m}{c}(h:TB s a m c)(hk:KD2 s x a){d}(hd:42<=d){e}(he:e={ Op:=10,K:=0,J:=ByteArray.empty,B:=m,A:=[],V:=a,Q:=c,Y:={ Op:=0,B:=0,Af:=0,C:=0,E:=0,D:=[] },D:=[] })(hu:US d s x e)(S:∀p∈cA s c,one x.I p.B p.H):
 Nr d s x a m c=θ (uV s x a m (ep d s x c (bn m))):=by
 subst he;have⟨⟨l0,l1⟩,hD,hm,hc⟩:=id h;have⟨_,_,_,⟨u2,u3,u4⟩⟩:=hu;have⟨t1,t2⟩:=sA hm;have hp:=Uj G hx hc S (d:=d) z0 t2 t1;have hl:=Uq hx d c (bn m);have T:=λj (H:j∈ep d s x c (bn m))=>(Ur H).1;generalize ep d s x c (bn m)=L at hp hl T;apply Ok.val;unfold Nr uV;refine qr (hx.rcheck G) (Ok.no rfl (qr (yb G h hd) (Ok.no rfl (qr u3 (qr u4 (Ok.no rfl ?_))))))
 have U:∀k,k<=Ξ a->Hb (Di s (a.take k))<=21^k:=by
  intro k
  induction k with
  | zero=>intro _;show 1<=1;omega
  | succ k ih=>
    intro f
    have r:Di s (a.take (k+1))=Di s (a.take k)++[(-1)::UC s a[k]]:=by
     unfold Di;rw[Zab z0,Zay];rfl
    have⟨_,_,_,_,_,_,_,e4⟩:=kO G (hD.1 _ (Zae (by omega:k<Ξ a)));have:=Yk (LX (Di s (a.take k))) ((-1)::UC s a[k]);rw[<-Mg,show R3 ((Di s (a.take k)).foldl R3 [[]]) ((-1)::UC s a[k])=(Di s (a.take (k+1))).foldl R3 [[]] by rw[r,List.foldl_append];rfl,Mg,Mg,Ta,Ta]at this;rw[this,Zfc];exact Zec (ih z0) zv
 have I:∀k f,Hb (Di s (a.take (k+1)))=Hb (Di s (a.take k))*(Ξ (UC s a[k])+1):=by
  intro k f
  have r:Di s (a.take (k+1))=Di s (a.take k)++[(-1)::UC s a[k]]:=by
   unfold Di;rw[Zab z0,Zay];rfl
  have:=Yk (LX (Di s (a.take k))) ((-1)::UC s a[k]);rw[<-Mg,show R3 ((Di s (a.take k)).foldl R3 [[]]) ((-1)::UC s a[k])=(Di s (a.take (k+1))).foldl R3 [[]] by rw[r,List.foldl_append];rfl,Mg,Mg,Ta,Ta]at this;grind
 have h21:∀k,k<=3->21^k<=21^3:=λk f=>Zch z0 f;refine Wf (λq=>q.2) (Ξ a) (λk q=>q.1=(Hb (Di s (a.take k)):Nat)) 0 (Zag _) rfl rfl z0 (λrec q M y=>?_) λrec k q f M y ih=>?_;rw[Zaj]at y;unfold Qm Qq;rw[M,y];refine Ok.f ?_;by_cases g:Hb (Di s a)>2000;rw[Zai g];exact Ok.t (KK rfl);rw[Zah g];refine Ok.f ?_
 have o:Ok (Kd d s x c a m (bn m)) (·=({ V:=a,Ah:=m,Av:=pj s x a m L },0)):=by
  unfold Kd;apply qr hp;refine Wf (λq=>q.1) (Ξ L) (λk q=>q.2=(L.take k).map λj=>wX (vk s x a m j)) 0 (Zag _) rfl rfl z0 (λrec q M y=>?_) λrec k q f M y ih=>?_;rw[Zaj]at y;unfold Qn Kf;rw[M,AE];refine Ok.f (qr (rO G a d hD.1 z0 z0 z0) ?_);have hxl:=Ta (Di s a);have F:q.2=(L.map (vk s x a m)).map wX:=by rw[y,Zfo];rfl
  refine Wf (λz=>z.1) (Ξ (LX (Di s a))) (λk z=>z.2=((LX (Di s a)).take k).map λcodes=>(L.map (vk s x a m)).foldl (jh (decide (0<=m))) (zC codes)) 0 (Zag _) rfl rfl z0 (λrec z N u=>?_) λrec k z O N u ih2=>?_;rw[Zaj]at u;unfold Qp;rw[N];refine Ok.f (KK ?_);rw[u];rfl;unfold Qp;rw[N];have hcl:Ξ (LX (Di s a))[k]=Ξ a:=by rw[jX (Zae O)];unfold Di;rw[Zac]
  have R:=Abl (b:=decide (0<=m)) (ls:=L.map (vk s x a m)) (codes:=(LX (Di s a))[k]) (by grind) z0 λl hl'=>by
   obtain⟨j,H,rfl⟩:=List.mem_map.1 hl';refine⟨by show(Ξ (bY s x a j))=_;rw[hcl];exact Zac ..,λhb=>?_⟩;show(if 0<=m then _ else 0)=0;grind
  refine Ok.t (JT O (qr (by rw[F];exact R) (Ok.rm ?_ (ih2 _ BE ?_))));rw[u,Zac,Zan];simp;omega;show z.2++_=_;rw[u,Zab O,Zay];rfl;have H:=T _ (Zae f)
  have hne:x.G[L[k]]≠[]:=λe=>by
   have:=(hx.rows _ (Zae H)).1;grind
  have W:idx (ints L) k=θ (L[k]:Nat):=by
   rw[AY (by rw[AE];exact f)];simp[ints]
  unfold Qn;rw[M,AE];refine Ok.t (qr W (JT H (qr (FV hne) ?_)));have hol:Ξ (bY s x a L[k])=Ξ a:=Zac ..;refine Wf (λz=>z.1) (Ξ a) (λt z=>z.2=(bY s x a L[k]).take t) 0 (Zag _) rfl rfl z0 (λX z N w=>?_) λX t z ht N w ih3=>?_;rw[<-hol,Zaj]at w;unfold Qo Ke;rw[N,w]
  have n:q.2++[{ B7:=P.hd x.G[L[k]],Bb:=(if 0<=m then(KV s x m.toNat (fin s m.toNat) L[k]).1 else 0),B8:=bY s x a L[k] }]=(L.take (k+1)).map λj=>wX (vk s x a m j):=by
   rw[y,Zab f,Zay];unfold vk wX;grind
  have hql:Ξ q.2<=200:=by grind
  refine Ok.f ?_;by_cases Z:0<=m;have hM:=hm.resolve_left z0;rw[Zai Z]at n;exact Ok.t (qr W (qr (hM.fin G).2 (qr (hM.kv G hx H).2.1 (Ok.rm zv (ih _ BE n)))));rw[Zah Z]at n;exact Ok.f (Ok.rm zv (ih _ BE n));have⟨v,v1,v2⟩:=hk _ (Zae ht) _ H;unfold Qo;rw[N];refine Ok.t (qr W (JT ht (JT ht (qr v2 (Ok.rm ?_ (ih3 _ BE ?_))))));rw[w,Zan];simp;omega;show z.2++[v]=_;have ht2:t<Ξ (bY s x a L[k]):=z0;rw[w,Zab ht2];have:(bY s x a L[k])[t]'ht2=v:=(Zbu _).trans (by grind);rw[this]
 unfold bn at o;by_cases Z:0<=m;rw[Zai Z]at o;exact Ok.t (Ok.rm zs o);rw[Zah Z]at o;exact Ok.f o;have⟨i,hi,LL,W,e2,_,e4,e5⟩:=kO G (hD.1 _ (Zae f));have b1:=U k z0;have b2:=h21 k z0;have hlt:=Zbl b1 b2;have hmul:Hb (Di s (a.take k))*(Ξ (UC s a[k])+1)<=9261*21:=Zec hlt z0;unfold Qm;rw[M,y];refine Ok.t (JT f ?_);rw[W];refine JT hi (qr e2 (JT f (qr e4 (ih _ BE ?_))));show i64.wrap _=_;have w1:i64.wrap ((Ξ (UC s a[k]))+1)=(Ξ (UC s a[k])+1:Nat):=by rw[wr];omega
 rw[w1,<-Zez,wr,I k f]
def TBB(r:BL×Int):=r.2=0->Ξ r.1.V<=3/\Ξ r.1.Av<=2000/\(∀c∈r.1.Av,Ξ c.X<=3/\Ξ c.G<=200)/\0<Ξ r.1.Av
def Acy{a}(f:Ξ a<=3)m{L}(j:Ξ L<=200):TBB (uV s x a m L):=by
 intro b;unfold uV at b ⊢;split at b
 cases b
 rename_i g;rw[Zah g];have h:=Ta (Di s a);have e:=aY s a;refine⟨f,?_,λc i=>?_,?_⟩;show(Ξ ((LX (Di s a)).map _))<=2000;rw[Zac];omega;obtain⟨codes,d,rfl⟩:=List.mem_map.1 i;have⟨h1,h2⟩:=Zi (decide (0<=m)) (L.map (vk s x a m)) (zC codes);rw[h1];rw[Zac]at h2;have:Ξ codes=Ξ a:=by rw[jX d];unfold Di;rw[Zac]
 exact⟨by show Ξ codes<=3;omega,by have z:Ξ (zC codes).G=0:=rfl;omega⟩;show 0<Ξ ((LX (Di s a)).map _);grind
def zX(f:DS s)(hx:GX s x){e}(h:RQ s 9 e)(ho:e.Op=10)(g:∀p∈QF s 9 e,one x.I p.B p.H){d}(hd:70<=d)(i:d<=1000):∃r:BL×Int,Ik d s x e.V e.B e.Q=θ r/\Nr d s x e.V e.B e.Q=θ r/\TBB r:=by
 have h1:=h.one;have q:=Wv h z0;have j:=LV h1.1.2;have k:=Rk f hx h z0 g hd i
 have l:nameless e={ Op:=10,K:=0,J:=ByteArray.empty,B:=e.B,A:=[],V:=e.V,Q:=e.Q,Y:={ Op:=0,B:=0,Af:=0,C:=0,E:=0,D:=[] },D:=[] }:=by
  have t:=j.2.1 (by rw[ho];rfl);have u:=j.2.2.2.2 (by rw[ho];rfl);have v:=Acf h1 (by rw[ho];rfl);unfold nameless;rw[ho,t,u,v,q];rfl
 have w:=h1.2.2.1 (by rw[ho];rfl);have a:=h1.2.1;unfold PT at a;rw[Zah z0,Zah z0,Zah z0,Zai ho]at a;have⟨⟨m,n⟩,y⟩:=a;have o:TB s e.V e.B e.Q:=⟨m,n,y,w⟩
 have b:∀p∈e.V.map (lsA s),one x.I p.B p.H:=λp z=>g p (by
  show p∈VG s e++_;unfold VG gF;simp only[Zcj];exact .inl (.inl (.inl (.inl (.inl z)))))
 have c:=pt f hx n.1 b;exact⟨_,Aca f hx o c z0 l k (Mf g),zH f hx o c z0 l k (Mf g),Acy m.2 _ (Uq hx _ _ _)⟩
def MX w(m:List (List Int)):=Ξ m=w/\∀r∈m,Ξ r=w/\∀v∈r,v.natAbs<=1000000
theorem jn g c:∀l:List Nat,dV g (l++[c])=dV g l+(if Ξ l%2=1 then -(g c)else g c)
 | []=>by simp[dV]
 | a::l=>by
   show g a-dV g (l++[c])=g a-dV g l+_;rw[jn g c l,Zbq];grind
theorem jD:∀{l:List Nat},l.Nodup->∀k d,l.erase l[k]=l.take k++l.drop (k+1)
 | a::t,_,0,_=>by simp
 | a::t,h,k+1,d=>by
   have b:k<Ξ t:=by grind
   have c:a≠t[k]:=λe=>(List.nodup_cons.1 h).1 (e▸Zae b);show(a::t).erase t[k]=a::t.take k++t.drop (k+1);rw[List.erase_cons_tail (by grind),jD (List.nodup_cons.1 h).2 k b];rfl
def tE{l}(h:l.Nodup){k:Nat}a:Ia (ints l) 0 k++Ia (ints l) ((k+1:Nat)) (Ξ (ints l))=ints (l.erase l[k]):=by
 rw[jD h k a];unfold Ia ints;simp[List.map_take,List.map_drop];exact Zbe zs
theorem rQ{w}{m}(h:MX w m)(F:w<=5):∀rows d cols,Ξ rows<d->Ξ rows<=5->(∀r∈rows,r<w)->cols.Nodup->Ξ cols<=5->(∀c∈cols,c<w)->KS d m (ints rows) (ints cols)=θ (IM (g8 (rows.map λr=>m.getD r []) cols))
 | rows,0,_,h,_,_,_,_,_=>by omega
 | [],d+1,cols,_,_,_,_,_,_=>by
   show If d (KS d) m [] (ints cols)=_;unfold If;refine Ok.val (Vc rfl (qr (X6 j0 j0) (KK rfl)))
 | r::rs,d+1,cols,hd,hrl,hr,hn,hcl,hc=>by
   show If d (KS d) m (ints (r::rs)) (ints cols)=_;have G:=h.1;have H:=hr r zs;have i:=h.2 _ (Zae (by omega:r<Ξ m));have t:Ξ (ints cols)=Ξ cols:=AE _;obtain⟨g,E⟩:∃g:Nat->Int,g=λc=>(m.getD r []).getD c 0*g8 (rs.map λr=>m.getD r []) (cols.erase c):=⟨_,rfl⟩;have j:g8 ((r::rs).map λr=>m.getD r []) cols=dV g cols:=by rw[E];rfl
   rw[j];apply Ok.val;unfold If;refine Ok.no (by rw[Zbt,AE];simp;omega) ?_;refine Wf (λq=>q.1) (Ξ (ints cols)) (λk q=>q.2=IM (dV g (cols.take k))) 0 (Zag _) rfl rfl z0 (λrec q u n=>?_) λrec k q I u n ih=>?_;rw[t,Zaj]at n;unfold O3;rw[u];exact Ok.f (KK n);have f:k<Ξ cols:=z0;have J:=hc _ (Zae f);have o:=rQ h F rs d (cols.erase cols[k]) (by grind) (by grind) (λr v=>hr r (by simp[v])) (hn.erase _) (Zbl (List.length_erase_le ..) hcl) λc y=>hc c (List.mem_of_mem_erase y);have he:=tE hn f
   have z:g cols[k]=(m[r]'z0)[cols[k]]'z0*g8 (rs.map λr=>m.getD r []) (cols.erase cols[k]):=by grind
   have K:=i.2 _ (Zae (by omega:cols[k]<Ξ (m[r]'z0)));have A:idx (ints cols) k=θ (cols[k]:Nat):=by rw[AY I];simp[ints]
   have B:Ξ (Ia (ints cols) 0 k)<=5:=by rw[I0,Zan];omega
   have C:Ξ (Ia (ints cols) ((k+1:Nat)) (Ξ (ints cols)))<=5:=by
    have h1:=congrArg List.length he;rw[Zar]at h1;have h2:=List.length_erase_le (a:=cols[k]) (l:=cols);have L:=AE (cols.erase cols[k]);omega
   have b:=jn g cols[k] (cols.take k);rw[Zan,Zdp z0]at b;have e:=Zab f;unfold O3;rw[u,BE];refine Ok.t (dg z0 (Ok.rm z0 (dg z0 (Ok.rm z0 (qr (x:=(r:Int)) rfl (JT (by grind) (qr A (JT z0 (qr (X6 z0 z0) (dg ?_ ?_))))))))));rw[ints,Zas,Zbq];omega;rw[he,show Ia (ints (r::rs)) 1 (Ξ (ints (r::rs)))=ints rs from rk _ _];refine qr o (qr (U5 _ _) ?_);rw[<-z]
   have p:(Int.tmod k 2==1)=decide (k%2=1):=by grind
   rw[p];refine bt (λD=>qr (cq 0 _) (qr (by rw[n];exact ya _ _) (ih _ rfl ?_))) λD=>qr (by rw[n];exact ya _ _) (ih _ rfl ?_);rw[e,b,Zai D,Int.zero_sub];grind
def kg{n:Nat}(c:n<=1000):Kc n=θ (ints (List.range n)):=by
 apply Ok.val;unfold Kc;refine Wf (λq=>q.1) n (λk q=>q.2=ints (List.range k)) 0 (Zag _) rfl rfl z0 (λrec q b a=>?_) λrec k q d b a ih=>?_;unfold LD;rw[b];exact Ok.f (KK a);unfold LD;rw[b];refine Ok.t (Ok.rm (by rw[a,AE,Zee];simp;omega) (ih _ BE ?_));show q.2++[(k:Int)]=_;rw[a,Zfv,S3]
def jy{w}{m}(h:MX w m)(a:w<=5){d}(hd:6<=d):LC d m=θ (IM (WB m)):=by
 have b:=h.1
 have c:(List.range (Ξ m)).map (λr=>m.getD r [])=m:=by
  refine Zen zs λi h1 h2=>?_;grind
 have:=rQ h a (List.range (Ξ m)) d (List.range (Ξ m)) (by grind) (by grind) (λr hr=>by have:=List.mem_range.1 hr;omega) List.nodup_range (by grind) λr hr=>by have:=List.mem_range.1 hr;omega
 rw[c,<-yV m λr hr=>by rw[(h.2 r hr).1,b]]at this;unfold LC;exact Ok.val (qr (kg z0) (qr (kg z0) (qr this (KK rfl))))
open F
theorem VV:∀r:List Int,(∀v∈r,v.natAbs<=1000000)->Pm r<=1000000*Ξ r
 | [],_=>Zam _
 | v::r,h=>by
   have:=VV r λv a=>h v (by simp[a]);have:=h v zs;show v.natAbs+Pm r<=1000000*(Ξ r+1);omega
theorem cu v:∀r:List Int,Pm (r++[v])=Pm r+v.natAbs
 | []=>by simp[Pm]
 | a::r=>by
   show a.natAbs+Pm (r++[v])=a.natAbs+Pm r+v.natAbs;rw[cu v r];omega
def vO:List (List Int)->Nat| []=>1| r::m=>max 1 (Pm r)*vO m
theorem UD r:∀m:List (List Int),vO (m++[r])=vO m*max 1 (Pm r)
 | []=>by simp[vO]
 | a::m=>by
   show max 1 (Pm a)*vO (m++[r])=max 1 (Pm a)*vO m*max 1 (Pm r);rw[UD r m,Zde]
theorem vP:∀m:List (List Int),(∀r∈m,Pm r<=5000000)->vO m<=5000000^(Ξ m)
 | [],_=>Zam _
 | r::m,h=>by
   have h1:=vP m λr hr=>h r (by simp[hr]);have h2:=h r zs;rw[Zbq,Zfc,Zcm];exact Zec z0 h1
def vA{v}(h:v.natAbs<=1000000):(if i64.wrap (0-v)>v then i64.wrap (0-v)else v)=v.natAbs:=by
 rw[wr (n:=0-v)];grind
def XL{w}{m}(h:MX w m)(b:w<=5)k:vO (m.take k)<=3125000000000000000000000000000000:=by
 have h1:=vP (m.take k) λr hr=>by
  have:=h.2 r (Zbo hr);have h2:=VV r this.2;grind
 have a:Ξ (m.take k)<=5:=by
  rw[Zan];have:=h.1;omega
 exact Zbl h1 (Zbl (Zch j0 a) j0)
def Aft{B v:Nat}(h:B*v<=3125000000000000000000000000000000)(r:v<=5000000)(t:B<=3125000000000000000000000000000000){rec}{k j}(d:(if 1>j then 1 else j)=(v:Int)):JD (LY B) rec k j=rec (i64.wrap (k+1),LY (B*v:Nat)):=by
 obtain⟨p,b⟩:∃p,p=(B/18446744073709551616)*v:=⟨_,rfl⟩;obtain⟨q,c⟩:∃q,q=(B%18446744073709551616)*v:=⟨_,rfl⟩
 have a:B*v=p*18446744073709551616+q:=by
  rw[b,c,Nat.mul_right_comm,<-Zcu];grind
 have e:Lo B=(B%18446744073709551616:Nat):=by unfold Lo;omega
 have f:Hi B=(B/18446744073709551616:Nat):=by unfold Hi;omega
 have g:u64.wrap v=v:=by rw[Io];omega
 have i:BX (LY B).C v=θ (((q/18446744073709551616:Nat):Int),((q%18446744073709551616):Int)):=by
  show BX (Lo B) v=_;unfold BX;rw[Vm (ah B).2,Vm (n:=v),e,<-Zez,<-c,Zfz,Zav];grind
 have l:BX (LY B).E v=θ (((p/18446744073709551616:Nat):Int),((p%18446744073709551616:Nat):Int)):=by
  show BX (Hi B) v=_;unfold BX;rw[Vm (ah B).1,Vm (n:=v),f,<-Zez,<-b,Zfz,Zav];grind
 rw[a]at h
 have m:BI (p%18446744073709551616:Nat) (q/18446744073709551616:Nat) 0=θ (((p+q/18446744073709551616:Nat):Int),0):=by
  unfold BI;rw[Vm (n:=(p%18446744073709551616:Nat)),Vm (n:=(q/18446744073709551616:Nat))];rw[Zfz,Zbd,Bool.true_or,Zfz,Zav];exact congrArg θ (Prod.ext (by grind) (by grind))
 unfold JD;rw[d,g,i,Zad,l,Zad];dsimp only;rw[m,Zad];dsimp only;have o:u64.wrap ((p/18446744073709551616:Nat)+0)=0:=by rw[Io];omega
 rw[o,df (p:=0>0) z0,df (p:=((p+q/18446744073709551616:Nat):Int)>72057594037927936) z0,show(((p+q/18446744073709551616:Nat):Int)==72057594037927936)=false from beq_eq_false_iff_ne.2 z0];rw[Zaq];refine congrArg (λz=>rec (i64.wrap (k+1),z)) (VC ?_ ?_);unfold Hi;omega;unfold Lo;omega
def zf{w}{m}(h:MX w m)(o:w<=5):Oe m=θ false:=by
 have r:=h.1;apply Ok.val;unfold Oe;apply qr (TD (n:=1) j0 j0);refine Wf (λq=>q.1) (Ξ m) (λk q=>q.2=LY (vO (m.take k):Nat)) 0 (Zag _) rfl rfl z0 (λrec q f p=>?_) λrec k q e f p ih=>?_;unfold M9;rw[f];exact Ok.f (KK rfl);have⟨u,b⟩:=h.2 _ (Zae e);have y:=VV m[k] b;unfold M9;rw[f];refine Ok.t (JT e (Wf (λz=>z.2) (Ξ m[k]) (λt z=>z.1=(Pm (m[k].take t):Nat)) 0 (Zag _) rfl rfl z0 (λc z g a=>?_) λc t z i g a ih2=>?_));rw[Zaj]at a;unfold MA;rw[g];refine Ok.f ?_;have A:=XL h o k;have d:=XL h o (k+1);rw[Zab e,UD]at d;dsimp only;rw[p,a,Aft (v:=max 1 (Pm m[k])) d z0 A (by grind)];apply ih _ BE;show LY _=_;rw[Zab e,UD];have j:=b _ (Zae i);have l:=VV (m[k].take t) λv j=>b v (Zbo j);rw[Zan]at l;unfold MA;rw[g,a];refine Ok.t (JT i (ih2 _ BE ?_));show i64.wrap _=_;rw[vA j,Zab i,cu,wr];omega
def ae{α:Type}{l:List α}{k}(h:Ξ l<=k)z:l.getD k z=z:=by grind
def zU{w}{m}(h:MX w m)(u:w<=5):QZ m=θ ν:=by
 have A:=h.1;have h2:({ E:=72057594037927936,C:=0 }:Au)=IM ((1329227995784915872903807060280344576:Nat):Int):=WS (by unfold Hi;omega) (by unfold Lo;omega);refine Ok.val ?_;unfold QZ;refine qr (X6 (n:=1) j0 j0) ?_;refine Wf (λq=>q.1) (Ξ m) (λk q=>q.2=IM ((vO (m.take k):Nat):Int)) 0 (Zag _) rfl rfl z0 (λrec q j l=>?_) λrec k q b j l ih=>?_;unfold O4;rw[j];exact Ok.f (KK rfl);have⟨B,d⟩:=h.2 _ (Zae b);have D:=VV m[k] d;unfold O4;rw[j];refine Ok.t (Wf (λz=>z.2) (Ξ m[k]) (λt z=>z.1=((Pm (m[k].take t):Nat):Int)) 0 (Zag _) rfl rfl z0 (λe z o a=>?_) λe t z i o a ih2=>?_);rw[Zaj]at a;unfold O5 Xn;rw[o,a];refine JT b (Ok.f ?_);have G:=XL h u k;have f:=XL h u (k+1);rw[Zab b,UD]at f;by_cases g:Pm m[k]=0;rw[g];refine Vc rfl (ih _ BE ?_);show q.2=_;rw[l,Zab b,UD,g];simp;have c:max 1 (Pm m[k])=Pm m[k]:=z0;rw[c]at f;have y:vO (m.take k)<=1329227995784915872903807060280344576/Pm m[k]:=(Nat.le_div_iff_mul_le z0).2 z0;have F:1329227995784915872903807060280344576/Pm m[k]<=1329227995784915872903807060280344576:=Zdx ..;refine Ok.no (beq_eq_false_iff_ne.2 z0) (qr (X6 z0 z0) ?_);rw[h2,l];refine qr (sq z0 (by grind) (by grind)) (qr (lU z0 z0) (Ok.f (qr (X6 z0 z0) (qr (U5 _ _) (ih _ BE ?_))) z0));show IM _=_;rw[Zab b,UD,c,Zez];have p:=d _ (Zae i);have r:=VV (m[k].take t) λv p=>d v (Zbo p);rw[Zan]at r;unfold O5;rw[o,a];refine JT b (Ok.t (JT b (JT i (JT b (JT i (ih2 _ BE ?_))))));show i64.wrap _=_;rw[vA p,Zab i,cu,wr];omega
def XO{w}{m}(h:MX w m)(w0:1<=w)(p:w<=5):H6 m=θ 0:=by
 have i:=h.1;apply Ok.val;unfold H6;refine Ok.no (beq_eq_false_iff_ne.2 z0) (Ok.f (Wf (λv=>v) (Ξ m) (λ_ _=>True) 0 (Zag _) rfl trivial z0 (λrec v c _=>?_) λrec k v d c _ ih=>?_));have c:=c;unfold M4 Ro;rw[c];refine Ok.f (Wf (λv=>v) (Ξ m) (λ_ _=>True) 0 (Zag _) rfl trivial z0 (λe j a _=>?_) λe k j d a _ ih2=>?_);have a:=a;unfold M5;rw[a];exact Ok.f (qr (zf h p) (Ok.no rfl (KK rfl)));have a:=a;have⟨f,l⟩:=h.2 _ (Zae d);unfold M5;rw[a];refine Ok.t (JT d (Wf (λv=>v) (Ξ m[k]) (λ_ _=>True) 0 (Zag _) rfl trivial z0 (λg n b _=>?_) λg t n o b _ ih3=>?_));have b:=b;unfold M6;rw[b];exact Ok.f (ih2 _ BE trivial);have b:=b;have q:=l _ (Zae o);unfold M6;rw[b];exact Ok.t (JT o (Ok.no (by grind) (ih3 _ BE trivial)));have c:=c;have⟨f,_⟩:=h.2 _ (Zae d);unfold M4;rw[c];exact Ok.t (JT d (Ok.no (by grind) (ih _ BE trivial)))
def XP{w}{m}(h:MX w m)(w0:1<=w)(p:w<=5):IT m=θ 0:=by
 have j:=h.1;apply Ok.val;unfold IT;refine Ok.no (beq_eq_false_iff_ne.2 z0) (Ok.f (Wf (λv=>v) (Ξ m) (λ_ _=>True) 0 (Zag _) rfl trivial z0 (λrec v c _=>?_) λrec k v e c _ ih=>?_));have c:=c;unfold Oy To;rw[c];refine Ok.f (Wf (λv=>v) (Ξ m) (λ_ _=>True) 0 (Zag _) rfl trivial z0 (λf l a _=>?_) λf k l e a _ ih2=>?_);have a:=a;unfold Oz;rw[a];exact Ok.f (qr (zU h p) (Ok.no rfl (KK rfl)));have a:=a;have⟨g,n⟩:=h.2 _ (Zae e);unfold Oz;rw[a];refine Ok.t (Wf (λv=>v) (Ξ m) (λ_ _=>True) 0 (Zag _) rfl trivial z0 (λi o b _=>?_) λi t o q b _ ih3=>?_);have b:=b;unfold O0;rw[b];exact Ok.f (ih2 _ BE trivial);have b:=b;have d:t<Ξ m[k]:=z0;have r:=n _ (Zae d);unfold O0;rw[b];exact Ok.t (JT e (JT d (Ok.f (JT e (JT d (Ok.f (ih3 _ BE trivial)))))));have c:=c;have⟨g,_⟩:=h.2 _ (Zae e);unfold Oy;rw[c];exact Ok.t (JT e (Ok.no (by grind) (ih _ BE trivial)))
def MX.lenM{w:Nat}{m:List (List Int)}(h:MX w m):lenM m (Ξ m)=ν:=List.all_eq_true.2 λr hr=>by rw[(h.2 r hr).1,h.1];exact Zbd _
def mY{w}{m}(h:MX w m)(w0:1<=w)(b:w<=5):Ev m=θ (LY (WB m)):=by
 have c:=h.1;unfold Ev;rw[dt ⟨z0,z0⟩,h.lenM,show(m.all λr=>r.all Aas)=ν from List.all_eq_true.2 λr hr=>List.all_eq_true.2 λv a=>Zak (by have:=(h.2 r hr).2 v a;omega)];rfl
theorem ow{K}:∀m:List (List Int),(∀r∈m,Pm r<=K)->gH m<=K^(Ξ m)
 | [],_=>Zam _
 | r::m,h=>by
   have h1:=ow m λr hr=>h r (by simp[hr]);rw[Zbq,Zfc,Zcm];exact Zec (h r zs) h1
def Uw{w}{m}(h:MX w m)(a:w<=5):SG (WB m):=by
 have b:=h.1
 have:(WB m).natAbs<=10000000000000000000000000000000000:=by
  refine Zbl (yW m) (Zbl (ow (K:=5000000) m λr hr=>Zbl (VV r (h.2 r hr).2) (by rw[(h.2 r hr).1];omega)) ?_);rw[b];exact Zbl (Zch j0 a) j0
 unfold SG;omega
def xa{w}{S}(h:∀i j,(S i j).natAbs<=1000000):MX w (ek w S):=by
 unfold ek;refine⟨zs,λr hr=>?_⟩;grind
def Ac6{w}{m}(h:MX w m)i j:(Pk m i j).natAbs<=1000000:=by
 unfold Pk;by_cases a:i<Ξ m;rw[BQ a];by_cases b:j<Ξ m[i];rw[BQ b];exact(h.2 _ (Zae a)).2 _ (Zae b);rw[ae z0];decide;grind
def kl{w}{m}(h:MX w m){b}(f:Ξ b=w/\∀v∈b,v.natAbs<=1000000)(o:w<=5){k}(p:k<w):∃q,JE m k b=θ q/\S8 m b k=θ q/\MX w q:=by
 have g:=h.1;refine⟨ek (Ξ m) (Vk m k b),?_,Ok.val ?_,?_⟩;unfold JE;rw[h.lenM,dt ⟨z0,z0,z0,z0⟩,Zaw];rfl;unfold S8
 have l:∀i a,(m[i].set k (b[i]'z0))=(List.range (Ξ m)).map λj=>Vk m k b i j:=λi a=>by
  have hr:=(h.2 _ (Zae a)).1;refine Zen zv λj h1 h2=>?_;rw[Zbu,Zfp,Zfi];unfold Vk Pk;grind
 refine Wf (λq=>q.1) (Ξ m) (λi q=>q.2=(List.range i).map λi=>(List.range (Ξ m)).map λj=>Vk m k b i j) 0 (Zag _) rfl rfl z0 (λrec q d c=>?_) λrec i q a d c ih=>?_;unfold Sb;rw[d];exact Ok.f (KK c);have hr:=(h.2 _ (Zae a)).1;unfold Sb;rw[d];refine Ok.t (JT a (Ok.rm z0 (JT z0 (JT z0 (Ok.rm (by grind) (ih _ BE ?_))))));show q.2++[_]=_;rw[c,Zfv,Zay,Zaw,l i a];rfl;rw[g];refine xa λi j=>?_;unfold Vk;split;by_cases e:i<Ξ b;rw[BQ e];exact f.2 _ (Zae e);rw[ae z0];decide;exact Ac6 h i j
def qB{w}{m}(h:MX w m){b}(o:Ξ b=w/\∀v∈b,v.natAbs<=1000000)(w0:1<=w)(f:w<=5){d}(hd:6<=d):∃r,LA m b=θ r/\N9 d m b=θ r/\Ξ r.1<=5:=by
 suffices hh:Ok (LA m b) λr=>Ok (N9 d m b) λB=>r=B/\Ξ r.1<=5 by
  obtain⟨r,a,B,b,rfl,c⟩:=hh;grind
 have p:=h.1;have n:((Ξ b:Int) != Ξ m)=false:=by grind
 unfold LA N9;refine qr (XO h w0 f) (Ok.no rfl (Ok.no n (WD (qr (XP h w0 f) (Ok.no rfl (Ok.no n (WD ?_)))))));refine Ok.two (Ξ m) (λk u v=>u=k/\v=k) ⟨rfl,rfl⟩ (λt y u v ⟨i,j⟩=>?_) λt y k u v D ⟨i,j⟩ ih=>?_;subst i;subst j;unfold M7 Rp;refine Ok.f (qr (mY h w0 f) (qr (dT (Uw h f)) ?_));unfold O1 Tp;refine WD (Ok.f (qr (jy h f hd) (qr (sy (Uw h f)) (WD ?_))));by_cases e:WB m=0;rw[e];exact Vc rfl (KK (Vc rfl (KK ⟨rfl,zs⟩)));refine Ok.no (beq_eq_false_iff_ne.2 λh=>e (Int.sign_eq_zero_iff_zero.1 h)) (WD (Ok.f (WD ?_)));refine Ok.two (Ξ m) (λk u v=>u=v/\u.1=k/\Ξ u.2=k) ⟨rfl,rfl,rfl⟩ (λt y u v ⟨i,j,C⟩=>?_) λt y k u v D ⟨i,j,C⟩ ih=>?_;subst i;unfold M8 O2;rw[j];exact Ok.f (KK (Ok.f (KK ⟨rfl,by show Ξ u.2<=5;omega⟩)));subst i;have⟨q,z,A,l⟩:=kl h o f (k:=k) z0;have⟨r,E,p2,_⟩:=qo e (Uw l f) (Uw h f);unfold M8 O2;rw[j];refine Ok.t (qr z (qr (mY l w0 f) (qr E ?_)));refine WD (Ok.t (qr A (qr (jy l f hd) (qr p2 (WD ?_)))));refine Ok.br (λg=>KK (Vc g (KK ⟨rfl,zs⟩))) λg=>Ok.rm zv (WD (Ok.no g (Ok.rm zv (WD (ih _ _ ⟨rfl,BE,?_⟩)))));show(Ξ (u.2++_))=_;rw[Zar,C];rfl;subst i;subst j;have⟨q,z,A,l⟩:=kl h o f (k:=k) z0;unfold M7 O1;exact Ok.t (qr z (qr (XO l w0 f) (Ok.no rfl (WD (Ok.t (qr A (qr (XP l w0 f) (Ok.no rfl (WD (ih _ _ ⟨BE,BE⟩))))))))))
def qk{w v}{a b}(g:MX w a)(c:MX v b)(w0:1<=w)(i:w<=5)(j:1<=v)(f:v<=5){d}(hd:6<=d):∃r,L9 a b=θ r/\N8 d a b=θ r:=by
 by_cases e:WB b=0;refine⟨({ K:=0,T:=0 },15),Ok.val ?_,Ok.val ?_⟩;unfold L9;refine qr (XO g w0 i) (Ok.no rfl (qr (XO c j f) (Ok.no rfl (qr (mY c j f) (qr (dT (Uw c f)) ?_)))));rw[e];exact Vc rfl (KK rfl);unfold N8;refine qr (XP g w0 i) (Ok.no rfl (qr (XP c j f) (Ok.no rfl (qr (jy c f hd) (qr (sy (Uw c f)) ?_)))));rw[e];exact Vc rfl (KK rfl);have⟨r,k,p2,_⟩:=qo e (Uw g i) (Uw c f);refine⟨r,Ok.val ?_,Ok.val ?_⟩;unfold L9;exact qr (XO g w0 i) (Ok.no rfl (qr (XO c j f) (Ok.no rfl (qr (mY c j f) (qr (dT (Uw c f)) (Ok.no (beq_eq_false_iff_ne.2 λh=>e (Int.sign_eq_zero_iff_zero.1 h)) (qr (mY g w0 i) (qr k (KK rfl)))))))));unfold N8;exact qr (XP g w0 i) (Ok.no rfl (qr (XP c j f) (Ok.no rfl (qr (jy c f hd) (qr (sy (Uw c f)) (Ok.f (qr (jy g i hd) (qr (jy c f hd) (qr p2 (KK rfl))))))))))
def RS w(m:List (List Int)):=∀r∈m,Ξ r=w/\∀v∈r,-46<=v/\v<=46
def my{w}{m}(h:RS w m)i j:-46<=Pk m i j/\Pk m i j<=46:=by
 unfold Pk;by_cases a:i<Ξ m;rw[BQ a];by_cases b:j<Ξ m[i];rw[BQ b];exact(h _ (Zae a)).2 _ (Zae b);rw[ae z0];omega;grind
def Aav{a b}(c:-46<=a/\a<=46)(d:-46<=b/\b<=46):-2116<=a*b/\a*b<=2116:=by
 have:(a*b).natAbs<=2116:=by
  rw[Int.natAbs_mul];exact Zec (show a.natAbs<=46 by omega) (show b.natAbs<=46 by omega)
 omega
theorem wz{w}{m}(h:RS w m)a b:∀k:Nat,k<=300->-2116*k<=Ng m k a b/\Ng m k a b<=2116*k
 | 0,_=>by show -2116*(0:Int)<=0/\(0:Int)<=2116*(0:Nat);omega
 | k+1,hk=>by
   have ih:=wz h a b k z0;have c:=Aav (my h k a) (my h k b);unfold Ng;rw[wr (n:=Pk m k a*Pk m k b),wr];omega
def rE{w}{m}(h:RS w m)(a:Ξ m<=200):MX w (ek w (Ng m (Ξ m))):=xa λi j=>by
 have:=wz h i j (Ξ m) z0;omega
def yr{w}{m}(h:RS w m)(b:1<=Ξ m/\Ξ m<=200)(w0:1<=w)(c:w<=5):Pa m=θ (ek w (Ng m (Ξ m))):=by
 have a:Ξ (m.getD 0 [])=w:=by
  rw[BQ z0];exact(h _ (Zae _)).1
 unfold Pa;rw[a,dt ⟨z0,z0,z0,z0⟩,show lenM m w=ν from List.all_eq_true.2 λr hr=>by rw[(h r hr).1];exact Zbd _];rfl
theorem pR{w}{m}(h:RS w m)(P:1<=Ξ m/\Ξ m<=200)(w0:1<=w)(Q:w<=5):Ns m=θ (ek w (Ng m (Ξ m))):=by
 have r:Ξ (m[0]'z0)=w:=(h _ (Zae _)).1;have O:∀i j H(G:j<Ξ m[i]),m[i][j]=Pk m i j:=λi j H G=>by unfold Pk;rw[BQ H,BQ G]
 apply Ok.val;unfold Ns;refine Ok.no (by grind) (JT (i:=0) z0 (Ok.f (JT (i:=0) z0 (Ok.f ?_))));unfold Q0;refine Wf (λv=>v) (Ξ m) (λ_ _=>True) 0 (Zag _) rfl trivial z0 (λrec v f _=>?_) λrec k v c f _ ih=>?_;have f:=f;unfold Qv Q1;rw[f];refine Ok.f ?_;refine Wf (λq=>q.1) w (λi q=>q.2=(List.range i).map λi=>(List.range w).map λj=>Ng m (Ξ m) i j) 0 (Zag _) rfl rfl z0 (λu q I A=>?_) λu i q H I A ih3=>?_;unfold Qx;rw[I];refine JT (i:=0) z0 (Ok.f (is ?_ (KK ?_)));rw[A]
 cases w with
 | zero=>omega
 | succ w=>rw[List.range_succ_eq_map];rfl
 rw[A];rfl;unfold Qx;rw[I];refine JT (i:=0) z0 (Ok.t (JT (i:=0) z0 (is (by rw[dt z0,Zaw,II z0];rfl) ?_)));rw[Zaw,r]
 refine Wf (λq=>q.1) w (λj z=>z.2=(List.range w).map λt=>if t<j then Ng m (Ξ m) i t else 0) 0 (Zag _) rfl (by
  show List.replicate w 0=_;refine Zen zs λa h1 h2=>?_;simp) z0 (λB z g l=>?_) λB j z G g l J=>?_
 unfold Qy;rw[g,l,Zac,Zee];refine Ok.f (Ok.rm (by grind) (ih3 _ BE ?_));show q.2++[_]=_;rw[A,Zfv,Zay];refine congrArg _ (congrArg (λz=>[z]) (Zck λt C=>?_));rw[Zai (List.mem_range.1 C)];unfold Qy;rw[g,l,Zac,Zee];refine Ok.t ?_
 have D:∀k,(((List.range w).map λt=>if t<j then Ng m (Ξ m) i t else(if t=j then Ng m k i j else 0)).set j (Ng m (k+1) i j))=(List.range w).map λt=>if t<j then Ng m (Ξ m) i t else(if t=j then Ng m (k+1) i j else 0):=λk=>by
  refine Zen zs λa h1 h2=>?_;rw[Zfi];simp[Zbu,Zfp];grind
 refine Wf (λq=>q.1) (Ξ m) (λk y=>y.2=(List.range w).map λt=>if t<j then Ng m (Ξ m) i t else(if t=j then Ng m k i j else 0)) 0 (Zag _) rfl ?_ z0 (λE y hy d=>?_) λE k y c hy d L=>?_;refine Zck λt _=>?_;show(if t<j then _ else 0)=if t<j then _ else if t=j then 0 else 0;split;rfl;split<;>rfl;unfold Qz;rw[hy];refine Ok.f (J _ BE ?_);show y.2=_;rw[d];refine Zck λt _=>?_;by_cases e:t<j;rw[Zai e,Zai z0];rw[Zah e];by_cases n:t=j;subst n;rw[Zai rfl,Zai z0];rw[Zah n,Zah z0];have o:=(h _ (Zae c)).1;have p:j<Ξ y.2:=by grind
 have M:y.2[j]=Ng m k i j:=by grind
 unfold Qz;rw[hy];refine Ok.t (JT p (JT c (JT z0 (JT c (JT z0 (JT p (L _ BE ?_)))))));show y.2.set ((j:Int)).toNat _=_;rw[Zaw,M,O k i c z0,O k j c z0,d];exact D k;have f:=f;have o:=h _ (Zae c);unfold Qv;rw[f];refine Ok.t (JT c (JT (i:=0) z0 (Ok.no (by grind) ?_)));refine Wf (λv=>v) (Ξ m[k]) (λ_ _=>True) 0 (Zag _) rfl trivial z0 (λF N b _=>?_) λF t N C b _ ih2=>?_;have b:=b;unfold Qw;rw[b];exact JT c (Ok.f (ih _ BE trivial));have b:=b;have R:=o.2 _ (Zae C);unfold Qw;rw[b];exact JT c (Ok.t (JT c (JT C (Ok.f (JT c (JT C (Ok.f (ih2 _ BE trivial))))))))
def i8 z:-9223372036854775808<=i64.wrap z/\i64.wrap z<=9223372036854775807:=by
 unfold IntKind.wrap;rw[IntKind.signed,IntKind.bits];grind
def xr(r:List Int):=[1]++r.drop 1
def X0(m:List (List Int)):=m.map xr
def X1(m:List (List Int)):=m.map λr=>xr r++[r.getD 0 0]
def Z3{r}{c}(h:Ξ r=c)(a:1<=c):Ξ (xr r)=c:=by
 unfold xr;grind
def we{r}(h:1<=Ξ r):[1]++Ia r 1 (Ξ r)=xr r:=by
 unfold Ia xr;congr 1;exact Zbe zs
def y7{c}{m}(h:RS c m)(b:1<=c):RS c (X0 m):=λr hr=>by
 obtain⟨q,d,rfl⟩:=List.mem_map.1 hr;have⟨h1,h2⟩:=h q d;refine⟨Z3 h1 b,λv a=>?_⟩;rcases List.mem_append.1 a with a|a;rw[List.mem_singleton.1 a];omega;grind
def Aep{c}{m}(h:RS c m)(b:1<=c):RS (c+1) (X1 m):=λr hr=>by
 obtain⟨q,d,rfl⟩:=List.mem_map.1 hr;have⟨h1,h2⟩:=h q d;refine⟨by rw[Zar,Z3 h1 b];rfl,λv a=>?_⟩;rcases List.mem_append.1 a with a|a;exact(y7 h b _ (List.mem_map.2 ⟨q,d,rfl⟩)).2 v a;rw[List.mem_singleton.1 a,BQ z0];exact h2 _ (Zae _)
def vS(m:List (List Int)):Nat->Nat->Int| 0,_=>0| k+1,t=>i64.wrap (vS m k t+i64.wrap (Pk (X0 m) k t*Pk m k 0))
def yS(m:List (List Int)):Nat->Int| 0=>0| k+1=>i64.wrap (yS m k+Pk m k 0)
def qS(m:List (List Int)):Nat->Int| 0=>0| k+1=>i64.wrap (qS m k+i64.wrap (Pk m k 0*Pk m k 0))
theorem Aa3{c}{m}(h:RS c m)(a:1<=c)t:∀k:Nat,k<=300->-2116*k<=vS m k t/\vS m k t<=2116*k
 | 0,_=>by show -2116*(0:Int)<=0/\(0:Int)<=2116*(0:Nat);omega
 | k+1,hk=>by
   have ih:=Aa3 h a t k z0;have b:=Aav (my (y7 h a) k t) (my h k 0);unfold vS;rw[wr (n:=Pk (X0 m) k t*Pk m k 0),wr];omega
def yy m c k:=(List.range c).map (vS m k)
def Ac3{c}{m}(h:RS c m)(a:1<=c)(d:Ξ m<=200):Ξ (yy m c (Ξ m))=c/\∀v∈yy m c (Ξ m),v.natAbs<=1000000:=by
 refine⟨by unfold yy;simp,λv b=>?_⟩;obtain⟨t,_,rfl⟩:=List.mem_map.1 b;have:=Aa3 h a t (Ξ m) z0;omega
def sH m c k t:(((List.range c).map λu=>if u<t then vS m (k+1) u else vS m k u).set t (vS m (k+1) t))=(List.range c).map λu=>if u<t+1 then vS m (k+1) u else vS m k u:=by
 refine Zen zs λa h1 h2=>?_;grind
def mdl(m:List (List Int))(cs:List A1)(res tot:A1):Bd:={ Ah:=0,A0:=[],A9:=cs,A2:=res,A3:=tot,Z:=Ξ m,Bf:=i64.wrap (Ξ m-Ξ cs) }
def xm:Bd:={ Ah:=0,A0:=[],A9:=[],A2:={ K:=0,T:=0 },A3:={ K:=0,T:=0 },Z:=0,Bf:=0 }
def Aaa{c}{m}(h:RS c m)(f:1<=c)(g:Ξ m<=200){r}(hr:Eb (i64.wrap ((i64.wrap ((Ξ m:Int)*qS m (Ξ m)))-(i64.wrap (yS m (Ξ m)*yS m (Ξ m))))) (Ξ m:Int)=θ r):M0 m=θ r:=by
 apply Ok.val;unfold M0;refine Wf (λq=>q.2.2) (Ξ m) (λk q=>q.1=yS m k/\q.2.1=qS m k) 0 (Zag _) rfl ⟨rfl,rfl⟩ z0 (λrec q a ⟨h1,h2⟩=>?_) λrec k q b a ⟨h1,h2⟩ ih=>?_;unfold LI Vj;rw[a,h1,h2];exact Ok.f (qr hr (KK rfl));have e:=(h _ (Zae b)).1;have d:m[k][0]'z0=Pk m k 0:=by unfold Pk;rw[BQ b,BQ (by grind)]
 unfold LI;rw[a,h1,h2];refine Ok.t (JT b (JT (i:=0) z0 (JT (i:=0) z0 (JT (i:=0) z0 (ih _ BE ⟨?_,?_⟩)))));show i64.wrap _=_;rw[d];rfl;show i64.wrap _=_;rw[d];rfl
def pE{c}{m}(h:RS c m)(f:1<=c)(g:c<=5)(j:1<=Ξ m/\Ξ m<=200):IH m=θ ν:=by
 have b:Ξ (m[0]'z0)=c:=(h _ (Zae _)).1;apply Ok.val;unfold IH Mb;refine Ok.no (by grind) (JT (i:=0) z0 (Ok.f (JT (i:=0) z0 (Ok.f ?_))));refine Wf (λv=>v) (Ξ m) (λ_ _=>True) 0 (Zag _) rfl trivial z0 (λrec v a _=>?_) λrec k v e a _ ih=>?_;have a:=a;unfold It;rw[a];exact Ok.f (KK rfl);have a:=a;have⟨h1,h2⟩:=h _ (Zae e);have d:AR m[k] Iu=θ (m[k].any λv=>bif(decide (v<(-1000000)))then ν else(decide (v>1000000))):=bF _ (λ_ _=>rfl) z0;unfold It;rw[a];refine Ok.t (JT e (JT (i:=0) z0 (Ok.no (by grind) (qr d (Ok.no (List.any_eq_false.2 λv a=>?_) (ih _ BE trivial))))));grind
def Aeo{m}{k}a{c}(h:RS c m)(b:1<=c){t}(e:t<c):(xr m[k])[t]'(by rw[Z3 (h _ (Zae a)).1 b];exact e)=Pk (X0 m) k t:=by
 have f:k<Ξ (X0 m):=by unfold X0;rw[Zac];exact a
 have d:=Z3 (h _ (Zae a)).1 b;unfold Pk;rw[BQ f];have:(X0 m)[k]=xr m[k]:=Zbu _;grind
def Aah{m}{k}a(b:0<Ξ m[k]):m[k][0]=Pk m k 0:=by unfold Pk;rw[BQ a,BQ b]
def wF{c}{m}(h:RS c m)(c0:2<=c)(c1:c<=4)(W:Ξ m<=200){d}(hd:6<=d):∃r,Rj m=θ r/\Vh d m=θ r/\Ξ r.1.A9<=5:=by
 by_cases hn:Ξ m=0;have:=Zau hn;subst this;exact⟨(xm,11),rfl,rfl,by simp[xm]⟩;have X:Ξ (m[0]'z0)=c:=(h _ (Zae _)).1;have Y:=y7 h z0;have h1:=Aep h z0;have l0:Ξ (X0 m)=Ξ m:=Zac ..;have l1:Ξ (X1 m)=Ξ m:=Zac ..;have g0:=rE Y z0;have g1:=rE h1 z0;have s0:=yr Y ⟨z0,z0⟩ z0 z0;have s1:=yr h1 ⟨z0,z0⟩ z0 z0;have r0:=pR Y ⟨z0,z0⟩ z0 z0;have r1:=pR h1 ⟨z0,z0⟩ z0 z0;have Z:=pR h ⟨z0,z0⟩ z0 z0;have⟨M,v1,v2,v3⟩:=qB g0 (Ac3 h z0 W) z0 z0 hd;have⟨N,t1,t2⟩:=qk g1 g0 z0 z0 z0 z0 hd;have⟨O,o1,o2,_⟩:=xo (n:=i64.wrap ((i64.wrap (Ξ m*qS m (Ξ m)))-(i64.wrap (yS m (Ξ m)*yS m (Ξ m))))) (d:=Ξ m) (i8 _).1 (i8 _).2 z0 z0;have P:=Aaa h z0 W o1;have g:∀w S,Ξ (ek w S)=w:=λw S=>by unfold ek;simp
 have H:∀w S,1<=w->(!(ek w S).isEmpty)=ν:=λw S hw=>by
  grind
 refine⟨(if M.2≠0 then(xm,M.2)else if N.2≠0 then(xm,N.2)else if O.2≠0 then(xm,O.2)else(mdl m M.1 N.1 O.1,0)),Ok.val ?_,Ok.val ?_,?_⟩;unfold Rj OX;refine qr (pE h z0 z0 ⟨z0,W⟩) (Ok.no rfl (JT (i:=0) z0 (Ok.f (JT (i:=0) z0 (Ok.f (JT (i:=0) z0 (is (by rw[dt z0,Zaw,II z0];rfl) ?_)))))));rw[Zaw,X];refine Wf (λq=>q.1) (Ξ m) (λk q=>q.2.1=(X0 m).take k/\q.2.2.1=(X1 m).take k/\q.2.2.2=yy m c k) 0 (Zag _) rfl ⟨rfl,rfl,?_⟩ z0 (λrec q I ⟨v,A,B⟩=>?_) λrec k q f I ⟨v,A,B⟩ ih=>?_;show List.replicate c 0=(List.range c).map λ_=>0;refine Zen zs λa h1 h2=>?_;simp;rw[<-l0,Zaj]at v;rw[<-l1,Zaj]at A;unfold OV OY;rw[I,v,A,B];refine Ok.f (qr s0 (qr v1 ?_));by_cases C:M.2=0;rw[Zah (by simp[C])];refine Ok.no (by grind) (qr s1 (qr t1 ?_));by_cases D:N.2=0;rw[Zah (by simp[D])];refine Ok.no (by grind) (qr P ?_);by_cases E:O.2=0;rw[Zah (by simp[E])];exact Ok.no (by grind) (KK rfl);rw[Zai E];exact Vc (bne_iff_ne.2 E) (KK rfl);rw[Zai D];exact Vc (bne_iff_ne.2 D) (KK rfl);rw[Zai C];exact Vc (bne_iff_ne.2 C) (KK rfl);have j:=(h _ (Zae f)).1;have F:=Z3 j z0;have hcl:Ξ (Ia m[k] 1 (Ξ m[k]))<=5:=by unfold Ia;simp;omega
 unfold OV;rw[I];have b:=we (r:=m[k]) z0;refine Ok.t (JT f (dg z0 (Ok.rm zv ?_)));rw[b];refine Ok.rm (by grind) (qr (x:=xr m[k]) (by unfold A0;rw[II z0];rfl) (JT (i:=0) z0 (Ok.rm zv (Ok.rm (by grind) ?_))));refine Wf (λz=>z.1) c (λt z=>z.2=(List.range c).map λu=>if u<t then vS m (k+1) u else vS m k u) 0 (Zag _) rfl ?_ z0 (λl z J G=>?_) λl t z V J G ih2=>?_;show q.2.2.2=_;rw[B];exact Zck λu _=>by rw[Zah z0]
 unfold OW OZ;rw[J,b,F];refine Ok.f (ih _ BE ⟨?_,?_,?_⟩);show q.2.1++_=_;rw[v,Zab z0,<-b];refine congrArg _ (congrArg (λz=>[z]) ?_);rw[b];exact(Zbu _).symm;show q.2.2.1++_=_;rw[A,Zab z0];refine congrArg _ (congrArg (λz=>[z]) ?_);unfold X1;rw[Zbu,BQ z0];show z.2=_;rw[G];exact Zck λu hu=>by rw[Zai (List.mem_range.1 hu)]
 have K:t<Ξ z.2:=by grind
 have hzt:z.2[t]=vS m k t:=by grind
 unfold OW;rw[J,b,F];refine Ok.t (JT z0 (JT K (JT (i:=0) z0 (JT K (ih2 _ BE ?_)))));show z.2.set ((t:Int)).toNat _=_;rw[Zaw,hzt,Aeo f h z0 V,Aah f z0,<-sH,G];rfl;unfold Vh Sg;refine qr Z (Ok.no (by grind) (JT (i:=0) z0 (Ok.f (JT (i:=0) z0 (Ok.f ?_)))));refine Wf (λq=>q.2.2.1) (Ξ m) (λk q=>q.1=yS m k/\q.2.1=qS m k/\q.2.2.2.1=(X0 m).take k/\q.2.2.2.2=(X1 m).take k) 0 (Zag _) rfl ⟨rfl,rfl,rfl,rfl⟩ z0 (λrec q I ⟨v,A,B,Q⟩=>?_) λrec k q f I ⟨v,A,B,Q⟩ ih=>?_;rw[<-l0,Zaj]at B;rw[<-l1,Zaj]at Q;unfold Sd Si;rw[I,v,A,B,Q];refine Ok.f (qr r0 (Vc (H _ _ z0) (is (by rw[dt z0,Zaw,g,II z0];rfl) ?_)));rw[Zaw,g];refine Wf (λz=>z.1) (Ξ m) (λk z=>z.2=yy m c k) 0 (Zag _) rfl ?_ z0 (λl z J G=>?_) λl k z f J G ih2=>?_;show List.replicate c 0=(List.range c).map λ_=>0;refine Zen zs λa h1 h2=>?_;simp;unfold Se Sj;rw[J,G];refine Ok.f (qr v2 ?_);by_cases C:M.2=0;rw[Zah (by simp[C])];refine Ok.no (by grind) (qr r1 (Vc (H _ _ z0) (qr t2 ?_)));by_cases D:N.2=0;rw[Zah (by simp[D])];refine Ok.no (by grind) (qr o2 ?_);by_cases E:O.2=0;rw[Zah (by simp[E])];exact Ok.no (by grind) (KK rfl);rw[Zai E];exact Vc (bne_iff_ne.2 E) (KK rfl);rw[Zai D];exact Vc (bne_iff_ne.2 D) (KK rfl);rw[Zai C];exact Vc (bne_iff_ne.2 C) (KK rfl);have j:=(h _ (Zae f)).1;have F:=Z3 j z0;unfold Se;rw[J];refine Ok.t (Wf (λy=>y.1) c (λt y=>y.2=(List.range c).map λu=>if u<t then vS m (k+1) u else vS m k u) 0 (Zag _) rfl ?_ z0 (λR y hy o=>?_) λR t y V hy o ih3=>?_);show z.2=_;rw[G];exact Zck λu _=>by rw[Zah z0]
 unfold Sf;rw[hy,o,Zac,Zee];refine Ok.f (ih2 _ BE ?_);exact Zck λu hu=>by rw[Zai (List.mem_range.1 hu)]
 have L:t<Ξ y.2:=by grind
 have hyt:y.2[t]=vS m k t:=by grind
 have T:k<Ξ (X0 m):=z0;have p:(X0 m)[k]=xr m[k]:=Zbu _
 have U:((X0 m)[k])[t]'(by grind)=Pk (X0 m) k t:=by
  unfold Pk;grind
 unfold Sf;rw[hy];refine Ok.t (JT L (JT T (JT (by grind) (JT f (JT (i:=0) z0 (JT L (ih3 _ BE ?_)))))));show y.2.set ((t:Int)).toNat _=_;rw[Zaw,hyt,U,Aah f z0,<-sH,o];rfl;have j:=(h _ (Zae f)).1;have F:=Z3 j z0;have hcl:Ξ (Ia m[k] 1 (Ξ m[k]))<=5:=by unfold Ia;simp;omega
 have b:=we (r:=m[k]) z0;unfold Sd;rw[I];refine Ok.t (JT f (JT (i:=0) z0 (JT f (dg z0 (Ok.rm zv ?_)))));rw[b];refine Ok.rm (by grind) (Ok.rm z0 (Ok.rm zv (Ok.rm (by grind) (ih _ BE ⟨?_,?_,?_,?_⟩))));show i64.wrap _=_;rw[v,Aah f z0];rfl;show i64.wrap _=_;rw[A,Aah f z0];rfl;show q.2.2.2.1++_=_;rw[B,Zab z0];exact congrArg _ (congrArg (λz=>[z]) (Zbu _).symm);show q.2.2.2.2++_=_;rw[Q,Zab z0];refine congrArg _ (congrArg (λz=>[z]) ?_);unfold X1;rw[Zbu,BQ z0];split;simp[xm];split;simp[xm];split;simp[xm];exact v3
theorem Adv(m:DS s)(hx:GX s x){i}(d:1<=i)n(h:Do s.A[i]){b:Int}(q:1<=b)(e:b<=Ξ s.A[i].L){j}(r:j<Ξ x.G):∃a v:Int,(0<=a/\a<=Ξ s.A[i].L)/\MV s.A[i] v/\KV s x i b j=tG s.A[i] a v b/\(a=0->v=s.A[i].C\/True):=by
 have C:=hx.picks_len m;have G:fin s i=Ξ s.A[i].L:=by rw[E8 n,Cs h]
 suffices hgo:∃a v:Int,(0<=a/\a<=Ξ s.A[i].L)/\MV s.A[i] v/\Bg s x j i b=θ (tG s.A[i] a v b) by
  have⟨a,v,h1,h2,t⟩:=hgo;exact⟨a,v,h1,h2,by unfold KV;rw[t];rfl,λ_=>.inr trivial⟩
 have f:AZ x.I (λa0=>G8 a0 i)=θ (Gb (λp=>p.B==(i:Int)) x.I):=JY (λ_ _=>rfl) z0;have hr:=hx.rows _ (Zae r)
 cases hff:x.I.findIdx? (λp=>p.B==(i:Int))with
 | none=>
   have c:MV s.A[i] s.A[i].C:=.inl ⟨Zbh _,h.high.1⟩;refine⟨0,s.A[i].C,⟨Zbh _,z0⟩,c,Ok.val ?_⟩;unfold Bg;apply qr f;unfold Gb;rw[hff];exact Vc rfl (qr (Ye m d n h (Zbh _) z0 q e c) (KK rfl))
 | some k=>
   have⟨o,g,u⟩:=List.findIdx?_eq_some_iff_getElem.1 hff;have g:x.I[k].B=i:=by grind
   have⟨y,h1,h2,t,z,H⟩:=hx.picks _ (Zae o);obtain rfl:y=i:=z0;have l:k+1<Ξ x.G[j]:=z0;have⟨D,E,w,_,I,F,A⟩:=hr.2.2.2 k _ _ (Zaa o) (Zaa l);obtain rfl:D=y:=z0;rw[Vn h]at A;have B:=F.meas h;refine⟨x.I[k].H,w,⟨z,z0⟩,B,Ok.val ?_⟩;unfold Bg;apply qr f;unfold Gb;rw[hff];refine Ok.no (Zap (by grind)) (JT o (JT r ?_));rw[BE];apply JT l;rw[A];exact qr (Ye m d n h z z0 q e B) (KK rfl)
def Afe(p:DS s)(hx:GX s x){c}(h:MS s c){j}(q:j<Ξ x.G)(d:ao s x c.toNat (fin s c.toNat) j=ν):-46<=(KV s x c.toNat (fin s c.toNat) j).1/\(KV s x c.toNat (fin s c.toNat) j).1<=46:=by
 have⟨e,r,m,f⟩:=h.nat;have t:fin s c.toNat=Ξ s.A[c.toNat].L:=by rw[E8 m,Cs f]
 have u:=B6 f;have⟨a,v,⟨a0,n⟩,g,i,_⟩:=Adv p hx r m f (b:=fin s c.toNat) z0 z0 q;have k:=sK f;have w:=f.low;have y:=f.high;unfold ao at d;rw[i]at d ⊢;unfold tG at d ⊢;rw[t,k]at d ⊢;by_cases o:1<=a/\v=B0;rw[Zai o]at d;cases d;rw[Zah o]at d ⊢;by_cases l:a=0/\s.A[c.toNat].An=ν;rw[Zai l]at d;cases d;rw[Zah l]at d ⊢;by_cases z:v=B0
 ·
   have A:a=0:=z0;rcases g with g|⟨ho,_⟩
   ·have B:=Ww f a0 n g;grind
   grind
 ·rcases g with g|⟨_,g⟩
  ·have B:=Ww f a0 n g;grind
  grind
def gY s x(cols:List Int)j:=cols.map λc=>(KV s x c.toNat (fin s c.toNat) j).1
theorem wD(d:DS s)(hx:GX s x){L}(g:Ξ L<=200)(h:∀j∈L,j<Ξ x.G):∀cols f,(∀c∈cols,MS s c)->Ju s x (ints L) cols (L.map f)=θ (L.map λj=>f j++gY s x cols j)
 | [],f,_=>by
   show θ (L.map f)=_;refine congrArg θ (Zck λj _=>?_);show f j=f j++[];rw[Zcq]
 | c::r,f,hc=>by
   have k:=hc c zs;have⟨e,l,m,a⟩:=k.nat;have i:=Rl d hx l m a g h;rw[<-e]at i;unfold Ju;rw[i,Zad,bq,Zac,Zbd,Zav];unfold vals;rw[List.zipWith_map,List.zipWith_self,wD d hx g h r _ λc b=>hc c (by simp[b])];refine congrArg θ (Zck λj _=>?_);show(f j++[_])++gY s x r j=f j++gY s x (c::r) j;rw[Zcn];rfl
def zn(i:DS s)(hx:GX s x){e}(h:RQ s 9 e)(ho:e.Op=11)(P:∀p∈QF s 9 e,one x.I p.B p.H){d}(hd:70<=d)(R:d<=1000):∃r:Bd×List Int×Int,LH d s x e.B e.A e.Q=θ r/\PL d s x e.B e.A e.Q=θ r/\(Ξ r.1.A0<=3/\Ξ r.1.A9<=5/\Ξ r.2.1<=200):=by
 have h1:=h.one;have hk:=Wv h z0;have hf:=LV h1.1.2;have S:=Rk i hx h z0 P hd R
 have en:nameless e={ Op:=11,K:=0,J:=ByteArray.empty,B:=e.B,A:=e.A,V:=[],Q:=e.Q,Y:={ Op:=0,B:=0,Af:=0,C:=0,E:=0,D:=[] },D:=[] }:=by
  have T:=hf.2.2.1 (by rw[ho];rfl);have e2:=hf.2.2.2.2 (by rw[ho];rfl);have e3:=Acf h1 (by rw[ho];rfl);unfold nameless;rw[ho,T,e2,e3,hk];rfl
 rw[en]at S;have U:=(S.usable i hx).2;have⟨u1,⟨u2,u3,u4⟩,_,_⟩:=S;have hc:=h1.2.2.1 (by rw[ho];rfl);have m:=h1.2.1;unfold PT at m;rw[Zah z0,Zah z0,Zah z0,Zah z0,Zai ho]at m;have⟨hM,⟨t0,t1⟩,hT⟩:=m
 have a:∀v∈[e.B]++e.A,MS s v:=λv n=>by
  rcases List.mem_append.1 n with n|n;rw[List.mem_singleton.1 n];exact hM;exact(hT.1 v n).1
 have hcl:Ξ ([e.B]++e.A)=Ξ e.A+1:=zs;have hp:=aV i hx hc (Mf P) (d:=d) z0 a z0;have hr:=Uj i hx hc (Mf P) (d:=d) z0 a z0;have F:=Uq hx d e.Q ([e.B]++e.A);have y:=λj (f:j∈ep d s x e.Q ([e.B]++e.A))=>Ur f;generalize ep d s x e.Q ([e.B]++e.A)=L at hp hr F y;have⟨k1,k2⟩:=ak hx F λj f=>(y j f).1;have W:Ξ (WQ x L)<=200:=by unfold WQ;rw[Zac];exact F
 generalize l:[e.B]++e.A=cols at *
 have X:RS (Ξ cols) (L.map (gY s x cols)):=λr hr'=>by
  obtain⟨j,f,rfl⟩:=List.mem_map.1 hr';refine⟨Zac ..,λv n=>?_⟩;obtain⟨c,G,rfl⟩:=List.mem_map.1 n;exact Afe i hx (a c G) (y j f).1 ((y j f).2 c G)
 have⟨w,w1,w2,w3⟩:=wF X z0 z0 (by grind) (d:=d) z0
 have o:Ju s x (ints L) cols (List.replicate (Ξ (ints L)) [])=θ (L.map (gY s x cols)):=by
  have:=wD i hx F (λj f=>(y j f).1) cols (λ_=>[]) a;rw[List.map_const',<-AE L]at this;rw[this];exact congrArg θ (Zck λj _=>Zgo _)
 refine⟨(if w.2≠0 then(xm,[],w.2)else({ Ah:=e.B,A0:=e.A,A9:=w.1.A9,A2:=w.1.A2,A3:=w.1.A3,Z:=w.1.Z,Bf:=w.1.Bf },WQ x L,0)),Ok.val ?_,Ok.val ?_,?_⟩;unfold LH;rw[l];refine qr (hx.check i) (Ok.no rfl (qr u1 (Ok.no rfl (qr u3 (qr u4 (Ok.no rfl (Ok.rm zv (qr hp (qr (x:=List.replicate (Ξ (ints L)) []) ?_ (qr o (qr w1 ?_)))))))))));unfold YQ;rw[dt ⟨by rw[AE];omega,z0⟩];rfl;by_cases g:w.2=0;rw[Zah (by simp[g])];exact Ok.no (by grind) (qr (x:=e.A) (by unfold A0;rw[II z0];rfl) (qr k1 (KK rfl)));rw[Zai g];exact Vc (bne_iff_ne.2 g) (KK rfl);unfold PL;rw[l];refine qr U (Ok.no rfl (Ok.rm zv (qr hr ?_)));refine Wf (λq=>q.1) (Ξ L) (λk q=>q.2=(L.take k).map (gY s x cols)) 0 (Zag _) rfl rfl z0 (λrec q hq H=>?_) λrec k q u hq H ih=>?_;rw[Zaj]at H;unfold Q2 YN;rw[hq,H,AE];refine Ok.f (qr w2 ?_);by_cases g:w.2=0;rw[Zah (by simp[g])];exact Ok.no (by grind) (Ok.rm z0 (qr k2 (KK rfl)));rw[Zai g];exact Vc (bne_iff_ne.2 g) (KK rfl);have f:=(y _ (Zae u)).1
 have T:idx (ints L) k=θ (L[k]:Nat):=by
  rw[AY (by rw[AE];exact u)];simp[ints]
 unfold Q2;rw[hq,AE];refine Ok.t (Wf (λz=>z.1) (Ξ cols) (λt z=>z.2=(gY s x cols L[k]).take t) 0 (Zag _) rfl rfl z0 (λI z hz b=>?_) λI t z O hz b ih2=>?_);have hrl:Ξ (gY s x cols L[k])=Ξ cols:=Zac ..;rw[<-hrl,Zaj]at b;unfold Q3;rw[l,hz,b];refine Ok.f (Ok.rm (by grind) (ih _ BE ?_));show q.2++[_]=_;rw[H,Zab u,Zay];rfl;have M:=a _ (Zae O);unfold Q3;rw[l,hz];refine Ok.t (qr T (JT O (JT O (qr (M.fin i).2 (qr (M.kv i hx f).2.1 (Ok.rm (by rw[b,Zan];simp;omega) (ih2 _ BE ?_)))))));show z.2++[_]=_;have N:t<Ξ (gY s x cols L[k]):=by unfold gY;rw[Zac];exact O
 rw[b,Zab N];have et:(gY s x cols L[k])[t]'N=(KV s x cols[t].toNat (fin s cols[t].toNat) L[k]).1:=(Zbu _).trans rfl;rw[et];split;exact⟨by simp[xm],by simp[xm],zs⟩;grind
def vh(l:DS s)(hx:GX s x){bs}(B:Ξ bs<=1000)(C:∀b∈bs,GV x b.Ai){e}{t}(h:RQ s 9 e)(u:KD bs 9 e t)(m:∀p∈QF s 9 e,one x.I p.B p.H){d}(hd:71<=d)(D:d<=1000):Sm (Bq d (zI s x bs) e) (E3 d s x bs e) (PV x t):=by
 by_cases ho:e.Op<10;exact cJ l hx B C 9 d d h ho u m z0 z0;have E:=RA h.one.1.1
 have F:t=e.Op-8:=by
  unfold KD at u;grind
 subst F;obtain⟨d,rfl⟩:∃z,d=z+1:=⟨d-1,z0⟩;show Sm (Cb d (Bq d) (Dw d) (zI s x bs) e) (Ii d (E3 d) s x bs e) (PV x (e.Op-8));unfold Cb Ii;rcases(by omega:e.Op=10\/e.Op=11\/e.Op=12\/e.Op=13\/e.Op=14)with g|g|g|g|g;have⟨r,a,f,G⟩:=zX l hx h g m (d:=d) z0 z0;rw[g];show Sm ((Ik d s x e.V e.B e.Q).bind _) ((Nr d s x e.V e.B e.Q).bind _) _;rw[a,f,Zad,Zad];unfold AL CY;by_cases o:r.2=0;have⟨w,v,y,n⟩:=G o;have H:=(y _ (Zae n)).2;have A:idx r.1.Av 0=θ (r.1.Av[0]'n):=AY (i:=0) n;have q:A0 (r.1.Av[0]'n).G=θ (r.1.Av[0]'n).G:=by unfold A0;rw[II z0];rfl
 rw[o,A];rw[Zbd,Zav,Zad,q];exact Sm.ret λ_=>⟨rfl,⟨by show Ξ r.1.V<=_;omega,by show Ξ r.1.Av<=_;omega,λc j=>by have:=y c j;omega,by show 0<=1000000;omega,by show 0<=1000000;omega,by show 0<=1000000;omega,by show 0<=1000000;omega,by show(Ξ (r.1.Av[0]'n).G)<=_;omega⟩,λh=>by cases h⟩;rw[beq_eq_false_iff_ne.2 o];rw[Zaq,bne_iff_ne.2 o,Zav];exact Sm.ret (PV.err (bne_iff_ne.2 o));have⟨r,a,f,w,v,y⟩:=zn l hx h g m (d:=d) z0 z0;rw[g];show Sm ((LH d s x e.B e.A e.Q).bind _) ((PL d s x e.B e.A e.Q).bind _) _;rw[a,f,Zad,Zad];unfold AL CY;exact Sm.br (λk=>Sm.ret (PV.err k)) λ_=>Sm.ret λ_=>⟨rfl,⟨by show 0<=1000000;omega,by show 0<=1000000;omega,(λc j=>by cases j),by show Ξ r.1.A0<=_;omega,by show Ξ r.1.A9<=_;omega,by show 0<=1000000;omega,by show 0<=1000000;omega,by show Ξ r.2.1<=_;omega⟩,λh=>by cases h⟩;have⟨r,a,f,w,v⟩:=yQ l hx h g m (d:=d) z0 z0;rw[g];show Sm ((LJ d s x e.B e.Y e.Q).bind _) ((PM d s x e.B e.Y e.Q).bind _) _;rw[a,f,Zad,Zad];unfold AL CY;exact Sm.br (λk=>Sm.ret (PV.err k)) λ_=>Sm.ret λ_=>⟨rfl,⟨by show 0<=1000000;omega,by show 0<=1000000;omega,(λc j=>by cases j),by show 0<=1000000;omega,by show 0<=1000000;omega,by show Ξ r.1<=_;omega,by show 0<=1000000;omega,by show Ξ r.2.1<=_;omega⟩,λh=>by cases h⟩;have⟨r,a,f,w,v⟩:=Abx l hx h g m (d:=d) z0 z0;rw[g];show Sm ((S4 d s x e.B e.K e.Q).bind _) ((PO d s x e.B e.K e.Q).bind _) _;rw[a,f,Zad,Zad];unfold AL CY;exact Sm.br (λk=>Sm.ret (PV.err k)) λ_=>Sm.ret λ_=>⟨rfl,⟨by show 0<=1000000;omega,by show 0<=1000000;omega,(λc j=>by cases j),by show 0<=1000000;omega,by show 0<=1000000;omega,by show 0<=1000000;omega,by show Ξ r.1<=_;omega,by show Ξ r.2.1<=_;omega⟩,λh=>by cases h⟩;have⟨r,a,f,v⟩:=Adk l hx h g m (d:=d) z0 z0;rw[g];show Sm ((Tf d s x e.B e.Q).bind _) ((PN d s x e.B e.Q).bind _) _;rw[a,f,Zad,Zad];unfold AL CY;exact Sm.br (λk=>Sm.ret (PV.err k)) λ_=>Sm.ret λ_=>⟨rfl,⟨by show 0<=1000000;omega,by show 0<=1000000;omega,(λc j=>by cases j),by show 0<=1000000;omega,by show 0<=1000000;omega,by show 0<=1000000;omega,by show 0<=1000000;omega,by show Ξ r.2.1<=_;omega⟩,λh=>by cases h⟩
def zy(a:DS s)(hx:GX s x):DC s x.I=θ 0:=qu a hx.picks hx.order (by have:=hx.picks_len a;omega)
def GB x(bs:List Ar):=Ξ bs<=30/\∀b∈bs,GV x b.Ai
def sw(a:DS s)(hx:GX s x)p{d}(hd:71<=d)(e:d<=1000):Sm (F5 d s x p) (NH d s x p) λr=>GB x r.1:=by
 have F:=hx.picks_len a;have nil:GB x []:=⟨zs,λb f=>by cases f⟩;unfold F5 NH;refine qr (hx.check a) (Ok.no rfl (WD (qr (hx.rcheck a) (Ok.no rfl (WD ?_)))));have⟨c,B,_,G⟩:=(ox a p (d:=d) z0 e).ex;have⟨t,C,H,I⟩:=(uZ a (picks:=x.I) z0 p (d:=d) z0 e).ex;rw[B,H,Zad,Zad];by_cases gc:c.2≠0
 have J:t=([],c.1,c.2):=by
  have:=C;unfold Il at this;grind
 rw[J,bne_iff_ne.2 gc];exact Sm.ret nil;have gc:c.2=0:=z0;rw[gc];show Sm ((Il d s x.I p).bind _) _ _;rw[C,Zad];refine Sm.br (λ_=>Sm.ret nil) λK=>?_;have⟨g,D⟩:=I (by grind);have⟨V,n⟩:=G gc;have L:=D.len;refine Ok.two (Ξ p) (λk u v=>u=v/\u.1=k/\Rn u.2=g.take k/\GB x u.2) ⟨rfl,rfl,rfl,nil⟩ (λM N u v ⟨o,q,_,m⟩=>?_) λM N k u v h ⟨o,q,w,m⟩ ih=>?_;subst o;unfold L4 Sn;rw[q];exact Ok.f (KK (Ok.f (KK ⟨rfl,m⟩)));subst o
 have O:Ξ u.2=k:=by
  have:=congrArg List.length w;unfold Rn at this;grind
 have⟨P,E,Q⟩:=D.all k h z0;have i:=Q u.2 w;have j:=(n k h).expr;have hE:=Abv a (picks:=x.I) z0 (zy a hx) (bs:=u.2) z0 j (d:=d) z0 e E i;unfold L4 Sn;rw[q];refine Ok.t (Sm.r (Ok.t (WD (JT h (WD (JT h (WD ?_)))))))
 have y:Tx d s x u.2 p[k].At=E3 d s x u.2 p[k].At:=by
  unfold Tx;rw[hx.rcheck a,Zad,show((0:Int) != 0)=false from rfl,Zaq,hE,Zad];show(bif 0 != 0 then _ else(E3 d s x u.2 p[k].At).bind λl=>θ (l.1,l.2))=_;rw[show((0:Int) != 0)=false from rfl,Zaq]
  cases E3 d s x u.2 p[k].At<;>rfl
 rw[y];refine Sm.bind (vh a hx z0 m.2 j i E hd e) λv R=>Sm.br (λ_=>Sm.ret nil) λS=>?_;have⟨T,U⟩:=R (by grind);refine Ok.rm zv (WD (JT h (JT h (Ok.rm zv (WD (ih _ _ ⟨rfl,BE,?_,?_,?_⟩))))));show Rn (u.2++[_])=_;have A:k<Ξ g:=z0;rw[Zab A,<-w];unfold Rn;rw[Zay];refine congrArg _ (congrArg (λz=>[z]) ?_);exact Prod.ext P.symm T;show(Ξ (u.2++[_]))<=30;rw[Zar];simp;omega;intro b f;rcases List.mem_append.1 f with f|f;exact m.2 b f;grind
end
section
variable {s:Aa}
def qF{c}(g:Me c)(h:DS s)m:Ok (I3 c s m) λr=>Me r.2/\Ξ r.1<=10:=by
 unfold I3;refine Ok.bind (fC h) λl e=>?_;have⟨_,e,_⟩:=e;refine Wf (λq=>q.1) (Ξ l) (λk q=>Me q.2.1/\Ξ q.2.2<=k) 0 (Zag _) rfl ⟨g,Zam _⟩ z0 (λrec q b a=>?_) λrec k q d b a ih=>?_;rw[Ir,b];rw[Bl];exact KK ⟨a.1,by have:=a.2;show Ξ q.2.2<=10;omega⟩;have h2:=a.2;rw[Ir,b];rw[AK];refine JT d (Ok.br (λ_=>Ok.br (λ_=>JT d (Ok.rm zv (ih _ BE ⟨a.1,zv⟩))) λ_=>Ok.bind (U0 a.1 z0 z0) λz f=>Ok.br (λ_=>JT d (Ok.rm zv (ih _ BE ⟨f,zv⟩))) λ_=>ih _ BE ⟨f,by show Ξ q.2.2<=k+1;omega⟩) λ_=>ih _ BE ⟨a.1,by show Ξ q.2.2<=k+1;omega⟩)
def j6(j:DS s){c}(m:Me c){v:Int}(n:∃i:Nat,v=i/\1<=i/\∃q:i<Ξ s.A,Iy s.A[i]){b}{k}(r:k<=10)(o:Ξ b<=k/\∀p∈b,XK s p){ρ}{Q}{f:Ac->List Ab->Option ρ}(h:∀c b,Me c->(Ξ b<=k+1/\∀p∈b,XK s p)->Ok (f c b) Q):
 Ok ((B3 s v).bind λg=>(AB c (i64.wrap (g+1))).bind λa=>bif P.rm (Ξ b) (Ξ [({ B:=v,H:=a.1 }:Ab)]) then f a.2 (b++[{ B:=v,H:=a.1 }])else none) Q:=by
 obtain⟨i,rfl,h1,h2,_⟩:=n;have t:=j.fin_ok h1 h2;apply qr (j.rfinest h1 h2);have e:i64.wrap (fin s i+1)=fin s i+1:=wr;rw[e];refine Ok.bind (Fe m z0 z0) λz l=>Ok.rm zv (h _ _ l.1 ⟨zv,λp d=>?_⟩);rcases List.mem_append.1 d with d|d;exact o.2 p d;rw[Zbb]at d;subst d;exact⟨i,h1,h2,rfl,l.2.1,by show z.1<=fin s i;omega⟩
def jz{c}(g:Me c)(i:DS s):Ok (Hd c s) λr=>Me r.2/\Ξ r.1<=10/\∀p∈r.1,XK s p:=by
 unfold Hd;refine Ok.bind (fB i) λl o=>Ok.bind (U0 g z0 z0) λy hy=>?_;have⟨j,o,t⟩:=o;have u:=List.length_pos_iff.2 j;refine Ok.br (λ_=>Ok.bind (Fe hy z0 z0) λz v=>dg z0 ?_) λ_=>?_;have w:Ξ (Ia l z.1 (Ξ l))<=6:=by unfold Ia;rw[Zan,Zcd];omega
 refine Wf (λq=>q.1) (Ξ (Ia l z.1 (Ξ l))) (λk q=>Me q.2.1/\Ξ q.2.2<=k/\∀p∈q.2.2,XK s p) 0 (Zag _) rfl ⟨v.1,Zam _,λp m=>by cases m⟩ z0 (λrec q d a=>?_) λrec k q e d a ih=>?_;rw[Jd,d];rw[Bl];exact KK ⟨a.1,by have:=a.2.1;show Ξ q.2.2<=10;omega,a.2.2⟩;rw[Jd,d];rw[AK];have h:=Zdf (Zbo (Zae e));exact JT e (JT e (j6 i a.1 (t _ h) z0 a.2 (f:=λc b=>rec (i64.wrap (k+1),c,b)) λc b g n=>ih (i64.wrap (k+1),c,b) BE ⟨g,n⟩));refine Wf (λq=>q.1) (Ξ l) (λk q=>Me q.2.1/\Ξ q.2.2<=k/\∀p∈q.2.2,XK s p) 0 (Zag _) rfl ⟨hy,Zam _,λp m=>by cases m⟩ z0 (λrec q d a=>?_) λrec k q e d a ih=>?_;rw[Je,d];rw[Bl];exact KK ⟨a.1,by have:=a.2.1;show Ξ q.2.2<=10;omega,a.2.2⟩;rw[Je,d];rw[AK];exact JT e (JT e (j6 i a.1 (t _ (Zae e)) z0 a.2 (f:=λc b=>rec (i64.wrap (k+1),c,b)) λc b g n=>ih (i64.wrap (k+1),c,b) BE ⟨g,n⟩))
abbrev DE{α}(m:Option (α×Ac)):=Ok m λr=>Me r.2
def SO(a:DS s){c}(b:Me c)(k:Nat)(e:k<=3){d}(hd:3<d):DE (B4 d c s k):=(ri a k d b z0 z0).mono λr hr=>hr.1
theorem gC(b:DS s){ns}(j:Ξ ns<=100):∀(m d:Nat){c},Me c->m+4<d->m<=5->DE (D1 d c s ns m)
 | m,0,c,_,h,_=>by omega
 | m,d+1,c,g,hd,hm=>by
   have f:∀{c:Ac},Me c->DE (Ez ns d s c):=λg=>by
    unfold Ez;refine Ok.bind (Fe g z0 z0) λx hx=>Ok.br (λ_=>Ok.bind (Mj hx.1 z0 z0 z0 z0) λz a=>KK a.1) λ_=>Ok.br (λ_=>bt (λl=>Ok.bind (Fe hx.1 z0 z0) λz a=>?_) λ_=>(Ok.bind (SO b hx.1 2 z0 z0) λz a=>KK a)) λ_=>Ok.br (λ_=>Ok.bind (QW hx.1 b) λz a=>Ok.bind (SO b a.1 1 z0 z0) λw i=>KK i) λ_=>Ok.br (λ_=>Ok.bind (QW hx.1 b) λz a=>Ok.bind (SO b a.1 0 z0 z0) λw i=>KK i) λ_=>(Ok.bind (SO b hx.1 2 z0 z0) λz a=>KK a);obtain⟨n,e⟩:∃n:Nat,z.1=n:=⟨z.1.toNat,z0⟩;rw[e];exact JT z0 (KK a.1)
   show DE (Ga d (D1 d) c s ns m);unfold Ga;refine bt (λl=>Ok.bind (U0 g z0 z0) λy hy=>Ok.br (λ_=>Ok.bind (Mj hy z0 z0 z0 z0) λo ho=>?_) λ_=>f hy) λ_=>f g;obtain⟨k,rfl⟩:∃k,m=k+1:=⟨m-1,z0⟩;have r:i64.wrap ((k+1:Nat)-1)=k:=by rw[wr];omega
   rw[r];exact Ok.bind (gC b j k d ho.1 z0 z0) λp t=>Ok.bind (gC b j k d t z0 z0) λq u=>KK u
def Abu(f:DS s){ns}(x:Ξ ns<=100){c}(l:Me c){d}(hd:10<=d):DE (J8 d c s ns):=by
 unfold J8;have h:∀{c:Ac},Me c->DE ((D1 d c s ns 2).bind λj=>θ (j.1,j.2)):=λl=>Ok.bind (gC f x 2 d l z0 z0) λz g=>KK g;refine Ok.bind (QW l f) λm r=>Ok.bind (Fe r.1 z0 z0) λy hy=>?_;have⟨i,e,B,u,A⟩:=r.2;have k:=B6 A;refine Ok.br (λ_=>(Ok.bind (jz hy.1 f) λa p=>Ok.bind (SO f p.1 1 z0 z0) λb q=>Ok.bind (U0 q z0 z0) λo ho=>Ok.br (λ_=>KK ho) λ_=>KK ho)) λ_=>Ok.br (λ_=>(Ok.bind (jz hy.1 f) λa p=>Ok.bind (SO f p.1 1 z0 z0) λb q=>Ok.bind (U0 q z0 z0) λo ho=>Ok.br (λ_=>KK ho) λ_=>KK ho)) λ_=>Ok.br (λ_=>Ok.bind (qF hy.1 f m.1) λt v=>bt (λ_=>Ok.bind (SO f v.1 1 z0 z0) λz g=>KK g) λ_=>h v.1) λ_=>Ok.br (λ_=>?_) λ_=>Ok.br (λ_=>?_) λ_=>Ok.br (λ_=>Ok.bind (SO f hy.1 0 z0 z0) λz g=>KK g) λ_=>h hy.1;rw[e];exact JT u (bt (λC=>Ok.bind (SO f hy.1 0 z0 z0) λz g=>Ok.bind (SO f g 0 z0 z0) λw k=>KK k) λ_=>h hy.1);rw[e];refine JT u (Ok.bind (Fe hy.1 z0 z0) λz g=>?_);obtain⟨n,e⟩:∃n:Nat,z.1=n:=⟨z.1.toNat,z0⟩;rw[e];exact JT z0 (Ok.bind (SO f g.1 1 z0 z0) λw k=>KK k)
def Abz{n}(a:0<=n)(h1:n<10):∃b:ByteArray,FB n=θ b/\b.size<=10:=by
 have h:∀k:Fin 10,(⟨(Go.Lib.decDigits k.val).toArray⟩:ByteArray).size<=10:=by decide +kernel
 refine⟨_,by unfold FB;rw[dt ⟨a,z0⟩];rfl,h ⟨n.toNat,z0⟩⟩
def Acm(f:DS s){c}(g:Me c){d}(hd:10<=d):DE (GJ d c s 3):=by
 unfold GJ;refine Ok.bind (Fe g (n:=i64.wrap (3+1)) j0 j0) λy hy=>?_;have h:y.1<4:=hy.2.2;refine Ok.loop (λq=>0<=q.1/\Ξ q.2.2.1+q.1<=3/\Me q.2.1/\Ξ q.2.2.2<=Ξ q.2.2.1) (λq=>q.1.toNat) ⟨hy.2.1,by show(0:Int)+y.1<=3;omega,hy.1,Zam _⟩ (by unfold Ay;show y.1.toNat<_;omega) λrec q ⟨l,m,a,p⟩ ih=>?_;rw[Kj];refine bt (λr=>?_) λ_=>KK a;have⟨b,i,j⟩:=Abz (n:=Ξ q.2.2.1) z0 z0;have k:i64.wrap (q.1-1)=q.1-1:=wr;rw[k];refine qr i (dg (by show 1+b.size<=9223372036854775807;omega) (Ok.bind (U0 a z0 z0) λo ho=>Ok.bind (Abu f z0 ho hd) λe he=>?_));refine bt (λh1=>Ok.rm zv (Ok.rm zv (ih _ ⟨by show 0<=q.1-1;omega,zv,he,zv⟩ (by grind)))) λh1=>Ok.rm zv (ih _ ⟨by show 0<=q.1-1;omega,zv,he,zv⟩ (by grind))
end
section
variable {s:Aa} {x:Ad}
def oA{α}{l}{e:α->α->Bool}{K:Int->Option Bool}(g:Ξ l<=1000000)(d:∀a,e a a=false)(hK:∀v,K v=θ ν):
 (bif((Ξ l:Int) != Ξ l)then θ false else P.iter (λrec v=>bif v<(Ξ l:Int)then(idx l v).bind λa=>(idx l v).bind λb=>bif e a b then θ false else rec (i64.wrap (v+1))else K v) Ay 0)=θ ν:=
 Ok.val (Ok.no zs (Wf (λv=>v) (Ξ l) (λ_ _=>True) 0 (Zag _) rfl trivial z0 (λrec v c _=>by
  have c:=c;rw[c];exact Ok.f ⟨ν,hK _,rfl⟩) λrec k v f c _ ih=>by
  have c:=c;rw[c];exact Ok.t (JT f (JT f (Ok.no (d _) (ih _ BE trivial))))))
def V7{l}(b:Ξ l<=1000000):KL l l=θ ν:=oA b (λa=>zs) λ_=>rfl
def qJ{v}(h:VB v):JP v v=θ ν:=by
 apply Ok.val;unfold JP;refine Vc zs (qr (x:=ν) (Ok.val ?_) (Vc rfl (qr (x:=ν) (Ok.val ?_) (Vc rfl (qr (x:=ν) (oA h.curve (λa=>zs) λ_=>rfl) (Vc rfl (qr (x:=ν) (oA h.hist (λa=>zs) λ_=>rfl) (Vc zs (qr (V7 h.line) (KK rfl))))))))));unfold VT;refine qr (x:=ν) (oA h.dims (λa=>zs) λ_=>rfl) (Ok.no zs (Wf (λv=>v) (Ξ v.Table.Av) (λ_ _=>True) 0 (Zag _) rfl trivial (by have:=h.cells;omega) (λrec u b _=>?_) λrec k u c b _ ih=>?_));have b:=b;unfold Qr;rw[b];exact Ok.f (KK rfl);have b:=b;have d:=h.cells;have⟨h1,h2⟩:=h.cell _ (Zae c);unfold Qr;rw[b];refine Ok.t (JT c (JT c (qr (x:=ν) (Ok.val ?_) (Ok.no rfl (ih _ BE trivial)))));unfold OM;exact qr (V7 h1) (Vc zs (qr (V7 h2) (KK rfl)));unfold VU;exact Vc zs (qr (V7 h.terms) (Vc rfl (qr (x:=ν) (oA h.coefs (λa=>zs) λ_=>rfl) (KK zs))))
def ic{bs}(h:GB x bs):PP bs bs=θ ν:=by
 have c:=h.1;apply Ok.val;unfold PP;refine Ok.no zs (Wf (λv=>v) (Ξ bs) (λ_ _=>True) 0 (Zag _) rfl trivial z0 (λrec u a _=>?_) λrec k u b a _ ih=>?_);have a:=a;unfold Q9;rw[a];exact Ok.f (KK rfl);have a:=a;unfold Q9;rw[a];exact Ok.t (JT b (JT b (Ok.no zs (JT b (JT b (Ok.no zs (JT b (JT b (qr (qJ (h.2 _ (Zae b)).vb) (Ok.no rfl (ih _ BE trivial)))))))))))
def TR{α:Type}p{l:List α}{k}a:(l.take (k+1)).filter p=bif p l[k]then(l.take k).filter p++[l[k]]else(l.take k).filter p:=by
 rw[Zab a,Zew]
 grind
def xx{bs}(h:GB x bs):GN bs=θ (bs.filter (·.A8))/\Ty bs=θ (bs.filter (·.A8))/\GB x (bs.filter (·.A8)):=by
 have i:=h.1;have g:=λk=>Zce (λb:Ar=>b.A8) (bs.take k);refine⟨Ok.val ?_,Ok.val ?_,Zbl (Zce _ _) i,λb j=>h.2 b (List.mem_filter.1 j).1⟩;unfold GN;refine Wf (λq=>q.1) (Ξ bs) (λk q=>q.2=(bs.take k).filter (·.A8)) 0 (Zag _) rfl rfl z0 (λrec q d a=>?_) λrec k q c d a ih=>?_
 rw[Zaj]at a;unfold Kr;rw[d];exact Ok.f (KK a);have f:=g k;rw[Zan]at f;unfold Kr;rw[d];refine Ok.t (JT c (Ok.br (λe=>qr (mR (h.2 _ (Zae c)).vb) (Ok.rm (by grind) (ih _ BE ?_))) λe=>ih _ BE ?_));have t:=TR (λb:Ar=>b.A8) c;rw[e,Zav]at t;show q.2++[_]=_;rw[a,t];have t:=TR (λb:Ar=>b.A8) c;rw[e,Zaq]at t;show q.2=_;rw[a,t];unfold Ty;refine Wf (λq=>q.1) (Ξ bs) (λk q=>q.2=(bs.take k).filter (·.A8)) 0 (Zag _) rfl rfl z0 (λrec q d a=>?_) λrec k q c d a ih=>?_
 rw[Zaj]at a;unfold Q8;rw[d];exact Ok.f (KK a);have f:=g k;rw[Zan]at f;unfold Q8;rw[d];refine Ok.t (JT c (Ok.br (λe=>JT c (Ok.rm (by grind) (ih _ BE ?_))) λe=>ih _ BE ?_));have t:=TR (λb:Ar=>b.A8) c;rw[e,Zav]at t;show q.2++[_]=_;rw[a,t];have t:=TR (λb:Ar=>b.A8) c;grind
def zP(b:DS s)y(c:Ξ y.I<=1000000)p{d}(hd:71<=d)(a:d<=1000):Sm (F5 d s y p) (NH d s y p) λ_=>True:=by
 have⟨e,f,h,i⟩:=(nw b y c).ex;by_cases g:e=0;exact(sw b (i g) p hd a).mono λ_ _=>trivial;unfold F5 NH;rw[f,h,Zad,Zad,bne_iff_ne.2 g];exact Sm.ret trivial
def y3{c}(a:Me c){n:Nat}(b:n<=50):Ok (I5 DD c n) λr=>jl r.1 n/\XOK r.1.Bi r.2.1 n/\Me r.2.2:=by
 unfold I5;refine Ok.bind (uS a b) λx hx=>qr (Abd hx.2.schema) (Ok.bind (uy hx.1) λy hy=>Ok.bind (vR hx.2 z0 hy.2.1 hy.2.2) λz d=>KK ⟨hx.2,d,hy.1⟩)
def mG:QU DD=θ ν:=by decide +kernel
def zQ codes(h:∀v∈codes,0<=v/\v<=255)(q:Ξ codes<=9223372036854775807)b a:Is DD codes b a=θ ν:=by
 apply Ok.val;unfold Is;refine Ok.br (λ_=>qr mG (KK rfl)) λg=>?_
 have t:Ξ a.I<=8:=by grind
 refine Ok.bind (Acc codes h q) λc u=>Ok.bind (y3 u (n:=8) j0) λw ⟨y,z,A⟩=>?_;have i:=y.schema;have hx:=z.gx i j0;refine Ok.bind (Acm i A j0) λp _=>?_;refine Wf (λv=>v) (Ξ [p.1,b]) (λ_ _=>True) 0 (Zag _) rfl trivial zs (λrec v f _=>?_) λrec k v m f _ ih=>?_;have f:=f;unfold Gl Jk;rw[f];have⟨r,j,l,_⟩:=(zP i a z0 p.1 (d:=DD) j0 j0).ex;exact Ok.f (qr j (qr l (Vc zs (qr mG (KK rfl)))));have f:=f;have B:k<2:=m;unfold Gl;rw[f];have⟨r,j,l,o⟩:=(sw i hx [p.1,b][k] (d:=DD) j0 j0).ex;have⟨C,D,E⟩:=xx o;exact Ok.t (JT m (qr j (qr l (Ok.no zs (qr (ic o) (Ok.no rfl (qr C (qr D (qr (ic E) (Ok.no rfl (ih _ BE trivial)))))))))))
end
end
