/- QB -/
import Derived.Test.YtkjijhldfdplgaaGreatDoorQA
open Go.IntKind (i64 u64)
set_option linter.all false
namespace Go.Proofs.YtkjijhldfdplgaaGreatDoor.P
open Go Go.Abs Go.Proofs
set_option maxRecDepth 100000
variable {s:Aa}
theorem MA(n a b:Int):F7 n a b=some (decide (a<=n/\n<=b)):=by
 unfold F7;grind
theorem eE{w:List Int}(h:w∈Qa):w=[1]\/w=[1,5]\/w=[1,5,20]\/w=[1,2,4,12]:=by simpa [Qa] using h
theorem nI{c:Au}(h:ER c):Jo c=some 0:=by
 have a:L1 c=some 0:=by
  obtain⟨n,k,b,lo,d,w,o⟩:=c;rcases eE h.widths with e|e|e|e<;>(simp only at e;subst e;rfl)
 obtain⟨f,g⟩:=h.low;obtain⟨i,j⟩:=h.high;unfold Jo;rw[MA,tc,dt,MA,tc,dt,df,a];rfl
theorem nt{c:Au}(h:ER c):EP c=some 0:=by
 have f:(bif(bif((c.S.length:Int)==0)then true else(decide ((c.S.length:Int)>4)))then some 1 else iter (λa s=>Hu c (λd b=>some 0) a s.1 s.2) AC (1,0))=some 0:=by
  obtain⟨n,k,g,lo,i,w,o⟩:=c;rcases eE h.widths with e|e|e|e<;>(simp only at e;subst e;rfl)
 obtain⟨j,l⟩:=h.low;obtain⟨m,p⟩:=h.high;unfold EP;grind
def rr(i:Nat)(c:Au):Prop:=(i=0/\c=ri)\/(1<=i/\(Nt c\/ER c))
theorem DS.cl(h:DS s){i:Nat}(a:i<s.A.length):rr i s.A[i]:=by
 rcases Nat.eq_zero_or_pos i with rfl|b
 ·exact .inl ⟨rfl,h.col0 a⟩
 ·exact .inr ⟨b,h.col b a⟩
theorem rr.kinds{i:Nat}{c:Au}(h:rr i c):(c.Kind=1\/c.Kind=2\/c.Kind=3)/\(c.Kind=1->i=0):=by
 rcases h with⟨rfl,rfl⟩|⟨a,h|h⟩
 ·exact⟨.inl rfl,λ_=>rfl⟩
 ·rw[h.kind];exact⟨.inr (.inl rfl),λe=>by omega⟩
 ·rw[h.kind];exact⟨.inr (.inr rfl),λe=>by omega⟩
theorem Y4{i:Nat}{c:Au}(h:rr i c):Ia c=some 0:=by
 rcases h with⟨rfl,rfl⟩|⟨a,h|h⟩
 ·rfl
 ·obtain⟨n,k,b,lo,d,w,o⟩:=c;obtain⟨e,f,g,j,l,m⟩:=h;grind
 ·unfold Ia;rw[nI h,h.kind,h.list];rfl
theorem pj(h:DS s){i:Nat}(b:i<s.A.length):K5 s i=some 0:=by
 have a:=h.cl b;have hk:=a.kinds;have f:=h.lists2;refine Ok.val ?_;unfold K5;refine y4 b (qr (h.name b).1 ?_);simp only[Bool.not_true,Bool.not_false,tJ,tC];refine y7 (λs=>s) i (λ_ _=>True) 0 (sZ _) rfl trivial (by have:=h.cols_length;omega) (λrec q hq _=>?_) λrec k q c hq _ ih=>?_
 ·simp only[J2,hq];rw[EL];unfold J3;rw[MA,tc,dt];have g:(bif decide ((i:Int)>0)then s.A[i].Kind==1 else false)=false:=by grind
  rw[g];show Ok (bif(s.A[i].Kind==2)then _ else _) _;refine y5 (λj=>?_) λ_=>Ok.eq (Y4 a);have j:s.A[i].Kind=2:=by grind
  have d:s.A[i].Am=0\/s.A[i].Am=1:=by
   rcases a with⟨rfl,e⟩|⟨_,h|h⟩
   ·rw[e];exact .inl rfl
   ·exact h.list
   ·exact .inl h.list
  rw[MA,tc,f,ti (by rw[wr];omega)];exact Ok.eq (Y4 a)
 ·simp only[J2,hq];rw[C4];refine y4 (by grind) ?_;rw[(h.name_ne b c).1];refine ih _ ?_ trivial;show i64.wrap ((k:Int)+1)=_;have:=h.cols_length;rw[wr];omega
theorem DS.lname(h:DS s)(c:0<s.K.length)(d:1<s.K.length):s.K[0].J=bL/\s.K[1].J=hZ:=by
 obtain⟨a,f,b,g,e⟩:=h.lists;grind
theorem iY:(bL.toList==hZ.toList)=false:=by decide +kernel
theorem DS.rcheck(h:DS s):Eb s=some 0:=by
 have e:=h.lists2;have f:=h.cols_length;refine Ok.val ?_;unfold Eb;rw[df,df];simp only[Bool.not_true,Bool.not_false,tJ,tC];refine y7 (λs=>s) s.K.length (λ_ _=>True) 0 (sZ _) rfl trivial (by omega) (λrec q hq _=>?_) λrec i q a hq _ ih=>?_
 ·simp only[Kz,hq];rw[EL];unfold NZ;have d:((s.A.length:Int)==0)=false:=by grind
  rw[d];show Ok ((idx s.A 0).bind _) _;refine y4 (i:=0) (by omega) ?_;rw[h.col0];refine y3 rfl ?_;refine y7 (λs=>s) s.A.length (λ_ _=>True) 0 (sZ _) rfl trivial (by omega) (λrec q hq _=>?_) λrec i q a hq _ ih=>?_
  ·simp only[K3,hq];rw[EL];exact ur rfl
  ·simp only[K3,hq];rw[C4];refine qr (pj h a) (ih _ ?_ trivial);show i64.wrap ((i:Int)+1)=_;rw[wr];omega
 ·simp only[Kz,hq];rw[C4];refine y4 a (qr (N1 (h.list a)).rcheck ?_);refine y3 rfl ?_;refine y7 (λs=>s) i (λ_ _=>True) 0 (sZ _) rfl trivial (by omega) (λb q hq _=>?_) λb k q hk hq _ ih2=>?_
  ·simp only[K2,hq];rw[EL];refine ih _ ?_ trivial;show i64.wrap ((i:Int)+1)=_;rw[wr];omega
  ·simp only[K2,hq];rw[C4];refine y4 (by grind) (y4 a ?_);obtain rfl:k=0:=by omega
   obtain rfl:i=1:=by omega
   have c:=h.lname (by omega) (by omega);rw[c.1,c.2,iY];refine ih2 _ ?_ trivial;show i64.wrap (((0:Nat):Int)+1)=_;rw[wr];omega
theorem jI{α:Type}(l:List α){i:Nat}(a:i<=l.length):NB l 0 (i:Int)=l.take i:=by simp[NB]
theorem pg{i:Nat}{c:Au}(h:rr i c):Fi c=some true:=by
 rcases h with⟨rfl,rfl⟩|⟨j,h|h⟩
 ·rfl
 ·obtain⟨n,k,l,lo,m,w,o⟩:=c;obtain⟨a,g,b,d,e,f⟩:=h;simp only at a g b d e f;subst a;subst b;subst d;subst e;subst f;rfl
 ·unfold Fi;rw[h.kind,h.list];rfl
theorem pe(h:DS s){i:Nat}(d:i<s.A.length):F8 s i=some 0:=by
 have b:=h.cl d;have j:=h.lists2;have l:=h.cols_length;refine Ok.val ?_;unfold F8;refine y4 d (qr (h.name d).2 (yb (by omega) ?_));rw[jI _ (by omega)];refine qr (jF (λa=>a.J.toList==s.A[i].J.toList) (λx _=>rfl) (by grind)) ?_
 have:(s.A.take i).any (λa=>a.J.toList==s.A[i].J.toList)=false:=by
  rw[wt];intro x hx;obtain⟨k,hk,rfl⟩:=List.mem_iff_getElem.1 hx;have f:k<i:=by grind
  rw[vd,(h.name_ne d f).1];simp
 rw[this];show Ok (bif(s.A[i].Kind==1)then _ else _) _;have Da:Ok ((Fi s.A[i]).bind λg=>bif(!g)then some 11 else some 0) (·=(0:Int)):=qr (pg b) (ur rfl);rcases b with⟨rfl,e⟩|⟨m,c|c⟩
 ·rw[e];rw[e]at Da;exact Da
 ·rw[c.kind]
  have:(bif decide (s.A[i].Am<0)then true else decide (s.A[i].Am>=(s.K.length:Int)))=false:=by
   rcases c.list with e|e <;>  grind
  grind
 ·rw[c.kind];exact qr (nt c) Da
theorem DS.check(h:DS s):CN s=some 0:=by
 have f:=h.lists2;have g:=h.cols_length;refine Ok.val ?_;unfold CN;rw[df,df];simp only[Bool.not_true,Bool.not_false,tJ,tC];refine y7 (λs=>s) s.K.length (λ_ _=>True) 0 (sZ _) rfl trivial (by omega) (λrec q hq _=>?_) λrec i q b hq _ ih=>?_
 ·simp only[J5,hq];rw[EL];unfold M5;have d:((s.A.length:Int)==0)=false:=by grind
  rw[d];show Ok ((idx s.A 0).bind _) _;refine y4 (i:=0) (by omega) ?_;rw[h.col0];refine y3 rfl ?_;refine y7 (λs=>s) s.A.length (λ_ _=>True) 0 (sZ _) rfl trivial (by omega) (λrec q hq _=>?_) λrec i q b hq _ ih=>?_
  ·simp only[J6,hq];rw[EL];exact ur rfl
  ·simp only[J6,hq];rw[C4];refine qr (pe h b) (ih _ ?_ trivial);show i64.wrap ((i:Int)+1)=_;rw[wr];omega
 ·simp only[J5,hq];rw[C4];refine y4 b (qr (N1 (h.list b)).check ?_);show Ok (bif decide _ then _ else none) _;refine yb (by omega) ?_;rw[jI _ (by omega)];refine qr (cR (λa=>a.J.toList==s.K[i].J.toList) (λx _=>rfl) (by grind)) ?_
  have:(s.K.take i).any (λa=>a.J.toList==s.K[i].J.toList)=false:=by
   rw[wt];intro x hx;obtain⟨k,hk,rfl⟩:=List.mem_iff_getElem.1 hx;have e:k<i:=by grind
   obtain rfl:k=0:=by omega
   obtain rfl:i=1:=by omega
   have c:=h.lname (by omega) (by omega);rw[vd,c.1,c.2,iY];simp
  rw[this];refine ih _ ?_ trivial;show i64.wrap ((i:Int)+1)=_;rw[wr];omega
theorem CB{i:Nat}(h:i<=1000000000000:=by omega):i64.wrap ((i:Int)+1)=((i+1:Nat):Int):=by rw[wr];omega
def CF:Int:=-1099511627776
def Z1(s:Aa)(c:Au)(v:Int):Prop :=
 (c.Kind=1/\1<=v/\v<=1000)\/(c.Kind=2/\∃L,L∈YZ/\idx s.K c.Am=some L/\v∈Cr L)\/(c.Kind=3/\((c.D<=v/\v<=c.E)\/(c.A2=true/\v=CF)))
def SY(s:Aa)(r:List Int):Prop:=r.length=s.A.length/\∀(i:Nat) c v,s.A[i]?=some c->r[i]?=some v->Z1 s c v
theorem DS.clist(h:DS s){c:Au}(d:Nt c):∃L,L∈YZ/\idx s.K c.Am=some L:=by
 have f:=h.lists2;rcases d.list with e|e
 ·have a:0<s.K.length:=by omega
  exact⟨_,h.list a,by rw[e];exact DG (i:=0) a⟩
 ·have b:1<s.K.length:=by omega
  exact⟨_,h.list b,by rw[e];exact DG (i:=1) b⟩
theorem VJ{s:Aa}{i:Int}{c:Au}{L:Aq}(b:idx s.A i=some c)(d:idx s.K c.Am=some L)(a:L∈YZ):Hs s i=some (Cr L):=by
 have h:=N1 a;have e:=h.lev2;have f:=h.lev3;unfold Hs;rw[b,tc,d,tc,h.rlev,tc,wr,h.rleaves];rfl
theorem Qp:(YZ.all λl=>decide ((Cr l).length<=10))=true:=by decide +kernel
theorem oi(h:DS s){c:Ab}(j:GW c){i:Nat}(l:i<s.A.length):Ok (GJ c s i) λr=>GW r.2/\Z1 s s.A[i] r.1:=by
 unfold GJ;refine y4 l ?_;have b:idx s.A (i:Int)=some s.A[i]:=DG l;generalize m:s.A[i]=cl at b ⊢;have d:=h.cl l;rw[m]at d;rcases d with⟨rfl,e⟩|⟨u,a|a⟩
 ·subst e;refine y6 rfl (Ok.bind (Gq j (by omega) (by omega) (by omega) (by omega)) λx hx=>ur ⟨hx.1,.inl ⟨rfl,hx.2.1,by show x.1<=1000;omega⟩⟩)
 ·obtain⟨L,k,f⟩:=h.clist a;have n:=N1 k;refine y3 (by rw[a.kind];rfl) (y6 (by rw[a.kind];rfl) (qr (VJ b f k) ?_));have v:(Cr L).length<=10:=by have:=List.all_eq_true.1 Qp L k;simpa using this
  have q:0<(Cr L).length:=List.length_pos_iff.2 n.some_;refine Ok.bind (Di j (by omega) (by omega)) λx hx=>?_;refine Ok.idx hx.2.1 (by omega) (ur ⟨hx.1,.inr (.inl ⟨a.kind,L,k,f,ta _⟩)⟩)
 ·obtain⟨w,y⟩:=a.low;obtain⟨t,z⟩:=a.high;refine y3 (by rw[a.kind];rfl) (y3 (by rw[a.kind];rfl) ?_)
  have p:∀{c':Ab},GW c'->Ok ((AK c' cl.D cl.E).bind λg=>some (g.1,g.2)) λr=>GW r.2/\Z1 s cl r.1:=λo =>
   Ok.bind (Gq o t (by omega) (by omega) (by omega)) λx hx=>ur ⟨hx.1,.inr (.inr ⟨a.kind,.inl hx.2⟩)⟩
  refine y5 (λho=>Ok.bind (NT j (by omega) (by omega)) λx hx=>y5 (λ_=>ur ⟨hx,.inr (.inr ⟨a.kind,.inr ⟨ho,rfl⟩⟩)⟩) λ_=>p hx) λ_=>p j
theorem qV(h:DS s){c:Ab}(b:GW c):Ok (I4 c s) λr=>GW r.2/\SY s r.1:=by
 have e:=h.cols_length;unfold I4;refine y7 (λq=>q.1) s.A.length (λi q=>GW q.2.1/\q.2.2.length=i/\∀(k:Nat) c v,s.A[k]?=some c->q.2.2[k]?=some v->Z1 s c v) 0 (sZ _) rfl ⟨b,rfl,λk c v _ h=>by simp at h⟩ (by omega) (λrec q hq a=>?_) λrec i q d hq a ih=>?_
 ·simp only[Is,hq];rw[EL];exact ur ⟨a.1,a.2.1,a.2.2⟩
 ·simp only[Is,hq];rw[C4];refine Ok.bind (oi h a.1 d) λx hx=>Ok.rm (by grind) (ih _ CB ⟨hx.1,by simp[a.2.1],λk f v hk g=>?_⟩);grind
def hd(r:List Int):Int:=r.headD 0
theorem GM{r:List Int}(h:r≠[]):idx r 0=some (hd r):=by
 cases r with
 | nil=>grind
 | cons a q=>rfl
def o7(l:List (List Int)):Prop:=l.Pairwise λa b=>hd a<hd b
def Zl(l:List (List Int))(row:List Int):List (List Int):=l.filter (λx=>decide (hd x<hd row))++row :: l.filter (λx=>decide (hd row<hd x))
theorem eK{l:List (List Int)}{row:List Int}(h:o7 l):o7 (Zl l row):=by
 unfold o7 Zl;rw[List.pairwise_append,List.pairwise_cons];refine⟨h.sublist vZ,⟨λx hx=>?_,h.sublist vZ⟩,λx hx y hy=>?_⟩
 all_goals grind
theorem eL{l:List (List Int)}{row x:List Int}(h:x∈Zl l row):x=row\/x∈l:=by
 unfold Zl at h;grind
theorem R5(l:List (List Int))(row:List Int):(Zl l row).length<=l.length+1:=by
 unfold Zl;rw[tF,tS]
 have:(l.filter (λx=>decide (hd x<hd row))).length+(l.filter (λx=>decide (hd row<hd x))).length<=l.length:=by
  induction l with
  | nil=>simp
  | cons a r ih=>grind
 omega
theorem L8{α:Type}(l:List α)(p:α->Bool){i:Nat}(a:i<l.length):(l.take (i+1)).filter p=(l.take i).filter p++if p l[i]then[l[i]]else[]:=by
 rw[tp a,uS];grind
theorem ny{l:List (List Int)}{row:List Int}(y:∀x∈l,x≠[])(hr:row≠[])(z:o7 l)(u:l.length<=1000000):Np l row=some (Zl l row):=by
 refine Ok.val ?_;unfold Np
 refine y7 (λq=>q.2.1) l.length (λi q=>(q.1=false/\(∀x∈l.take i,hd x<=hd row)/\q.2.2=(l.take i).filter (λx=>decide (hd x<hd row))) \/
  (q.1=true/\(∃x∈l.take i,hd row<hd x)/\q.2.2=(l.take i).filter (λx=>decide (hd x<hd row))++row :: (l.take i).filter (λx=>decide (hd row<hd x)))) 0 (sZ _) rfl (.inl ⟨rfl,by simp,by simp⟩) (by omega) (λrec q hq f=>?_) λrec i q b hq f ih=>?_
 ·simp only[Nc,hq];rw[EL];rw[vf]at f;rcases f with⟨c,d,a⟩|⟨c,d,a⟩
  ·rw[c];refine y6 rfl (Ok.rm ?_ (ur ?_))
   ·grind
   ·rw[a,Zl];congr 2;symm;rw[List.filter_eq_nil_iff];grind
  ·rw[c];exact y3 rfl (ur a)
 ·simp only[Nc,hq];rw[C4];have j:=y _ (ta b)
  have v:∀x∈l.take i,hd x<hd l[i]:=by
   intro x hx;obtain⟨k,hk,rfl⟩:=List.mem_iff_getElem.1 hx;have o:k<i:=by grind
   rw[vd];exact(List.pairwise_iff_getElem.1 z) k i (by omega) b o
  have g:=L8 l (λx=>decide (hd x<hd row)) b;have h:=L8 l (λx=>decide (hd row<hd x)) b
  have p:q.2.2.length<=i+1:=by
   have D:(l.take i).length=i:=by grind
   have w:((l.take i).filter (λx=>decide (hd x<hd row))).length+((l.take i).filter (λx=>decide (hd row<hd x))).length<=i:=by
    have:=R5 (l.take i) row;unfold Zl at this;grind
   rcases f with⟨_,_,a⟩|⟨_,_,a⟩
   all_goals grind
  refine y4 b (qr (GM j) (qr (GM hr) (y5 (λm=>ih _ CB ?_) λe=>?_)))
  ·have m:hd l[i]=hd row:=by simpa using m
   rw[g,h];have w:decide (hd l[i]<hd row)=false:=df;have A:decide (hd row<hd l[i])=false:=df;simp only[w,A,uk,if_false,vM];rcases f with⟨c,d,a⟩|⟨c,d,a⟩
   ·refine .inl ⟨c,λx hx=>?_,a⟩;rw[tp b]at hx;grind
   ·obtain⟨x,hx,r⟩:=d;grind
  ·have e:hd l[i]≠hd row:=by simpa using e
   refine y4 b (qr (GM j) (qr (GM hr) (y5 (λB=>?_) λB=>?_)))
   ·
     obtain⟨n,C⟩:hd row<hd l[i]/\q.1=false:=by grind
     rcases f with⟨c,d,a⟩|⟨c,d,a⟩
     ·refine Ok.rm (by grind) (y4 b (Ok.rm (by simp;omega) (ih _ CB (.inr ⟨rfl,⟨l[i],?_,n⟩,?_⟩))))
      ·rw[tp b];exact List.mem_append_right _ (List.mem_singleton.2 rfl)
      ·rw[g,h,df,ti n,a]
       have:(l.take i).filter (λx=>decide (hd row<hd x))=[]:=by
        rw[List.filter_eq_nil_iff];grind
       grind
     ·grind
   ·refine y4 b (Ok.rm (by grind) (ih _ CB ?_));rw[g,h];rcases f with⟨c,d,a⟩|⟨c,d,a⟩
    ·have t:hd l[i]<hd row:=by
      by_cases E:hd l[i]>hd row
      all_goals grind
     refine .inl ⟨c,λx hx=>?_,by rw[ti t,a];simp⟩;rw[tp b]at hx;grind
    ·obtain⟨x,hx,r⟩:=d;grind
structure cF(x:BQ)(n:Nat):Prop where
 schema:DS x.At
 rows:∀r∈x.C,SY x.At r
 asc:o7 x.C
 len:x.C.length<=n
 gone:x.Bp=[]
 version:x.Af=0
theorem SY.ne(h:DS s){r:List Int}(hr:SY s r):r≠[]:=by
 intro e;have:=hr.1;have:=h.cols_length;grind
theorem kR{c:Ab}(j:GW c){n:Nat}(o:n<=50):Ok (Gi c n) λr=>GW r.2/\cF r.1 n:=by
 unfold Gi;refine Ok.bind (kJ j) λx hx=>?_;have e:i64.wrap ((n:Int)+1)=(n:Int)+1:=wr;rw[e];refine Ok.bind (Di hx.1 (by omega) (by omega)) λy hy=>?_;obtain⟨b,d,k⟩:=hy;refine Ok.loop (λq=>0<=q.1/\GW q.2.1/\(∀r∈q.2.2,SY x.1 r)/\o7 q.2.2/\(q.2.2.length:Int)+q.1<=n) (λq=>q.1.toNat) ⟨d,b,(λr hr=>by cases hr),List.Pairwise.nil,by show((0:Nat):Int)+y.1<=n;omega⟩ (by unfold AC;show y.1.toNat<_;omega) λrec q hq ih=>?_;obtain⟨p,g,h,f,t⟩:=hq;simp only[I5];refine y8 (λhp=>Ok.bind (qV hx.2 g) λz i=>?_) λhp=>?_
 ·have a:=ny (l:=q.2.2) (row:=z.1) (λr hr=>(h r hr).ne hx.2) (i.2.ne hx.2) f (by omega);have m:=R5 q.2.2 z.1;refine qr a (ih _ ⟨?_,i.1,λr hr=>?_,eK f,?_⟩ ?_)
  ·show 0<=i64.wrap (q.1-1);rw[wr];omega
  ·rcases eL hr with rfl|hr
   all_goals grind
  ·show((Zl q.2.2 z.1).length:Int)+i64.wrap (q.1-1)<=n;rw[wr];omega
  ·show(i64.wrap (q.1-1)).toNat<q.1.toNat;rw[wr];omega
 ·exact ur ⟨g,hx.2,h,f,by show q.2.2.length<=n;omega,rfl,rfl⟩
abbrev DD:Nat:=60
def aE:Ah:={ Op:=1,B:=0,Z:=0,D:=0,E:=0,G:=[] }
def C9:Ah:={ Op:=0,B:=0,Z:=0,D:=0,E:=0,G:=[] }
theorem DS.rcond_all(h:DS s):Ec DD s aE=some 0:=by unfold Ec;rw[h.rcheck];rfl
def jS(s:Aa)(c:Au):Int:=if c.Kind=2 then H5 ((idx s.K c.Am).getD { J:=bL,U:=[] })-1 else c.S.length
def Da(s:Aa)(i:Nat):Int:=jS s (s.A[i]?.getD ri)
theorem Es{i:Nat}(a:i<s.A.length):Da s i=jS s s.A[i]:=by unfold Da;rw[P3 a];rfl
theorem Fj{c:Au}(h:ER c):1<=c.S.length/\c.S.length<=4:=by rcases eE h.widths with e|e|e|e<;>(rw[e];decide)
theorem FO{c:Au}(h:Nt c){L:Aq}(a:idx s.K c.Am=some L):jS s c=H5 L-1:=by unfold jS;rw[tf h.kind,a];rfl
theorem Db{c:Au}(h:ER c):jS s c=c.S.length:=by unfold jS;rw[tn (by rw[h.kind];decide)]
theorem DS.fin_ok(h:DS s){i:Nat}(e:1<=i)(c:i<s.A.length):1<=Da s i/\Da s i<=4:=by
 rw[Es c];rcases h.col e c with a|a
 ·obtain⟨L,d,b⟩:=h.clist a;have:=N1 d;rw[FO a b];have:=this.lev2;have:=(N1 d).lev3;omega
 ·have:=Fj a;rw[Db a];omega
theorem DS.rfinest(h:DS s){i:Nat}(d:1<=i)(c:i<s.A.length):Dj s i=some (Da s i):=by
 have f:=h.cols_length;unfold Dj;rw[h.rcheck,tc,df,df];show(idx s.A (i:Int)).bind _=_;rw[DG c,tc,Es c];rcases h.col d c with a|a
 ·obtain⟨L,e,b⟩:=h.clist a;have:=N1 e;have g:=this.lev2;have j:=this.lev3;rw[a.kind,FO a b];show(idx s.K _).bind _=_;rw[b,tc,this.rlev,tc,wr]
 ·rw[a.kind,Db a];rfl
theorem DS.pfinest(h:DS s){i:Nat}(d:1<=i)(c:i<s.A.length):G4 s i=some (Da s i):=by
 have f:=h.cols_length;unfold G4;rw[df,df];show(idx s.A (i:Int)).bind _=_;rw[DG c,tc,Es c];rcases h.col d c with a|a
 ·obtain⟨L,e,b⟩:=h.clist a;have:=N1 e;have g:=this.lev2;have j:=this.lev3;rw[a.kind,FO a b];show(idx s.K _).bind _=_;rw[b,tc,this.lev,tc,wr]
 ·rw[a.kind,Db a];rfl
theorem DS.pFinest(h:DS s){i:Nat}(a:1<=i)(b:i<s.A.length):Ff s i=some (Da s i):=by
 unfold Ff;rw[h.check,tc,h.pfinest a b];rfl
def pi:AE:={ J:=({ data:=#[113] }:ByteArray),Kind:=1,A3:=aE,Y:=[({ B:=1,T:=0 }:Ac)],Ag:=(-1),An:=[],V:=C9 }
def rB:Av:={ Ae:=({ data:=#[97,108,108,95,114,111,119,115] }:ByteArray),Bs:=({ data:=#[115,114,99] }:ByteArray),Bc:=aE,Be:=({ Bm:=1,Of:=1,Bn:=0 }:Io),A8:=[pi] }
def LY(s:Aa):List Ac:=(List.range (s.A.length-1)).map λk=>{ B:=((k+1:Nat):Int),T:=Da s (k+1) }
theorem qu(h:DS s):Rk s=some (rB,LY s):=by
 have d:=h.cols_length;refine Ok.val ?_;unfold Rk;refine y7 (λq=>q.1) s.A.length (λi q=>1<=i/\q.2=(List.range (i-1)).map λk=>{ B:=((k+1:Nat):Int),T:=Da s (k+1) }) 1 (by omega) rfl ⟨by omega,rfl⟩ (by omega) (λrec q hq a=>?_) λrec i q b hq a ih=>?_
 ·simp only[O6,hq];rw[EL,a.2];exact ur rfl
 ·obtain⟨c,a⟩:=a;simp only[O6,hq];rw[C4];refine qr (h.rfinest c b) (Ok.rm (by grind) (ih _ CB ⟨by omega,?_⟩));show q.2++[_]=_;rw[a];obtain⟨j,rfl⟩:∃j,i=j+1:=⟨i-1,by omega⟩;simp[List.range_succ]
theorem rV{p:Ac}(h:DS s){i:Nat}(b:1<=i)(c:i<s.A.length)(hp:p.B=i)(d:0<=p.T)(a:p.T<=Da s i):IE s p=some 0:=by
 unfold IE;rw[h.rcheck,tc,hp,df,df];show(Dj s (i:Int)).bind _=_;rw[h.rfinest b c,tc,MA,tc,ti ⟨d,a⟩];rfl
theorem Hf{k:Nat}(hk:k<(LY s).length):(LY s)[k]={ B:=((k+1:Nat):Int),T:=Da s (k+1) }:=by simp[LY]
theorem H1:(LY s).length=s.A.length-1:=by simp[LY]
theorem rS(h:DS s):JI s [({ B:=1,T:=0 }:Ac)]=some 0:=by
 have b:=h.cols_length;have c:=h.fin_ok (i:=1) (by omega) (by omega)
 have hk:s.A[1].Kind=2:=by
  obtain⟨j,d,e,_⟩:=h.cols;have:s.A[1]?=some sH:=by rw[e];cases j<;>rfl
  rw[P3 (by omega)]at this;rw[sY this];rfl
 refine Ok.val ?_;unfold JI;refine y3 rfl ?_;refine y7 (λq=>q) 1 (λ_ _=>True) 0 (sZ _) rfl trivial (by omega) (λrec q hq _=>?_) λrec i q a hq _ ih=>?_
 ·simp only[LM,hq];exact y3 rfl (ur rfl)
 ·obtain rfl:i=0:=by omega
  simp only[LM,hq];refine y6 rfl (qr (x:=({ B:=1,T:=0 }:Ac)) rfl (qr (rV h (i:=1) (by omega) (by omega) rfl (by show(0:Int)<=0;omega) (by grind)) (y3 rfl (qr (x:=({ B:=1,T:=0 }:Ac)) rfl (qr (x:=true) ?_ (y3 rfl ?_))))))
  ·unfold KE;rw[ti (by decide),ti (by grind)];show(idx s.A ((1:Nat):Int)).bind _=_;rw[DG (by grind),tc,hk];rfl
  ·refine y7 (λq=>q) 0 (λ_ _=>True) 0 (sZ _) rfl trivial (by omega) (λrec q hq _=>?_) λrec i q a hq _ ih=>absurd a (by omega);simp only[Pf,hq];exact y3 rfl (ih _ rfl trivial)
theorem kI(h:DS s):DI DD s pi=some 0:=by
 refine Ok.val ?_;unfold DI;refine qr h.rcheck (y3 rfl (qr (x:=true) (by decide +kernel) (y3 rfl (y3 rfl (qr h.rcond_all (y3 rfl (qr (x:=0) ?_ (y3 rfl (y3 rfl (y6 rfl (qr (x:=true) rfl (y3 rfl (ur rfl)))))))))))));unfold Mp;refine Ok.val (qr (x:=false) ?_ (y6 rfl (qr (rS h) (y3 rfl (y3 rfl (ur rfl))))));unfold KE;rfl
theorem eN(h:DS s):Ha DD s aE=some []:=by
 unfold Ha;rw[h.rcond_all];rfl
theorem po(h:DS s):GZ s 1 0=some 0:=by
 have a:=h.cols_length;have b:=h.fin_ok (i:=1) (by omega) (by omega);refine Ok.val ?_;unfold GZ;refine qr (h.rfinest (i:=1) (by omega) (by omega)) ?_;rw[MA,tc,dt];refine y3 rfl ?_;refine Ok.loop (λq=>q=0) (λ_=>0) rfl (by unfold AC;omega) λrec q hq ih=>?_;subst hq;unfold Oa;refine qr (x:=true) ?_ (y3 rfl (ur rfl));unfold Ij;refine Ok.val (y4 (i:=1) (by omega) (y6 rfl (ur rfl)))
theorem rneeds(h:DS s):Hb DD s pi=some []:=by
 have c:=h.cols_length;refine Ok.val ?_;unfold Hb;refine qr (kI h) (y3 rfl (qr (eN h) (y3 rfl ?_)));unfold IJ;refine y7 (λq=>q.2) 1 (λ_ q=>q.1=[]) 0 (sZ _) rfl rfl (by omega) (λrec q hq a=>?_) λrec i q b hq a ih=>?_
 ·simp only[GR,hq,a];refine y3 rfl ?_;refine y7 (λq=>q.2) s.A.length (λ_ q=>q.1=[]) 1 (by omega) rfl rfl (by omega) (λrec q hq a=>?_) λrec i q b hq a ih=>?_
  ·simp only[GT,hq,a];rw[EL];exact ur rfl
  ·simp only[GT,hq,a];rw[C4];refine qr (x:=false) ?_ (y3 rfl (ih _ CB rfl));unfold Om
   have e:(pi.Ag==(i:Int))=false:=by
    rw[beq_eq_false_iff_ne];show(-1:Int)≠_;omega
   rw[e];rfl
 ·obtain rfl:i=0:=by omega
  simp only[GR,hq,a];refine y6 rfl (qr (x:=({ B:=1,T:=0 }:Ac)) rfl (qr (x:=({ B:=1,T:=0 }:Ac)) rfl (qr (x:=({ B:=1,T:=0 }:Ac)) rfl (qr (po h) (qr (x:=[]) rfl (ih _ rfl rfl))))))
theorem fY{n:Int}(a:0<=n)(b:n<18446744073709551616):0<=Int.fdiv n 18014398509481984/\Int.fdiv n 18014398509481984<=1023:=by grind
theorem SO(n:Int):0<=u64.wrap n/\u64.wrap n<18446744073709551616:=by
 unfold IntKind.wrap;simp only[IntKind.signed,IntKind.bits];simp;omega
theorem nJ(a r c:Int):Ok (Mt a r c) λx=>0<=x/\x<=1023:=by
 unfold Mt;refine y5 (λ_=>ur (by omega)) λ_=>?_;refine y7 (λq=>q.2) 3 (λ_ q=>0<=q.1/\q.1<18446744073709551616) 0 (sZ _) rfl (SO _) (by omega) (λrec q hq b=>?_) λrec i q d hq b ih=>?_
 ·simp only[KF,hq];refine y3 rfl (ur ?_);have e:(2:Int) ^ (min (54:Int).toNat u64.bits)=18014398509481984:=by decide
  rw[e];have:=fY b.1 b.2;rw[wr];exact this
 ·simp only[KF,hq];rw[C4];exact ih _ CB (SO _)
theorem lg{a b:Int}(f:0<=a/\a<=1023)(g:0<=b/\b<=1023):0<=i64.wrap (((BitVec.ofInt i64.bits a ^^^ BitVec.ofInt i64.bits b).toNat:Nat):Int)/\i64.wrap (((BitVec.ofInt i64.bits a ^^^ BitVec.ofInt i64.bits b).toNat:Nat):Int)<=1023:=by
 obtain⟨m,rfl⟩:∃m:Nat,a=m:=⟨a.toNat,by omega⟩;obtain⟨n,rfl⟩:∃n:Nat,b=n:=⟨b.toNat,by omega⟩
 have e:(BitVec.ofInt i64.bits (m:Int) ^^^ BitVec.ofInt i64.bits (n:Int)).toNat=m ^^^ n:=by
  rw[BitVec.toNat_xor,BitVec.ofInt_natCast,BitVec.ofInt_natCast,BitVec.toNat_ofNat,BitVec.toNat_ofNat];have c:m%2 ^ i64.bits=m:=uI (by show m<2 ^ 64;omega);have d:n%2 ^ i64.bits=n:=uI (by show n<2 ^ 64;omega);rw[c,d]
 rw[e];have:m ^^^ n<2 ^ 10:=Nat.xor_lt_two_pow (by omega) (by omega);rw[wr];omega
theorem qH{a id:Int}(c:0<=a)(d:a<1152921504606846976)(e:0<=id)(h:id<1048576):Ok (PQ a id) λx=>0<=x/\x<=1048575:=by
 unfold PQ;refine qr (x:=true) ?_ (y3 rfl ?_)
 ·unfold OH;grind
 ·have f:0<=Int.tdiv id 1024/\Int.tdiv id 1024<=1023:=by rw[Int.tdiv_eq_ediv_of_nonneg e];omega
  have g:0<=Int.tmod id 1024/\Int.tmod id 1024<=1023:=by grind
  refine y7 (λq=>q.2.2) 8 (λ_ q=>(0<=q.1/\q.1<=1023)/\(0<=q.2.1/\q.2.1<=1023)) 0 (sZ _) rfl ⟨by show 0<=i64.wrap _/\i64.wrap _<=1023;rw[wr];exact f,g⟩ (by omega) (λrec q hq b=>?_) λrec i q j hq b ih=>?_
  ·obtain⟨⟨k,l⟩,m,o⟩:=b;simp only[Nf,hq];refine y3 rfl (ur ?_);rw[wr (n:=q.1*1024) (by omega) (by omega),wr];omega
  ·simp only[Nf,hq];rw[C4];refine Ok.bind (nJ _ _ _) λx hx=>ih _ CB ⟨b.2,lg b.1 hx⟩
theorem Yl(h:DS s){i:Nat}(f:i<s.A.length){v:Int}(g:Z1 s s.A[i] v):JR s i v=some true:=by
 refine Ok.val ?_;unfold JR;refine y4 f ?_;rcases g with⟨hk,a,j⟩|⟨hk,L,k,c,a⟩|⟨hk,a⟩
 ·refine y6 (by grind) ?_;rw[MA,dt];exact ur rfl
 ·have b:=N1 k;obtain⟨j,n,m,_,_⟩:=b.leaf v a;have o:=b.lev2;have p:=b.lev3
  have d:L.U.length<=100:=by
   have:(YZ.all λl=>decide (l.U.length<=100))=true:=by decide +kernel
   grind
  refine y3 (by grind) (y6 (by rw[hk];rfl) (qr c ?_));rw[MA,tc,ti (by rw[wr];omega)];refine y6 rfl (qr m (qr b.rlev (ur ?_)));rw[wr];grind
 ·refine y3 (by grind) (y3 (by rw[hk];rfl) (y5 (λ_=>ur rfl) λe=>?_));rcases a with a|⟨ho,rfl⟩
  ·rw[MA,dt];exact ur rfl
  ·rw[ho]at e
   cases e
theorem rW(h:DS s){r:List Int}(hr:SY s r):No s r=some 0:=by
 have c:=h.cols_length;refine Ok.val ?_;unfold No;refine qr h.rcheck (y3 rfl (y3 (by rw[hr.1];simp) ?_));refine y7 (λq=>q) r.length (λ_ _=>True) 0 (sZ _) rfl trivial (by rw[hr.1];omega) (λrec q hq _=>?_) λrec i q b hq _ ih=>?_
 ·simp only[Nb,hq];rw[EL];exact ur rfl
 ·simp only[Nb,hq];rw[C4];have a:i<s.A.length:=by rw[<-hr.1];exact b
  refine y4 b (qr (Yl h a (hr.2 i _ _ (P3 a) (P3 b))) (y3 rfl (ih _ (CB (by grind)) trivial)))
theorem nN{x:BQ}{n:Nat}(h:cF x n)(d:n<=100):JU x=some true:=by
 have f:=h.len;refine Ok.val ?_;unfold JU;refine qr h.schema.rcheck (y3 ?_ ?_)
 ·rw[h.gone,h.version,df];rfl
 refine y7 (λq=>q) x.C.length (λ_ _=>True) 0 (sZ _) rfl trivial (by omega) (λrec q hq _=>?_) λrec i q b hq _ ih=>?_
 ·simp only[K6,hq];rw[EL];unfold Od;refine y7 (λq=>q) 0 (λ_ _=>True) 0 (sZ _) rfl trivial (by omega) (λrec q hq _=>?_) λrec i q b hq _ ih=>absurd b (by omega);simp only[Oc,hq,h.gone];exact y3 rfl (ur rfl)
 ·simp only[K6,hq];rw[C4];have hr:=h.rows _ (ta b);refine y4 b (qr (rW h.schema hr) (y3 rfl (y8 (λg=>?_) λ_=>ih _ CB trivial)));have e:i64.wrap ((i:Int)-1)=((i-1:Nat):Int):=by rw[wr];omega
  rw[e];have a:i-1<x.C.length:=by omega
  have c:=(List.pairwise_iff_getElem.1 h.asc) (i-1) i a b (by omega);refine y4 b (qr (GM (hr.ne h.schema)) (y4 a (qr (GM ((h.rows _ (ta a)).ne h.schema)) (y8 (λj=>by omega) λ_=>ih _ CB trivial))))
theorem SY.hd(h:DS s){r:List Int}(hr:SY s r):1<=hd r/\hd r<=1000:=by
 have g:=h.cols_length;have b:0<s.A.length:=by omega
 have c:0<r.length:=by rw[hr.1];exact b
 have:=hr.2 0 ri r[0] (by rw[P3 b,h.col0]) (P3 c);have e:P.hd r=r[0]:=by cases r with|nil=>simp at c|cons a q=>rfl
 rw[e];rcases this with⟨_,d,f⟩|⟨hk,_⟩|⟨hk,_⟩
 ·exact⟨d,f⟩
 ·exact absurd hk (by decide)
 ·exact absurd hk (by decide)
theorem rU{x:BQ}{n:Nat}(h:cF x n)(c:n<=100){i:Nat}(d:i<x.C.length):JH x (hd x.C[i])=some (i:Int):=by
 have g:=h.len;refine Ok.val ?_;unfold JH;refine y7 (λq=>q) x.C.length (λk _=>k<=i) 0 (sZ _) rfl (sZ _) (by omega) (λrec q hq f=>by omega) λrec k q hk hq f ih=>?_;simp only[Pe,hq];rw[C4];have hr:=h.rows _ (ta hk);have a:=hr.ne h.schema;refine y4 hk (y8 (λ_=>y4 hk (qr (GM a) (y5 (λb=>ur ?_) λc=>ih _ CB ?_))) λj=>?_)
 ·by_cases e:k=i
  ·rw[e]
  ·have b:hd x.C[k]=hd x.C[i]:=by simpa using b
   have:=(List.pairwise_iff_getElem.1 h.asc) k i hk d (by omega);omega
 ·grind
 ·have:=List.length_pos_iff.2 a;omega
theorem jV{v:Int}(a:-1000000<=v)(b:v<=1000000):Gt v 1=some v:=by
 unfold Gt;rw[C4 (by decide),C4 (by decide),Int.tmod_one,EL (by decide),Int.tdiv_one,wr]
theorem fL(h:DS s){i:Nat}(f:1<=i)(c:i<s.A.length){v:Int}(g:Z1 s s.A[i] v):Cf s i (Da s i) v=some v:=by
 have u:=h.fin_ok f c;refine Ok.val ?_;unfold Cf;refine qr (h.rfinest f c) ?_;rw[MA,tc,dt];refine y3 rfl (y4 c ?_);rcases h.col f c with a|a
 ·obtain⟨L,n,d⟩:=h.clist a;have j:=N1 n
  have b:v∈Cr L:=by
   rcases g with⟨hk,_⟩|⟨hk,w,o,k,l⟩|⟨hk,_⟩
   ·rw[a.kind]at hk;cases hk
   ·grind
   ·rw[a.kind]at hk;cases hk
  refine y6 (by rw[a.kind];rfl) (qr (Yl h c g) (y3 rfl (qr d (qr (x:=v) ?_ (ur rfl)))));rw[Es c,FO a d];exact(j.leaf v b).2.2.2.2
 ·obtain⟨y,z⟩:=a.low;obtain⟨A,B⟩:=a.high
  have b:(s.A[i].D<=v/\v<=s.A[i].E)\/v=CF:=by
   rcases g with⟨hk,_⟩|⟨hk,_⟩|⟨hk,l|l⟩
   ·rw[a.kind]at hk;cases hk
   ·rw[a.kind]at hk;cases hk
   all_goals grind
  have p:E6 s.A[i] (Da s i)=some 1:=by
   rw[Es c,Db a];unfold E6;have q:=Fj a;rw[wr,Int.sub_self];rcases eE a.widths with e|e|e|e<;>(rw[e];rfl)
  refine y3 (by rw[a.kind];rfl) ?_;have m:(Da s i==0)=false:=by grind
  rcases b with b|rfl
  ·have r:(v != -1099511627776)=true:=by rw[bne_iff_ne];omega
   have t:(v==-1099511627776)=false:=by grind
   refine y6 r ?_;rw[MA,tc,dt];refine y3 rfl (y3 m (y3 t (qr p (qr (jV (by omega) (by omega)) (ur ?_)))));rw[wr];omega
  ·exact y3 rfl (y3 m (y6 rfl (ur rfl)))
def qt(s:Aa)(r:List Int):Prop:=r.length=s.A.length/\0<=hd r/\hd r<=1048575/\∀(i:Nat) c v,1<=i->s.A[i]?=some c->r[i]?=some v->Z1 s c v
structure Wk(s:Aa)(x:Ao)(n:Nat):Prop where
 project:x.Ae=rB.Ae
 version:x.Af=0
 picks:x.H=LY s
 rows:∀r∈x.C,qt s r
 asc:o7 x.C
 len:x.C.length<=n
theorem qt.ne(h:DS s){r:List Int}(hr:qt s r):r≠[]:=by
 intro e;have a:=hr.1;have:=h.cols_length;grind
def Ld(c:Au)(l:Int):Int:=c.S.getD ((c.S.length:Int)-l).toNat 1
theorem cq{c:Au}(h:ER c){l:Int}(a:1<=l)(b:l<=c.S.length):idx c.S (i64.wrap ((c.S.length:Int)-l))=some (Ld c l):=by
 have d:=Fj h;rw[wr,GN (by omega) (by omega)];unfold Ld;grind
theorem bP{c:Au}(h:ER c){l:Int}(a:1<=l)(b:l<=c.S.length):Hv c l=some (Ld c l):=by unfold Hv;rw[cq h a b];rfl
theorem bS{c:Au}(h:ER c){l:Int}(a:1<=l)(b:l<=c.S.length):E6 c l=some (Ld c l):=by unfold E6;rw[cq h a b];rfl
theorem jx{c:Au}(h:ER c){a b:Int}(g:1<=b)(f:b<=a)(d:a<=c.S.length) :
 (Ld c a,Ld c b)∈[((1:Int),(1:Int)),(1,5),(5,5),(1,20),(5,20),(20,20),(1,2),(2,2),(1,4),(2,4),(4,4),(1,12),(2,12),(4,12),(12,12)]:=by
 unfold Ld;rcases eE h.widths with e|e|e|e
 ·rw[e]at d ⊢;obtain⟨rfl,rfl⟩:a=1/\b=1:=by simp at d;omega
  decide
 ·rw[e]at d ⊢;have d:a<=2:=by simpa using d
  rcases(by omega:(a=1/\b=1)\/(a=2/\b=1)\/(a=2/\b=2))with⟨rfl,rfl⟩|⟨rfl,rfl⟩|⟨rfl,rfl⟩<;>decide
 ·rw[e]at d ⊢;have d:a<=3:=by simpa using d
  rcases(by omega:(a=1/\b=1)\/(a=2/\b=1)\/(a=2/\b=2)\/(a=3/\b=1)\/(a=3/\b=2)\/(a=3/\b=3))with⟨rfl,rfl⟩|⟨rfl,rfl⟩|⟨rfl,rfl⟩|⟨rfl,rfl⟩|⟨rfl,rfl⟩|⟨rfl,rfl⟩<;>decide
 ·rw[e]at d ⊢;have d:a<=4:=by simpa using d
  rcases(by omega:(a=1/\b=1)\/(a=2/\b=1)\/(a=2/\b=2)\/(a=3/\b=1)\/(a=3/\b=2)\/(a=3/\b=3)\/(a=4/\b=1)\/(a=4/\b=2)\/(a=4/\b=3)\/(a=4/\b=4))with⟨rfl,rfl⟩|⟨rfl,rfl⟩|⟨rfl,rfl⟩|⟨rfl,rfl⟩|⟨rfl,rfl⟩|⟨rfl,rfl⟩|⟨rfl,rfl⟩|⟨rfl,rfl⟩|⟨rfl,rfl⟩|⟨rfl,rfl⟩<;>decide
theorem cP{c:Au}(h:ER c){a b:Int}(e:1<=b)(d:b<=a)(f:a<=c.S.length){v u:Int}(g:v-v%Ld c a<=u)(i:u<=v-v%Ld c a+Ld c a-1):u-u%Ld c b=v-v%Ld c b:=by
 have:=jx h e d f;generalize Ld c a=x at *;generalize Ld c b=y at *;simp only[vA,vV,or_false,Prod.mk.injEq]at this;rcases this with⟨rfl,rfl⟩|⟨rfl,rfl⟩|⟨rfl,rfl⟩|⟨rfl,rfl⟩|⟨rfl,rfl⟩|⟨rfl,rfl⟩|⟨rfl,rfl⟩|⟨rfl,rfl⟩|⟨rfl,rfl⟩|⟨rfl,rfl⟩|⟨rfl,rfl⟩|⟨rfl,rfl⟩|⟨rfl,rfl⟩|⟨rfl,rfl⟩|⟨rfl,rfl⟩<;>omega
theorem FV{c:Au}(h:ER c){l:Int}(a:1<=l)(b:l<=c.S.length):1<=Ld c l/\Ld c l<=20:=by
 have:=jx h a (ua l) b;generalize Ld c l=x at *;simp only[vA,vV,or_false,Prod.mk.injEq]at this;omega
theorem YO(n:Int){w:Int}(a:1<=w):(Int.tmod n w=n%w/\0<=Int.tmod n w)\/(Int.tmod n w=n%w-w/\Int.tmod n w<0):=by
 have b:=vO n (by omega:w≠0);have c:=vj n (by omega:0<w);grind
theorem MK{n w:Int}(a:1<=w)(b:w<=1000000)(c:-100000000<=n)(d:n<=100000000):Fh n w=some (n-n%w):=by
 have f:=vO n (by omega:w≠0);have g:=vj n (by omega:0<w);unfold Fh;rw[C4];rcases YO n a with⟨e,h⟩|⟨e,h⟩
 ·rw[EL,e,wr]
 ·rw[C4 h,e,wr (n:=n%w-w+w) (by omega) (by omega),wr];grind
theorem dJ{n w:Int}(a:1<=w)(b:w<=1000000)(c:-100000000<=n)(d:n<=100000000):∃q,Gt n w=some q/\q*w=n-n%w:=by
 have f:=vO n (by omega:w≠0);have g:=vj n (by omega:0<w);have i:=Int.mul_tdiv_add_tmod n w
 have j:-100000000<=Int.tdiv n w/\Int.tdiv n w<=100000000:=by
  have:=Int.natAbs_tdiv_le_natAbs n w;omega
 unfold Gt;rw[C4,C4];rcases YO n a with⟨e,h⟩|⟨e,h⟩
 ·rw[EL,wr];grind
 ·rw[C4 h,wr (n:=Int.tdiv n w) (by omega) (by omega),wr];grind
def mv(c:Au)(l v:Int):Int:=if l=0 then 0 else if v=CF then CF else v-v%Ld c l
def MV(c:Au)(v:Int):Prop:=(c.D<=v/\v<=c.E)\/(c.A2=true/\v=CF)
theorem Z1.meas{c:Au}(h:ER c){v:Int}(a:Z1 s c v):MV c v:=by
 rcases a with⟨hk,_⟩|⟨hk,_⟩|⟨_,a⟩
 ·rw[h.kind]at hk;cases hk
 ·rw[h.kind]at hk;cases hk
 ·exact a
theorem Ku{c:Au}(h:ER c){l v:Int}(a:1<=l)(b:l<=c.S.length)(g:c.D<=v/\v<=c.E):mv c l v=v-v%Ld c l/\0<=v%Ld c l/\v%Ld c l<Ld c l/\mv c l v≠CF/\-4<=v/\v<=46:=by
 have i:=FV h a b;obtain⟨j,k⟩:=h.low;obtain⟨m,n⟩:=h.high;have d:=vO v (by omega:Ld c l≠0);have f:=vj v (by omega:0<Ld c l)
 have e:mv c l v=v-v%Ld c l:=by
  unfold mv;rw[tn (by omega),tn (by unfold CF;omega)]
 exact⟨e,d,f,by rw[e];unfold CF;omega,by omega,by omega⟩
theorem kG(g:DS s){i:Nat}(j:1<=i)(b:i<s.A.length)(h:ER s.A[i]){l v:Int}(c:0<=l)(d:l<=Da s i)(e:MV s.A[i] v):Cf s i l v=some (mv s.A[i] l v):=by
 obtain⟨r,t⟩:=h.low;obtain⟨u,w⟩:=h.high;have x:Da s i=s.A[i].S.length:=by rw[Es b,Db h]
 refine Ok.val ?_;unfold Cf;refine qr (g.rfinest j b) ?_;rw[MA,tc,ti ⟨c,d⟩];refine y3 rfl (y4 b (y3 (by rw[h.kind];rfl) ?_));rcases e with e|⟨_,rfl⟩
 ·have k:(v != -1099511627776)=true:=by rw[bne_iff_ne];omega
  have m:(v==-1099511627776)=false:=by grind
  refine y6 k ?_;rw[MA,tc,dt];refine y3 rfl (y5 (λa=>?_) λa=>y3 m ?_)
  ·have a:l=0:=by simpa using a
   subst a;exact ur rfl
  ·have a:l≠0:=by simpa using a
   have o:=Ku h (l:=l) (v:=v) (by omega) (by omega) e;have p:=FV h (l:=l) (by omega) (by omega);obtain⟨q,hq,f⟩:=dJ (n:=v) p.1 (by omega) (by omega) (by omega);refine qr (bS h (by omega) (by omega)) (qr hq (ur ?_));rw[f,o.1,wr]
 ·refine y3 rfl (y5 (λa=>?_) λa=>y6 rfl ?_)
  ·have a:l=0:=by simpa using a
   subst a;exact ur rfl
  ·have a:l≠0:=by simpa using a
   exact ur (by unfold mv;rw[tn a,tf rfl])
def it(c:Au)(l v:Int):Int:=if l=0 then c.D else max c.D (v-v%Ld c l)
def lj(c:Au)(l v:Int):Int:=if l=0 then c.E else min c.E (v-v%Ld c l+Ld c l-1)
theorem nx{c:Au}(h:ER c){l v:Int}(o:0<=l)(a:l<=c.S.length)(g:c.D<=v/\v<=c.E):JY c l (mv c l v)=some (it c l v,lj c l v,true):=by
 obtain⟨p,q⟩:=h.low;obtain⟨r,t⟩:=h.high;unfold JY it lj;by_cases b:l=0
 ·subst b;rfl
 ·have d:=Ku h (l:=l) (v:=v) (by omega) a g;have i:=FV h (l:=l) (by omega) a
  have f:(mv c l v)%Ld c l=0:=by
   rw[d.1];have:=Int.emod_add_mul_ediv v (Ld c l);have e:v-v%Ld c l=Ld c l*(v/Ld c l):=by omega
   rw[e];exact Int.mul_emod_right _ _
  have j:(l==0)=false:=by grind
  rw[j,d.1,tn b,tn b];rw[d.1]at f;simp only[tC];rw[df,df];simp only[tC];rw[bP h (by omega) a,tc,MK i.1 (by omega) (by omega) (by omega),f,tc,wr (n:=v-v%Ld c l+Ld c l) (by omega) (by omega),wr,Int.sub_zero,w8];simp only[tJ];have k:(if c.D>v-v%Ld c l then c.D else v-v%Ld c l)=max c.D (v-v%Ld c l):=by grind
  have m:(if c.E<v-v%Ld c l+Ld c l-1 then c.E else v-v%Ld c l+Ld c l-1)=min c.E (v-v%Ld c l+Ld c l-1):=by grind
  rw[k,m,dt]
theorem qz{c:Au}(h:ER c){a b v:Int}(f:1<=b)(d:b<=a)(e:a<=c.S.length)(g:c.D<=v/\v<=c.E):(it c a v-it c a v%Ld c b=v-v%Ld c b)/\(lj c a v-lj c a v%Ld c b=v-v%Ld c b)/\c.D<=it c a v/\it c a v<=v/\v<=lj c a v/\lj c a v<=c.E:=by
 have i:=Ku h (l:=a) (v:=v) (by omega) e g;have j:=FV h (l:=a) (by omega) e;unfold it lj;rw[tn (by omega),tn (by omega)];exact⟨cP h f d e (by omega) (by omega),cP h f d e (by omega) (by omega),by omega,by omega,by omega,by omega⟩
theorem gI:CF=-1099511627776:=rfl
theorem pf{i:Nat}(f:i<s.A.length)(h:ER s.A[i]){l v:Int}(g:0<=l)(d:l<=s.A[i].S.length)(a:MV s.A[i] v):∃u,Cy s i l (mv s.A[i] l v)=some (u,true):=by
 refine Exists.elim (?_:Ok (Cy s i l (mv s.A[i] l v)) λr=>r.2=true) λr hr=>⟨r.1,by rw[hr.1,<-hr.2]⟩;unfold Cy;refine y4 f (y6 (by rw[h.kind];rfl) (y5 (λb=>ur ?_) λb=>?_))
 ·by_cases j:0<l
  ·rw[dt]at b;have b:mv s.A[i] l v=CF:=by rw[gI];simpa using b
   rcases a with a|a
   ·exact absurd b (Ku h (by omega) d a).2.2.2.1
   ·grind
  ·grind
 ·have c:(s.A[i].D<=v/\v<=s.A[i].E)\/(l=0):=by
   rcases a with a|⟨_,rfl⟩
   ·grind
   ·right
    by_cases j:0<l
    ·rw[dt]at b;have e:mv s.A[i] l CF=CF:=by unfold mv;rw[tn (by omega),tf rfl]
     rw[e]at b
     cases b
    ·omega
  rcases c with a|rfl
  ·exact qr (nx h g d a) (ur rfl)
  ·exact qr (x:=(s.A[i].D,s.A[i].E,true)) rfl (ur rfl)
theorem kE(p:DS s){i:Nat}(f:1<=i)(g:i<s.A.length)(h:ER s.A[i]){a b v:Int}(j:1<=b)(k:b<=a)(m:a<=s.A[i].S.length)(c:MV s.A[i] v):D6 s i a (mv s.A[i] a v) b=some (mv s.A[i] b v,true):=by
 have w:Da s i=s.A[i].S.length:=by rw[Es g,Db h]
 refine Ok.val ?_;unfold D6;refine qr (p.pfinest f g) (y3 ?_ (y4 g (y3 (by rw[h.kind];rfl) (qr (x:=(mv s.A[i] b v,true)) ?_ (y3 rfl (ur rfl))))))
 ·grind
 refine Ok.val ?_;unfold F9;have q:(b==0)=false:=by grind
 have r:(a==0)=false:=by grind
 rw[dt,q,r];rcases c with c|⟨ho,rfl⟩
 ·have t:=Ku h (l:=a) (by omega) m c;have u:=Ku h (l:=b) (by omega) (by omega) c;have o:=FV h (l:=b) (by omega) (by omega);have d:=qz h j k m c;obtain⟨y,z⟩:=h.low;obtain⟨A,B⟩:=h.high;have d1:=MK (n:=it s.A[i] a v) o.1 (by omega) (by omega) (by omega);have d2:=MK (n:=lj s.A[i] a v) o.1 (by omega) (by omega) (by omega);have C:(mv s.A[i] a v==-1099511627776)=false:=by rw[beq_eq_false_iff_ne];exact t.2.2.2.1
  rw[d.1]at d1;rw[d.2.1]at d2;refine y3 (by grind) (qr (nx h (by omega) m c) (y3 rfl (y3 rfl (y3 rfl (qr (bP h j (by omega)) (qr d1 (qr d1 (qr d2 (ur ?_)))))))));grind
 ·have e:∀l,1<=l->mv s.A[i] l CF=CF:=λl D=>by unfold mv;rw[tn (by omega),tf rfl]
  rw[e a (by omega),e b j,ho];exact y6 rfl (y3 rfl (ur rfl))
def fj(L:Aq)(l v:Int):Option (Int×Bool):=iter (λrec1 s=>Oq (Cr L) L l v (λv56_1=>some (0,false)) rec1 s) AC 0
def cv(L:Aq)(l v:Int):Int:=(Ky L v l).getD 0
theorem cZ:(YZ.all λL=>(List.range (H5 L).toNat).all λl=>(fj L (l:Int) 0).isSome&&(Cr L).all λv=>Ky L v l==some (cv L l v)&&I0 L v l==some (cv L l v)&&decide (0<=cv L l v)&&((fj L l (cv L l v)).map (·.2)==some true))=true:=by decide +kernel
theorem TH{L:Aq}(h:L∈YZ){l:Int}(e:0<=l)(i:l<H5 L):(∃r,fj L l 0=some r)/\∀v∈Cr L,Ky L v l=some (cv L l v)/\I0 L v l=some (cv L l v)/\0<=cv L l v/\∃u,fj L l (cv L l v)=some (u,true):=by
 have:=List.all_eq_true.1 (List.all_eq_true.1 cZ L h) l.toNat (List.mem_range.2 (by omega));rw[Int.toNat_of_nonneg e]at this;simp only[uh,vg,beq_iff_eq,decide_eq_true_eq,Option.isSome_iff_exists]at this;refine⟨this.1,λv f=>?_⟩;obtain⟨⟨⟨a,b⟩,c⟩,d⟩:=this.2 v f;obtain⟨r,hr,g⟩:=Option.map_eq_some_iff.1 d;grind
def CV(s:Aa)(c:Au)(l v:Int):Int:=if c.Kind=2 then cv ((idx s.K c.Am).getD { J:=bL,U:=[] }) l v else mv c l v
theorem ax{c:Au}(h:Nt c){L:Aq}(a:idx s.K c.Am=some L)(l v:Int):CV s c l v=cv L l v:=by unfold CV;rw[tf h.kind,a];rfl
theorem Sv{c:Au}(h:ER c)(l v:Int):CV s c l v=mv c l v:=by unfold CV;rw[tn (by rw[h.kind];decide)]
theorem Z1.code{c:Au}(h:Nt c){L:Aq}(d:idx s.K c.Am=some L){v:Int}(a:Z1 s c v):v∈Cr L:=by
 rcases a with⟨hk,_⟩|⟨_,e,_,b,a⟩|⟨hk,_⟩
 ·rw[h.kind]at hk;cases hk
 ·grind
 ·rw[h.kind]at hk;cases hk
theorem Vg(e:DS s){i:Nat}(g:1<=i)(d:i<s.A.length){l v:Int}(c:0<=l)(f:l<=Da s i)(h:Z1 s s.A[i] v):Cf s i l v=some (CV s s.A[i] l v):=by
 rcases e.col g d with a|a
 ·obtain⟨L,j,b⟩:=e.clist a;have m:Da s i=H5 L-1:=by rw[Es d,FO a b]
  have k:=TH j (l:=l) c (by omega);rw[ax a b];refine Ok.val ?_;unfold Cf;refine qr (e.rfinest g d) ?_;rw[MA,tc,ti ⟨c,f⟩];exact y3 rfl (y4 d (y6 (by rw[a.kind];rfl) (qr (Yl e d h) (y3 rfl (qr b (qr (k.2 v (h.code a b)).1 (ur rfl)))))))
 ·rw[Sv a];exact kG e g d a c f (h.meas a)
theorem af{i:Nat}(c:i<s.A.length)(h:Nt s.A[i]){L:Aq}(d:L∈YZ)(b:idx s.K s.A[i].Am=some L)(l v:Int):Cy s i l v=fj L l v:=by
 have a:=N1 d;have e:=a.lev2;have f:=a.lev3;unfold Cy;rw[DG c,tc,h.kind];show(idx s.K _).bind _=_;rw[b,tc,a.lev,tc,wr,a.leaves];rfl
theorem rP(e:DS s){i:Nat}(h:1<=i)(c:i<s.A.length){l v:Int}(d:0<=l)(j:l<=Da s i)(f:Z1 s s.A[i] v):∃u,Cy s i l (CV s s.A[i] l v)=some (u,true):=by
 rcases e.col h c with a|a
 ·obtain⟨L,g,b⟩:=e.clist a;have k:Da s i=H5 L-1:=by rw[Es c,FO a b]
  rw[ax a b,af c a g b];exact((TH g (l:=l) d (by omega)).2 v (f.code a b)).2.2.2
 ·have k:Da s i=s.A[i].S.length:=by rw[Es c,Db a]
  rw[Sv a];exact pf c a d (by omega) (f.meas a)
theorem qU(e:DS s){i:Nat}(f:1<=i)(b:i<s.A.length):∃r,Cy s i 0 0=some r:=by
 rcases e.col f b with a|a
 ·obtain⟨L,c,d⟩:=e.clist a;have:=N1 c;rw[af b a c d];exact(TH c (l:=0) (by omega) (by have:=this.lev2;omega)).1
 ·refine Exists.elim (?_:Ok (Cy s i 0 0) λ_=>True) λr hr=>⟨r,hr.1⟩;unfold Cy;exact y4 b (y6 (by rw[a.kind];rfl) (y3 rfl (qr (x:=(s.A[i].D,s.A[i].E,true)) rfl (ur trivial))))
def QT(s:Aa)(p:Ac):Prop:=∃i:Nat,1<=i/\i<s.A.length/\p.B=i/\0<=p.T/\p.T<=Da s i
def XV(s:Aa)(p:Ac)(v:Int):Prop:=∃(i:Nat)(hi:i<s.A.length)(w:Int),1<=i/\p.B=i/\Z1 s s.A[i] w/\v=CV s s.A[i] p.T w
structure GX(s:Aa)(x:Ao):Prop where
 project:C0 x.Ae=some true/\Cz x.Ae=some true
 version:0<=x.Af/\x.Af<=300
 picks:∀p∈x.H,QT s p
 order:x.H.Pairwise λa b=>a.B<b.B
 rows:∀r∈x.C,r.length=x.H.length+1/\0<=hd r/\hd r<=1048575/\∀(k:Nat) p v,x.H[k]?=some p->r[k+1]?=some v->XV s p v
 asc:o7 x.C
 len:x.C.length<=200
theorem GX.picks_len{x:Ao}(b:DS s)(h:GX s x):x.H.length<=6:=by
 have e:=b.cols_length
 have key:∀(k:Nat)(hk:k<x.H.length),(k:Int)+1<=x.H[k].B:=by
  intro k
  induction k with
  | zero=>intro hk;obtain⟨i,c,_,a,_⟩:=h.picks _ (ta hk);rw[a];omega
  | succ k ih =>
    intro hk;have:=ih (by omega);have a:=(List.pairwise_iff_getElem.1 h.order) k (k+1) (by omega) hk (by omega);omega
 rcases tG x.H.length 7 with d|d
 ·omega
 ·have:=key 6 (by omega);obtain⟨i,c,a,f,_⟩:=h.picks _ (ta (by omega:6<x.H.length));omega
theorem nu{p:Ac}(a:DS s)(h:QT s p):JX s p=some 0:=by
 obtain⟨i,b,c,hp,d,e⟩:=h;have f:=a.fin_ok b c;refine Ok.val ?_;unfold JX;rw[hp];refine qr (a.pfinest b c) (y8 (λh=>by omega) λ_=>y3 ?_ (ur rfl));grind
theorem nw{l:List Ac}(d:DS s)(h:∀p∈l,QT s p)(ho:l.Pairwise λa b=>a.B<b.B)(f:l.length<=1000):Jd s l=some 0:=by
 refine Ok.val ?_;unfold Jd;refine qr d.check (y3 rfl ?_);refine y7 (λq=>q) l.length (λ_ _=>True) 0 (sZ _) rfl trivial (by omega) (λrec q hq _=>?_) λrec i q c hq _ ih=>?_
 ·simp only[J7,hq];rw[EL];exact ur rfl
 ·simp only[J7,hq];rw[C4];refine y4 c (qr (nu d (h _ (ta c))) (y3 rfl (y8 (λg=>?_) λ_=>ih _ CB trivial)));have e:i64.wrap ((i:Int)-1)=((i-1:Nat):Int):=by rw[wr];omega
  rw[e];have:=(List.pairwise_iff_getElem.1 ho) (i-1) i (by omega) c (by omega);exact y4 (by grind) (y8 (λj=>by omega) λ_=>ih _ CB trivial)
theorem GX.atP{x:Ao}(d:DS s)(h:GX s x){r:List Int}(hr:r∈x.C){k:Nat}(hk:k<x.H.length)(a:k+1<r.length) :
 ∃u,Cy s x.H[k].B x.H[k].T r[k+1]=some (u,true):=by
 obtain⟨i,f,w,g,hp,j,e⟩:=(h.rows r hr).2.2.2 k _ _ (P3 hk) (P3 a);obtain⟨l,m,n,o,b,c⟩:=h.picks _ (ta hk);have:l=i:=by grind
 subst this;rw[e,hp];exact rP d g f b c j
theorem GX.ne{x:Ao}(h:GX s x){r:List Int}(hr:r∈x.C):r≠[]:=by
 intro e;have:=(h.rows r hr).1;grind
theorem rO{x:Ao}(b:DS s)(h:GX s x){r:List Int}(hr:r∈x.C):Kj s x.H r=some true:=by
 have f:=h.picks_len b;obtain⟨d,g,j,_⟩:=h.rows r hr;refine Ok.val ?_;unfold Kj;refine y3 ?_ (qr (GM (h.ne hr)) (y8 (λh=>by omega) λ_=>qr (GM (h.ne hr)) (y8 (λh=>by omega) λ_=>?_)))
 ·rw[wr,d];simp
 unfold Mz;refine y7 (λq=>q) x.H.length (λ_ _=>True) 0 (sZ _) rfl trivial (by omega) (λrec q hq _=>?_) λrec i q c hq _ ih=>?_
 ·simp only[Jw,hq];rw[EL];exact ur rfl
 ·simp only[Jw,hq];rw[C4];have a:i+1<r.length:=by omega
  obtain⟨u,e⟩:=h.atP b hr c a;refine y4 c ?_;rw[CB];exact y4 a (qr e (y3 rfl (ih _ rfl trivial)))
theorem GX.check{x:Ao}(b:DS s)(h:GX s x):Cv s x=some 0:=by
 have g:=h.len;have d:=h.picks_len b;have j:=h.version;refine Ok.val ?_;unfold Cv;refine qr b.check (y3 rfl (qr h.project.2 (y3 rfl (y3 ?_ (qr (nw b h.picks h.order (by omega)) (y3 rfl (y8 (λh=>by omega) λ_=>?_)))))))
 ·grind
 refine y7 (λq=>q) x.C.length (λ_ _=>True) 0 (sZ _) rfl trivial (by omega) (λrec q hq _=>?_) λrec i q c hq _ ih=>?_
 ·simp only[IQ,hq];rw[EL];exact ur rfl
 ·simp only[IQ,hq];rw[C4];refine y4 c (qr (rO b h (ta c)) (y3 rfl (y8 (λk=>?_) λ_=>ih _ CB trivial)));have e:i64.wrap ((i:Int)-1)=((i-1:Nat):Int):=by rw[wr];omega
  rw[e];have a:i-1<x.C.length:=by omega
  have f:=(List.pairwise_iff_getElem.1 h.asc) (i-1) i a c (by omega);exact qr (GM (h.ne (ta c))) (y4 a (qr (GM (h.ne (ta a))) (y8 (λl=>by omega) λ_=>ih _ CB trivial)))
theorem Xy(a:DS s){i:Nat}(b:1<=i)(c:i<s.A.length){v:Int}(d:Z1 s s.A[i] v):CV s s.A[i] (Da s i) v=v:=by
 have e:=a.fin_ok b c;have f:=fL a b c d;have g:=Vg a b c (l:=Da s i) (by omega) (ua _) d;grind
theorem Wk.gx{x:Ao}{n:Nat}(d:DS s)(h:Wk s x n)(w:n<=200):GX s x:=by
 have y:=d.cols_length;have g:=H1 (s:=s);have f:=h.len;refine⟨?_,by rw[h.version];omega,?_,?_,?_,h.asc,by omega⟩
 ·rw[h.project];exact⟨by decide +kernel,by decide +kernel⟩
 ·intro p hp;rw[h.picks]at hp;obtain⟨k,hk,rfl⟩:=List.mem_iff_getElem.1 hp;rw[Hf hk];have z:=d.fin_ok (i:=k+1) (by omega) (by omega);exact⟨k+1,by omega,by omega,rfl,by show 0<=Da s (k+1);omega,ua _⟩
 ·rw[h.picks,List.pairwise_iff_getElem];intro a b j l m;rw[Hf j,Hf l];grind
 ·intro r hr;obtain⟨A,o,q,t⟩:=h.rows r hr;rw[h.picks];refine⟨by omega,o,q,λk p v hp u=>?_⟩;obtain⟨hk,rfl⟩:=List.getElem?_eq_some_iff.1 hp;rw[Hf hk];have e:k+1<s.A.length:=by omega
  have c:=t (k+1) _ v (by omega) (P3 e) u;exact⟨k+1,e,v,by omega,rfl,c,(Xy d (by omega) e c).symm⟩
theorem DS.pcond_zero(h:DS s)(d:Nat):BK (d+1) s C9=some 4:=by unfold BK;rw[h.check];rfl
theorem DS.pneeds_zero(h:DS s)(d:Nat):BL (d+1) s C9=some []:=by unfold BL;rw[h.pcond_zero];rfl
theorem de{l:List Int}{x:Int}(hx:x∈l)(a:l.length<=1000000):AP l x=some true:=by
 unfold AP;have h:Cd l x=some (G6 (λy=>x==y) l):=IS (p:=λy=>some (x==y)) (λ_ _=>rfl) (by omega);rw[h,tc,Ls];grind
theorem VN{i:Nat}(a:i<s.A.length)(h:ER s.A[i]):BO s i=some true:=by
 unfold BO;rw[dt,dt];show(idx s.A (i:Int)).bind _=_;rw[DG a,tc,h.kind];rfl
theorem Ys{i:Nat}(j:i<s.A.length)(h:ER s.A[i]){n:Nat}(p:n<s.A[i].S.length):Ik s i s.A[i].S[n]=some ((s.A[i].S.length:Int)-n):=by
 have l:=Fj h
 have hd:∀a b (d:a<s.A[i].S.length) (f:b<s.A[i].S.length),a<b->s.A[i].S[a]≠s.A[i].S[b]:=by
  have hp:s.A[i].S.Pairwise (·≠·):=by rcases eE h.widths with e|e|e|e<;>(rw[e];decide)
  intro a b d f c;exact(List.pairwise_iff_getElem.1 hp) a b d f c
 refine Ok.val ?_;unfold Ik;refine y4 j ?_;refine y7 (λq=>q) s.A[i].S.length (λk _=>k<=n) 0 (sZ _) rfl (sZ _) (by omega) (λrec q hq m=>by omega) λrec k q hk hq m ih=>?_;simp only[LA,hq];rw[C4];refine y4 hk (y5 (λg=>ur ?_) λo=>ih _ CB ?_)
 ·have g:s.A[i].S[k]=s.A[i].S[n]:=by simpa using g
  have:k=n:=by grind
  rw[this,wr]
 ·grind
theorem jD{i:Nat}(c:i<s.A.length)(h:ER s.A[i]){l:Int}(e:0<=l)(a:l<=s.A[i].S.length):Ok (Fg s i l) λ_=>True:=by
 unfold Fg;refine y4 c (y3 (by rw[h.kind];rfl) (y5 (λ_=>ur trivial) λd=>?_));have d:l≠0:=by grind
 have b:=FV h (l:=l) (by omega) a;obtain⟨f,g⟩:=h.low;obtain⟨j,k⟩:=h.high;exact qr (bP h (by omega) a) (qr (MK b.1 (by omega) (by omega) (by omega)) (qr (MK b.1 (by omega) (by omega) (by omega)) (yb (by omega) (y5 (λ_=>ur trivial) λ_=>ur trivial))))
theorem Xs{l:List Ac}{p:Ac->Option Bool}(q:Ac->Bool)(hp:∀x∈l,p x=some (q x))(a:l.length<=1000000000):AI l p=some (l.any q):=by
 unfold AI;rw[show By l p=some (G6 q l)from IS hp a,tc,Ls]
def covers(picks needs:List Ac):Bool:=needs.all λn=>picks.any λp=>bif p.B==n.B then decide (p.T>=n.T)else false
theorem bO(a b:List Ac)(c:a.length<=1000000)(d:b.length<=1000000):BB a b=some (covers a b):=by
 unfold BB;rw[Xs (λn=>!(a.any λp=>bif p.B==n.B then decide (p.T>=n.T)else false)) (λn _=>?_) (by omega)]
 ·rw[tc,covers,List.any_eq_not_all_not];simp
 ·unfold G8;have:=Xs (l:=a) (p:=λa0=>EX a0 n) (λp=>bif p.B==n.B then decide (p.T>=n.T)else false) (λ_ _=>rfl) (by omega);grind
theorem qA(l:List Int):NB l 1 (l.length:Int)=l.drop 1:=by
 unfold NB;rw[uv]
 all_goals grind
theorem GX.valsP{x:Ao}(b:DS s)(hx:GX s x){r:List Int}(hr:r∈x.C)(k:Nat)(hk:k<x.H.length)(a:k<(r.drop 1).length) :
 ∃u,Cy s x.H[k].B x.H[k].T (r.drop 1)[k]=some (u,true):=by
 have e:(r.drop 1)[k]=r[k+1]'(by rw[uJ]at a;omega):=by grind
 rw[e];exact hx.atP b hr hk _
theorem XH{l:List Int}{p:Int->Option Bool}(q:Int->Bool)(hp:∀x∈l,p x=some (q x))(a:l.length<=1000000000):Bt l p=some (l.any q):=by
 unfold Bt;rw[show CR l p=some (G6 q l)from IS hp a,tc,Ls]
theorem nl{n w:Int}(b:1<=w)(a:w<=1000000)(c:-100000000<=n)(d:n<=100000000):SH n w=some (n-n%w):=MK b a c d
theorem ir{l:List Int}{w:Int}(A:l.length<=200)(j:1<=w)(f:w<=1000000)(m:∀v∈l,-1000000<=v/\v<=1000000):Ok (Nn l w) λr=>r.2=0/\r.1.length<=200:=by
 unfold Nn;have n:l.any (λv=>bif decide (v < -1000000)then true else decide (v>1000000))=false:=by grind
 refine y8 (λh=>by omega) λ_=>y3 (by grind) (qr (XH _ (λ_ _=>rfl) (by omega)) ?_);rw[n];refine y3 rfl ?_;unfold MY;have o:AG l=some l:=by unfold AG;rw[Sd (by omega)];rfl
 have p:Du l=some (Vq l):=by unfold Du;rw[Sd (by omega)];rfl
 have t:(Vq l).length=l.length:=by simp[Vq,vm]
 have g:∀v∈Vq l,-1000000<=v/\v<=1000000:=λv i=>m v (List.mem_mergeSort.1 i);refine qr o (qr p ?_);refine y7 (λq=>q.1) (Vq l).length (λk q=>q.2.length<=k) 0 (sZ _) rfl (td _) (by omega) (λrec q hq u=>?_) λrec k q hk hq u ih=>?_
 ·simp only[MW,hq];rw[EL];exact ur ⟨rfl,by show q.2.length<=200;omega⟩
 ·have x:=g _ (ta hk);simp only[MW,hq];rw[C4]
  have c:∀(b:List Ei)(z:Ei),i64.wrap (((b++[z]).length:Int)-1)=(b.length:Int)\/1000<b.length:=by
   intro b z;by_cases h:b.length<=1000
   ·left
    rw[tF,wr (by grind) (by simp;omega)];simp
   ·grind
  have a:∀z:Ei,Ok (bif P.rm q.2.length [z].length then
   (idx (q.2++[z]) (i64.wrap (((q.2++[z]).length:Int)-1))).bind λx63 =>
   (idx (q.2++[z]) (i64.wrap (((q.2++[z]).length:Int)-1))).bind λx67 =>
   rec ((i64.wrap ((k:Int)+1)),((q.2++[z]).set ((i64.wrap (((q.2++[z]).length:Int)-1)):Int).toNat ({ D:=x67.D,Ad:=(i64.wrap (x63.Ad+1)) }:Ei)))else none) λr=>r.2=0/\r.1.length<=200:=by
   intro z;refine Ok.rm (by grind) ?_;rw[(c q.2 z).resolve_right (by omega)];have d:q.2.length<(q.2++[z]).length:=by simp
   exact y4 d (y4 d (ih _ CB (by grind)))
  refine y4 hk (qr (nl j f (by omega) (by omega)) (y5 (λ_=>a _) λy=>?_));have y:q.2.length≠0:=by grind
  have e:i64.wrap ((q.2.length:Int)-1)=((q.2.length-1:Nat):Int):=by rw[wr];omega
  rw[e];have d:q.2.length-1<q.2.length:=by omega
  refine y4 d (y5 (λ_=>a _) λ_=>y4 d (y4 d (ih _ CB (by grind))))
def keep(w:Nat->Int)(n:Nat):List Nat:=(List.range n).filter λj=>w j != CF
def ints(l:List Nat):List Int:=l.map λj:Nat=>(j:Int)
theorem gJ{c:Au}(h:ER c){b w:Int}(d:1<=b)(f:b<=c.S.length)(a:MV c w):mv c b w=CF↔w=CF:=by
 constructor
 ·intro e;rcases a with a|a
  ·exact absurd e (Ku h d f a).2.2.2.1
  ·grind
 ·intro e;unfold mv;grind
theorem fy{c:Au}(h:ER c){n:Nat}(a:n<c.S.length):1<=c.S[n]/\c.S[n]<=20:=by
 have:∀v∈c.S,1<=v/\v<=20:=by rcases eE h.widths with e|e|e|e<;>(rw[e];decide)
 exact this _ (ta a)
theorem DS.last(h:DS s):∃i:Nat,1<=i/\∃d:i<s.A.length,ER s.A[i]:=by
 obtain⟨j,b,e,f,g,c⟩:=h.cols;have k:=MI j;have a:s.A.length=(G5 j).length+b.length:=by grind
 refine⟨(G5 j).length,by omega,by omega,?_⟩;have l:=(c 0 (by omega)).1;grind
theorem XJ(g:DS s):Ok (C6 s 3) λl=>l≠[]/\l.length<=6/\∀v∈l,∃i:Nat,v=i/\1<=i/\∃d:i<s.A.length,ER s.A[i]:=by
 have p:=g.cols_length;unfold C6
 refine y7 (λq=>q.1) s.A.length (λk q=>q.2.length<=k/\(∀v∈q.2,∃i:Nat,v=i/\1<=i/\∃d:i<s.A.length,ER s.A[i])/\∀(i:Nat)(d:i<s.A.length),i<k->ER s.A[i]->(i:Int)∈q.2) 0 (sZ _) rfl
  ⟨td _,(λv a=>by cases a),λi _ h=>by omega⟩ (by omega) (λrec q hq b=>?_) λrec k q hk hq b ih=>?_
 ·simp only[DX,hq];rw[EL];obtain⟨i,_,d,f⟩:=g.last;exact ur ⟨(λe=>by have:=b.2.2 i d d f;rw[e]at this;cases this),by have:=b.1;omega,b.2.1⟩
 ·simp only[DX,hq];rw[C4];have n:=b.1;refine y4 hk (y5 (λe=>Ok.rm (by grind) (ih _ CB ⟨by simp;omega,λv a=>?_,λj o m f=>?_⟩)) λe=>ih _ CB ⟨by show q.2.length<=k+1;omega,b.2.1,λj o m f=>?_⟩)
  ·rcases List.mem_append.1 a with a|a
   ·grind
   ·rw[vi]at a;have e:s.A[k].Kind=3:=by grind
    rcases g.cl hk with⟨_,c⟩|⟨r,c|c⟩
    ·rw[c]at e;cases e
    ·rw[c.kind]at e;cases e
    ·grind
  ·grind
  ·rcases tG j k with c|c
   ·grind
   ·obtain rfl:j=k:=by omega
    rw[f.kind]at e
    cases e
theorem JP{c:Ab}(b:GW c)(d:DS s):Ok (Bs c s) λr=>GW r.2/\∃i:Nat,r.1=i/\1<=i/\∃g:i<s.A.length,ER s.A[i]:=by
 unfold Bs;refine Ok.bind (XJ d) λl a=>?_;have:l.length≠0:=λe=>a.1 (tx e);have f:=a.2.1;refine Ok.bind (Di b (by omega) (by omega)) λy hy=>Ok.idx hy.2.1 (by omega) (ur ⟨hy.1,a.2.2 _ (ta _)⟩)
