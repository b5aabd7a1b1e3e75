/- QB -/
import Derived.Test.YtaojdkijihbaoaaGreatDoorQA
open Go.IntKind (i64 u64)
set_option linter.all false
namespace Go.Proofs.YtaojdkijihbaoaaGreatDoor.P
open Go Go.Abs Go.Proofs
set_option maxRecDepth 100000
variable {s:Aa}
theorem MF(n a b:Int):F8 n a b=some (decide (a<=n/\n<=b)):=by
 unfold F8;grind
theorem fU{w:List Int}(h:w∈Nq):w=[1]\/w=[1,5]\/w=[1,5,20]\/w=[1,2,4,12]:=by simpa [Nq] using h
theorem nM{c:As}(h:Dl c):Jc c=some 0:=by
 have a:LA c=some 0:=by
  obtain⟨n,k,b,lo,d,w,o⟩:=c;rcases fU h.widths with e|e|e|e<;>(simp only at e;subst e;rfl)
 obtain⟨f,g⟩:=h.low;obtain⟨i,j⟩:=h.high;unfold Jc;rw[MF,ue,dt,MF,ue,dt,df,a];rfl
theorem nu{c:As}(h:Dl c):ER c=some 0:=by
 have f:(bif(bif((c.N.length:Int)==0)then true else(decide ((c.N.length:Int)>4)))then some 1 else iter (λa s=>Hl c (λd b=>some 0) a s.1 s.2) A9 (1,0))=some 0:=by
  obtain⟨n,k,g,lo,i,w,o⟩:=c;rcases fU h.widths with e|e|e|e<;>(simp only at e;subst e;rfl)
 obtain⟨j,l⟩:=h.low;obtain⟨m,p⟩:=h.high;unfold ER;grind
def rQ(i:Nat)(c:As):Prop:=(i=0/\c=oz)\/(1<=i/\(IR c\/Dl c))
theorem DS.cl(h:DS s){i:Nat}(a:i<s.A.length):rQ i s.A[i]:=by
 rcases Nat.eq_zero_or_pos i with rfl|b
 ·exact .inl ⟨rfl,h.col0 a⟩
 ·exact .inr ⟨b,h.col b a⟩
theorem rQ.kinds{i:Nat}{c:As}(h:rQ i c):(c.Kind=1\/c.Kind=2\/c.Kind=3)/\(c.Kind=1->i=0):=by
 rcases h with⟨rfl,rfl⟩|⟨a,h|h⟩
 ·exact⟨.inl rfl,λ_=>rfl⟩
 ·rw[h.kind];exact⟨.inr (.inl rfl),λe=>by omega⟩
 ·rw[h.kind];exact⟨.inr (.inr rfl),λe=>by omega⟩
theorem Yl{i:Nat}{c:As}(h:rQ i c):Hy c=some 0:=by
 rcases h with⟨rfl,rfl⟩|⟨a,h|h⟩
 ·rfl
 ·obtain⟨n,k,b,lo,d,w,o⟩:=c;obtain⟨e,f,g,j,l,m⟩:=h;grind
 ·unfold Hy;rw[nM h,h.kind,h.list];rfl
theorem pD(h:DS s){i:Nat}(b:i<s.A.length):Kw s i=some 0:=by
 have a:=h.cl b;have hk:=a.kinds;have g:=h.lists2;refine Ok.val ?_;unfold Kw;refine y5 b (qr (h.name b).1 ?_);simp only[Bool.not_true,Bool.not_false,uY,ux];refine y8 (λs=>s) i (λ_ _=>True) 0 (ug _) rfl trivial (by have:=h.cols_length;omega) (λrec q c _=>?_) λrec k q d c _ ih=>?_
 ·simp only[Js,c];rw[CW];unfold Jt;rw[MF,ue,dt];have j:(bif decide ((i:Int)>0)then s.A[i].Kind==1 else false)=false:=by grind
  rw[j];show Ok (bif(s.A[i].Kind==2)then _ else _) _;refine y6 (λl=>?_) λ_=>Ok.eq (Yl a);have l:s.A[i].Kind=2:=by grind
  have f:s.A[i].Ak=0\/s.A[i].Ak=1:=by
   rcases a with⟨rfl,e⟩|⟨_,h|h⟩
   ·rw[e];exact .inl rfl
   ·exact h.list
   ·exact .inl h.list
  rw[MF,ue,g,un (by rw[wr];omega)];exact Ok.eq (Yl a)
 ·simp only[Js,c];rw[Cg];refine y5 (by grind) ?_;rw[(h.name_ne b d).1];refine ih _ ?_ trivial;show i64.wrap ((k:Int)+1)=_;have:=h.cols_length;rw[wr];omega
theorem DS.lname(h:DS s)(c:0<s.K.length)(d:1<s.K.length):s.K[0].I=YM/\s.K[1].I=gM:=by
 obtain⟨a,f,b,g,e⟩:=h.lists;grind
theorem iM:(YM.toList==gM.toList)=false:=by decide +kernel
theorem DS.rcheck(h:DS s):DO s=some 0:=by
 have f:=h.lists2;have g:=h.cols_length;refine Ok.val ?_;unfold DO;rw[df,df];simp only[Bool.not_true,Bool.not_false,uY,ux];refine y8 (λs=>s) s.K.length (λ_ _=>True) 0 (ug _) rfl trivial (by omega) (λrec q a _=>?_) λrec i q b a _ ih=>?_
 ·simp only[Ks,a];rw[CW];unfold NK;have e:((s.A.length:Int)==0)=false:=by grind
  rw[e];show Ok ((idx s.A 0).bind _) _;refine y5 (i:=0) (by omega) ?_;rw[h.col0];refine y4 rfl ?_;refine y8 (λs=>s) s.A.length (λ_ _=>True) 0 (ug _) rfl trivial (by omega) (λrec q a _=>?_) λrec i q b a _ ih=>?_
  ·simp only[Ku,a];rw[CW];exact y3 rfl
  ·simp only[Ku,a];rw[Cg];refine qr (pD h b) (ih _ ?_ trivial);show i64.wrap ((i:Int)+1)=_;rw[wr];omega
 ·simp only[Ks,a];rw[Cg];refine y5 b (qr (Kd (h.list b)).rcheck ?_);refine y4 rfl ?_;refine y8 (λs=>s) i (λ_ _=>True) 0 (ug _) rfl trivial (by omega) (λc q a _=>?_) λc k q hk a _ ih2=>?_
  ·simp only[Kt,a];rw[CW];refine ih _ ?_ trivial;show i64.wrap ((i:Int)+1)=_;rw[wr];omega
  ·simp only[Kt,a];rw[Cg];refine y5 (by grind) (y5 b ?_);obtain rfl:k=0:=by omega
   obtain rfl:i=1:=by omega
   have d:=h.lname (by omega) (by omega);rw[d.1,d.2,iM];refine ih2 _ ?_ trivial;show i64.wrap (((0:Nat):Int)+1)=_;rw[wr];omega
theorem cu{α:Type}(l:List α){i:Nat}(a:i<=l.length):M1 l 0 (i:Int)=l.take i:=by simp[M1]
theorem pC{i:Nat}{c:As}(h:rQ i c):Fl c=some true:=by
 rcases h with⟨rfl,rfl⟩|⟨j,h|h⟩
 ·rfl
 ·obtain⟨n,k,l,lo,m,w,o⟩:=c;obtain⟨a,g,b,d,e,f⟩:=h;simp only at a g b d e f;subst a;subst b;subst d;subst e;subst f;rfl
 ·unfold Fl;rw[h.kind,h.list];rfl
theorem p7(h:DS s){i:Nat}(d:i<s.A.length):F9 s i=some 0:=by
 have b:=h.cl d;have j:=h.lists2;have l:=h.cols_length;refine Ok.val ?_;unfold F9;refine y5 d (qr (h.name d).2 (yb (by omega) ?_));rw[cu _ (by omega)];refine qr (jw (λa=>a.I.toList==s.A[i].I.toList) (λx _=>rfl) (by grind)) ?_
 have:(s.A.take i).any (λa=>a.I.toList==s.A[i].I.toList)=false:=by
  rw[List.any_eq_false];intro x hx;obtain⟨k,hk,rfl⟩:=List.mem_iff_getElem.1 hx;have f:k<i:=by grind
  rw[wq,(h.name_ne d f).1];simp
 rw[this];show Ok (bif(s.A[i].Kind==1)then _ else _) _;have fin:Ok ((Fl s.A[i]).bind λg=>bif(!g)then some 11 else some 0) (·=(0:Int)):=qr (pC b) (y3 rfl);rcases b with⟨rfl,e⟩|⟨m,c|c⟩
 ·rw[e];rw[e]at fin;exact fin
 ·rw[c.kind]
  have:(bif decide (s.A[i].Ak<0)then true else decide (s.A[i].Ak>=(s.K.length:Int)))=false:=by
   rcases c.list with e|e <;>  grind
  grind
 ·rw[c.kind];exact qr (nu c) fin
theorem DS.check(h:DS s):C4 s=some 0:=by
 have g:=h.lists2;have j:=h.cols_length;refine Ok.val ?_;unfold C4;rw[df,df];simp only[Bool.not_true,Bool.not_false,uY,ux];refine y8 (λs=>s) s.K.length (λ_ _=>True) 0 (ug _) rfl trivial (by omega) (λrec q b _=>?_) λrec i q c b _ ih=>?_
 ·simp only[Jw,b];rw[CW];unfold M8;have e:((s.A.length:Int)==0)=false:=by grind
  rw[e];show Ok ((idx s.A 0).bind _) _;refine y5 (i:=0) (by omega) ?_;rw[h.col0];refine y4 rfl ?_;refine y8 (λs=>s) s.A.length (λ_ _=>True) 0 (ug _) rfl trivial (by omega) (λrec q b _=>?_) λrec i q c b _ ih=>?_
  ·simp only[Jy,b];rw[CW];exact y3 rfl
  ·simp only[Jy,b];rw[Cg];refine qr (p7 h c) (ih _ ?_ trivial);show i64.wrap ((i:Int)+1)=_;rw[wr];omega
 ·simp only[Jw,b];rw[Cg];refine y5 c (qr (Kd (h.list c)).check ?_);show Ok (bif decide _ then _ else none) _;refine yb (by omega) ?_;rw[cu _ (by omega)];refine qr (bV (λa=>a.I.toList==s.K[i].I.toList) (λx _=>rfl) (by grind)) ?_
  have:(s.K.take i).any (λa=>a.I.toList==s.K[i].I.toList)=false:=by
   rw[List.any_eq_false];intro x hx;obtain⟨k,hk,rfl⟩:=List.mem_iff_getElem.1 hx;have f:k<i:=by grind
   obtain rfl:k=0:=by omega
   obtain rfl:i=1:=by omega
   have d:=h.lname (by omega) (by omega);rw[wq,d.1,d.2,iM];simp
  rw[this];refine ih _ ?_ trivial;show i64.wrap ((i:Int)+1)=_;rw[wr];omega
theorem C7{i:Nat}(h:i<=1000000000000:=by omega):i64.wrap ((i:Int)+1)=((i+1:Nat):Int):=by rw[wr];omega
def C3:Int:=-1099511627776
def WG(s:Aa)(c:As)(v:Int):Prop :=
 (c.Kind=1/\1<=v/\v<=1000)\/(c.Kind=2/\∃L,L∈Sc/\idx s.K c.Ak=some L/\v∈Bu L)\/(c.Kind=3/\((c.C<=v/\v<=c.D)\/(c.Al=true/\v=C3)))
def Sn(s:Aa)(r:List Int):Prop:=r.length=s.A.length/\∀(i:Nat) c v,s.A[i]?=some c->r[i]?=some v->WG s c v
theorem DS.clist(h:DS s){c:As}(d:IR c):∃L,L∈Sc/\idx s.K c.Ak=some L:=by
 have f:=h.lists2;rcases d.list with e|e
 ·have a:0<s.K.length:=by omega
  exact⟨_,h.list a,by rw[e];exact Cf (i:=0) a⟩
 ·have b:1<s.K.length:=by omega
  exact⟨_,h.list b,by rw[e];exact Cf (i:=1) b⟩
theorem Z4{s:Aa}{i:Int}{c:As}{L:Aj}(b:idx s.A i=some c)(d:idx s.K c.Ak=some L)(a:L∈Sc):D6 s i=some (Bu L):=by
 have h:=Kd a;have e:=h.lev2;have f:=h.lev3;unfold D6;rw[b,ue,d,ue,h.rlev,ue,wr,h.rleaves];rfl
theorem U8:(Sc.all λl=>decide ((Bu l).length<=10))=true:=by decide +kernel
theorem ow(h:DS s){c:Ab}(j:IT c){i:Nat}(l:i<s.A.length):Ok (GF c s i) λr=>IT r.2/\WG s s.A[i] r.1:=by
 unfold GF;refine y5 l ?_;have b:idx s.A (i:Int)=some s.A[i]:=Cf l;generalize m:s.A[i]=cl at b ⊢;have d:=h.cl l;rw[m]at d;rcases d with⟨rfl,e⟩|⟨u,a|a⟩
 ·subst e;refine y7 rfl (Ok.bind (Hx j (by omega) (by omega) (by omega) (by omega)) λx hx=>y3 ⟨hx.1,.inl ⟨rfl,hx.2.1,by show x.1<=1000;omega⟩⟩)
 ·obtain⟨L,k,f⟩:=h.clist a;have n:=Kd k;refine y4 (by rw[a.kind];rfl) (y7 (by rw[a.kind];rfl) (qr (Z4 b f k) ?_));have v:(Bu L).length<=10:=by have:=List.all_eq_true.1 U8 L k;simpa using this
  have q:0<(Bu L).length:=List.length_pos_iff.2 n.some_;refine Ok.bind (Ey j (by omega) (by omega)) λx hx=>?_;refine Ok.idx hx.2.1 (by omega) (y3 ⟨hx.1,.inr (.inl ⟨a.kind,L,k,f,ud _⟩)⟩)
 ·obtain⟨w,y⟩:=a.low;obtain⟨t,z⟩:=a.high;refine y4 (by rw[a.kind];rfl) (y4 (by rw[a.kind];rfl) ?_)
  have p:∀{c':Ab},IT c'->Ok ((AN c' cl.C cl.D).bind λg=>some (g.1,g.2)) λr=>IT r.2/\WG s cl r.1:=λo =>
   Ok.bind (Hx o t (by omega) (by omega) (by omega)) λx hx=>y3 ⟨hx.1,.inr (.inr ⟨a.kind,.inl hx.2⟩)⟩
  refine y6 (λho=>Ok.bind (QZ j (by omega) (by omega)) λx hx=>y6 (λ_=>y3 ⟨hx,.inr (.inr ⟨a.kind,.inr ⟨ho,rfl⟩⟩)⟩) λ_=>p hx) λ_=>p j
theorem rE(h:DS s){c:Ab}(d:IT c):Ok (Iq c s) λr=>IT r.2/\Sn s r.1:=by
 have f:=h.cols_length;unfold Iq;refine y8 (λq=>q.1) s.A.length (λi q=>IT q.2.1/\q.2.2.length=i/\∀(k:Nat) c v,s.A[k]?=some c->q.2.2[k]?=some v->WG s c v) 0 (ug _) rfl ⟨d,rfl,λk c v _ h=>by simp at h⟩ (by omega) (λrec q b a=>?_) λrec i q e b a ih=>?_
 ·simp only[Ic,b];rw[CW];exact y3 ⟨a.1,a.2.1,a.2.2⟩
 ·simp only[Ic,b];rw[Cg];refine Ok.bind (ow h a.1 e) λx hx=>Ok.rm (by grind) (ih _ C7 ⟨hx.1,by simp[a.2.1],λk g v hk j=>?_⟩);grind
def hd(r:List Int):Int:=r.headD 0
theorem J7{r:List Int}(h:r≠[]):idx r 0=some (hd r):=by
 cases r with
 | nil=>grind
 | cons a q=>rfl
def eH(l:List (List Int)):Prop:=l.Pairwise λa b=>hd a<hd b
def Si(l:List (List Int))(row:List Int):List (List Int):=l.filter (λx=>decide (hd x<hd row))++row :: l.filter (λx=>decide (hd row<hd x))
theorem dG{l:List (List Int)}{row:List Int}(h:eH l):eH (Si l row):=by
 unfold eH Si;rw[List.pairwise_append,List.pairwise_cons];refine⟨h.sublist List.filter_sublist,⟨λx hx=>?_,h.sublist List.filter_sublist⟩,λx hx y hy=>?_⟩
 all_goals grind
theorem dH{l:List (List Int)}{row x:List Int}(h:x∈Si l row):x=row\/x∈l:=by
 unfold Si at h;grind
theorem Rb(l:List (List Int))(row:List Int):(Si l row).length<=l.length+1:=by
 unfold Si;rw[uV,vu]
 have:(l.filter (λx=>decide (hd x<hd row))).length+(l.filter (λx=>decide (hd row<hd x))).length<=l.length:=by
  induction l with
  | nil=>simp
  | cons a r ih=>grind
 omega
theorem P5{α:Type}(l:List α)(p:α->Bool){i:Nat}(a:i<l.length):(l.take (i+1)).filter p=(l.take i).filter p++if p l[i]then[l[i]]else[]:=by
 rw[ui a,xl];grind
theorem nA{l:List (List Int)}{row:List Int}(z:∀x∈l,x≠[])(hr:row≠[])(A:eH l)(v:l.length<=1000000):Nn l row=some (Si l row):=by
 refine Ok.val ?_;unfold Nn
 refine y8 (λq=>q.2.1) l.length (λi q=>(q.1=false/\(∀x∈l.take i,hd x<=hd row)/\q.2.2=(l.take i).filter (λx=>decide (hd x<hd row))) \/
  (q.1=true/\(∃x∈l.take i,hd row<hd x)/\q.2.2=(l.take i).filter (λx=>decide (hd x<hd row))++row :: (l.take i).filter (λx=>decide (hd row<hd x)))) 0 (ug _) rfl (.inl ⟨rfl,by simp,by simp⟩) (by omega) (λrec q o f=>?_) λrec i q b o f ih=>?_
 ·simp only[Na,o];rw[CW];rw[uS]at f;rcases f with⟨c,d,a⟩|⟨c,d,a⟩
  ·rw[c];refine y7 rfl (Ok.rm ?_ (y3 ?_))
   ·grind
   ·rw[a,Si];congr 2;symm;rw[List.filter_eq_nil_iff];grind
  ·rw[c];exact y4 rfl (y3 a)
 ·simp only[Na,o];rw[Cg];have j:=z _ (ud b)
  have w:∀x∈l.take i,hd x<hd l[i]:=by
   intro x hx;obtain⟨k,hk,rfl⟩:=List.mem_iff_getElem.1 hx;have p:k<i:=by grind
   rw[wq];exact(List.pairwise_iff_getElem.1 A) k i (by omega) b p
  have g:=P5 l (λx=>decide (hd x<hd row)) b;have h:=P5 l (λx=>decide (hd row<hd x)) b
  have r:q.2.2.length<=i+1:=by
   have E:(l.take i).length=i:=by grind
   have y:((l.take i).filter (λx=>decide (hd x<hd row))).length+((l.take i).filter (λx=>decide (hd row<hd x))).length<=i:=by
    have:=Rb (l.take i) row;unfold Si at this;grind
   rcases f with⟨_,_,a⟩|⟨_,_,a⟩
   all_goals grind
  refine y5 b (qr (J7 j) (qr (J7 hr) (y6 (λm=>ih _ C7 ?_) λe=>?_)))
  ·have m:hd l[i]=hd row:=by simpa using m
   rw[g,h];have y:decide (hd l[i]<hd row)=false:=df;have B:decide (hd row<hd l[i])=false:=df;simp only[y,B,vI,if_false,wV];rcases f with⟨c,d,a⟩|⟨c,d,a⟩
   ·refine .inl ⟨c,λx hx=>?_,a⟩;rw[ui b]at hx;grind
   ·obtain⟨x,hx,t⟩:=d;grind
  ·have e:hd l[i]≠hd row:=by simpa using e
   refine y5 b (qr (J7 j) (qr (J7 hr) (y6 (λC=>?_) λC=>?_)))
   ·
     obtain⟨n,D⟩:hd row<hd l[i]/\q.1=false:=by grind
     rcases f with⟨c,d,a⟩|⟨c,d,a⟩
     ·refine Ok.rm (by grind) (y5 b (Ok.rm (by simp;omega) (ih _ C7 (.inr ⟨rfl,⟨l[i],?_,n⟩,?_⟩))))
      ·rw[ui b];exact List.mem_append_right _ (List.mem_singleton.2 rfl)
      ·rw[g,h,df,un n,a]
       have:(l.take i).filter (λx=>decide (hd row<hd x))=[]:=by
        rw[List.filter_eq_nil_iff];grind
       grind
     ·grind
   ·refine y5 b (Ok.rm (by grind) (ih _ C7 ?_));rw[g,h];rcases f with⟨c,d,a⟩|⟨c,d,a⟩
    ·have u:hd l[i]<hd row:=by
      by_cases F:hd l[i]>hd row
      all_goals grind
     refine .inl ⟨c,λx hx=>?_,by rw[un u,a];simp⟩;rw[ui b]at hx;grind
    ·obtain⟨x,hx,t⟩:=d;grind
structure bG(x:Cn)(n:Nat):Prop where
 schema:DS x.Aw
 rows:∀r∈x.G,Sn x.Aw r
 asc:eH x.G
 len:x.G.length<=n
 gone:x.Br=[]
 version:x.Ag=0
theorem Sn.ne(h:DS s){r:List Int}(hr:Sn s r):r≠[]:=by
 intro e;have:=hr.1;have:=h.cols_length;grind
theorem kK{c:Ab}(j:IT c){n:Nat}(p:n<=50):Ok (Gi c n) λr=>IT r.2/\bG r.1 n:=by
 unfold Gi;refine Ok.bind (kA j) λx hx=>?_;have e:i64.wrap ((n:Int)+1)=(n:Int)+1:=wr;rw[e];refine Ok.bind (Ey hx.1 (by omega) (by omega)) λy hy=>?_;obtain⟨b,d,k⟩:=hy;refine Ok.loop (λq=>0<=q.1/\IT q.2.1/\(∀r∈q.2.2,Sn x.1 r)/\eH q.2.2/\(q.2.2.length:Int)+q.1<=n) (λq=>q.1.toNat) ⟨d,b,(λr hr=>by cases hr),List.Pairwise.nil,by show((0:Nat):Int)+y.1<=n;omega⟩ (by unfold A9;show y.1.toNat<_;omega) λrec q m ih=>?_;obtain⟨t,g,h,f,u⟩:=m;simp only[Ir];refine y9 (λhp=>Ok.bind (rE hx.2 g) λz i=>?_) λhp=>?_
 ·have a:=nA (l:=q.2.2) (row:=z.1) (λr hr=>(h r hr).ne hx.2) (i.2.ne hx.2) f (by omega);have o:=Rb q.2.2 z.1;refine qr a (ih _ ⟨?_,i.1,λr hr=>?_,dG f,?_⟩ ?_)
  ·show 0<=i64.wrap (q.1-1);rw[wr];omega
  ·rcases dH hr with rfl|hr
   all_goals grind
  ·show((Si q.2.2 z.1).length:Int)+i64.wrap (q.1-1)<=n;rw[wr];omega
  ·show(i64.wrap (q.1-1)).toNat<q.1.toNat;rw[wr];omega
 ·exact y3 ⟨g,hx.2,h,f,by show q.2.2.length<=n;omega,rfl,rfl⟩
abbrev DD:Nat:=60
def eP:Ad:={ Op:=1,B:=0,Z:=0,C:=0,D:=0,H:=[] }
def Gv:Ad:={ Op:=0,B:=0,Z:=0,C:=0,D:=0,H:=[] }
def jG(s:Aa)(c:As):Int:=if c.Kind=2 then Gl ((idx s.K c.Ak).getD { I:=YM,Q:=[] })-1 else c.N.length
def fin(s:Aa)(i:Nat):Int:=jG s (s.A[i]?.getD oz)
theorem EY{i:Nat}(a:i<s.A.length):fin s i=jG s s.A[i]:=by unfold fin;rw[P3 a];rfl
theorem Dc{c:As}(h:Dl c):1<=c.N.length/\c.N.length<=4:=by rcases fU h.widths with e|e|e|e<;>(rw[e];decide)
theorem GH{c:As}(h:IR c){L:Aj}(a:idx s.K c.Ak=some L):jG s c=Gl L-1:=by unfold jG;rw[uk h.kind,a];rfl
theorem DI{c:As}(h:Dl c):jG s c=c.N.length:=by unfold jG;rw[uo (by rw[h.kind];decide)]
theorem DS.fin_ok(h:DS s){i:Nat}(e:1<=i)(c:i<s.A.length):1<=fin s i/\fin s i<=4:=by
 rw[EY c];rcases h.col e c with a|a
 ·obtain⟨L,d,b⟩:=h.clist a;have:=Kd d;rw[GH a b];have:=this.lev2;have:=(Kd d).lev3;omega
 ·have:=Dc a;rw[DI a];omega
theorem DS.rfinest(h:DS s){i:Nat}(d:1<=i)(c:i<s.A.length):Df s i=some (fin s i):=by
 have f:=h.cols_length;unfold Df;rw[h.rcheck,ue,df,df];show(idx s.A (i:Int)).bind _=_;rw[Cf c,ue,EY c];rcases h.col d c with a|a
 ·obtain⟨L,e,b⟩:=h.clist a;have:=Kd e;have g:=this.lev2;have j:=this.lev3;rw[a.kind,GH a b];show(idx s.K _).bind _=_;rw[b,ue,this.rlev,ue,wr]
 ·rw[a.kind,DI a];rfl
theorem DS.pfinest(h:DS s){i:Nat}(d:1<=i)(c:i<s.A.length):G1 s i=some (fin s i):=by
 have f:=h.cols_length;unfold G1;rw[df,df];show(idx s.A (i:Int)).bind _=_;rw[Cf c,ue,EY c];rcases h.col d c with a|a
 ·obtain⟨L,e,b⟩:=h.clist a;have:=Kd e;have g:=this.lev2;have j:=this.lev3;rw[a.kind,GH a b];show(idx s.K _).bind _=_;rw[b,ue,this.lev,ue,wr]
 ·rw[a.kind,DI a];rfl
theorem DS.pFinest(h:DS s){i:Nat}(a:1<=i)(b:i<s.A.length):Fi s i=some (fin s i):=by
 unfold Fi;rw[h.check,ue,h.pfinest a b];rfl
def tz:Ap:={ I:=({ data:=#[113] }:ByteArray),Kind:=1,Ay:=eP,V:=[({ B:=1,J:=0 }:Ac)],Y:=(-1),Ai:=[],U:=Gv }
def lO:Ar:={ Ae:=({ data:=#[97,108,108,95,114,111,119,115] }:ByteArray),Bl:=({ data:=#[115,114,99] }:ByteArray),Be:=eP,A2:=({ Bh:=1,Of:=1,Bi:=0 }:HA),Am:=[tz] }
def EO(s:Aa):List Ac:=(List.range (s.A.length-1)).map λk=>{ B:=((k+1:Nat):Int),J:=fin s (k+1) }
theorem qL(h:DS s):QD s=some (lO,EO s):=by
 have e:=h.cols_length;refine Ok.val ?_;unfold QD;refine y8 (λq=>q.1) s.A.length (λi q=>1<=i/\q.2=(List.range (i-1)).map λk=>{ B:=((k+1:Nat):Int),J:=fin s (k+1) }) 1 (by omega) rfl ⟨by omega,rfl⟩ (by omega) (λrec q b a=>?_) λrec i q c b a ih=>?_
 ·simp only[Ox,b];rw[CW,a.2];exact y3 rfl
 ·obtain⟨d,a⟩:=a;simp only[Ox,b];rw[Cg];refine qr (h.rfinest d c) (Ok.rm (by grind) (ih _ C7 ⟨by omega,?_⟩));show q.2++[_]=_;rw[a];obtain⟨j,rfl⟩:∃j,i=j+1:=⟨i-1,by omega⟩;simp[List.range_succ]
theorem sH{p:Ac}(h:DS s){i:Nat}(b:1<=i)(c:i<s.A.length)(hp:p.B=i)(d:0<=p.J)(a:p.J<=fin s i):Hj s p=some 0:=by
 unfold Hj;rw[h.rcheck,ue,hp,df,df];show(Df s (i:Int)).bind _=_;rw[h.rfinest b c,ue,MF,ue,un ⟨d,a⟩];rfl
theorem FS{k:Nat}(hk:k<(EO s).length):(EO s)[k]={ B:=((k+1:Nat):Int),J:=fin s (k+1) }:=by simp[EO]
theorem Jl:(EO s).length=s.A.length-1:=by simp[EO]
theorem ft{n:Int}(a:0<=n)(b:n<18446744073709551616):0<=Int.fdiv n 18014398509481984/\Int.fdiv n 18014398509481984<=1023:=by grind
theorem VA(n:Int):0<=u64.wrap n/\u64.wrap n<18446744073709551616:=by
 unfold IntKind.wrap;simp only[IntKind.signed,IntKind.bits];simp;omega
theorem nN(a r c:Int):Ok (Mw a r c) λx=>0<=x/\x<=1023:=by
 unfold Mw;refine y6 (λ_=>y3 (by omega)) λ_=>?_;refine y8 (λq=>q.2) 3 (λ_ q=>0<=q.1/\q.1<18446744073709551616) 0 (ug _) rfl (VA _) (by omega) (λrec q b d=>?_) λrec i q f b d ih=>?_
 ·simp only[KE,b];refine y4 rfl (y3 ?_);have e:(2:Int) ^ (min (54:Int).toNat u64.bits)=18014398509481984:=by decide
  rw[e];have:=ft d.1 d.2;rw[wr];exact this
 ·simp only[KE,b];rw[Cg];exact ih _ C7 (VA _)
theorem kV{a b:Int}(f:0<=a/\a<=1023)(g:0<=b/\b<=1023):0<=i64.wrap (((BitVec.ofInt i64.bits a ^^^ BitVec.ofInt i64.bits b).toNat:Nat):Int)/\i64.wrap (((BitVec.ofInt i64.bits a ^^^ BitVec.ofInt i64.bits b).toNat:Nat):Int)<=1023:=by
 obtain⟨m,rfl⟩:∃m:Nat,a=m:=⟨a.toNat,by omega⟩;obtain⟨n,rfl⟩:∃n:Nat,b=n:=⟨b.toNat,by omega⟩
 have e:(BitVec.ofInt i64.bits (m:Int) ^^^ BitVec.ofInt i64.bits (n:Int)).toNat=m ^^^ n:=by
  rw[BitVec.toNat_xor,BitVec.ofInt_natCast,BitVec.ofInt_natCast,BitVec.toNat_ofNat,BitVec.toNat_ofNat];have c:m%2 ^ i64.bits=m:=wk (by show m<2 ^ 64;omega);have d:n%2 ^ i64.bits=n:=wk (by show n<2 ^ 64;omega);rw[c,d]
 rw[e];have:m ^^^ n<2 ^ 10:=Nat.xor_lt_two_pow (by omega) (by omega);rw[wr];omega
theorem re{a id:Int}(d:0<=a)(e:a<1152921504606846976)(f:0<=id)(j:id<1048576):Ok (LF a id) λx=>0<=x/\x<=1048575:=by
 unfold LF;refine qr (x:=true) ?_ (y4 rfl ?_)
 ·unfold O9;grind
 ·have g:0<=Int.tdiv id 1024/\Int.tdiv id 1024<=1023:=by rw[Int.tdiv_eq_ediv_of_nonneg f];omega
  have h:0<=Int.tmod id 1024/\Int.tmod id 1024<=1023:=by grind
  refine y8 (λq=>q.2.2) 8 (λ_ q=>(0<=q.1/\q.1<=1023)/\(0<=q.2.1/\q.2.1<=1023)) 0 (ug _) rfl ⟨by show 0<=i64.wrap _/\i64.wrap _<=1023;rw[wr];exact g,h⟩ (by omega) (λrec q c b=>?_) λrec i q k c b ih=>?_
  ·obtain⟨⟨l,m⟩,o,p⟩:=b;simp only[Nb,c];refine y4 rfl (y3 ?_);rw[wr (n:=q.1*1024) (by omega) (by omega),wr];omega
  ·simp only[Nb,c];rw[Cg];refine Ok.bind (nN _ _ _) λx hx=>ih _ C7 ⟨b.2,kV b.1 hx⟩
theorem XT(h:DS s){i:Nat}(f:i<s.A.length){v:Int}(g:WG s s.A[i] v):JJ s i v=some true:=by
 refine Ok.val ?_;unfold JJ;refine y5 f ?_;rcases g with⟨hk,a,j⟩|⟨hk,L,k,c,a⟩|⟨hk,a⟩
 ·refine y7 (by grind) ?_;rw[MF,dt];exact y3 rfl
 ·have b:=Kd k;obtain⟨j,n,m,_,_⟩:=b.leaf v a;have o:=b.lev2;have p:=b.lev3
  have d:L.Q.length<=100:=by
   have:(Sc.all λl=>decide (l.Q.length<=100))=true:=by decide +kernel
   grind
  refine y4 (by grind) (y7 (by rw[hk];rfl) (qr c ?_));rw[MF,ue,un (by rw[wr];omega)];refine y7 rfl (qr m (qr b.rlev (y3 ?_)));rw[wr];grind
 ·refine y4 (by grind) (y4 (by rw[hk];rfl) (y6 (λ_=>y3 rfl) λe=>?_));rcases a with a|⟨ho,rfl⟩
  ·rw[MF,dt];exact y3 rfl
  ·rw[ho]at e
   cases e
theorem sI(h:DS s){r:List Int}(hr:Sn s r):Nm s r=some 0:=by
 have d:=h.cols_length;refine Ok.val ?_;unfold Nm;refine qr h.rcheck (y4 rfl (y4 (by rw[hr.1];simp) ?_));refine y8 (λq=>q) r.length (λ_ _=>True) 0 (ug _) rfl trivial (by rw[hr.1];omega) (λrec q b _=>?_) λrec i q c b _ ih=>?_
 ·simp only[MZ,b];rw[CW];exact y3 rfl
 ·simp only[MZ,b];rw[Cg];have a:i<s.A.length:=by rw[<-hr.1];exact c
  refine y5 c (qr (XT h a (hr.2 i _ _ (P3 a) (P3 c))) (y4 rfl (ih _ (C7 (by grind)) trivial)))
theorem nT{x:Cn}{n:Nat}(h:bG x n)(f:n<=100):JL x=some true:=by
 have g:=h.len;refine Ok.val ?_;unfold JL;refine qr h.schema.rcheck (y4 ?_ ?_)
 ·rw[h.gone,h.version,df];rfl
 refine y8 (λq=>q) x.G.length (λ_ _=>True) 0 (ug _) rfl trivial (by omega) (λrec q b _=>?_) λrec i q c b _ ih=>?_
 ·simp only[Kx,b];rw[CW];unfold NN;refine y8 (λq=>q) 0 (λ_ _=>True) 0 (ug _) rfl trivial (by omega) (λrec q b _=>?_) λrec i q c b _ ih=>absurd c (by omega);simp only[NM,b,h.gone];exact y4 rfl (y3 rfl)
 ·simp only[Kx,b];rw[Cg];have hr:=h.rows _ (ud c);refine y5 c (qr (sI h.schema hr) (y4 rfl (y9 (λj=>?_) λ_=>ih _ C7 trivial)));have e:i64.wrap ((i:Int)-1)=((i-1:Nat):Int):=by rw[wr];omega
  rw[e];have a:i-1<x.G.length:=by omega
  have d:=(List.pairwise_iff_getElem.1 h.asc) (i-1) i a c (by omega);refine y5 c (qr (J7 (hr.ne h.schema)) (y5 a (qr (J7 ((h.rows _ (ud a)).ne h.schema)) (y9 (λk=>by omega) λ_=>ih _ C7 trivial))))
theorem Sn.hd(h:DS s){r:List Int}(hr:Sn s r):1<=hd r/\hd r<=1000:=by
 have g:=h.cols_length;have b:0<s.A.length:=by omega
 have c:0<r.length:=by rw[hr.1];exact b
 have:=hr.2 0 oz r[0] (by rw[P3 b,h.col0]) (P3 c);have e:P.hd r=r[0]:=by cases r with|nil=>simp at c|cons a q=>rfl
 rw[e];rcases this with⟨_,d,f⟩|⟨hk,_⟩|⟨hk,_⟩
 ·exact⟨d,f⟩
 ·exact absurd hk (by decide)
 ·exact absurd hk (by decide)
theorem qD{x:Cn}{n:Nat}(h:bG x n)(d:n<=100){i:Nat}(f:i<x.G.length):Iz x (hd x.G[i])=some (i:Int):=by
 have j:=h.len;refine Ok.val ?_;unfold Iz;refine y8 (λq=>q) x.G.length (λk _=>k<=i) 0 (ug _) rfl (ug _) (by omega) (λrec q b g=>by omega) λrec k q hk b g ih=>?_;simp only[ON,b];rw[Cg];have hr:=h.rows _ (ud hk);have a:=hr.ne h.schema;refine y5 hk (y9 (λ_=>y5 hk (qr (J7 a) (y6 (λc=>y3 ?_) λd=>ih _ C7 ?_))) λl=>?_)
 ·by_cases e:k=i
  ·rw[e]
  ·have c:hd x.G[k]=hd x.G[i]:=by simpa using c
   have:=(List.pairwise_iff_getElem.1 h.asc) k i hk f (by omega);omega
 ·grind
 ·have:=List.length_pos_iff.2 a;omega
theorem jJ{v:Int}(a:-1000000<=v)(b:v<=1000000):Gr v 1=some v:=by
 unfold Gr;rw[Cg (by decide),Cg (by decide),Int.tmod_one,CW (by decide),Int.tdiv_one,wr]
theorem eY(h:DS s){i:Nat}(f:1<=i)(c:i<s.A.length){v:Int}(g:WG s s.A[i] v):BL s i (fin s i) v=some v:=by
 have u:=h.fin_ok f c;refine Ok.val ?_;unfold BL;refine qr (h.rfinest f c) ?_;rw[MF,ue,dt];refine y4 rfl (y5 c ?_);rcases h.col f c with a|a
 ·obtain⟨L,n,d⟩:=h.clist a;have j:=Kd n
  have b:v∈Bu L:=by
   rcases g with⟨hk,_⟩|⟨hk,w,o,k,l⟩|⟨hk,_⟩
   ·rw[a.kind]at hk;cases hk
   ·grind
   ·rw[a.kind]at hk;cases hk
  refine y7 (by rw[a.kind];rfl) (qr (XT h c g) (y4 rfl (qr d (qr (x:=v) ?_ (y3 rfl)))));rw[EY c,GH a d];exact(j.leaf v b).2.2.2.2
 ·obtain⟨y,z⟩:=a.low;obtain⟨A,B⟩:=a.high
  have b:(s.A[i].C<=v/\v<=s.A[i].D)\/v=C3:=by
   rcases g with⟨hk,_⟩|⟨hk,_⟩|⟨hk,l|l⟩
   ·rw[a.kind]at hk;cases hk
   ·rw[a.kind]at hk;cases hk
   all_goals grind
  have p:Dn s.A[i] (fin s i)=some 1:=by
   rw[EY c,DI a];unfold Dn;have q:=Dc a;rw[wr,Int.sub_self];rcases fU a.widths with e|e|e|e<;>(rw[e];rfl)
  refine y4 (by rw[a.kind];rfl) ?_;have m:(fin s i==0)=false:=by grind
  rcases b with b|rfl
  ·have r:(v != -1099511627776)=true:=by rw[bne_iff_ne];omega
   have t:(v==-1099511627776)=false:=by grind
   refine y7 r ?_;rw[MF,ue,dt];refine y4 rfl (y4 m (y4 t (qr p (qr (jJ (by omega) (by omega)) (y3 ?_)))));rw[wr];omega
  ·exact y4 rfl (y4 m (y7 rfl (y3 rfl)))
def WH(s:Aa)(r:List Int):Prop:=r.length=s.A.length/\0<=hd r/\hd r<=1048575/\∀(i:Nat) c v,1<=i->s.A[i]?=some c->r[i]?=some v->WG s c v
structure sR(s:Aa)(x:Au)(n:Nat):Prop where
 project:x.Ae=lO.Ae
 version:x.Ag=0
 picks:x.E=EO s
 rows:∀r∈x.G,WH s r
 asc:eH x.G
 len:x.G.length<=n
theorem WH.ne(h:DS s){r:List Int}(hr:WH s r):r≠[]:=by
 intro e;have a:=hr.1;have:=h.cols_length;grind
def Fa(c:As)(l:Int):Int:=c.N.getD ((c.N.length:Int)-l).toNat 1
theorem Xg{c:As}(h:Dl c){l:Int}(a:1<=l)(b:l<=c.N.length):idx c.N (i64.wrap ((c.N.length:Int)-l))=some (Fa c l):=by
 have d:=Dc h;rw[wr,JE (by omega) (by omega)];unfold Fa;grind
theorem Yi{c:As}(h:Dl c){l:Int}(a:1<=l)(b:l<=c.N.length):Hm c l=some (Fa c l):=by unfold Hm;rw[Xg h a b];rfl
theorem gp{c:As}(h:Dl c){l:Int}(a:1<=l)(b:l<=c.N.length):Dn c l=some (Fa c l):=by unfold Dn;rw[Xg h a b];rfl
theorem Xh{c:As}(h:Dl c){a b:Int}(g:1<=b)(f:b<=a)(d:a<=c.N.length) :
 (Fa c a,Fa c b)∈[((1:Int),(1:Int)),(1,5),(5,5),(1,20),(5,20),(20,20),(1,2),(2,2),(1,4),(2,4),(4,4),(1,12),(2,12),(4,12),(12,12)]:=by
 unfold Fa;rcases fU h.widths with e|e|e|e
 ·rw[e]at d ⊢;obtain⟨rfl,rfl⟩:a=1/\b=1:=by simp at d;omega
  decide
 ·rw[e]at d ⊢;have d:a<=2:=by simpa using d
  rcases(by omega:(a=1/\b=1)\/(a=2/\b=1)\/(a=2/\b=2))with⟨rfl,rfl⟩|⟨rfl,rfl⟩|⟨rfl,rfl⟩<;>decide
 ·rw[e]at d ⊢;have d:a<=3:=by simpa using d
  rcases(by omega:(a=1/\b=1)\/(a=2/\b=1)\/(a=2/\b=2)\/(a=3/\b=1)\/(a=3/\b=2)\/(a=3/\b=3))with⟨rfl,rfl⟩|⟨rfl,rfl⟩|⟨rfl,rfl⟩|⟨rfl,rfl⟩|⟨rfl,rfl⟩|⟨rfl,rfl⟩<;>decide
 ·rw[e]at d ⊢;have d:a<=4:=by simpa using d
  rcases(by omega:(a=1/\b=1)\/(a=2/\b=1)\/(a=2/\b=2)\/(a=3/\b=1)\/(a=3/\b=2)\/(a=3/\b=3)\/(a=4/\b=1)\/(a=4/\b=2)\/(a=4/\b=3)\/(a=4/\b=4))with⟨rfl,rfl⟩|⟨rfl,rfl⟩|⟨rfl,rfl⟩|⟨rfl,rfl⟩|⟨rfl,rfl⟩|⟨rfl,rfl⟩|⟨rfl,rfl⟩|⟨rfl,rfl⟩|⟨rfl,rfl⟩|⟨rfl,rfl⟩<;>decide
theorem Fw{c:As}(h:Dl c){l:Int}(a:1<=l)(b:l<=c.N.length):1<=Fa c l/\Fa c l<=20:=by
 have:=Xh h a (uU l) b;generalize Fa c l=x at *;simp only[w9,wQ,or_false,Prod.mk.injEq]at this;omega
theorem TJ(n:Int){w:Int}(a:1<=w):(Int.tmod n w=n%w/\0<=Int.tmod n w)\/(Int.tmod n w=n%w-w/\Int.tmod n w<0):=by
 have b:=vO n (by omega:w≠0);have c:=vN n (by omega:0<w);grind
theorem LO{n w:Int}(a:1<=w)(b:w<=1000000)(c:-100000000<=n)(d:n<=100000000):Fj n w=some (n-n%w):=by
 have f:=vO n (by omega:w≠0);have g:=vN n (by omega:0<w);unfold Fj;rw[Cg];rcases TJ n a with⟨e,h⟩|⟨e,h⟩
 ·rw[CW,e,wr]
 ·rw[Cg h,e,wr (n:=n%w-w+w) (by omega) (by omega),wr];grind
theorem mn{n w:Int}(a:1<=w)(b:w<=1000000)(c:-100000000<=n)(d:n<=100000000):∃q,Gr n w=some q/\q*w=n-n%w:=by
 have f:=vO n (by omega:w≠0);have g:=vN n (by omega:0<w);have i:=Int.mul_tdiv_add_tmod n w
 have j:-100000000<=Int.tdiv n w/\Int.tdiv n w<=100000000:=by
  have:=Int.natAbs_tdiv_le_natAbs n w;omega
 unfold Gr;rw[Cg,Cg];rcases TJ n a with⟨e,h⟩|⟨e,h⟩
 ·rw[CW,wr];grind
 ·rw[Cg h,wr (n:=Int.tdiv n w) (by omega) (by omega),wr];grind
def mv(c:As)(l v:Int):Int:=if l=0 then 0 else if v=C3 then C3 else v-v%Fa c l
def MV(c:As)(v:Int):Prop:=(c.C<=v/\v<=c.D)\/(c.Al=true/\v=C3)
theorem WG.meas{c:As}(h:Dl c){v:Int}(a:WG s c v):MV c v:=by
 rcases a with⟨hk,_⟩|⟨hk,_⟩|⟨_,a⟩
 ·rw[h.kind]at hk;cases hk
 ·rw[h.kind]at hk;cases hk
 ·exact a
theorem Pr{c:As}(h:Dl c){l v:Int}(a:1<=l)(b:l<=c.N.length)(g:c.C<=v/\v<=c.D):mv c l v=v-v%Fa c l/\0<=v%Fa c l/\v%Fa c l<Fa c l/\mv c l v≠C3/\-4<=v/\v<=46:=by
 have i:=Fw h a b;obtain⟨j,k⟩:=h.low;obtain⟨m,n⟩:=h.high;have d:=vO v (by omega:Fa c l≠0);have f:=vN v (by omega:0<Fa c l)
 have e:mv c l v=v-v%Fa c l:=by
  unfold mv;rw[uo (by omega),uo (by unfold C3;omega)]
 exact⟨e,d,f,by rw[e];unfold C3;omega,by omega,by omega⟩
theorem kx(g:DS s){i:Nat}(j:1<=i)(b:i<s.A.length)(h:Dl s.A[i]){l v:Int}(c:0<=l)(d:l<=fin s i)(e:MV s.A[i] v):BL s i l v=some (mv s.A[i] l v):=by
 obtain⟨t,u⟩:=h.low;obtain⟨w,x⟩:=h.high;have y:fin s i=s.A[i].N.length:=by rw[EY b,DI h]
 refine Ok.val ?_;unfold BL;refine qr (g.rfinest j b) ?_;rw[MF,ue,un ⟨c,d⟩];refine y4 rfl (y5 b (y4 (by rw[h.kind];rfl) ?_));rcases e with e|⟨_,rfl⟩
 ·have k:(v != -1099511627776)=true:=by rw[bne_iff_ne];omega
  have m:(v==-1099511627776)=false:=by grind
  refine y7 k ?_;rw[MF,ue,dt];refine y4 rfl (y6 (λa=>?_) λa=>y4 m ?_)
  ·have a:l=0:=by simpa using a
   subst a;exact y3 rfl
  ·have a:l≠0:=by simpa using a
   have o:=Pr h (l:=l) (v:=v) (by omega) (by omega) e;have p:=Fw h (l:=l) (by omega) (by omega);obtain⟨q,r,f⟩:=mn (n:=v) p.1 (by omega) (by omega) (by omega);refine qr (gp h (by omega) (by omega)) (qr r (y3 ?_));rw[f,o.1,wr]
 ·refine y4 rfl (y6 (λa=>?_) λa=>y7 rfl ?_)
  ·have a:l=0:=by simpa using a
   subst a;exact y3 rfl
  ·have a:l≠0:=by simpa using a
   exact y3 (by unfold mv;rw[uo a,uk rfl])
def YF(c:As)(l v:Int):Int:=if l=0 then c.C else max c.C (v-v%Fa c l)
def oJ(c:As)(l v:Int):Int:=if l=0 then c.D else min c.D (v-v%Fa c l+Fa c l-1)
theorem iQ{c:As}(h:Dl c){l v:Int}(o:0<=l)(a:l<=c.N.length)(g:c.C<=v/\v<=c.D):JR c l (mv c l v)=some (YF c l v,oJ c l v,true):=by
 obtain⟨p,q⟩:=h.low;obtain⟨r,t⟩:=h.high;unfold JR YF oJ;by_cases b:l=0
 ·subst b;rfl
 ·have d:=Pr h (l:=l) (v:=v) (by omega) a g;have i:=Fw h (l:=l) (by omega) a
  have f:(mv c l v)%Fa c l=0:=by
   rw[d.1];have:=Int.emod_add_mul_ediv v (Fa c l);have e:v-v%Fa c l=Fa c l*(v/Fa c l):=by omega
   rw[e];exact Int.mul_emod_right _ _
  have j:(l==0)=false:=by grind
  rw[j,d.1,uo b,uo b];rw[d.1]at f;simp only[ux];rw[df,df];simp only[ux];rw[Yi h (by omega) a,ue,LO i.1 (by omega) (by omega) (by omega),f,ue,wr (n:=v-v%Fa c l+Fa c l) (by omega) (by omega),wr,Int.sub_zero,wA];simp only[uY];have k:(if c.C>v-v%Fa c l then c.C else v-v%Fa c l)=max c.C (v-v%Fa c l):=by grind
  have m:(if c.D<v-v%Fa c l+Fa c l-1 then c.D else v-v%Fa c l+Fa c l-1)=min c.D (v-v%Fa c l+Fa c l-1):=by grind
  rw[k,m,dt]
theorem J8:C3=-1099511627776:=rfl
theorem p9{i:Nat}(f:i<s.A.length)(h:Dl s.A[i]){l v:Int}(g:0<=l)(d:l<=s.A[i].N.length)(a:MV s.A[i] v):∃u,B3 s i l (mv s.A[i] l v)=some (u,true):=by
 refine Exists.elim (?_:Ok (B3 s i l (mv s.A[i] l v)) λr=>r.2=true) λr hr=>⟨r.1,by rw[hr.1,<-hr.2]⟩;unfold B3;refine y5 f (y7 (by rw[h.kind];rfl) (y6 (λb=>y3 ?_) λb=>?_))
 ·by_cases j:0<l
  ·rw[dt]at b;have b:mv s.A[i] l v=C3:=by rw[J8];simpa using b
   rcases a with a|a
   ·exact absurd b (Pr h (by omega) d a).2.2.2.1
   ·grind
  ·grind
 ·have c:(s.A[i].C<=v/\v<=s.A[i].D)\/(l=0):=by
   rcases a with a|⟨_,rfl⟩
   ·grind
   ·right
    by_cases j:0<l
    ·rw[dt]at b;have e:mv s.A[i] l C3=C3:=by unfold mv;rw[uo (by omega),uk rfl]
     rw[e]at b
     cases b
    ·omega
  rcases c with a|rfl
  ·exact qr (iQ h g d a) (y3 rfl)
  ·exact qr (x:=(s.A[i].C,s.A[i].D,true)) rfl (y3 rfl)
def ZD(L:Aj)(l v:Int):Option (Int×Bool):=iter (λrec1 s=>Oc (Bu L) L l v (λv56_1=>some (0,false)) rec1 s) A9 0
def cv(L:Aj)(l v:Int):Int:=(Kr L v l).getD 0
theorem cd:(Sc.all λL=>(List.range (Gl L).toNat).all λl=>(ZD L (l:Int) 0).isSome&&(Bu L).all λv=>Kr L v l==some (cv L l v)&&Hp L v l==some (cv L l v)&&decide (0<=cv L l v)&&((ZD L l (cv L l v)).map (·.2)==some true))=true:=by decide +kernel
theorem PF{L:Aj}(h:L∈Sc){l:Int}(e:0<=l)(i:l<Gl L):(∃r,ZD L l 0=some r)/\∀v∈Bu L,Kr L v l=some (cv L l v)/\Hp L v l=some (cv L l v)/\0<=cv L l v/\∃u,ZD L l (cv L l v)=some (u,true):=by
 have:=List.all_eq_true.1 (List.all_eq_true.1 cd L h) l.toNat (List.mem_range.2 (by omega));rw[wt e]at this;simp only[vi,w3,wU,decide_eq_true_eq,Option.isSome_iff_exists]at this;refine⟨this.1,λv f=>?_⟩;obtain⟨⟨⟨a,b⟩,c⟩,d⟩:=this.2 v f;obtain⟨r,hr,g⟩:=Option.map_eq_some_iff.1 d;grind
def CV(s:Aa)(c:As)(l v:Int):Int:=if c.Kind=2 then cv ((idx s.K c.Ak).getD { I:=YM,Q:=[] }) l v else mv c l v
theorem On{c:As}(h:IR c){L:Aj}(a:idx s.K c.Ak=some L)(l v:Int):CV s c l v=cv L l v:=by unfold CV;rw[uk h.kind,a];rfl
theorem P9{c:As}(h:Dl c)(l v:Int):CV s c l v=mv c l v:=by unfold CV;rw[uo (by rw[h.kind];decide)]
theorem WG.code{c:As}(h:IR c){L:Aj}(d:idx s.K c.Ak=some L){v:Int}(a:WG s c v):v∈Bu L:=by
 rcases a with⟨hk,_⟩|⟨_,e,_,b,a⟩|⟨hk,_⟩
 ·rw[h.kind]at hk;cases hk
 ·grind
 ·rw[h.kind]at hk;cases hk
theorem UQ(e:DS s){i:Nat}(g:1<=i)(d:i<s.A.length){l v:Int}(c:0<=l)(f:l<=fin s i)(h:WG s s.A[i] v):BL s i l v=some (CV s s.A[i] l v):=by
 rcases e.col g d with a|a
 ·obtain⟨L,j,b⟩:=e.clist a;have m:fin s i=Gl L-1:=by rw[EY d,GH a b]
  have k:=PF j (l:=l) c (by omega);rw[On a b];refine Ok.val ?_;unfold BL;refine qr (e.rfinest g d) ?_;rw[MF,ue,un ⟨c,f⟩];exact y4 rfl (y5 d (y7 (by rw[a.kind];rfl) (qr (XT e d h) (y4 rfl (qr b (qr (k.2 v (h.code a b)).1 (y3 rfl)))))))
 ·rw[P9 a];exact kx e g d a c f (h.meas a)
theorem V9{i:Nat}(c:i<s.A.length)(h:IR s.A[i]){L:Aj}(d:L∈Sc)(b:idx s.K s.A[i].Ak=some L)(l v:Int):B3 s i l v=ZD L l v:=by
 have a:=Kd d;have e:=a.lev2;have f:=a.lev3;unfold B3;rw[Cf c,ue,h.kind];show(idx s.K _).bind _=_;rw[b,ue,a.lev,ue,wr,a.leaves];rfl
theorem sw(e:DS s){i:Nat}(h:1<=i)(c:i<s.A.length){l v:Int}(d:0<=l)(j:l<=fin s i)(f:WG s s.A[i] v):∃u,B3 s i l (CV s s.A[i] l v)=some (u,true):=by
 rcases e.col h c with a|a
 ·obtain⟨L,g,b⟩:=e.clist a;have k:fin s i=Gl L-1:=by rw[EY c,GH a b]
  rw[On a b,V9 c a g b];exact((PF g (l:=l) d (by omega)).2 v (f.code a b)).2.2.2
 ·have k:fin s i=s.A[i].N.length:=by rw[EY c,DI a]
  rw[P9 a];exact p9 c a d (by omega) (f.meas a)
theorem ny(e:DS s){i:Nat}(f:1<=i)(b:i<s.A.length):∃r,B3 s i 0 0=some r:=by
 rcases e.col f b with a|a
 ·obtain⟨L,c,d⟩:=e.clist a;have:=Kd c;rw[V9 b a c d];exact(PF c (l:=0) (by omega) (by have:=this.lev2;omega)).1
 ·refine Exists.elim (?_:Ok (B3 s i 0 0) λ_=>True) λr hr=>⟨r,hr.1⟩;unfold B3;exact y5 b (y7 (by rw[a.kind];rfl) (y4 rfl (qr (x:=(s.A[i].C,s.A[i].D,true)) rfl (y3 trivial))))
def MC(s:Aa)(p:Ac):Prop:=∃i:Nat,1<=i/\i<s.A.length/\p.B=i/\0<=p.J/\p.J<=fin s i
def XV(s:Aa)(p:Ac)(v:Int):Prop:=∃(i:Nat)(hi:i<s.A.length)(w:Int),1<=i/\p.B=i/\WG s s.A[i] w/\v=CV s s.A[i] p.J w
structure GX(s:Aa)(x:Au):Prop where
 project:BU x.Ae=some true/\Bz x.Ae=some true
 version:0<=x.Ag/\x.Ag<=300
 picks:∀p∈x.E,MC s p
 order:x.E.Pairwise λa b=>a.B<b.B
 rows:∀r∈x.G,r.length=x.E.length+1/\0<=hd r/\hd r<=1048575/\∀(k:Nat) p v,x.E[k]?=some p->r[k+1]?=some v->XV s p v
 asc:eH x.G
 len:x.G.length<=200
theorem GX.picks_len{x:Au}(b:DS s)(h:GX s x):x.E.length<=6:=by
 have e:=b.cols_length
 have key:∀(k:Nat)(hk:k<x.E.length),(k:Int)+1<=x.E[k].B:=by
  intro k
  induction k with
  | zero=>intro hk;obtain⟨i,c,_,a,_⟩:=h.picks _ (ud hk);rw[a];omega
  | succ k ih =>
    intro hk;have:=ih (by omega);have a:=(List.pairwise_iff_getElem.1 h.order) k (k+1) (by omega) hk (by omega);omega
 rcases uZ x.E.length 7 with d|d
 ·omega
 ·have:=key 6 (by omega);obtain⟨i,c,a,f,_⟩:=h.picks _ (ud (by omega:6<x.E.length));omega
theorem nw{p:Ac}(a:DS s)(h:MC s p):JQ s p=some 0:=by
 obtain⟨i,b,c,hp,d,e⟩:=h;have f:=a.fin_ok b c;refine Ok.val ?_;unfold JQ;rw[hp];refine qr (a.pfinest b c) (y9 (λh=>by omega) λ_=>y4 ?_ (y3 rfl));grind
theorem nQ{p:Ac}(c:DS s)(h:MC s p):Hj s p=some 0:=by
 obtain⟨i,d,e,hp,a,b⟩:=h;exact sH c d e hp a b
theorem nx{l:List Ac}(f:DS s)(h:∀p∈l,MC s p)(ho:l.Pairwise λa b=>a.B<b.B)(g:l.length<=1000):IN s l=some 0:=by
 refine Ok.val ?_;unfold IN;refine qr f.check (y4 rfl ?_);refine y8 (λq=>q) l.length (λ_ _=>True) 0 (ug _) rfl trivial (by omega) (λrec q c _=>?_) λrec i q d c _ ih=>?_
 ·simp only[Jz,c];rw[CW];exact y3 rfl
 ·simp only[Jz,c];rw[Cg];refine y5 d (qr (nw f (h _ (ud d))) (y4 rfl (y9 (λj=>?_) λ_=>ih _ C7 trivial)));have e:i64.wrap ((i:Int)-1)=((i-1:Nat):Int):=by rw[wr];omega
  rw[e];have:=(List.pairwise_iff_getElem.1 ho) (i-1) i (by omega) d (by omega);exact y5 (by grind) (y9 (λk=>by omega) λ_=>ih _ C7 trivial)
theorem nR{l:List Ac}(f:DS s)(h:∀p∈l,MC s p)(ho:l.Pairwise λa b=>a.B<b.B)(g:l.length<=1000):JK s l=some 0:=by
 refine Ok.val ?_;unfold JK;refine qr f.rcheck (y4 rfl ?_);refine y8 (λq=>q) l.length (λ_ _=>True) 0 (ug _) rfl trivial (by omega) (λrec q d _=>?_) λrec i q c d _ ih=>?_
 ·simp only[Kv,d];rw[CW];exact y3 rfl
 ·simp only[Kv,d];rw[Cg];refine y5 c (qr (nQ f (h _ (ud c))) (y4 rfl (y9 (λj=>y5 c ?_) λ_=>ih _ C7 trivial)));have e:i64.wrap ((i:Int)-1)=((i-1:Nat):Int):=by rw[wr];omega
  rw[e];have:=(List.pairwise_iff_getElem.1 ho) (i-1) i (by omega) c (by omega);exact y5 (by grind) (y9 (λk=>by omega) λ_=>ih _ C7 trivial)
theorem GX.atP{x:Au}(d:DS s)(h:GX s x){r:List Int}(hr:r∈x.G){k:Nat}(hk:k<x.E.length)(a:k+1<r.length) :
 ∃u,B3 s x.E[k].B x.E[k].J r[k+1]=some (u,true):=by
 obtain⟨i,f,w,g,hp,j,e⟩:=(h.rows r hr).2.2.2 k _ _ (P3 hk) (P3 a);obtain⟨l,m,n,o,b,c⟩:=h.picks _ (ud hk);have:l=i:=by grind
 subst this;rw[e,hp];exact sw d g f b c j
theorem GX.ne{x:Au}(h:GX s x){r:List Int}(hr:r∈x.G):r≠[]:=by
 intro e;have:=(h.rows r hr).1;grind
theorem su{x:Au}(c:DS s)(h:GX s x){r:List Int}(hr:r∈x.G):Ke s x.E r=some true:=by
 have g:=h.picks_len c;obtain⟨e,j,k,_⟩:=h.rows r hr;refine Ok.val ?_;unfold Ke;refine y4 ?_ (qr (J7 (h.ne hr)) (y9 (λh=>by omega) λ_=>qr (J7 (h.ne hr)) (y9 (λh=>by omega) λ_=>?_)))
 ·rw[wr,e];simp
 unfold M2;refine y8 (λq=>q) x.E.length (λ_ _=>True) 0 (ug _) rfl trivial (by omega) (λrec q b _=>?_) λrec i q d b _ ih=>?_
 ·simp only[Jm,b];rw[CW];exact y3 rfl
 ·simp only[Jm,b];rw[Cg];have a:i+1<r.length:=by omega
  obtain⟨u,f⟩:=h.atP c hr d a;refine y5 d ?_;rw[C7];exact y5 a (qr f (y4 rfl (ih _ rfl trivial)))
theorem GX.check{x:Au}(b:DS s)(h:GX s x):Ex s x=some 0:=by
 have j:=h.len;have f:=h.picks_len b;have k:=h.version;refine Ok.val ?_;unfold Ex;refine qr b.check (y4 rfl (qr h.project.2 (y4 rfl (y4 ?_ (qr (nx b h.picks h.order (by omega)) (y4 rfl (y9 (λh=>by omega) λ_=>?_)))))))
 ·grind
 refine y8 (λq=>q) x.G.length (λ_ _=>True) 0 (ug _) rfl trivial (by omega) (λrec q d _=>?_) λrec i q c d _ ih=>?_
 ·simp only[IA,d];rw[CW];exact y3 rfl
 ·simp only[IA,d];rw[Cg];refine y5 c (qr (su b h (ud c)) (y4 rfl (y9 (λl=>?_) λ_=>ih _ C7 trivial)));have e:i64.wrap ((i:Int)-1)=((i-1:Nat):Int):=by rw[wr];omega
  rw[e];have a:i-1<x.G.length:=by omega
  have g:=(List.pairwise_iff_getElem.1 h.asc) (i-1) i a c (by omega);exact qr (J7 (h.ne (ud c))) (y5 a (qr (J7 (h.ne (ud a))) (y9 (λm=>by omega) λ_=>ih _ C7 trivial)))
theorem ZN(a:DS s){i:Nat}(b:1<=i)(c:i<s.A.length){v:Int}(d:WG s s.A[i] v):CV s s.A[i] (fin s i) v=v:=by
 have e:=a.fin_ok b c;have f:=eY a b c d;have g:=UQ a b c (l:=fin s i) (by omega) (uU _) d;grind
theorem sR.gx{x:Au}{n:Nat}(d:DS s)(h:sR s x n)(w:n<=200):GX s x:=by
 have y:=d.cols_length;have g:=Jl (s:=s);have f:=h.len;refine⟨?_,by rw[h.version];omega,?_,?_,?_,h.asc,by omega⟩
 ·rw[h.project];exact⟨by decide +kernel,by decide +kernel⟩
 ·intro p hp;rw[h.picks]at hp;obtain⟨k,hk,rfl⟩:=List.mem_iff_getElem.1 hp;rw[FS hk];have z:=d.fin_ok (i:=k+1) (by omega) (by omega);exact⟨k+1,by omega,by omega,rfl,by show 0<=fin s (k+1);omega,uU _⟩
 ·rw[h.picks,List.pairwise_iff_getElem];intro a b j l m;rw[FS j,FS l];grind
 ·intro r hr;obtain⟨A,o,q,t⟩:=h.rows r hr;rw[h.picks];refine⟨by omega,o,q,λk p v hp u=>?_⟩;obtain⟨hk,rfl⟩:=List.getElem?_eq_some_iff.1 hp;rw[FS hk];have e:k+1<s.A.length:=by omega
  have c:=t (k+1) _ v (by omega) (P3 e) u;exact⟨k+1,e,v,by omega,rfl,c,(ZN d (by omega) e c).symm⟩
theorem DS.pcond_zero(h:DS s)(d:Nat):B8 (d+1) s Gv=some 4:=by unfold B8;rw[h.check];rfl
theorem DS.pneeds_zero(h:DS s)(d:Nat):Bs (d+1) s Gv=some []:=by unfold Bs;rw[h.pcond_zero];rfl
theorem Z9{i:Nat}(a:i<s.A.length)(h:Dl s.A[i]):BX s i=some true:=by
 unfold BX;rw[dt,dt];show(idx s.A (i:Int)).bind _=_;rw[Cf a,ue,h.kind];rfl
theorem mJ{i:Nat}(l:i<s.A.length)(h:Dl s.A[i]){n:Nat}(r:n<s.A[i].N.length):Ji s i s.A[i].N[n]=some ((s.A[i].N.length:Int)-n):=by
 have m:=Dc h
 have hd:∀a b (d:a<s.A[i].N.length) (f:b<s.A[i].N.length),a<b->s.A[i].N[a]≠s.A[i].N[b]:=by
  have hp:s.A[i].N.Pairwise (·≠·):=by rcases fU h.widths with e|e|e|e<;>(rw[e];decide)
  intro a b d f c;exact(List.pairwise_iff_getElem.1 hp) a b d f c
 refine Ok.val ?_;unfold Ji;refine y5 l ?_;refine y8 (λq=>q) s.A[i].N.length (λk _=>k<=n) 0 (ug _) rfl (ug _) (by omega) (λrec q g o=>by omega) λrec k q hk g o ih=>?_;simp only[LJ,g];rw[Cg];refine y5 hk (y6 (λj=>y3 ?_) λp=>ih _ C7 ?_)
 ·have j:s.A[i].N[k]=s.A[i].N[n]:=by simpa using j
  have:k=n:=by grind
  rw[this,wr]
 ·grind
theorem Vg{i:Nat}(c:i<s.A.length)(h:Dl s.A[i]){l:Int}(e:0<=l)(a:l<=s.A[i].N.length):Ok (AX s i l) λ_=>True:=by
 unfold AX;refine y5 c (y4 (by rw[h.kind];rfl) (y6 (λ_=>y3 trivial) λd=>?_));have d:l≠0:=by grind
 have b:=Fw h (l:=l) (by omega) a;obtain⟨f,g⟩:=h.low;obtain⟨j,k⟩:=h.high;exact qr (Yi h (by omega) a) (qr (LO b.1 (by omega) (by omega) (by omega)) (qr (LO b.1 (by omega) (by omega) (by omega)) (yb (by omega) (y6 (λ_=>y3 trivial) λ_=>y3 trivial))))
theorem WU{l:List Ac}{p:Ac->Option Bool}(q:Ac->Bool)(hp:∀x∈l,p x=some (q x))(a:l.length<=1000000000):AG l p=some (l.any q):=by
 unfold AG;rw[show BH l p=some (GT q l)from IB hp a,ue,Lv]
def covers(picks needs:List Ac):Bool:=needs.all λn=>picks.any λp=>bif p.B==n.B then decide (p.J>=n.J)else false
theorem UN(picks a:List Ac)(b:picks.length<=1000000)(c:a.length<=1000000):B5 picks a=some (covers picks a):=by
 unfold B5;rw[WU (λn=>!(picks.any λp=>bif p.B==n.B then decide (p.J>=n.J)else false)) (λn _=>?_) (by omega)]
 ·rw[ue,covers,List.any_eq_not_all_not];simp
 ·unfold G5;have:=WU (l:=picks) (p:=λa0=>EX a0 n) (λp=>bif p.B==n.B then decide (p.J>=n.J)else false) (λ_ _=>rfl) (by omega);grind
theorem rZ(l:List Int):M1 l 1 (l.length:Int)=l.drop 1:=by
 unfold M1;rw[vM]
 all_goals grind
theorem GX.valsP{x:Au}(b:DS s)(hx:GX s x){r:List Int}(hr:r∈x.G)(k:Nat)(hk:k<x.E.length)(a:k<(r.drop 1).length) :
 ∃u,B3 s x.E[k].B x.E[k].J (r.drop 1)[k]=some (u,true):=by
 have e:(r.drop 1)[k]=r[k+1]'(by rw[vS]at a;omega):=by grind
 rw[e];exact hx.atP b hr hk _
theorem lL{l:List Int}{p:Int->Option Bool}(q:Int->Bool)(hp:∀x∈l,p x=some (q x))(a:l.length<=1000000000):BY l p=some (l.any q):=by
 unfold BY;rw[show CK l p=some (GT q l)from IB hp a,ue,Lv]
def keep(w:Nat->Int)(n:Nat):List Nat:=(List.range n).filter λj=>w j != C3
def ints(l:List Nat):List Int:=l.map λj:Nat=>(j:Int)
theorem DS.last(h:DS s):∃i:Nat,1<=i/\∃d:i<s.A.length,Dl s.A[i]:=by
 obtain⟨j,b,e,f,g,c⟩:=h.cols;have k:=MN j;have a:s.A.length=(G3 j).length+b.length:=by grind
 refine⟨(G3 j).length,by omega,by omega,?_⟩;have l:=(c 0 (by omega)).1;grind
theorem X4(g:DS s):Ok (C0 s 3) λl=>l≠[]/\l.length<=6/\∀v∈l,∃i:Nat,v=i/\1<=i/\∃d:i<s.A.length,Dl s.A[i]:=by
 have r:=g.cols_length;unfold C0
 refine y8 (λq=>q.1) s.A.length (λk q=>q.2.length<=k/\(∀v∈q.2,∃i:Nat,v=i/\1<=i/\∃d:i<s.A.length,Dl s.A[i])/\∀(i:Nat)(d:i<s.A.length),i<k->Dl s.A[i]->(i:Int)∈q.2) 0 (ug _) rfl
  ⟨uh _,(λv a=>by cases a),λi _ h=>by omega⟩ (by omega) (λrec q m b=>?_) λrec k q hk m b ih=>?_
 ·simp only[DL,m];rw[CW];obtain⟨i,_,d,f⟩:=g.last;exact y3 ⟨(λe=>by have:=b.2.2 i d d f;rw[e]at this;cases this),by have:=b.1;omega,b.2.1⟩
 ·simp only[DL,m];rw[Cg];have o:=b.1;refine y5 hk (y6 (λe=>Ok.rm (by grind) (ih _ C7 ⟨by simp;omega,λv a=>?_,λj p n f=>?_⟩)) λe=>ih _ C7 ⟨by show q.2.length<=k+1;omega,b.2.1,λj p n f=>?_⟩)
  ·rcases List.mem_append.1 a with a|a
   ·grind
   ·rw[vR]at a;have e:s.A[k].Kind=3:=by grind
    rcases g.cl hk with⟨_,c⟩|⟨t,c|c⟩
    ·rw[c]at e;cases e
    ·rw[c.kind]at e;cases e
    ·grind
  ·grind
  ·rcases uZ j k with c|c
   ·grind
   ·obtain rfl:j=k:=by omega
    rw[f.kind]at e
    cases e
theorem QX{c:Ab}(b:IT c)(d:DS s):Ok (BQ c s) λr=>IT r.2/\∃i:Nat,r.1=i/\1<=i/\∃g:i<s.A.length,Dl s.A[i]:=by
 unfold BQ;refine Ok.bind (X4 d) λl a=>?_;have:l.length≠0:=λe=>a.1 (uJ e);have f:=a.2.1;refine Ok.bind (Ey b (by omega) (by omega)) λy hy=>Ok.idx hy.2.1 (by omega) (y3 ⟨hy.1,a.2.2 _ (ud _)⟩)
