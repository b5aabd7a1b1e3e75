/- QB -/
import Derived.Test.YthchnhoalhbkcaaGreatDoorQA
open Go.IntKind (i64 u64)
set_option linter.unusedVariables false
set_option linter.unusedSimpArgs false
namespace Go.Proofs.YthchnhoalhbkcaaGreatDoor.P
open Go Go.Abs Go.Proofs
set_option maxRecDepth 100000
variable {s:Aa}
theorem NE(n a b:Int):EY n a b=some (decide (a<=n/\n<=b)):=by
 unfold EY;grind
theorem bL{w:List Int}(h:w∈OW):w=[1]\/w=[1,5]\/w=[1,5,20]\/w=[1,2,4,12]:=by simpa [OW] using h
theorem kL{c:Ar}(h:FQ c):ID c=some 0:=by
 have hw:KN c=some 0:=by
  obtain⟨n,k,li,lo,hi,w,o⟩:=c;rcases bL h.widths with e|e|e|e<;>(simp only at e;subst e;rfl)
 obtain⟨h1,h2⟩:=h.low;obtain⟨h3,h4⟩:=h.high;unfold ID;rw[NE,qd,dt,NE,qd,dt,df,hw];rfl
theorem kw{c:Ar}(h:FQ c):El c=some 0:=by
 have hw:(bif(bif((c.T.length:Int)==0)then true else(decide ((c.T.length:Int)>4)))then some 1 else iter (λrec1 s=>GD c (λv3_1 v36_1=>some 0) rec1 s.1 s.2) AD (1,0))=some 0:=by
  obtain⟨n,k,li,lo,hi,w,o⟩:=c;rcases bL h.widths with e|e|e|e<;>(simp only at e;subst e;rfl)
 obtain⟨h1,h2⟩:=h.low;obtain⟨h3,h4⟩:=h.high;unfold El;grind
def oB(i:Nat)(c:Ar):Prop:=(i=0/\c=o6)\/(1<=i/\(M5 c\/FQ c))
theorem DS.cl(h:DS s){i:Nat}(hi:i<s.A.length):oB i s.A[i]:=by
 rcases Nat.eq_zero_or_pos i with rfl|h0
 ·exact .inl ⟨rfl,h.col0 hi⟩
 ·exact .inr ⟨h0,h.col h0 hi⟩
theorem oB.kinds{i:Nat}{c:Ar}(h:oB i c):(c.Kind=1\/c.Kind=2\/c.Kind=3)/\(c.Kind=1->i=0):=by
 rcases h with⟨rfl,rfl⟩|⟨h0,h|h⟩
 ·exact⟨.inl rfl,λ_=>rfl⟩
 ·rw[h.kind];exact⟨.inr (.inl rfl),λe=>by omega⟩
 ·rw[h.kind];exact⟨.inr (.inr rfl),λe=>by omega⟩
theorem Xo{i:Nat}{c:Ar}(h:oB i c):GW c=some 0:=by
 rcases h with⟨rfl,rfl⟩|⟨h0,h|h⟩
 ·rfl
 ·obtain⟨n,k,li,lo,hi,w,o⟩:=c;obtain⟨h1,h2,h3,h4,h5,h6⟩:=h;grind
 ·unfold GW;rw[kL h,h.kind,h.list];rfl
theorem mu(h:DS s){i:Nat}(hi:i<s.A.length):JW s i=some 0:=by
 have hcol:=h.cl hi;have hk:=hcol.kinds;have hl:=h.lists2;refine Ok.val ?_;unfold JW;refine Ok.idxn hi (Ok.bindE (h.name hi).1 ?_);simp only[Bool.not_true,Bool.not_false,qK,q9];refine Ok.for (λs=>s) i (λ_ _=>True) 0 (pY _) rfl trivial (by have:=h.cols_length;omega) (λrec q hq _=>?_) λrec k q hk2 hq _ ih=>?_
 ·simp only[IU,hq];rw[Dz];unfold IV;rw[NE,qd,dt];have e1:(bif decide ((i:Int)>0)then s.A[i].Kind==1 else false)=false:=by grind
  rw[e1];show Ok (bif(s.A[i].Kind==2)then _ else _) _;refine Ok.br (λhe=>?_) λ_=>Ok.eq (Xo hcol);have he:s.A[i].Kind=2:=by grind
  have hlist:s.A[i].Al=0\/s.A[i].Al=1:=by
   rcases hcol with⟨rfl,e⟩|⟨_,h|h⟩
   ·rw[e];exact .inl rfl
   ·exact h.list
   ·exact .inl h.list
  rw[NE,qd,hl,qh (by rw[wr];omega)];exact Ok.eq (Xo hcol)
 ·simp only[IU,hq];rw[Co];refine Ok.idxn (by grind) ?_;rw[(h.name_ne hi hk2).1];refine ih _ ?_ trivial;show i64.wrap ((k:Int)+1)=_;have:=h.cols_length;rw[wr];omega
theorem DS.lname(h:DS s)(h0:0<s.J.length)(h1:1<s.J.length):s.J[0].H=ZB/\s.J[1].H=em:=by
 obtain⟨a,ha,b,hb,e⟩:=h.lists;grind
theorem f9:(ZB.toList==em.toList)=false:=by decide +kernel
theorem DS.rcheck(h:DS s):Dq s=some 0:=by
 have hl:=h.lists2;have hc:=h.cols_length;refine Ok.val ?_;unfold Dq;rw[df,df];simp only[Bool.not_true,Bool.not_false,qK,q9];refine Ok.for (λs=>s) s.J.length (λ_ _=>True) 0 (pY _) rfl trivial (by omega) (λrec q hq _=>?_) λrec i q hi hq _ ih=>?_
 ·simp only[JR,hq];rw[Dz];unfold Nj;have e0:((s.A.length:Int)==0)=false:=by grind
  rw[e0];show Ok ((idx s.A 0).bind _) _;refine Ok.idxn (i:=0) (by omega) ?_;rw[h.col0];refine Ok.no rfl ?_;refine Ok.for (λs=>s) s.A.length (λ_ _=>True) 0 (pY _) rfl trivial (by omega) (λrec q hq _=>?_) λrec i q hi hq _ ih=>?_
  ·simp only[JU,hq];rw[Dz];exact Ok.some rfl
  ·simp only[JU,hq];rw[Co];refine Ok.bindE (mu h hi) (ih _ ?_ trivial);show i64.wrap ((i:Int)+1)=_;rw[wr];omega
 ·simp only[JR,hq];rw[Co];refine Ok.idxn hi (Ok.bindE (MD (h.list hi)).rcheck ?_);refine Ok.no rfl ?_;refine Ok.for (λs=>s) i (λ_ _=>True) 0 (pY _) rfl trivial (by omega) (λrec2 q hq _=>?_) λrec2 k q hk hq _ ih2=>?_
  ·simp only[JS,hq];rw[Dz];refine ih _ ?_ trivial;show i64.wrap ((i:Int)+1)=_;rw[wr];omega
  ·simp only[JS,hq];rw[Co];refine Ok.idxn (by grind) (Ok.idxn hi ?_);obtain rfl:k=0:=by omega
   obtain rfl:i=1:=by omega
   have hn:=h.lname (by omega) (by omega);rw[hn.1,hn.2,f9];refine ih2 _ ?_ trivial;show i64.wrap (((0:Nat):Int)+1)=_;rw[wr];omega
theorem aK{α:Type}(l:List α){i:Nat}(hi:i<=l.length):LZ l 0 (i:Int)=l.take i:=by simp[LZ]
theorem mr{i:Nat}{c:Ar}(h:oB i c):E6 c=some true:=by
 rcases h with⟨rfl,rfl⟩|⟨h0,h|h⟩
 ·rfl
 ·obtain⟨n,k,li,lo,hi,w,o⟩:=c;obtain⟨h1,h2,h3,h4,h5,h6⟩:=h;simp only at h1 h2 h3 h4 h5 h6;subst h1;subst h3;subst h4;subst h5;subst h6;rfl
 ·unfold E6;rw[h.kind,h.list];rfl
theorem mn(h:DS s){i:Nat}(hi:i<s.A.length):Fa s i=some 0:=by
 have hcol:=h.cl hi;have hl:=h.lists2;have hc:=h.cols_length;refine Ok.val ?_;unfold Fa;refine Ok.idxn hi (Ok.bindE (h.name hi).2 (Ok.gdd (by omega) ?_));rw[aK _ (by omega)];refine Ok.bindE (gu (λa=>a.H.toList==s.A[i].H.toList) (λx _=>rfl) (by grind)) ?_
 have:(s.A.take i).any (λa=>a.H.toList==s.A[i].H.toList)=false:=by
  rw[sV];intro x hx;obtain⟨k,hk,rfl⟩:=List.mem_iff_getElem.1 hx;have hki:k<i:=by grind
  rw[sd,(h.name_ne hi hki).1];simp
 rw[this];show Ok (bif(s.A[i].Kind==1)then _ else _) _;have Ef:Ok ((E6 s.A[i]).bind λx49=>bif(!x49)then some 11 else some 0) (·=(0:Int)):=Ok.bindE (mr hcol) (Ok.some rfl);rcases hcol with⟨rfl,e⟩|⟨h0,h1|h1⟩
 ·rw[e];rw[e]at Ef;exact Ef
 ·rw[h1.kind]
  have:(bif decide (s.A[i].Al<0)then true else decide (s.A[i].Al>=(s.J.length:Int)))=false:=by
   rcases h1.list with e|e <;>  grind
  grind
 ·rw[h1.kind];exact Ok.bindE (kw h1) Ef
theorem DS.check(h:DS s):Cw s=some 0:=by
 have hl:=h.lists2;have hc:=h.cols_length;refine Ok.val ?_;unfold Cw;rw[df,df];simp only[Bool.not_true,Bool.not_false,qK,q9];refine Ok.for (λs=>s) s.J.length (λ_ _=>True) 0 (pY _) rfl trivial (by omega) (λrec q hq _=>?_) λrec i q hi hq _ ih=>?_
 ·simp only[IY,hq];rw[Dz];unfold LK;have e0:((s.A.length:Int)==0)=false:=by grind
  rw[e0];show Ok ((idx s.A 0).bind _) _;refine Ok.idxn (i:=0) (by omega) ?_;rw[h.col0];refine Ok.no rfl ?_;refine Ok.for (λs=>s) s.A.length (λ_ _=>True) 0 (pY _) rfl trivial (by omega) (λrec q hq _=>?_) λrec i q hi hq _ ih=>?_
  ·simp only[IZ,hq];rw[Dz];exact Ok.some rfl
  ·simp only[IZ,hq];rw[Co];refine Ok.bindE (mn h hi) (ih _ ?_ trivial);show i64.wrap ((i:Int)+1)=_;rw[wr];omega
 ·simp only[IY,hq];rw[Co];refine Ok.idxn hi (Ok.bindE (MD (h.list hi)).check ?_);show Ok (bif decide _ then _ else none) _;refine Ok.gdd (by omega) ?_;rw[aK _ (by omega)];refine Ok.bindE (au (λa=>a.H.toList==s.J[i].H.toList) (λx _=>rfl) (by grind)) ?_
  have:(s.J.take i).any (λa=>a.H.toList==s.J[i].H.toList)=false:=by
   rw[sV];intro x hx;obtain⟨k,hk,rfl⟩:=List.mem_iff_getElem.1 hx;have hki:k<i:=by grind
   obtain rfl:k=0:=by omega
   obtain rfl:i=1:=by omega
   have hn:=h.lname (by omega) (by omega);rw[sd,hn.1,hn.2,f9];simp
  rw[this];refine ih _ ?_ trivial;show i64.wrap ((i:Int)+1)=_;rw[wr];omega
theorem EE{i:Nat}(h:i<=1000000000000:=by omega):i64.wrap ((i:Int)+1)=((i+1:Nat):Int):=by rw[wr];omega
def Dg:Int:=-1099511627776
def cD(s:Aa)(c:Ar)(v:Int):Prop :=
 (c.Kind=1/\1<=v/\v<=1000)\/(c.Kind=2/\∃L,L∈YR/\idx s.J c.Al=some L/\v∈Et L)\/(c.Kind=3/\((c.C<=v/\v<=c.D)\/(c.Az=true/\v=Dg)))
def Tk(s:Aa)(r:List Int):Prop:=r.length=s.A.length/\∀(i:Nat) c v,s.A[i]?=some c->r[i]?=some v->cD s c v
theorem DS.clist(h:DS s){c:Ar}(hc:M5 c):∃L,L∈YR/\idx s.J c.Al=some L:=by
 have hl:=h.lists2;rcases hc.list with e|e
 ·have h0:0<s.J.length:=by omega
  exact⟨_,h.list h0,by rw[e];exact FA (i:=0) h0⟩
 ·have h1:1<s.J.length:=by omega
  exact⟨_,h.list h1,by rw[e];exact FA (i:=1) h1⟩
theorem gX{s:Aa}{i:Int}{c:Ar}{L:Am}(hc:idx s.A i=some c)(hL:idx s.J c.Al=some L)(hL2:L∈YR):G9 s i=some (Et L):=by
 have h:=MD hL2;have h2:=h.lev2;have h3:=h.lev3;unfold G9;rw[hc,qd,hL,qd,h.rlev,qd,wr,h.rleaves];rfl
theorem Z4:(YR.all λl=>decide ((Et l).length<=10))=true:=by decide +kernel
theorem lr(h:DS s){c:Ab}(hc:Ht c){i:Nat}(hi:i<s.A.length):Ok (Gd c s i) λr=>Ht r.2/\cD s s.A[i] r.1:=by
 unfold Gd;refine Ok.idxn hi ?_;have hidx:idx s.A (i:Int)=some s.A[i]:=FA hi;generalize hcc:s.A[i]=cl at hidx ⊢;have hcol:=h.cl hi;rw[hcc]at hcol;rcases hcol with⟨rfl,e⟩|⟨h0,h1|h1⟩
 ·subst e;refine Ok.yes rfl (Ok.bind (IB hc (by omega) (by omega) (by omega) (by omega)) λx hx=>Ok.some ⟨hx.1,.inl ⟨rfl,hx.2.1,by show x.1<=1000;omega⟩⟩)
 ·obtain⟨L,hL,hL2⟩:=h.clist h1;have hcl:=MD hL;refine Ok.no (by rw[h1.kind];rfl) (Ok.yes (by rw[h1.kind];rfl) (Ok.bindE (gX hidx hL2 hL) ?_));have hs:(Et L).length<=10:=by have:=List.all_eq_true.1 Z4 L hL;simpa using this
  have hne:0<(Et L).length:=List.length_pos_iff.2 hcl.some_;refine Ok.bind (Dy hc (by omega) (by omega)) λx hx=>?_;refine Ok.idx hx.2.1 (by omega) (Ok.some ⟨hx.1,.inr (.inl ⟨h1.kind,L,hL,hL2,qa _⟩)⟩)
 ·obtain⟨h2,h3⟩:=h1.low;obtain⟨h4,h5⟩:=h1.high;refine Ok.no (by rw[h1.kind];rfl) (Ok.no (by rw[h1.kind];rfl) ?_)
  have rg:∀{c':Ab},Ht c'->Ok ((AR c' cl.C cl.D).bind λx43=>some (x43.1,x43.2)) λr=>Ht r.2/\cD s cl r.1:=λhc' =>
   Ok.bind (IB hc' h4 (by omega) (by omega) (by omega)) λx hx=>Ok.some ⟨hx.1,.inr (.inr ⟨h1.kind,.inl hx.2⟩)⟩
  refine Ok.br (λho=>Ok.bind (Pp hc (by omega) (by omega)) λx hx=>Ok.br (λ_=>Ok.some ⟨hx,.inr (.inr ⟨h1.kind,.inr ⟨ho,rfl⟩⟩)⟩) λ_=>rg hx) λ_=>rg hc
theorem ol(h:DS s){c:Ab}(hc:Ht c):Ok (H4 c s) λr=>Ht r.2/\Tk s r.1:=by
 have hl:=h.cols_length;unfold H4;refine Ok.for (λq=>q.1) s.A.length (λi q=>Ht q.2.1/\q.2.2.length=i/\∀(k:Nat) c v,s.A[k]?=some c->q.2.2[k]?=some v->cD s c v) 0 (pY _) rfl ⟨hc,rfl,λk c v _ h=>by simp at h⟩ (by omega) (λrec q hq hI=>?_) λrec i q hi hq hI ih=>?_
 ·simp only[Hp,hq];rw[Dz];exact Ok.some ⟨hI.1,hI.2.1,hI.2.2⟩
 ·simp only[Hp,hq];rw[Co];refine Ok.bind (lr h hI.1 hi) λx hx=>Ok.rm (by grind) (ih _ EE ⟨hx.1,by simp[hI.2.1],λk cc v hk hv=>?_⟩);grind
def hd(r:List Int):Int:=r.headD 0
theorem Jl{r:List Int}(h:r≠[]):idx r 0=some (hd r):=by
 cases r with
 | nil=>grind
 | cons a q=>rfl
def lF(l:List (List Int)):Prop:=l.Pairwise λa b=>hd a<hd b
def XU(l:List (List Int))(row:List Int):List (List Int):=l.filter (λx=>decide (hd x<hd row))++row :: l.filter (λx=>decide (hd row<hd x))
theorem bP{l:List (List Int)}{row:List Int}(h:lF l):lF (XU l row):=by
 unfold lF XU;rw[List.pairwise_append,List.pairwise_cons];refine⟨h.sublist List.filter_sublist,⟨λx hx=>?_,h.sublist List.filter_sublist⟩,λx hx y hy=>?_⟩
 all_goals grind
theorem bQ{l:List (List Int)}{row x:List Int}(h:x∈XU l row):x=row\/x∈l:=by
 unfold XU at h;grind
theorem Q7(l:List (List Int))(row:List Int):(XU l row).length<=l.length+1:=by
 unfold XU;rw[qz,qP]
 have:(l.filter (λx=>decide (hd x<hd row))).length+(l.filter (λx=>decide (hd row<hd x))).length<=l.length:=by
  induction l with
  | nil=>simp
  | cons a r ih=>grind
 omega
theorem KR{α:Type}(l:List α)(p:α->Bool){i:Nat}(hi:i<l.length):(l.take (i+1)).filter p=(l.take i).filter p++if p l[i]then[l[i]]else[]:=by
 rw[qo hi,List.filter_append];grind
theorem kz{l:List (List Int)}{row:List Int}(hl:∀x∈l,x≠[])(hr:row≠[])(hs:lF l)(hlen:l.length<=1000000):M1 l row=some (XU l row):=by
 refine Ok.val ?_;unfold M1
 refine Ok.for (λq=>q.2.1) l.length (λi q=>(q.1=false/\(∀x∈l.take i,hd x<=hd row)/\q.2.2=(l.take i).filter (λx=>decide (hd x<hd row))) \/
  (q.1=true/\(∃x∈l.take i,hd row<hd x)/\q.2.2=(l.take i).filter (λx=>decide (hd x<hd row))++row :: (l.take i).filter (λx=>decide (hd row<hd x)))) 0 (pY _) rfl (.inl ⟨rfl,by simp,by simp⟩) (by omega) (λrec q hq hI=>?_) λrec i q hi hq hI ih=>?_
 ·simp only[Mp,hq];rw[Dz];rw[rF]at hI;rcases hI with⟨h1,h2,h3⟩|⟨h1,h2,h3⟩
  ·rw[h1];refine Ok.yes rfl (Ok.rm ?_ (Ok.some ?_))
   ·grind
   ·rw[h3,XU];congr 2;symm;rw[List.filter_eq_nil_iff];grind
  ·rw[h1];exact Ok.no rfl (Ok.some h3)
 ·simp only[Mp,hq];rw[Co];have hne:=hl _ (qa hi)
  have hmem:∀x∈l.take i,hd x<hd l[i]:=by
   intro x hx;obtain⟨k,hk,rfl⟩:=List.mem_iff_getElem.1 hx;have hk2:k<i:=by grind
   rw[sd];exact(List.pairwise_iff_getElem.1 hs) k i (by omega) hi hk2
  have hf1:=KR l (λx=>decide (hd x<hd row)) hi;have hf2:=KR l (λx=>decide (hd row<hd x)) hi
  have hlen1:q.2.2.length<=i+1:=by
   have e0:(l.take i).length=i:=by grind
   have e1:((l.take i).filter (λx=>decide (hd x<hd row))).length+((l.take i).filter (λx=>decide (hd row<hd x))).length<=i:=by
    have:=Q7 (l.take i) row;unfold XU at this;grind
   rcases hI with⟨_,_,h3⟩|⟨_,_,h3⟩
   all_goals grind
  refine Ok.idxn hi (Ok.bindE (Jl hne) (Ok.bindE (Jl hr) (Ok.br (λheq=>ih _ EE ?_) λhneq=>?_)))
  ·have heq:hd l[i]=hd row:=by simpa using heq
   rw[hf1,hf2];have e1:decide (hd l[i]<hd row)=false:=df;have e2:decide (hd row<hd l[i])=false:=df;simp only[e1,e2,qZ,if_false,rY];rcases hI with⟨h1,h2,h3⟩|⟨h1,h2,h3⟩
   ·refine .inl ⟨h1,λx hx=>?_,h3⟩;rw[qo hi]at hx;grind
   ·obtain⟨x,hx,hx2⟩:=h2;grind
  ·have hneq:hd l[i]≠hd row:=by simpa using hneq
   refine Ok.idxn hi (Ok.bindE (Jl hne) (Ok.bindE (Jl hr) (Ok.br (λhc=>?_) λhc=>?_)))
   ·
    obtain⟨hgt,hnd⟩:hd row<hd l[i]/\q.1=false:=by grind
    rcases hI with⟨h1,h2,h3⟩|⟨h1,h2,h3⟩
    ·refine Ok.rm (by grind) (Ok.idxn hi (Ok.rm (by simp;omega) (ih _ EE (.inr ⟨rfl,⟨l[i],?_,hgt⟩,?_⟩))))
     ·rw[qo hi];exact List.mem_append_right _ (List.mem_singleton.2 rfl)
     ·rw[hf1,hf2,df,qh hgt,h3]
      have:(l.take i).filter (λx=>decide (hd row<hd x))=[]:=by
       rw[List.filter_eq_nil_iff];grind
      grind
    ·grind
   ·refine Ok.idxn hi (Ok.rm (by grind) (ih _ EE ?_));rw[hf1,hf2];rcases hI with⟨h1,h2,h3⟩|⟨h1,h2,h3⟩
    ·have hlt:hd l[i]<hd row:=by
      by_cases hg:hd l[i]>hd row
      all_goals grind
     refine .inl ⟨h1,λx hx=>?_,by rw[qh hlt,h3];simp⟩;rw[qo hi]at hx;grind
    ·obtain⟨x,hx,hx2⟩:=h2;grind
structure Yl(x:BW)(n:Nat):Prop where
 schema:DS x.Ao
 rows:∀r∈x.G,Tk x.Ao r
 asc:lF x.G
 len:x.G.length<=n
 gone:x.Bo=[]
 version:x.Ag=0
theorem Tk.ne(h:DS s){r:List Int}(hr:Tk s r):r≠[]:=by
 intro e;have:=hr.1;have:=h.cols_length;grind
theorem i9{c:Ab}(hc:Ht c){n:Nat}(hn:n<=50):Ok (F9 c n) λr=>Ht r.2/\Yl r.1 n:=by
 unfold F9;refine Ok.bind (it hc) λx hx=>?_;have e:i64.wrap ((n:Int)+1)=(n:Int)+1:=wr;rw[e];refine Ok.bind (Dy hx.1 (by omega) (by omega)) λy hy=>?_;obtain⟨hy1,hy2,hy3⟩:=hy;refine Ok.loop (λq=>0<=q.1/\Ht q.2.1/\(∀r∈q.2.2,Tk x.1 r)/\lF q.2.2/\(q.2.2.length:Int)+q.1<=n) (λq=>q.1.toNat) ⟨hy2,hy1,(λr hr=>by cases hr),List.Pairwise.nil,by show((0:Nat):Int)+y.1<=n;omega⟩ (by unfold AD;show y.1.toNat<_;omega) λrec q hq ih=>?_;obtain⟨h0,h1,h2,h3,h4⟩:=hq;simp only[H5];refine Ok.brd (λhp=>Ok.bind (ol hx.2 h1) λz hz=>?_) λhp=>?_
 ·have hput:=kz (l:=q.2.2) (row:=z.1) (λr hr=>(h2 r hr).ne hx.2) (hz.2.ne hx.2) h3 (by omega);have hpl:=Q7 q.2.2 z.1;refine Ok.bindE hput (ih _ ⟨?_,hz.1,λr hr=>?_,bP h3,?_⟩ ?_)
  ·show 0<=i64.wrap (q.1-1);rw[wr];omega
  ·rcases bQ hr with rfl|hr
   all_goals grind
  ·show((XU q.2.2 z.1).length:Int)+i64.wrap (q.1-1)<=n;rw[wr];omega
  ·show(i64.wrap (q.1-1)).toNat<q.1.toNat;rw[wr];omega
 ·exact Ok.some ⟨h1,hx.2,h2,h3,by show q.2.2.length<=n;omega,rfl,rfl⟩
abbrev DD:Nat:=60
def YW:Aj:={ Op:=1,B:=0,Z:=0,C:=0,D:=0,E:=[] }
def Gt:Aj:={ Op:=0,B:=0,Z:=0,C:=0,D:=0,E:=[] }
theorem DS.rcond_all(h:DS s):Dr DD s YW=some 0:=by unfold Dr;rw[h.rcheck];rfl
def gK(s:Aa)(c:Ar):Int:=if c.Kind=2 then Is ((idx s.J c.Al).getD { H:=ZB,Q:=[] })-1 else c.T.length
def Ef(s:Aa)(i:Nat):Int:=gK s (s.A[i]?.getD o6)
theorem Gh{i:Nat}(hi:i<s.A.length):Ef s i=gK s s.A[i]:=by unfold Ef;rw[P2 hi];rfl
theorem E8{c:Ar}(h:FQ c):1<=c.T.length/\c.T.length<=4:=by rcases bL h.widths with e|e|e|e<;>(rw[e];decide)
theorem Hd{c:Ar}(h:M5 c){L:Am}(hL:idx s.J c.Al=some L):gK s c=Is L-1:=by unfold gK;rw[qf h.kind,hL];rfl
theorem EC{c:Ar}(h:FQ c):gK s c=c.T.length:=by unfold gK;rw[qi (by rw[h.kind];decide)]
theorem DS.fin_ok(h:DS s){i:Nat}(h0:1<=i)(hi:i<s.A.length):1<=Ef s i/\Ef s i<=4:=by
 rw[Gh hi];rcases h.col h0 hi with h1|h1
 ·obtain⟨L,hL,hL2⟩:=h.clist h1;have:=MD hL;rw[Hd h1 hL2];have:=this.lev2;have:=(MD hL).lev3;omega
 ·have:=E8 h1;rw[EC h1];omega
theorem DS.rfinest(h:DS s){i:Nat}(h0:1<=i)(hi:i<s.A.length):CF s i=some (Ef s i):=by
 have hc:=h.cols_length;unfold CF;rw[h.rcheck,qd,df,df];show(idx s.A (i:Int)).bind _=_;rw[FA hi,qd,Gh hi];rcases h.col h0 hi with h1|h1
 ·obtain⟨L,hL,hL2⟩:=h.clist h1;have:=MD hL;have h2:=this.lev2;have h3:=this.lev3;rw[h1.kind,Hd h1 hL2];show(idx s.J _).bind _=_;rw[hL2,qd,this.rlev,qd,wr]
 ·rw[h1.kind,EC h1];rfl
theorem DS.pfinest(h:DS s){i:Nat}(h0:1<=i)(hi:i<s.A.length):FN s i=some (Ef s i):=by
 have hc:=h.cols_length;unfold FN;rw[df,df];show(idx s.A (i:Int)).bind _=_;rw[FA hi,qd,Gh hi];rcases h.col h0 hi with h1|h1
 ·obtain⟨L,hL,hL2⟩:=h.clist h1;have:=MD hL;have h2:=this.lev2;have h3:=this.lev3;rw[h1.kind,Hd h1 hL2];show(idx s.J _).bind _=_;rw[hL2,qd,this.lev,qd,wr]
 ·rw[h1.kind,EC h1];rfl
theorem DS.pFinest(h:DS s){i:Nat}(h0:1<=i)(hi:i<s.A.length):E2 s i=some (Ef s i):=by
 unfold E2;rw[h.check,qd,h.pfinest h0 hi];rfl
def im:BA:={ H:=({ data:=#[113] }:ByteArray),Kind:=1,Bc:=YW,Ac:=[({ B:=1,S:=0 }:Ad)],Ah:=(-1),Aw:=[],U:=Gt }
def gz:AY:={ Af:=({ data:=#[97,108,108,95,114,111,119,115] }:ByteArray),Bu:=({ data:=#[115,114,99] }:ByteArray),Bd:=YW,Be:=({ Bl:=1,Of:=1,Bm:=0 }:Ii),Bn:=[im] }
def Fy(s:Aa):List Ad:=(List.range (s.A.length-1)).map λk=>{ B:=((k+1:Nat):Int),S:=Ef s (k+1) }
theorem nE(h:DS s):Qm s=some (gz,Fy s):=by
 have hc:=h.cols_length;refine Ok.val ?_;unfold Qm;refine Ok.for (λq=>q.1) s.A.length (λi q=>1<=i/\q.2=(List.range (i-1)).map λk=>{ B:=((k+1:Nat):Int),S:=Ef s (k+1) }) 1 (by omega) rfl ⟨by omega,rfl⟩ (by omega) (λrec q hq hI=>?_) λrec i q hi hq hI ih=>?_
 ·simp only[N9,hq];rw[Dz,hI.2];exact Ok.some rfl
 ·obtain⟨h0,hI⟩:=hI;simp only[N9,hq];rw[Co];refine Ok.bindE (h.rfinest h0 hi) (Ok.rm (by grind) (ih _ EE ⟨by omega,?_⟩));show q.2++[_]=_;rw[hI];obtain⟨j,rfl⟩:∃j,i=j+1:=⟨i-1,by omega⟩;simp[List.range_succ]
theorem nw{p:Ad}(h:DS s){i:Nat}(h0:1<=i)(hi:i<s.A.length)(hp:p.B=i)(hl:0<=p.S)(hl2:p.S<=Ef s i):KJ s p=some 0:=by
 unfold KJ;rw[h.rcheck,qd,hp,df,df];show(CF s (i:Int)).bind _=_;rw[h.rfinest h0 hi,qd,NE,qd,qh ⟨hl,hl2⟩];rfl
theorem Cu{k:Nat}(hk:k<(Fy s).length):(Fy s)[k]={ B:=((k+1:Nat):Int),S:=Ef s (k+1) }:=by simp[Fy]
theorem Fo:(Fy s).length=s.A.length-1:=by simp[Fy]
theorem Xz(h:DS s):Jz s (Fy s)=some 0:=by
 have hc:=h.cols_length;have hl:=Fo (s:=s);refine Ok.val ?_;unfold Jz;refine Ok.bindE h.rcheck (Ok.no rfl ?_);refine Ok.for (λq=>q) (Fy s).length (λ_ _=>True) 0 (pY _) rfl trivial (by omega) (λrec q hq _=>?_) λrec i q hi hq _ ih=>?_
 ·simp only[JV,hq];rw[Dz];exact Ok.some rfl
 ·simp only[JV,hq];rw[Co];have hf:=h.fin_ok (i:=i+1) (by omega) (by omega);refine Ok.idxn hi (Ok.bindE (nw h (i:=i+1) (by omega) (by omega) (by rw[Cu hi]) (by rw[Cu hi];show 0<=Ef s (i+1);omega) (by rw[Cu hi];exact rk _)) (Ok.no rfl (Ok.brd (λh1=>Ok.idxn hi ?_) λ_=>ih _ EE trivial)));have e:i64.wrap ((i:Int)-1)=((i-1:Nat):Int):=by rw[wr];omega
  rw[e];refine Ok.idxn (by grind) (Ok.brd (λh2=>?_) λ_=>ih _ EE trivial);rw[Cu hi,Cu (by grind)]at h2;grind
theorem oX(h:DS s):Nt s [({ B:=1,S:=0 }:Ad)]=some 0:=by
 have hc:=h.cols_length;have hf:=h.fin_ok (i:=1) (by omega) (by omega)
 have hk:s.A[1].Kind=2:=by
  obtain⟨j,ms,e,_⟩:=h.cols;have:s.A[1]?=some pI:=by rw[e];cases j<;>rfl
  rw[P2 (by omega)]at this;rw[P3 this];rfl
 refine Ok.val ?_;unfold Nt;refine Ok.no rfl ?_;refine Ok.for (λq=>q) 1 (λ_ _=>True) 0 (pY _) rfl trivial (by omega) (λrec q hq _=>?_) λrec i q hi hq _ ih=>?_
 ·simp only[Lh,hq];exact Ok.no rfl (Ok.some rfl)
 ·obtain rfl:i=0:=by omega
  simp only[Lh,hq];refine Ok.yes rfl (Ok.bindE (x:=({ B:=1,S:=0 }:Ad)) rfl (Ok.bindE (nw h (i:=1) (by omega) (by omega) rfl (by show(0:Int)<=0;omega) (by grind)) (Ok.no rfl (Ok.bindE (x:=({ B:=1,S:=0 }:Ad)) rfl (Ok.bindE (x:=true) ?_ (Ok.no rfl ?_))))))
  ·unfold OM;rw[qh (by decide),qh (by grind)];show(idx s.A ((1:Nat):Int)).bind _=_;rw[FA (by grind),qd,hk];rfl
  ·refine Ok.for (λq=>q) 0 (λ_ _=>True) 0 (pY _) rfl trivial (by omega) (λrec q hq _=>?_) λrec i q hi hq _ ih=>absurd hi (by omega);simp only[Oi,hq];exact Ok.no rfl (ih _ rfl trivial)
theorem UL(h:DS s):EZ DD s im=some 0:=by
 refine Ok.val ?_;unfold EZ;refine Ok.bindE h.rcheck (Ok.no rfl (Ok.bindE (x:=true) (by decide +kernel) (Ok.no rfl (Ok.no rfl (Ok.bindE h.rcond_all (Ok.no rfl (Ok.bindE (x:=0) ?_ (Ok.no rfl (Ok.no rfl (Ok.yes rfl (Ok.bindE (x:=true) rfl (Ok.no rfl (Ok.some rfl)))))))))))));unfold NM;refine Ok.val (Ok.bindE (x:=false) ?_ (Ok.yes rfl (Ok.bindE (oX h) (Ok.no rfl (Ok.no rfl (Ok.some rfl))))));unfold OM;rfl
theorem Ug(h:DS s):J4 DD s gz=some 0:=by
 refine Ok.val ?_;unfold J4;refine Ok.bindE h.rcheck (Ok.no rfl (Ok.bindE (x:=true) (by decide +kernel) (Ok.no rfl (Ok.bindE (x:=true) (by decide +kernel) (Ok.no rfl ?_)))));unfold Ns;refine Ok.bindE h.rcond_all (Ok.no rfl (Ok.no rfl (Ok.no rfl ?_)));refine Ok.for (λq=>q) 1 (λ_ _=>True) 0 (pY _) rfl trivial (by omega) (λrec q hq _=>?_) λrec i q hi hq _ ih=>?_
 ·simp only[Ka,hq];exact Ok.no rfl (Ok.some rfl)
 ·obtain rfl:i=0:=by omega
  simp only[Ka,hq];refine Ok.yes rfl (Ok.bindE (x:=im) rfl (Ok.bindE (UL h) (Ok.no rfl ?_)));refine Ok.for (λq=>q) 0 (λ_ _=>True) 0 (pY _) rfl trivial (by omega) (λrec q hq _=>?_) λrec i q hi hq _ ih=>absurd hi (by omega);simp only[Nr,hq];exact Ok.no rfl (ih _ rfl trivial)
theorem bR(h:DS s):J1 DD s YW=some []:=by
 unfold J1;rw[h.rcond_all];rfl
theorem m5(h:DS s):Jy s 1 0=some 0:=by
 have hc:=h.cols_length;have hf:=h.fin_ok (i:=1) (by omega) (by omega);refine Ok.val ?_;unfold Jy;refine Ok.bindE (h.rfinest (i:=1) (by omega) (by omega)) ?_;rw[NE,qd,dt];refine Ok.no rfl ?_;refine Ok.loop (λq=>q=0) (λ_=>0) rfl (by unfold AD;omega) λrec q hq ih=>?_;subst hq;unfold Nk;refine Ok.bindE (x:=true) ?_ (Ok.no rfl (Ok.some rfl));unfold Lf;refine Ok.val (Ok.idxn (i:=1) (by omega) (Ok.yes rfl (Ok.some rfl)))
theorem oi(h:DS s):L6 DD s im=some []:=by
 have hc:=h.cols_length;refine Ok.val ?_;unfold L6;refine Ok.bindE (UL h) (Ok.no rfl (Ok.bindE (bR h) (Ok.no rfl ?_)));unfold Kd;refine Ok.for (λq=>q.2) 1 (λ_ q=>q.1=[]) 0 (pY _) rfl rfl (by omega) (λrec q hq hI=>?_) λrec i q hi hq hI ih=>?_
 ·simp only[Kb,hq,hI];refine Ok.no rfl ?_;refine Ok.for (λq=>q.2) s.A.length (λ_ q=>q.1=[]) 1 (by omega) rfl rfl (by omega) (λrec q hq hI=>?_) λrec i q hi hq hI ih=>?_
  ·simp only[Kc,hq,hI];rw[Dz];exact Ok.some rfl
  ·simp only[Kc,hq,hI];rw[Co];refine Ok.bindE (x:=false) ?_ (Ok.no rfl (ih _ EE rfl));unfold Pw
   have e:(im.Ah==(i:Int))=false:=by
    rw[beq_eq_false_iff_ne];show(-1:Int)≠_;omega
   rw[e];rfl
 ·obtain rfl:i=0:=by omega
  simp only[Kb,hq,hI];refine Ok.yes rfl (Ok.bindE (x:=({ B:=1,S:=0 }:Ad)) rfl (Ok.bindE (x:=({ B:=1,S:=0 }:Ad)) rfl (Ok.bindE (x:=({ B:=1,S:=0 }:Ad)) rfl (Ok.bindE (m5 h) (Ok.bindE (x:=[]) rfl (ih _ rfl rfl))))))
theorem dI(h:DS s):L8 DD s gz (Fy s)=some 0:=by
 refine Ok.val ?_;unfold L8;refine Ok.bindE (Ug h) (Ok.no rfl (Ok.bindE (Xz h) (Ok.no rfl ?_)));refine Ok.for (λq=>q) 1 (λ_ _=>True) 0 (pY _) rfl trivial (by omega) (λrec q hq _=>?_) λrec i q hi hq _ ih=>?_
 ·simp only[Ke,hq];exact Ok.no rfl (Ok.some rfl)
 ·obtain rfl:i=0:=by omega
  simp only[Ke,hq];refine Ok.yes rfl (Ok.bindE (x:=im) rfl (Ok.bindE (x:=true) ?_ (Ok.no rfl (ih _ rfl trivial))));unfold Li;refine Ok.val (Ok.bindE (UL h) (Ok.yes rfl (Ok.bindE (Xz h) (Ok.yes rfl (Ok.bindE (oi h) (Ok.bindE (x:=true) rfl (Ok.some rfl)))))))
def kV:Ii:={ Bl:=1,Of:=1,Bm:=0 }
theorem nQ(id:Int)(h0:1<=id)(h1:id<=1048575):QO kV id=some true:=by
 refine Ok.val ?_;unfold QO;refine Ok.bindE (x:=0) rfl (Ok.yes (by grind) ?_);obtain⟨v,hv⟩:∃v,Px kV.Bm id=some v:=⟨_,rfl⟩;refine Ok.bindE hv (Ok.gdd (by decide) (Ok.some ?_));show decide (Int.tmod v 1<1)=true;grind
theorem dd{n:Int}(h0:0<=n)(h1:n<18446744073709551616):0<=Int.fdiv n 18014398509481984/\Int.fdiv n 18014398509481984<=1023:=by grind
theorem UT(n:Int):0<=u64.wrap n/\u64.wrap n<18446744073709551616:=by
 unfold IntKind.wrap;simp only[IntKind.signed,IntKind.bits];simp;omega
theorem kM(sec r c:Int):Ok (L9 sec r c) λx=>0<=x/\x<=1023:=by
 unfold L9;refine Ok.br (λ_=>Ok.some (by omega)) λ_=>?_;refine Ok.for (λq=>q.2) 3 (λ_ q=>0<=q.1/\q.1<18446744073709551616) 0 (pY _) rfl (UT _) (by omega) (λrec q hq hI=>?_) λrec i q hi hq hI ih=>?_
 ·simp only[Kf,hq];refine Ok.no rfl (Ok.some ?_);have e:(2:Int) ^ (min (54:Int).toNat u64.bits)=18014398509481984:=by decide
  rw[e];have:=dd hI.1 hI.2;rw[wr];exact this
 ·simp only[Kf,hq];rw[Co];exact ih _ EE (UT _)
theorem iG{a b:Int}(ha:0<=a/\a<=1023)(hb:0<=b/\b<=1023):0<=i64.wrap (((BitVec.ofInt i64.bits a ^^^ BitVec.ofInt i64.bits b).toNat:Nat):Int)/\i64.wrap (((BitVec.ofInt i64.bits a ^^^ BitVec.ofInt i64.bits b).toNat:Nat):Int)<=1023:=by
 obtain⟨m,rfl⟩:∃m:Nat,a=m:=⟨a.toNat,by omega⟩;obtain⟨n,rfl⟩:∃n:Nat,b=n:=⟨b.toNat,by omega⟩
 have e:(BitVec.ofInt i64.bits (m:Int) ^^^ BitVec.ofInt i64.bits (n:Int)).toNat=m ^^^ n:=by
  rw[BitVec.toNat_xor,BitVec.ofInt_natCast,BitVec.ofInt_natCast,BitVec.toNat_ofNat,BitVec.toNat_ofNat];have h1:m%2 ^ i64.bits=m:=rE (by show m<2 ^ 64;omega);have h2:n%2 ^ i64.bits=n:=rE (by show n<2 ^ 64;omega);rw[h1,h2]
 rw[e];have:m ^^^ n<2 ^ 10:=Nat.xor_lt_two_pow (by omega) (by omega);rw[wr];omega
theorem nR{sec id:Int}(hs0:0<=sec)(hs1:sec<1152921504606846976)(h0:0<=id)(h1:id<1048576):Ok (ON sec id) λx=>0<=x/\x<=1048575:=by
 unfold ON;refine Ok.bindE (x:=true) ?_ (Ok.no rfl ?_)
 ·unfold NN;grind
 ·have e1:0<=Int.tdiv id 1024/\Int.tdiv id 1024<=1023:=by rw[Int.tdiv_eq_ediv_of_nonneg h0];omega
  have e2:0<=Int.tmod id 1024/\Int.tmod id 1024<=1023:=by grind
  refine Ok.for (λq=>q.2.2) 8 (λ_ q=>(0<=q.1/\q.1<=1023)/\(0<=q.2.1/\q.2.1<=1023)) 0 (pY _) rfl ⟨by show 0<=i64.wrap _/\i64.wrap _<=1023;rw[wr];exact e1,e2⟩ (by omega) (λrec q hq hI=>?_) λrec i q hi hq hI ih=>?_
  ·obtain⟨⟨a1,a2⟩,b1,b2⟩:=hI;simp only[Mq,hq];refine Ok.no rfl (Ok.some ?_);rw[wr (n:=q.1*1024) (by omega) (by omega),wr];omega
  ·simp only[Mq,hq];rw[Co];refine Ok.bind (kM _ _ _) λx hx=>ih _ EE ⟨hI.2,iG hI.1 hx⟩
theorem WZ(h:DS s){i:Nat}(hi:i<s.A.length){v:Int}(hv:cD s s.A[i] v):Jw s i v=some true:=by
 refine Ok.val ?_;unfold Jw;refine Ok.idxn hi ?_;rcases hv with⟨hk,h1,h2⟩|⟨hk,L,hL,hL2,h1⟩|⟨hk,h1⟩
 ·refine Ok.yes (by grind) ?_;rw[NE,dt];exact Ok.some rfl
 ·have hc:=MD hL;obtain⟨h2,h3,h4,_,_⟩:=hc.leaf v h1;have h5:=hc.lev2;have h6:=hc.lev3
  have hlen:L.Q.length<=100:=by
   have:(YR.all λl=>decide (l.Q.length<=100))=true:=by decide +kernel
   grind
  refine Ok.no (by grind) (Ok.yes (by rw[hk];rfl) (Ok.bindE hL2 ?_));rw[NE,qd,qh (by rw[wr];omega)];refine Ok.yes rfl (Ok.bindE h4 (Ok.bindE hc.rlev (Ok.some ?_)));rw[wr];grind
 ·refine Ok.no (by grind) (Ok.no (by rw[hk];rfl) (Ok.br (λ_=>Ok.some rfl) λhn=>?_));rcases h1 with h1|⟨ho,rfl⟩
  ·rw[NE,dt];exact Ok.some rfl
  ·rw[ho]at hn
   cases hn
theorem pa(h:DS s){r:List Int}(hr:Tk s r):KL s r=some 0:=by
 have hc:=h.cols_length;refine Ok.val ?_;unfold KL;refine Ok.bindE h.rcheck (Ok.no rfl (Ok.no (by rw[hr.1];simp) ?_));refine Ok.for (λq=>q) r.length (λ_ _=>True) 0 (pY _) rfl trivial (by rw[hr.1];omega) (λrec q hq _=>?_) λrec i q hi hq _ ih=>?_
 ·simp only[Mo,hq];rw[Dz];exact Ok.some rfl
 ·simp only[Mo,hq];rw[Co];have hi2:i<s.A.length:=by rw[<-hr.1];exact hi
  refine Ok.idxn hi (Ok.bindE (WZ h hi2 (hr.2 i _ _ (P2 hi2) (P2 hi))) (Ok.no rfl (ih _ (EE (by grind)) trivial)))
theorem kR{x:BW}{n:Nat}(h:Yl x n)(hn:n<=100):J0 x=some true:=by
 have hl:=h.len;refine Ok.val ?_;unfold J0;refine Ok.bindE h.schema.rcheck (Ok.no ?_ ?_)
 ·rw[h.gone,h.version,df];rfl
 refine Ok.for (λq=>q) x.G.length (λ_ _=>True) 0 (pY _) rfl trivial (by omega) (λrec q hq _=>?_) λrec i q hi hq _ ih=>?_
 ·simp only[JX,hq];rw[Dz];unfold Nn;refine Ok.for (λq=>q) 0 (λ_ _=>True) 0 (pY _) rfl trivial (by omega) (λrec q hq _=>?_) λrec i q hi hq _ ih=>absurd hi (by omega);simp only[Nm,hq,h.gone];exact Ok.no rfl (Ok.some rfl)
 ·simp only[JX,hq];rw[Co];have hr:=h.rows _ (qa hi);refine Ok.idxn hi (Ok.bindE (pa h.schema hr) (Ok.no rfl (Ok.brd (λh1=>?_) λ_=>ih _ EE trivial)));have e:i64.wrap ((i:Int)-1)=((i-1:Nat):Int):=by rw[wr];omega
  rw[e];have hi3:i-1<x.G.length:=by omega
  have hlt:=(List.pairwise_iff_getElem.1 h.asc) (i-1) i hi3 hi (by omega);refine Ok.idxn hi (Ok.bindE (Jl (hr.ne h.schema)) (Ok.idxn hi3 (Ok.bindE (Jl ((h.rows _ (qa hi3)).ne h.schema)) (Ok.brd (λh2=>by omega) λ_=>ih _ EE trivial))))
theorem iq(h:DS s){r:List Int}(hr:Tk s r):Np DD s YW r=some 1:=by
 unfold Np;rw[h.rcond_all];show(KL s r).bind _=_;rw[pa h hr];rfl
theorem Tk.hd(h:DS s){r:List Int}(hr:Tk s r):1<=hd r/\hd r<=1000:=by
 have hc:=h.cols_length;have h0:0<s.A.length:=by omega
 have h1:0<r.length:=by rw[hr.1];exact h0
 have:=hr.2 0 o6 r[0] (by rw[P2 h0,h.col0]) (P2 h1);have e:P.hd r=r[0]:=by cases r with|nil=>simp at h1|cons a q=>rfl
 rw[e];rcases this with⟨_,h2,h3⟩|⟨hk,_⟩|⟨hk,_⟩
 ·exact⟨h2,h3⟩
 ·exact absurd hk (by decide)
 ·exact absurd hk (by decide)
theorem m8{x:BW}{n:Nat}(h:Yl x n)(hn:n<=100):Kh DD x gz=some (x.G.map hd):=by
 have hl:=h.len;refine Ok.val ?_;unfold Kh;refine Ok.bindE (kR h hn) (Ok.no rfl (Ok.bindE (Ug h.schema) (Ok.no rfl ?_)));unfold LI;refine Ok.for (λq=>q.1) x.G.length (λi q=>q.2=(x.G.take i).map hd) 0 (pY _) rfl rfl (by omega) (λrec q hq hI=>?_) λrec i q hi hq hI ih=>?_
 ·simp only[IW,hq];rw[Dz,hI,rF];exact Ok.some rfl
 ·simp only[IW,hq];rw[Co];have hr:=h.rows _ (qa hi);have hh:=hr.hd h.schema;refine Ok.idxn hi (Ok.bindE (iq h.schema hr) (Ok.yes rfl (Ok.idxn hi (Ok.bindE (Jl (hr.ne h.schema)) (Ok.bindE (nQ _ hh.1 (by omega)) (Ok.yes rfl (Ok.idxn hi (Ok.bindE (Jl (hr.ne h.schema)) (Ok.rm ?_ (ih _ EE ?_))))))))))
  ·grind
  ·show q.2++[_]=_;rw[hI,qo hi,qx];rfl
theorem oZ{x:BW}{n:Nat}(h:Yl x n)(hn:n<=100){i:Nat}(hi:i<x.G.length):Jm x (hd x.G[i])=some (i:Int):=by
 have hl:=h.len;refine Ok.val ?_;unfold Jm;refine Ok.for (λq=>q) x.G.length (λk _=>k<=i) 0 (pY _) rfl (pY _) (by omega) (λrec q hq hI=>by omega) λrec k q hk hq hI ih=>?_;simp only[Oe,hq];rw[Co];have hr:=h.rows _ (qa hk);have hne:=hr.ne h.schema;refine Ok.idxn hk (Ok.brd (λ_=>Ok.idxn hk (Ok.bindE (Jl hne) (Ok.br (λhe=>Ok.some ?_) λhn=>ih _ EE ?_))) λhz=>?_)
 ·by_cases e:k=i
  ·rw[e]
  ·have he:hd x.G[k]=hd x.G[i]:=by simpa using he
   have:=(List.pairwise_iff_getElem.1 h.asc) k i hk hi (by omega);omega
 ·grind
 ·have:=List.length_pos_iff.2 hne;omega
theorem gN{v:Int}(h0:-1000000<=v)(h1:v<=1000000):FG v 1=some v:=by
 unfold FG;rw[Co (by decide),Co (by decide),Int.tmod_one,Dz (by decide),Int.tdiv_one,wr]
theorem Wz(h:DS s){i:Nat}(h0:1<=i)(hi:i<s.A.length){v:Int}(hv:cD s s.A[i] v):Ce s i (Ef s i) v=some v:=by
 have hf:=h.fin_ok h0 hi;refine Ok.val ?_;unfold Ce;refine Ok.bindE (h.rfinest h0 hi) ?_;rw[NE,qd,dt];refine Ok.no rfl (Ok.idxn hi ?_);rcases h.col h0 hi with h1|h1
 ·obtain⟨L,hL,hL2⟩:=h.clist h1;have hcl:=MD hL
  have hv2:v∈Et L:=by
   rcases hv with⟨hk,_⟩|⟨hk,L',hL',hL2',h3⟩|⟨hk,_⟩
   ·rw[h1.kind]at hk;cases hk
   ·grind
   ·rw[h1.kind]at hk;cases hk
  refine Ok.yes (by rw[h1.kind];rfl) (Ok.bindE (WZ h hi hv) (Ok.no rfl (Ok.bindE hL2 (Ok.bindE (x:=v) ?_ (Ok.some rfl)))));rw[Gh hi,Hd h1 hL2];exact(hcl.leaf v hv2).2.2.2.2
 ·obtain⟨a1,a2⟩:=h1.low;obtain⟨a3,a4⟩:=h1.high
  have hv2:(s.A[i].C<=v/\v<=s.A[i].D)\/v=Dg:=by
   rcases hv with⟨hk,_⟩|⟨hk,_⟩|⟨hk,h3|h3⟩
   ·rw[h1.kind]at hk;cases hk
   ·rw[h1.kind]at hk;cases hk
   all_goals grind
  have hw:DY s.A[i] (Ef s i)=some 1:=by
   rw[Gh hi,EC h1];unfold DY;have hwl:=E8 h1;rw[wr,Int.sub_self];rcases bL h1.widths with e|e|e|e<;>(rw[e];rfl)
  refine Ok.no (by rw[h1.kind];rfl) ?_;have e0:(Ef s i==0)=false:=by grind
  rcases hv2 with hv2|rfl
  ·have e1:(v != -1099511627776)=true:=by rw[bne_iff_ne];omega
   have e2:(v==-1099511627776)=false:=by grind
   refine Ok.yes e1 ?_;rw[NE,qd,dt];refine Ok.no rfl (Ok.no e0 (Ok.no e2 (Ok.bindE hw (Ok.bindE (gN (by omega) (by omega)) (Ok.some ?_)))));rw[wr];omega
  ·exact Ok.no rfl (Ok.no e0 (Ok.yes rfl (Ok.some rfl)))
def iS(s:Aa)(r:List Int):Prop:=r.length=s.A.length/\0<=hd r/\hd r<=1048575/\∀(i:Nat) c v,1<=i->s.A[i]?=some c->r[i]?=some v->cD s c v
structure R7(s:Aa)(x:As)(n:Nat):Prop where
 project:x.Af=gz.Af
 version:x.Ag=0
 picks:x.X=Fy s
 rows:∀r∈x.G,iS s r
 asc:lF x.G
 len:x.G.length<=n
theorem iS.ne(h:DS s){r:List Int}(hr:iS s r):r≠[]:=by
 intro e;have h1:=hr.1;have:=h.cols_length;grind
theorem ja{x:BW}{n:Nat}(h:Yl x n)(hn:n<=100){sec:Int}(hs0:0<=sec)(hs1:sec<1152921504606846976):Ok (LA DD x gz (Fy x.Ao) sec) λr=>R7 x.Ao r.1 n:=by
 have hl:=h.len;have hc:=h.schema.cols_length;have hpl:=Fo (s:=x.Ao);unfold LA;refine Ok.bindE (kR h hn) (Ok.no rfl (Ok.bindE (dI h.schema) (Ok.no rfl (Ok.no ?_ (Ok.rm (by omega) (Ok.bindE (m8 h hn) ?_))))))
 ·grind
 refine Ok.for (λq=>q.1) x.G.length (λi q=>(∀r∈q.2,iS x.Ao r)/\lF q.2/\q.2.length<=i) 0 (pY _) rfl ⟨(λr hr=>by cases hr),List.Pairwise.nil,pY _⟩ (by omega) (λrec q hq hI=>?_) λrec i q hi hq hI ih=>?_
 ·simp only[Nu,hq];rw[pX,Dz];exact Ok.some ⟨rfl,h.version,rfl,hI.1,hI.2.1,by show q.2.length<=n;omega⟩
 ·obtain⟨h1,h2,h3⟩:=hI;simp only[Nu,hq];rw[pX,Co];have hr:=h.rows _ (qa hi);have hh:=hr.hd h.schema;have hid:idx (x.G.map hd) (i:Int)=some (hd x.G[i]):=by rw[FA (by grind),List.getElem_map]
  refine Ok.bindE hid (Ok.bindE (oZ h hn hi) (Ok.idxn hi (Ok.bindE hid (Ok.bind (nR hs0 hs1 (by omega) (by omega)) λkey hkey=>?_))));refine Ok.for (λq=>q.1) (Fy x.Ao).length (λk q=>q.2=key :: (x.G[i].drop 1).take k) 0 (pY _) rfl rfl (by omega) (λrec2 q2 hq2 hI2=>?_) λrec2 k q2 hk hq2 hI2 ih2=>?_
  ·simp only[Kg,hq2];rw[Dz];have e:(x.G[i].drop 1).take (Fy x.Ao).length=x.G[i].drop 1:=qS (by rw[rj,hr.1];omega);rw[hI2,e]
   have hx:iS x.Ao (key :: x.G[i].drop 1):=by
    refine⟨by rw[qP,rj,hr.1];omega,hkey.1,hkey.2,λk c v hk1 hkc hkv=>?_⟩;obtain⟨j,rfl⟩:∃j,k=j+1:=⟨k-1,by omega⟩;rw[qD,qE,Nat.add_comm]at hkv;exact hr.2 _ c v hkc hkv
   refine Ok.bindE (kz (λr hr=>(h1 r hr).ne h.schema) (by simp) h2 (by omega)) (ih _ EE ⟨λr hr=>?_,bP h2,?_⟩)
   ·rcases bQ hr with rfl|hr
    all_goals grind
   ·have:=Q7 q.2 (key :: x.G[i].drop 1);grind
  ·simp only[Kg,hq2];rw[Co];have hkk:k+1<x.Ao.A.length:=by omega
   have hkr:k+1<x.G[i].length:=by rw[hr.1];exact hkk
   refine Ok.idxn hk (Ok.idxn hk (Ok.idxn hk ?_));rw[Cu hk];refine Ok.idxn hkr (Ok.bindE (Wz h.schema (by omega) hkk (hr.2 (k+1) _ _ (P2 hkk) (P2 hkr))) (Ok.rm ?_ (ih2 _ EE ?_)))
   ·grind
   ·show q2.2++[_]=_;have hkd:k<(x.G[i].drop 1).length:=by grind
    rw[hI2,qo hkd,s7,List.getElem_drop];grind
theorem lu{c:Ab}(hc:Ht c){n:Nat}(hn:n<=50):Ok (Ge DD c n) λr=>Yl r.1 n/\R7 r.1.Ao r.2.1 n/\Ht r.2.2:=by
 unfold Ge;refine Ok.bind (i9 hc hn) λx hx=>Ok.bindE (nE hx.2.schema) (Ok.bind (iu hx.1) λy hy=>Ok.bind (ja hx.2 (by omega) hy.2.1 hy.2.2) λz hz=>Ok.some ⟨hx.2,hz,hy.1⟩)
def KU(c:Ar)(l:Int):Int:=c.T.getD ((c.T.length:Int)-l).toNat 1
theorem ZR{c:Ar}(h:FQ c){l:Int}(h0:1<=l)(h1:l<=c.T.length):idx c.T (i64.wrap ((c.T.length:Int)-l))=some (KU c l):=by
 have hl:=E8 h;rw[wr,He (by omega) (by omega)];unfold KU;grind
theorem dH{c:Ar}(h:FQ c){l:Int}(h0:1<=l)(h1:l<=c.T.length):GG c l=some (KU c l):=by unfold GG;rw[ZR h h0 h1];rfl
theorem oo{c:Ar}(h:FQ c){l:Int}(h0:1<=l)(h1:l<=c.T.length):DY c l=some (KU c l):=by unfold DY;rw[ZR h h0 h1];rfl
theorem fW{c:Ar}(h:FQ c){a b:Int}(hb:1<=b)(hab:b<=a)(ha:a<=c.T.length) :
 (KU c a,KU c b)∈[((1:Int),(1:Int)),(1,5),(5,5),(1,20),(5,20),(20,20),(1,2),(2,2),(1,4),(2,4),(4,4),(1,12),(2,12),(4,12),(12,12)]:=by
 unfold KU;rcases bL h.widths with e|e|e|e
 ·rw[e]at ha ⊢;obtain⟨rfl,rfl⟩:a=1/\b=1:=by simp at ha;omega
  decide
 ·rw[e]at ha ⊢;have ha:a<=2:=by simpa using ha
  rcases(by omega:(a=1/\b=1)\/(a=2/\b=1)\/(a=2/\b=2))with⟨rfl,rfl⟩|⟨rfl,rfl⟩|⟨rfl,rfl⟩<;>decide
 ·rw[e]at ha ⊢;have ha:a<=3:=by simpa using ha
  rcases(by omega:(a=1/\b=1)\/(a=2/\b=1)\/(a=2/\b=2)\/(a=3/\b=1)\/(a=3/\b=2)\/(a=3/\b=3))with⟨rfl,rfl⟩|⟨rfl,rfl⟩|⟨rfl,rfl⟩|⟨rfl,rfl⟩|⟨rfl,rfl⟩|⟨rfl,rfl⟩<;>decide
 ·rw[e]at ha ⊢;have ha:a<=4:=by simpa using ha
  rcases(by omega:(a=1/\b=1)\/(a=2/\b=1)\/(a=2/\b=2)\/(a=3/\b=1)\/(a=3/\b=2)\/(a=3/\b=3)\/(a=4/\b=1)\/(a=4/\b=2)\/(a=4/\b=3)\/(a=4/\b=4))with⟨rfl,rfl⟩|⟨rfl,rfl⟩|⟨rfl,rfl⟩|⟨rfl,rfl⟩|⟨rfl,rfl⟩|⟨rfl,rfl⟩|⟨rfl,rfl⟩|⟨rfl,rfl⟩|⟨rfl,rfl⟩|⟨rfl,rfl⟩<;>decide
theorem am{c:Ar}(h:FQ c){a b:Int}(hb:1<=b)(hab:b<=a)(ha:a<=c.T.length){v u:Int}(h1:v-v%KU c a<=u)(h2:u<=v-v%KU c a+KU c a-1):u-u%KU c b=v-v%KU c b:=by
 have:=fW h hb hab ha;generalize KU c a=x at *;generalize KU c b=y at *;simp only[sf,sB,or_false,Prod.mk.injEq]at this;rcases this with⟨rfl,rfl⟩|⟨rfl,rfl⟩|⟨rfl,rfl⟩|⟨rfl,rfl⟩|⟨rfl,rfl⟩|⟨rfl,rfl⟩|⟨rfl,rfl⟩|⟨rfl,rfl⟩|⟨rfl,rfl⟩|⟨rfl,rfl⟩|⟨rfl,rfl⟩|⟨rfl,rfl⟩|⟨rfl,rfl⟩|⟨rfl,rfl⟩|⟨rfl,rfl⟩<;>omega
theorem J9{c:Ar}(h:FQ c){l:Int}(h0:1<=l)(h1:l<=c.T.length):1<=KU c l/\KU c l<=20:=by
 have:=fW h h0 (rk l) h1;generalize KU c l=x at *;simp only[sf,sB,or_false,Prod.mk.injEq]at this;omega
theorem XA(n:Int){w:Int}(hw:1<=w):(Int.tmod n w=n%w/\0<=Int.tmod n w)\/(Int.tmod n w=n%w-w/\Int.tmod n w<0):=by
 have h1:=sK n (by omega:w≠0);have h2:=sw n (by omega:0<w);grind
theorem Pb{n w:Int}(hw:1<=w)(hw2:w<=1000000)(h0:-100000000<=n)(h1:n<=100000000):E5 n w=some (n-n%w):=by
 have h3:=sK n (by omega:w≠0);have h4:=sw n (by omega:0<w);unfold E5;rw[Co];rcases XA n hw with⟨e,h⟩|⟨e,h⟩
 ·rw[Dz,e,wr]
 ·rw[Co h,e,wr (n:=n%w-w+w) (by omega) (by omega),wr];grind
theorem j7{n w:Int}(hw:1<=w)(hw2:w<=1000000)(h0:-100000000<=n)(h1:n<=100000000):∃q,FG n w=some q/\q*w=n-n%w:=by
 have h3:=sK n (by omega:w≠0);have h4:=sw n (by omega:0<w);have h5:=Int.mul_tdiv_add_tmod n w
 have h6:-100000000<=Int.tdiv n w/\Int.tdiv n w<=100000000:=by
  have:=Int.natAbs_tdiv_le_natAbs n w;omega
 unfold FG;rw[Co,Co];rcases XA n hw with⟨e,h⟩|⟨e,h⟩
 ·rw[Dz,wr];grind
 ·rw[Co h,wr (n:=Int.tdiv n w) (by omega) (by omega),wr];grind
def mv(c:Ar)(l v:Int):Int:=if l=0 then 0 else if v=Dg then Dg else v-v%KU c l
def MV(c:Ar)(v:Int):Prop:=(c.C<=v/\v<=c.D)\/(c.Az=true/\v=Dg)
theorem cD.meas{c:Ar}(h:FQ c){v:Int}(hv:cD s c v):MV c v:=by
 rcases hv with⟨hk,_⟩|⟨hk,_⟩|⟨_,hv⟩
 ·rw[h.kind]at hk;cases hk
 ·rw[h.kind]at hk;cases hk
 ·exact hv
theorem L4{c:Ar}(h:FQ c){l v:Int}(h0:1<=l)(h1:l<=c.T.length)(hv:c.C<=v/\v<=c.D):mv c l v=v-v%KU c l/\0<=v%KU c l/\v%KU c l<KU c l/\mv c l v≠Dg/\-4<=v/\v<=46:=by
 have hw:=J9 h h0 h1;obtain⟨a1,a2⟩:=h.low;obtain⟨a3,a4⟩:=h.high;have h3:=sK v (by omega:KU c l≠0);have h4:=sw v (by omega:0<KU c l)
 have e:mv c l v=v-v%KU c l:=by
  unfold mv;rw[qi (by omega),qi (by unfold Dg;omega)]
 exact⟨e,h3,h4,by rw[e];unfold Dg;omega,by omega,by omega⟩
theorem ip(hs:DS s){i:Nat}(h0:1<=i)(hi:i<s.A.length)(h:FQ s.A[i]){l v:Int}(hl0:0<=l)(hl1:l<=Ef s i)(hv:MV s.A[i] v):Ce s i l v=some (mv s.A[i] l v):=by
 obtain⟨a1,a2⟩:=h.low;obtain⟨a3,a4⟩:=h.high;have hf:Ef s i=s.A[i].T.length:=by rw[Gh hi,EC h]
 refine Ok.val ?_;unfold Ce;refine Ok.bindE (hs.rfinest h0 hi) ?_;rw[NE,qd,qh ⟨hl0,hl1⟩];refine Ok.no rfl (Ok.idxn hi (Ok.no (by rw[h.kind];rfl) ?_));rcases hv with hv|⟨_,rfl⟩
 ·have e1:(v != -1099511627776)=true:=by rw[bne_iff_ne];omega
  have e2:(v==-1099511627776)=false:=by grind
  refine Ok.yes e1 ?_;rw[NE,qd,dt];refine Ok.no rfl (Ok.br (λhz=>?_) λhz=>Ok.no e2 ?_)
  ·have hz:l=0:=by simpa using hz
   subst hz;exact Ok.some rfl
  ·have hz:l≠0:=by simpa using hz
   have hm:=L4 h (l:=l) (v:=v) (by omega) (by omega) hv;have hw:=J9 h (l:=l) (by omega) (by omega);obtain⟨q,hq,hq2⟩:=j7 (n:=v) hw.1 (by omega) (by omega) (by omega);refine Ok.bindE (oo h (by omega) (by omega)) (Ok.bindE hq (Ok.some ?_));rw[hq2,hm.1,wr]
 ·refine Ok.no rfl (Ok.br (λhz=>?_) λhz=>Ok.yes rfl ?_)
  ·have hz:l=0:=by simpa using hz
   subst hz;exact Ok.some rfl
  ·have hz:l≠0:=by simpa using hz
   exact Ok.some (by unfold mv;rw[qi hz,qf rfl])
def mW(c:Ar)(l v:Int):Int:=if l=0 then c.C else max c.C (v-v%KU c l)
def mV(c:Ar)(l v:Int):Int:=if l=0 then c.D else min c.D (v-v%KU c l+KU c l-1)
theorem nt{c:Ar}(h:FQ c){l v:Int}(h0:0<=l)(h1:l<=c.T.length)(hv:c.C<=v/\v<=c.D):J6 c l (mv c l v)=some (mW c l v,mV c l v,true):=by
 obtain⟨a1,a2⟩:=h.low;obtain⟨a3,a4⟩:=h.high;unfold J6 mW mV;by_cases hz:l=0
 ·subst hz;rfl
 ·have hm:=L4 h (l:=l) (v:=v) (by omega) h1 hv;have hw:=J9 h (l:=l) (by omega) h1
  have hb:(mv c l v)%KU c l=0:=by
   rw[hm.1];have:=Int.emod_add_mul_ediv v (KU c l);have e:v-v%KU c l=KU c l*(v/KU c l):=by omega
   rw[e];exact Int.mul_emod_right _ _
  have e0:(l==0)=false:=by grind
  rw[e0,hm.1,qi hz,qi hz];rw[hm.1]at hb;simp only[q9];rw[df,df];simp only[q9];rw[dH h (by omega) h1,qd,Pb hw.1 (by omega) (by omega) (by omega),hb,qd,wr (n:=v-v%KU c l+KU c l) (by omega) (by omega),wr,Int.sub_zero,sk];simp only[qK];have e1:(if c.C>v-v%KU c l then c.C else v-v%KU c l)=max c.C (v-v%KU c l):=by grind
  have e2:(if c.D<v-v%KU c l+KU c l-1 then c.D else v-v%KU c l+KU c l-1)=min c.D (v-v%KU c l+KU c l-1):=by grind
  rw[e1,e2,dt]
theorem nI{c:Ar}(h:FQ c){a b v:Int}(hb:1<=b)(hab:b<=a)(ha:a<=c.T.length)(hv:c.C<=v/\v<=c.D):(mW c a v-mW c a v%KU c b=v-v%KU c b)/\(mV c a v-mV c a v%KU c b=v-v%KU c b)/\c.C<=mW c a v/\mW c a v<=v/\v<=mV c a v/\mV c a v<=c.D:=by
 have hm:=L4 h (l:=a) (v:=v) (by omega) ha hv;have hw:=J9 h (l:=a) (by omega) ha;unfold mW mV;rw[qi (by omega),qi (by omega)];exact⟨am h hb hab ha (by omega) (by omega),am h hb hab ha (by omega) (by omega),by omega,by omega,by omega,by omega⟩
theorem dE:Dg=-1099511627776:=rfl
theorem mq{i:Nat}(hi:i<s.A.length)(h:FQ s.A[i]){l v:Int}(h0:0<=l)(h1:l<=s.A[i].T.length)(hv:MV s.A[i] v):∃u,Ci s i l (mv s.A[i] l v)=some (u,true):=by
 refine Exists.elim (?_:Ok (Ci s i l (mv s.A[i] l v)) λr=>r.2=true) λr hr=>⟨r.1,by rw[hr.1,<-hr.2]⟩;unfold Ci;refine Ok.idxn hi (Ok.yes (by rw[h.kind];rfl) (Ok.br (λhc=>Ok.some ?_) λhc=>?_))
 ·by_cases hz:0<l
  ·rw[dt]at hc;have hc:mv s.A[i] l v=Dg:=by rw[dE];simpa using hc
   rcases hv with hv|hv
   ·exact absurd hc (L4 h (by omega) h1 hv).2.2.2.1
   ·grind
  ·grind
 ·have hv2:(s.A[i].C<=v/\v<=s.A[i].D)\/(l=0):=by
   rcases hv with hv|⟨_,rfl⟩
   ·grind
   ·right
    by_cases hz:0<l
    ·rw[dt]at hc;have e:mv s.A[i] l Dg=Dg:=by unfold mv;rw[qi (by omega),qf rfl]
     rw[e]at hc
     cases hc
    ·omega
  rcases hv2 with hv|rfl
  ·exact Ok.bindE (nt h h0 h1 hv) (Ok.some rfl)
  ·exact Ok.bindE (x:=(s.A[i].C,s.A[i].D,true)) rfl (Ok.some rfl)
theorem il(hs:DS s){i:Nat}(hi0:1<=i)(hi:i<s.A.length)(h:FQ s.A[i]){a b v:Int}(hb:1<=b)(hab:b<=a)(ha:a<=s.A[i].T.length)(hv:MV s.A[i] v):E3 s i a (mv s.A[i] a v) b=some (mv s.A[i] b v,true):=by
 have hf:Ef s i=s.A[i].T.length:=by rw[Gh hi,EC h]
 refine Ok.val ?_;unfold E3;refine Ok.bindE (hs.pfinest hi0 hi) (Ok.no ?_ (Ok.idxn hi (Ok.no (by rw[h.kind];rfl) (Ok.bindE (x:=(mv s.A[i] b v,true)) ?_ (Ok.no rfl (Ok.some rfl))))))
 ·grind
 refine Ok.val ?_;unfold GF;have eb:(b==0)=false:=by grind
 have ea:(a==0)=false:=by grind
 rw[dt,eb,ea];rcases hv with hv|⟨ho,rfl⟩
 ·have hm:=L4 h (l:=a) (by omega) ha hv;have hmb:=L4 h (l:=b) (by omega) (by omega) hv;have hw:=J9 h (l:=b) (by omega) (by omega);have hbl:=nI h hb hab ha hv;obtain⟨a1,a2⟩:=h.low;obtain⟨a3,a4⟩:=h.high;have d1:=Pb (n:=mW s.A[i] a v) hw.1 (by omega) (by omega) (by omega);have d2:=Pb (n:=mV s.A[i] a v) hw.1 (by omega) (by omega) (by omega);have e3:(mv s.A[i] a v==-1099511627776)=false:=by rw[beq_eq_false_iff_ne];exact hm.2.2.2.1
  rw[hbl.1]at d1;rw[hbl.2.1]at d2;refine Ok.no (by grind) (Ok.bindE (nt h (by omega) ha hv) (Ok.no rfl (Ok.no rfl (Ok.no rfl (Ok.bindE (dH h hb (by omega)) (Ok.bindE d1 (Ok.bindE d1 (Ok.bindE d2 (Ok.some ?_)))))))));grind
 ·have e:∀l,1<=l->mv s.A[i] l Dg=Dg:=λl hl=>by unfold mv;rw[qi (by omega),qf rfl]
  rw[e a (by omega),e b hb,ho];exact Ok.yes rfl (Ok.no rfl (Ok.some rfl))
def co(L:Am)(l v:Int):Option (Int×Bool):=iter (λrec1 s=>Nw (Et L) L l v (λv56_1=>some (0,false)) rec1 s) AD 0
def cv(L:Am)(l v:Int):Int:=(JQ L v l).getD 0
theorem aA:(YR.all λL=>(List.range (Is L).toNat).all λl=>(co L (l:Int) 0).isSome&&(Et L).all λv=>JQ L v l==some (cv L l v)&&Hy L v l==some (cv L l v)&&decide (0<=cv L l v)&&((co L l (cv L l v)).map (·.2)==some true))=true:=by decide +kernel
theorem S3{L:Am}(h:L∈YR){l:Int}(h0:0<=l)(h1:l<Is L):(∃r,co L l 0=some r)/\∀v∈Et L,JQ L v l=some (cv L l v)/\Hy L v l=some (cv L l v)/\0<=cv L l v/\∃u,co L l (cv L l v)=some (u,true):=by
 have:=List.all_eq_true.1 (List.all_eq_true.1 aA L h) l.toNat (List.mem_range.2 (by omega));rw[Int.toNat_of_nonneg h0]at this;simp only[qX,rQ,beq_iff_eq,decide_eq_true_eq,Option.isSome_iff_exists]at this;refine⟨this.1,λv hv=>?_⟩;obtain⟨⟨⟨a,b⟩,c⟩,d⟩:=this.2 v hv;obtain⟨r,hr,hr2⟩:=Option.map_eq_some_iff.1 d;grind
def CV(s:Aa)(c:Ar)(l v:Int):Int:=if c.Kind=2 then cv ((idx s.J c.Al).getD { H:=ZB,Q:=[] }) l v else mv c l v
theorem e9{c:Ar}(h:M5 c){L:Am}(hL:idx s.J c.Al=some L)(l v:Int):CV s c l v=cv L l v:=by unfold CV;rw[qf h.kind,hL];rfl
theorem Wc{c:Ar}(h:FQ c)(l v:Int):CV s c l v=mv c l v:=by unfold CV;rw[qi (by rw[h.kind];decide)]
theorem cD.code{c:Ar}(h:M5 c){L:Am}(hL:idx s.J c.Al=some L){v:Int}(hv:cD s c v):v∈Et L:=by
 rcases hv with⟨hk,_⟩|⟨_,L',_,hL',hv⟩|⟨hk,_⟩
 ·rw[h.kind]at hk;cases hk
 ·grind
 ·rw[h.kind]at hk;cases hk
theorem mt(hs:DS s){i:Nat}(h0:1<=i)(hi:i<s.A.length){l v:Int}(hl0:0<=l)(hl1:l<=Ef s i)(hv:cD s s.A[i] v):Ce s i l v=some (CV s s.A[i] l v):=by
 rcases hs.col h0 hi with h1|h1
 ·obtain⟨L,hL,hL2⟩:=hs.clist h1;have hf:Ef s i=Is L-1:=by rw[Gh hi,Hd h1 hL2]
  have hc:=S3 hL (l:=l) hl0 (by omega);rw[e9 h1 hL2];refine Ok.val ?_;unfold Ce;refine Ok.bindE (hs.rfinest h0 hi) ?_;rw[NE,qd,qh ⟨hl0,hl1⟩];exact Ok.no rfl (Ok.idxn hi (Ok.yes (by rw[h1.kind];rfl) (Ok.bindE (WZ hs hi hv) (Ok.no rfl (Ok.bindE hL2 (Ok.bindE (hc.2 v (hv.code h1 hL2)).1 (Ok.some rfl)))))))
 ·rw[Wc h1];exact ip hs h0 hi h1 hl0 hl1 (hv.meas h1)
theorem YJ{i:Nat}(hi:i<s.A.length)(h:M5 s.A[i]){L:Am}(hL:L∈YR)(hL2:idx s.J s.A[i].Al=some L)(l v:Int):Ci s i l v=co L l v:=by
 have hc:=MD hL;have h2:=hc.lev2;have h3:=hc.lev3;unfold Ci;rw[FA hi,qd,h.kind];show(idx s.J _).bind _=_;rw[hL2,qd,hc.lev,qd,wr,hc.leaves];rfl
theorem oV(hs:DS s){i:Nat}(h0:1<=i)(hi:i<s.A.length){l v:Int}(hl0:0<=l)(hl1:l<=Ef s i)(hv:cD s s.A[i] v):∃u,Ci s i l (CV s s.A[i] l v)=some (u,true):=by
 rcases hs.col h0 hi with h1|h1
 ·obtain⟨L,hL,hL2⟩:=hs.clist h1;have hf:Ef s i=Is L-1:=by rw[Gh hi,Hd h1 hL2]
  rw[e9 h1 hL2,YJ hi h1 hL hL2];exact((S3 hL (l:=l) hl0 (by omega)).2 v (hv.code h1 hL2)).2.2.2
 ·have hf:Ef s i=s.A[i].T.length:=by rw[Gh hi,EC h1]
  rw[Wc h1];exact mq hi h1 hl0 (by omega) (hv.meas h1)
theorem oh(hs:DS s){i:Nat}(h0:1<=i)(hi:i<s.A.length):∃r,Ci s i 0 0=some r:=by
 rcases hs.col h0 hi with h1|h1
 ·obtain⟨L,hL,hL2⟩:=hs.clist h1;have:=MD hL;rw[YJ hi h1 hL hL2];exact(S3 hL (l:=0) (by omega) (by have:=this.lev2;omega)).1
 ·refine Exists.elim (?_:Ok (Ci s i 0 0) λ_=>True) λr hr=>⟨r,hr.1⟩;unfold Ci;exact Ok.idxn hi (Ok.yes (by rw[h1.kind];rfl) (Ok.no rfl (Ok.bindE (x:=(s.A[i].C,s.A[i].D,true)) rfl (Ok.some trivial))))
def Ut(s:Aa)(p:Ad):Prop:=∃i:Nat,1<=i/\i<s.A.length/\p.B=i/\0<=p.S/\p.S<=Ef s i
def XV(s:Aa)(p:Ad)(v:Int):Prop:=∃(i:Nat)(hi:i<s.A.length)(w:Int),1<=i/\p.B=i/\cD s s.A[i] w/\v=CV s s.A[i] p.S w
structure GX(s:Aa)(x:As):Prop where
 project:EX x.Af=some true/\CN x.Af=some true
 version:0<=x.Ag/\x.Ag<=300
 picks:∀p∈x.X,Ut s p
 order:x.X.Pairwise λa b=>a.B<b.B
 rows:∀r∈x.G,r.length=x.X.length+1/\0<=hd r/\hd r<=1048575/\∀(k:Nat) p v,x.X[k]?=some p->r[k+1]?=some v->XV s p v
 asc:lF x.G
 len:x.G.length<=200
theorem GX.picks_len{x:As}(hs:DS s)(h:GX s x):x.X.length<=6:=by
 have hc:=hs.cols_length
 have key:∀(k:Nat)(hk:k<x.X.length),(k:Int)+1<=x.X[k].B:=by
  intro k
  induction k with
  | zero=>intro hk;obtain⟨i,h1,_,h2,_⟩:=h.picks _ (qa hk);rw[h2];omega
  | succ k ih =>
    intro hk;have:=ih (by omega);have h2:=(List.pairwise_iff_getElem.1 h.order) k (k+1) (by omega) hk (by omega);omega
 rcases qw x.X.length 7 with h7|h7
 ·omega
 ·have:=key 6 (by omega);obtain⟨i,h1,h2,h3,_⟩:=h.picks _ (qa (by omega:6<x.X.length));omega
theorem kx{p:Ad}(hs:DS s)(h:Ut s p):J5 s p=some 0:=by
 obtain⟨i,h0,hi,hp,hl0,hl1⟩:=h;have hf:=hs.fin_ok h0 hi;refine Ok.val ?_;unfold J5;rw[hp];refine Ok.bindE (hs.pfinest h0 hi) (Ok.brd (λh=>by omega) λ_=>Ok.no ?_ (Ok.some rfl));grind
theorem ky{l:List Ad}(hs:DS s)(h:∀p∈l,Ut s p)(ho:l.Pairwise λa b=>a.B<b.B)(hl:l.length<=1000):Iy s l=some 0:=by
 refine Ok.val ?_;unfold Iy;refine Ok.bindE hs.check (Ok.no rfl ?_);refine Ok.for (λq=>q) l.length (λ_ _=>True) 0 (pY _) rfl trivial (by omega) (λrec q hq _=>?_) λrec i q hi hq _ ih=>?_
 ·simp only[Ja,hq];rw[Dz];exact Ok.some rfl
 ·simp only[Ja,hq];rw[Co];refine Ok.idxn hi (Ok.bindE (kx hs (h _ (qa hi))) (Ok.no rfl (Ok.brd (λh1=>?_) λ_=>ih _ EE trivial)));have e:i64.wrap ((i:Int)-1)=((i-1:Nat):Int):=by rw[wr];omega
  rw[e];have:=(List.pairwise_iff_getElem.1 ho) (i-1) i (by omega) hi (by omega);exact Ok.idxn (by grind) (Ok.brd (λh2=>by omega) λ_=>ih _ EE trivial)
theorem GX.atP{x:As}(hs:DS s)(h:GX s x){r:List Int}(hr:r∈x.G){k:Nat}(hk:k<x.X.length)(hk2:k+1<r.length) :
 ∃u,Ci s x.X[k].B x.X[k].S r[k+1]=some (u,true):=by
 obtain⟨i,hi,w,h0,hp,hw,e⟩:=(h.rows r hr).2.2.2 k _ _ (P2 hk) (P2 hk2);obtain⟨i',h0',hi',hp',hl0,hl1⟩:=h.picks _ (qa hk);have:i'=i:=by grind
 subst this;rw[e,hp];exact oV hs h0 hi hl0 hl1 hw
theorem GX.ne{x:As}(h:GX s x){r:List Int}(hr:r∈x.G):r≠[]:=by
 intro e;have:=(h.rows r hr).1;grind
theorem oU{x:As}(hs:DS s)(h:GX s x){r:List Int}(hr:r∈x.G):JG s x.X r=some true:=by
 have hl:=h.picks_len hs;obtain⟨h1,h2,h3,_⟩:=h.rows r hr;refine Ok.val ?_;unfold JG;refine Ok.no ?_ (Ok.bindE (Jl (h.ne hr)) (Ok.brd (λh=>by omega) λ_=>Ok.bindE (Jl (h.ne hr)) (Ok.brd (λh=>by omega) λ_=>?_)))
 ·rw[wr,h1];simp
 unfold LE;refine Ok.for (λq=>q) x.X.length (λ_ _=>True) 0 (pY _) rfl trivial (by omega) (λrec q hq _=>?_) λrec i q hi hq _ ih=>?_
 ·simp only[IP,hq];rw[Dz];exact Ok.some rfl
 ·simp only[IP,hq];rw[Co];have hi2:i+1<r.length:=by omega
  obtain⟨u,hu⟩:=h.atP hs hr hi hi2;refine Ok.idxn hi ?_;rw[EE];exact Ok.idxn hi2 (Ok.bindE hu (Ok.no rfl (ih _ rfl trivial)))
theorem GX.check{x:As}(hs:DS s)(h:GX s x):C5 s x=some 0:=by
 have hl:=h.len;have hpl:=h.picks_len hs;have hv:=h.version;refine Ok.val ?_;unfold C5;refine Ok.bindE hs.check (Ok.no rfl (Ok.bindE h.project.2 (Ok.no rfl (Ok.no ?_ (Ok.bindE (ky hs h.picks h.order (by omega)) (Ok.no rfl (Ok.brd (λh=>by omega) λ_=>?_)))))))
 ·grind
 refine Ok.for (λq=>q) x.G.length (λ_ _=>True) 0 (pY _) rfl trivial (by omega) (λrec q hq _=>?_) λrec i q hi hq _ ih=>?_
 ·simp only[Il,hq];rw[Dz];exact Ok.some rfl
 ·simp only[Il,hq];rw[Co];refine Ok.idxn hi (Ok.bindE (oU hs h (qa hi)) (Ok.no rfl (Ok.brd (λh1=>?_) λ_=>ih _ EE trivial)));have e:i64.wrap ((i:Int)-1)=((i-1:Nat):Int):=by rw[wr];omega
  rw[e];have hi3:i-1<x.G.length:=by omega
  have hlt:=(List.pairwise_iff_getElem.1 h.asc) (i-1) i hi3 hi (by omega);exact Ok.bindE (Jl (h.ne (qa hi))) (Ok.idxn hi3 (Ok.bindE (Jl (h.ne (qa hi3))) (Ok.brd (λh2=>by omega) λ_=>ih _ EE trivial)))
theorem cG(hs:DS s){i:Nat}(h0:1<=i)(hi:i<s.A.length){v:Int}(hv:cD s s.A[i] v):CV s s.A[i] (Ef s i) v=v:=by
 have hf:=hs.fin_ok h0 hi;have h1:=Wz hs h0 hi hv;have h2:=mt hs h0 hi (l:=Ef s i) (by omega) (rk _) hv;grind
theorem R7.gx{x:As}{n:Nat}(hs:DS s)(h:R7 s x n)(hn:n<=200):GX s x:=by
 have hc:=hs.cols_length;have hpl:=Fo (s:=s);have hlen:=h.len;refine⟨?_,by rw[h.version];omega,?_,?_,?_,h.asc,by omega⟩
 ·rw[h.project];exact⟨by decide +kernel,by decide +kernel⟩
 ·intro p hp;rw[h.picks]at hp;obtain⟨k,hk,rfl⟩:=List.mem_iff_getElem.1 hp;rw[Cu hk];have hf:=hs.fin_ok (i:=k+1) (by omega) (by omega);exact⟨k+1,by omega,by omega,rfl,by show 0<=Ef s (k+1);omega,rk _⟩
 ·rw[h.picks,List.pairwise_iff_getElem];intro a b ha hb hab;rw[Cu ha,Cu hb];grind
 ·intro r hr;obtain⟨h1,h2,h3,h4⟩:=h.rows r hr;rw[h.picks];refine⟨by omega,h2,h3,λk p v hp hv=>?_⟩;obtain⟨hk,rfl⟩:=List.getElem?_eq_some_iff.1 hp;rw[Cu hk];have hi:k+1<s.A.length:=by omega
  have hv2:=h4 (k+1) _ v (by omega) (P2 hi) hv;exact⟨k+1,hi,v,by omega,rfl,hv2,(cG hs (by omega) hi hv2).symm⟩
theorem DS.pcond_zero(h:DS s)(d:Nat):BG (d+1) s Gt=some 4:=by unfold BG;rw[h.check];rfl
theorem DS.pneeds_zero(h:DS s)(d:Nat):BS (d+1) s Gt=some []:=by unfold BS;rw[h.pcond_zero];rfl
theorem aG{l:List Int}{x:Int}(hx:x∈l)(hl:l.length<=1000000):AU l x=some true:=by
 unfold AU;have h:Ck l x=some (Gi (λy=>x==y) l):=Jp (p:=λy=>some (x==y)) (λ_ _=>rfl) (by omega);rw[h,qd,KB];grind
theorem UD{i:Nat}(hi:i<s.A.length)(h:FQ s.A[i]):BJ s i=some true:=by
 unfold BJ;rw[dt,dt];show(idx s.A (i:Int)).bind _=_;rw[FA hi,qd,h.kind];rfl
theorem bH{i:Nat}(hi:i<s.A.length)(h:FQ s.A[i]){n:Nat}(hn:n<s.A[i].T.length):Hg s i s.A[i].T[n]=some ((s.A[i].T.length:Int)-n):=by
 have hwl:=E8 h
 have hd:∀a b (ha:a<s.A[i].T.length) (hb:b<s.A[i].T.length),a<b->s.A[i].T[a]≠s.A[i].T[b]:=by
  have hp:s.A[i].T.Pairwise (·≠·):=by rcases bL h.widths with e|e|e|e<;>(rw[e];decide)
  intro a b ha hb hab;exact(List.pairwise_iff_getElem.1 hp) a b ha hb hab
 refine Ok.val ?_;unfold Hg;refine Ok.idxn hi ?_;refine Ok.for (λq=>q) s.A[i].T.length (λk _=>k<=n) 0 (pY _) rfl (pY _) (by omega) (λrec q hq hI=>by omega) λrec k q hk hq hI ih=>?_;simp only[KT,hq];rw[Co];refine Ok.idxn hk (Ok.br (λhe=>Ok.some ?_) λhne=>ih _ EE ?_)
 ·have he:s.A[i].T[k]=s.A[i].T[n]:=by simpa using he
  have:k=n:=by grind
  rw[this,wr]
 ·grind
theorem gq{i:Nat}(hi:i<s.A.length)(h:FQ s.A[i]){l:Int}(h0:0<=l)(h1:l<=s.A[i].T.length):Ok (E4 s i l) λ_=>True:=by
 unfold E4;refine Ok.idxn hi (Ok.no (by rw[h.kind];rfl) (Ok.br (λ_=>Ok.some trivial) λhz=>?_));have hz:l≠0:=by grind
 have hw:=J9 h (l:=l) (by omega) h1;obtain⟨a1,a2⟩:=h.low;obtain⟨a3,a4⟩:=h.high;exact Ok.bindE (dH h (by omega) h1) (Ok.bindE (Pb hw.1 (by omega) (by omega) (by omega)) (Ok.bindE (Pb hw.1 (by omega) (by omega) (by omega)) (Ok.gdd (by omega) (Ok.br (λ_=>Ok.some trivial) λ_=>Ok.some trivial))))
theorem Wd{l:List Ad}{p:Ad->Option Bool}(q:Ad->Bool)(hp:∀x∈l,p x=some (q x))(hl:l.length<=1000000000):AF l p=some (l.any q):=by
 unfold AF;rw[show Bg l p=some (Gi q l)from Jp hp hl,qd,KB]
def covers(picks needs:List Ad):Bool:=needs.all λn=>picks.any λp=>bif p.B==n.B then decide (p.S>=n.S)else false
theorem mo(picks needs:List Ad)(h1:picks.length<=1000000)(h2:needs.length<=1000000):BU picks needs=some (covers picks needs):=by
 unfold BU;rw[Wd (λn=>!(picks.any λp=>bif p.B==n.B then decide (p.S>=n.S)else false)) (λn _=>?_) (by omega)]
 ·rw[qd,covers,List.any_eq_not_all_not];simp
 ·unfold FS;have:=Wd (l:=picks) (p:=λa0=>Ep a0 n) (λp=>bif p.B==n.B then decide (p.S>=n.S)else false) (λ_ _=>rfl) (by omega);grind
theorem oJ(l:List Int):LZ l 1 (l.length:Int)=l.drop 1:=by
 unfold LZ;rw[qS]
 all_goals grind
theorem GX.valsP{x:As}(hs:DS s)(hx:GX s x){r:List Int}(hr:r∈x.G)(k:Nat)(hk:k<x.X.length)(hk2:k<(r.drop 1).length) :
 ∃u,Ci s x.X[k].B x.X[k].S (r.drop 1)[k]=some (u,true):=by
 have e:(r.drop 1)[k]=r[k+1]'(by rw[rj]at hk2;omega):=by grind
 rw[e];exact hx.atP hs hr hk _
theorem Ze{l:List Int}{p:Int->Option Bool}(q:Int->Bool)(hp:∀x∈l,p x=some (q x))(hl:l.length<=1000000000):Bf l p=some (l.any q):=by
 unfold Bf;rw[show Cz l p=some (Gi q l)from Jp hp hl,qd,KB]
theorem ku{n w:Int}(hw:1<=w)(hw2:w<=1000000)(h0:-100000000<=n)(h1:n<=100000000):Ru n w=some (n-n%w):=Pb hw hw2 h0 h1
theorem lK{l:List Int}{w:Int}(hl:l.length<=200)(hw:1<=w)(hw2:w<=1000000)(hv:∀v∈l,-1000000<=v/\v<=1000000):Ok (OA l w) λr=>r.2=0/\r.1.length<=200:=by
 unfold OA;have hn:l.any (λv=>bif decide (v < -1000000)then true else decide (v>1000000))=false:=by grind
 refine Ok.brd (λh=>by omega) λ_=>Ok.no (by grind) (Ok.bindE (Ze _ (λ_ _=>rfl) (by omega)) ?_);rw[hn];refine Ok.no rfl ?_;unfold Ml;have hc:AC l=some l:=by unfold AC;rw[VG (by omega)];rfl
 have hs:CR l=some (Uq l):=by unfold CR;rw[VG (by omega)];rfl
 have hsl:(Uq l).length=l.length:=by simp[Uq,rT]
 have hsv:∀v∈Uq l,-1000000<=v/\v<=1000000:=λv hvv=>hv v (List.mem_mergeSort.1 hvv);refine Ok.bindE hc (Ok.bindE hs ?_);refine Ok.for (λq=>q.1) (Uq l).length (λk q=>q.2.length<=k) 0 (pY _) rfl (qb _) (by omega) (λrec q hq hI=>?_) λrec k q hk hq hI ih=>?_
 ·simp only[Mk,hq];rw[Dz];exact Ok.some ⟨rfl,by show q.2.length<=200;omega⟩
 ·have hvk:=hsv _ (qa hk);simp only[Mk,hq];rw[Co]
  have hlast:∀(b:List D4)(z:D4),i64.wrap (((b++[z]).length:Int)-1)=(b.length:Int)\/1000<b.length:=by
   intro b z;by_cases h:b.length<=1000
   ·left
    rw[qz,wr (by grind) (by simp;omega)];simp
   ·grind
  have hnew:∀z:D4,Ok (bif P.rm q.2.length [z].length then
   (idx (q.2++[z]) (i64.wrap (((q.2++[z]).length:Int)-1))).bind λx63 =>
   (idx (q.2++[z]) (i64.wrap (((q.2++[z]).length:Int)-1))).bind λx67 =>
   rec ((i64.wrap ((k:Int)+1)),((q.2++[z]).set ((i64.wrap (((q.2++[z]).length:Int)-1)):Int).toNat ({ C:=x67.C,Y:=(i64.wrap (x63.Y+1)) }:D4)))else none) λr=>r.2=0/\r.1.length<=200:=by
   intro z;refine Ok.rm (by grind) ?_;rw[(hlast q.2 z).resolve_right (by omega)];have hb:q.2.length<(q.2++[z]).length:=by simp
   exact Ok.idxn hb (Ok.idxn hb (ih _ EE (by grind)))
  refine Ok.idxn hk (Ok.bindE (ku hw hw2 (by omega) (by omega)) (Ok.br (λ_=>hnew _) λhz=>?_));have hz:q.2.length≠0:=by grind
  have e:i64.wrap ((q.2.length:Int)-1)=((q.2.length-1:Nat):Int):=by rw[wr];omega
  rw[e];have hb:q.2.length-1<q.2.length:=by omega
  refine Ok.idxn hb (Ok.br (λ_=>hnew _) λ_=>Ok.idxn hb (Ok.idxn hb (ih _ EE (by grind))))
def keep(w:Nat->Int)(n:Nat):List Nat:=(List.range n).filter λj=>w j != Dg
def ints(l:List Nat):List Int:=l.map λj:Nat=>(j:Int)
theorem dF{c:Ar}(h:FQ c){b w:Int}(h0:1<=b)(h1:b<=c.T.length)(hw:MV c w):mv c b w=Dg↔w=Dg:=by
 constructor
 ·intro e;rcases hw with hw|hw
  ·exact absurd e (L4 h h0 h1 hw).2.2.2.1
  ·grind
 ·intro e;unfold mv;grind
theorem lw{c:Ar}(h:FQ c){n:Nat}(hn:n<c.T.length):1<=c.T[n]/\c.T[n]<=20:=by
 have:∀v∈c.T,1<=v/\v<=20:=by rcases bL h.widths with e|e|e|e<;>(rw[e];decide)
 exact this _ (qa hn)
theorem DS.last(h:DS s):∃i:Nat,1<=i/\∃hi:i<s.A.length,FQ s.A[i]:=by
 obtain⟨j,ms,e,h1,h2,h3⟩:=h.cols;have hc:=LY j;have hlen:s.A.length=(FO j).length+ms.length:=by grind
 refine⟨(FO j).length,by omega,by omega,?_⟩;have hm:=(h3 0 (by omega)).1;grind
theorem W8(hs:DS s):Ok (Cm s 3) λl=>l≠[]/\l.length<=6/\∀v∈l,∃i:Nat,v=i/\1<=i/\∃hi:i<s.A.length,FQ s.A[i]:=by
 have hc:=hs.cols_length;unfold Cm
 refine Ok.for (λq=>q.1) s.A.length (λk q=>q.2.length<=k/\(∀v∈q.2,∃i:Nat,v=i/\1<=i/\∃hi:i<s.A.length,FQ s.A[i])/\∀(i:Nat)(hi:i<s.A.length),i<k->FQ s.A[i]->(i:Int)∈q.2) 0 (pY _) rfl
  ⟨qb _,(λv hv=>by cases hv),λi _ h=>by omega⟩ (by omega) (λrec q hq hI=>?_) λrec k q hk hq hI ih=>?_
 ·simp only[Dn,hq];rw[Dz];obtain⟨i,_,hi,hm⟩:=hs.last;exact Ok.some ⟨(λe=>by have:=hI.2.2 i hi hi hm;rw[e]at this;cases this),by have:=hI.1;omega,hI.2.1⟩
 ·simp only[Dn,hq];rw[Co];have hI1:=hI.1;refine Ok.idxn hk (Ok.br (λe=>Ok.rm (by grind) (ih _ EE ⟨by simp;omega,λv hv=>?_,λj hj hjk hm=>?_⟩)) λe=>ih _ EE ⟨by show q.2.length<=k+1;omega,hI.2.1,λj hj hjk hm=>?_⟩)
  ·rcases List.mem_append.1 hv with hv|hv
   ·grind
   ·rw[rR]at hv;have e:s.A[k].Kind=3:=by grind
    rcases hs.cl hk with⟨_,h1⟩|⟨h0,h1|h1⟩
    ·rw[h1]at e;cases e
    ·rw[h1.kind]at e;cases e
    ·grind
  ·grind
  ·rcases qw j k with h1|h1
   ·grind
   ·obtain rfl:j=k:=by omega
    rw[hm.kind]at e
    cases e
theorem L3{c:Ab}(hc:Ht c)(hs:DS s):Ok (Bi c s) λr=>Ht r.2/\∃i:Nat,r.1=i/\1<=i/\∃hi:i<s.A.length,FQ s.A[i]:=by
 unfold Bi;refine Ok.bind (W8 hs) λl hl=>?_;have:l.length≠0:=λe=>hl.1 (qq e);have hl6:=hl.2.1;refine Ok.bind (Dy hc (by omega) (by omega)) λy hy=>Ok.idx hy.2.1 (by omega) (Ok.some ⟨hy.1,hl.2.2 _ (qa _)⟩)
end Go.Proofs.YthchnhoalhbkcaaGreatDoor.P
