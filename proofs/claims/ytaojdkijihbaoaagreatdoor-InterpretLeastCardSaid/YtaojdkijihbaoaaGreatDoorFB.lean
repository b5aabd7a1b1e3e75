/- FB -/
import Derived.Test.YtaojdkijihbaoaaGreatDoorFA
import Derived.Test.YtaojdkijihbaoaaGreatDoorP3HW
open Go.Proofs.Tryz
set_option linter.all false
namespace Go.Proofs.YtaojdkijihbaoaaGreatDoor.P.F
open Go.Abs Go.Proofs
theorem sortC:lw:=λxs a=>q8 lays189 (by kernel_rfl) 3 xs a
theorem compactC:Xj:=λxs a=>mQ lays20 (by kernel_rfl) 3 xs a
#print axioms sortC
#print axioms compactC
set_option maxRecDepth 10000
def fq(s:St):D:=.agg [.int .i64 s.time,.int .i64 s.risk,.int .i64 s.ev,.int .i64 s.lf,.int .i64 s.fr.1,.int .i64 s.fr.2]
def sts(l:List St):D:=.list 6 (l.map fq)
def bl(es:List Bool):D:=.list 1 (es.map D.bool)
def kY(ps:PS)(l:List Int):Int:=(l.map λt=>Q0 t ps+YC t ps).sum
theorem ko{n:Int}{d:Nat}(a:0<=n)(b:n<=1152921504606846976)(c:d<=1152921504606846976):okR n d=true:=by
 unfold okR;have e:=xi n.natAbs (Nat.gcd d n.natAbs);have f:=xi d (Nat.gcd d n.natAbs);rw[vi];exact⟨un (by omega),un (by omega)⟩
theorem PH(t:Int)(a:PS):0<=Q0 t a:=wB _
theorem PT(t:Int)(a:PS):0<=YC t a:=wB _
theorem bZ(t:Int)(p:Int×Bool)(a:PS):Q0 t (p :: a)+YC t (p :: a)=(if p.1=t then 1 else 0)+(Q0 t a+YC t a):=by
 obtain⟨x,b⟩:=p;unfold Q0 YC;by_cases h:x=t
 ·cases b<;>simp[h]<;>omega
 ·simp[h]
theorem pY(l:List Int):kY [] l=0:=by
 unfold kY
 induction l with
 | nil=>rfl
 | cons t r ih=>simp only[ul,List.sum_cons,ih];rfl
theorem eo(p:Int×Bool)(b:PS):∀(l:List Int),l.Pairwise (·<·)->kY (p :: b) l=(if p.1∈l then 1 else 0)+kY b l
 | [],_=>by simp[kY]
 | t :: r,h=>by
   have ih:=eo p b r (List.pairwise_cons.1 h).2;unfold kY at ih ⊢;simp only[ul,List.sum_cons];rw[ih,bZ];by_cases e:p.1=t
   ·have a:p.1 ∉ r:=λa=>by have:=(List.pairwise_cons.1 h).1 _ a;omega
    rw[uk e,uo a,uk (by simp[e])];omega
   ·by_cases a:p.1∈r
    ·rw[uo e,uk a,uk (vK _ a)];omega
    ·rw[uo e,uo a,uo (by simp[e,a])];omega
theorem jf(l:List Int)(b:l.Pairwise (·<·)):∀a:PS,(∀p∈a,p.1∈l)->kY a l=a.length
 | [],_=>pY l
 | p :: a,h=>by
   rw[eo p a l b,jf l b a (λq c=>h q (.tail _ c)),uk (h p (.head _)),vu];omega
theorem ij(t:Int):∀a:PS,t∈tm a->1<=Q0 t a+YC t a
 | [],h=>by cases h
 | p :: a,h=>by
   rw[bZ];have:=PH t a;have:=PT t a;rcases List.mem_cons.1 h with h|h
   ·rw[uk h.symm];omega
   ·have:=ij t a h;split<;>omega
theorem mh(t:Int)(a:PS)(p:Int×Bool):Q0 t (a++[p])=Q0 t a+(if p.1=t/\p.2=true then 1 else 0):=by
 unfold Q0;rw[xl,uV];obtain⟨x,b⟩:=p;by_cases h:x=t<;>cases b<;>simp[h]
theorem mL(t:Int)(a:PS)(p:Int×Bool):YC t (a++[p])=YC t a+(if p.1=t/\p.2=false then 1 else 0):=by
 unfold YC;rw[xl,uV];obtain⟨x,b⟩:=p;by_cases h:x=t<;>cases b<;>simp[h]
theorem mg(t:Int)(a:PS):Q0 t a<=a.length:=by unfold Q0;have:=vZ (λp:Int×Bool=>p.1==t&&p.2) a;omega
theorem mK(t:Int)(a:PS):YC t a<=a.length:=by unfold YC;have:=vZ (λp:Int×Bool=>p.1==t&&!p.2) a;omega
theorem og(v:Int):Ax prog 233 [.d (.int .i64 v)] (.d (.bool (lrgT v))):=by
 refine Du func233 (by kernel_rfl) ?_
 conv=>whnf
 exact⟨by rfl⟩
theorem lI:Lp prog 239=48:=by kernel_rfl
theorem pR:AD prog 239=6:=by kernel_rfl
theorem pI(B:List St)(y:D)(h:B.length<=1000000):(λn:Nat=>n+[y].length<=maxLen/\(n+[y].length)*Lp prog 239<=140737488355328/\([y]=[]\/0+1+1+1+1+1+1=AD prog 239)) (B.map fq).length:=by
 rw[lI,pR];simp only[ua,vu,wu];exact⟨by unfold maxLen;omega,by omega,.inr (by trivial)⟩
set_option maxHeartbeats 4000000 in
theorem rH(W:lw)(X:Xj)(a:PS)(hn:a.length<=200)(hr:∀p∈a,0<=p.1/\p.1<=1000000) :
 Ax prog 156 [.d (ints (tm a)),.d (bl (es a))] (.tup [.d (sts (stepsF a).1),.d (.int .i64 (stepsF a).2)]):=by
 refine Du func156 (by kernel_rfl) ?_
 conv=>whnf
 refine br (λh=>?_) (λ_=>?_)
 ·simp[tm,es]at h
 conv=>whnf
 refine br (λh=>?_) (λ_=>?_)
 ·simp[tm]at h;omega
 have v:(tm a).length=a.length:=by simp[tm]
 have P:(es a).length=a.length:=by simp[es]
 conv=>whnf
 refine A4 (contains _ lrgT (tm a) (by omega) λx _=>og x) ?_
 rw[show(tm a).any lrgT=false from by
  rw[List.any_eq_false];intro x hx;obtain⟨p,hp,rfl⟩:=List.mem_map.1 hx;have:=hr p hp;unfold lrgT;simp[show ¬p.1<0 by omega,show ¬p.1>1000000 by omega]]
 conv=>whnf
 refine A4 (clone (tm a) (by omega)) ?_
 conv=>whnf
 refine HW (W (tm a) (by omega)) ?_
 conv=>whnf
 refine HW (X (FD (tm a)) (by rw[length_sortI];omega)) ?_;rw[show Go.Lib.compact (FD (tm a))=setI (tm a)from rfl];obtain⟨H,z⟩:=V3 (tm a);have Y:=setI_len (tm a);have I:kY a (setI (tm a))=a.length:=jf _ H a λp hp=>(z _).2 (wM (f:=λp:Int×Bool=>p.1) hp);generalize V:stepsF a=R;have Q:stepGo a (setI (tm a)) a.length (1,1) []=R:=V;have J:∀t∈setI (tm a),1<=Q0 t a+YC t a:=λt Z=>ij t a ((z t).1 Z);generalize setI (tm a)=e at *;clear V H z;have gt:∀i (E:i<a.length),((tm a).map (D.int .i64))[((i:Nat):Int).toNat]?=some (D.int .i64 a[i].1):=λi E=>by simp[tm,E]
 have ge:∀i (E:i<a.length),((es a).map D.bool)[((i:Nat):Int).toNat]?=some (D.bool a[i].2):=λi E=>by simp[es,E]
 generalize hts:tm a=ts at *;generalize hes:es a=evs at *
 conv=>whnf
 refine loop {s:Nat×Int×(Int×Int)×List St // s.1<=e.length/\VF s.2.2.1/\stepGo a (e.drop s.1) s.2.1 s.2.2.1 s.2.2.2=R/\(s.2.1=kY a (e.drop s.1)/\s.2.1<=200)/\s.2.2.2.length<=s.1}
  (λs=>Dk 108 [(0,.d (ints ts)),(1,.d (bl evs)),(7,.sl 7 1),(8,.d (.int .i64 s.1.2.1)),(9,.ptr 9 1 0),(40,.d (ints e)),(41,.d (.int .i64 e.length)),(42,.d (.int .i64 s.1.1))]
   [(7,.row 6 239 (s.1.2.2.2.map fq),1),(9,.var [.d (.int .i64 s.1.2.2.1.1),.d (.int .i64 s.1.2.2.1.2)],1)]) (λs=>e.length-s.1.1) ⟨(0,a.length,(1,1),[]),by simp,qK,Q,⟨I.symm,by simp only;omega⟩,by simp⟩ ?_ λs=>?_
 ·refine TL ?_
  conv=>whnf
  rw[show(List.map (D.int .i64) e).length=e.length from by simp,show(List.map (D.int .i64) ts).length=a.length from by simp;exact v]
  repeat (first|exact trivial|refine And.intro (by first|with_reducible rfl|exact .inl rfl|(rw[next (by first|omega|(simp only;omega))])|rfl) ?_)
 obtain⟨⟨k,left,s,acc⟩,hk,hv,c,⟨hleft,hl200⟩,hacc⟩:=s;simp only at hk hv c hleft hl200 hacc
 conv=>whnf
 refine br (λh=>?_) (λh=>?_)
 ·have u:k<e.length:=by simpa using h
  have hm1:=J e[k] (ud u);rw[xe u]at c hleft
  conv=>whnf
  refine⟨⟨by first|omega|(simp only;omega),_,db e k u,?_⟩⟩;generalize e[k]=t at *;have hev:=PH t a;have hlf:=PT t a
  have S:0<=kY a (e.drop (k+1)):=by
   unfold kY
   have:∀l:List Int,0<=(l.map λt=>Q0 t a+YC t a).sum:=by
    intro l
    induction l with
    | nil=>simp
    | cons x r ih=>have:=PH x a;have:=PT x a;simp only[ul,List.sum_cons];omega
   exact this _
  have L:left=Q0 t a+YC t a+kY a (e.drop (k+1)):=by rw[hleft];rfl
  conv=>whnf
  refine loop {i:Nat // i<=a.length} (λi=>Dk 108 [(0,.d (ints ts)),(1,.d (bl evs)),(7,.sl 7 1),(8,.d (.int .i64 left)),(9,.ptr 9 1 0),(11,.d (.int .i64 t)),(12,.ptr 12 1 0),(40,.d (ints e)),(41,.d (.int .i64 e.length)),(42,.d (.int .i64 k)),(49,.d (ints ts)),(50,.d (.int .i64 a.length)),(51,.d (.int .i64 i.1))]
   [(7,.row 6 239 (acc.map fq),1),(9,.var [.d (.int .i64 s.1),.d (.int .i64 s.2)],1),(12,.var [.d (.int .i64 t),.d (.int .i64 left),.d (.int .i64 (Q0 t (a.take i.1))),.d (.int .i64 (YC t (a.take i.1))),.d (.int .i64 0),.d (.int .i64 0)],1)]) (λi=>a.length-i.1) ⟨0,by omega⟩ ?_ λi=>?_
  ·refine TL ?_
   conv=>whnf
   rw[show(List.map (D.int .i64) ts).length=a.length from by simp;exact v,show Q0 t (List.take 0 a)=0 from rfl,show YC t (List.take 0 a)=0 from rfl]
   repeat (first|exact trivial|refine And.intro (by first|with_reducible rfl|exact .inl rfl|(rw[next (by first|omega|(simp only;omega))])|rfl) ?_)
  obtain⟨i,E⟩:=i;have w:=mg t (a.take i);have y:=mK t (a.take i);have htl:(a.take i).length<=200:=by simp;omega
  conv=>whnf
  refine br (λh=>?_) (λh=>?_)
  ·have g:i<a.length:=by simpa using h
   have j:=mh t (a.take i) a[i];have m:=mL t (a.take i) a[i];rw[<-kN a i g]at j m;have hb0:=PH t (a.take i);have hb1:=PT t (a.take i);have T:=gt i g;have A:=ge i g
   conv=>whnf
   refine⟨⟨by first|omega|(simp only;omega),_,T,?_⟩⟩;generalize a[i]=p at j m A;obtain⟨x,b⟩:=p;simp only at j m A
   conv=>whnf
   refine br (λq=>?_) (λq=>?_)
   ·have q:x≠t:=by simpa using q
    rw[uo (λh=>q h.1)]at j m
    conv=>whnf
    refine⟨⟨i+1,g⟩,?_,by show a.length-(i+1)<a.length-i;omega⟩;refine TL ?_
    conv=>whnf
    rw[j,m,Int.add_zero,Int.add_zero]
    repeat (first|exact trivial|refine And.intro (by first|with_reducible rfl|exact .inl rfl|(rw[next (by first|omega|(simp only;omega))])|rfl) ?_)
   ·have qe:x=t:=by simpa using q
    conv=>whnf
    refine⟨⟨by first|omega|(simp only;omega),_,A,?_⟩⟩
    cases b with
    | true =>
      rw[uk ⟨qe,rfl⟩]at j;rw[uo (λh=>by cases h.2)]at m
      conv=>whnf
      refine⟨⟨i+1,g⟩,?_,by show a.length-(i+1)<a.length-i;omega⟩;refine TL ?_
      conv=>whnf
      rw[j,m,Int.add_zero,wrap_small (n:=Q0 t (List.take i a)+1) (by omega) (by omega)]
      repeat (first|exact trivial|refine And.intro (by first|with_reducible rfl|exact .inl rfl|(rw[next (by first|omega|(simp only;omega))])|rfl) ?_)
    | false =>
      rw[uo (λh=>by cases h.2)]at j;rw[uk ⟨qe,rfl⟩]at m
      conv=>whnf
      refine⟨⟨i+1,g⟩,?_,by show a.length-(i+1)<a.length-i;omega⟩;refine TL ?_
      conv=>whnf
      rw[j,m,Int.add_zero,wrap_small (n:=YC t (List.take i a)+1) (by omega) (by omega)]
      repeat (first|exact trivial|refine And.intro (by first|with_reducible rfl|exact .inl rfl|(rw[next (by first|omega|(simp only;omega))])|rfl) ?_)
  ·have B:a.length<=i:=by simpa using h
   rw[vM B];clear w y;have w:=mg t a;have y:=mK t a;have e1:IntKind.i64.wrap (left-Q0 t a)=left-Q0 t a:=wrap_small (by omega) (by omega)
   conv=>whnf
   rw[e1];refine A4 (of_ (left-Q0 t a) left (by omega) (by omega) (by omega)) ?_;rw[show nn (left-Q0 t a) left=left-Q0 t a from uo (by omega),show left.natAbs=left.toNat by omega];have C:VF (redF (left-Q0 t a) left.toNat):=Ym (by omega) (ko (by omega) (by omega) (by omega));unfold stepGo at c;generalize redF (left-Q0 t a) left.toNat=p at c C;generalize redE (left-Q0 t a) left.toNat=e0;have K:=mul_ s p hv C;have U:0<s.2*p.2:=Int.mul_pos (by have:=hv.1.1;omega) (by have:=C.1.1;omega);have o:=Ym (n:=s.1*p.1) (d:=(s.2*p.2).toNat) (by omega);have hE:redE (s.1*p.1) (s.2*p.2).toNat=bif okR (s.1*p.1) (s.2*p.2).toNat then 0 else 14:=rfl;generalize Q0 t a=ev at *;generalize YC t a=lf at *;obtain⟨M,p2⟩:=p;obtain⟨N,O⟩:=s
   conv=>whnf
   refine A4 K ?_;rw[hE];generalize redF ((N,O).1*(M,p2).1) ((N,O).2*(M,p2).2).toNat=r at *
   cases hok:okR ((N,O).1*(M,p2).1) ((N,O).2*(M,p2).2).toNat with
   | false =>
     rw[hok]at c;have c:(([]:List St),(14:Int))=R:=c;subst c;obtain⟨F,G⟩:=r;exact z33
   | true =>
     rw[hok]at c;have c:stepGo a (List.drop (k+1) e) (left-(ev+lf)) r (acc++[⟨t,left,ev,lf,r⟩])=R:=c;have o:=o hok;have e2:IntKind.i64.wrap (ev+lf)=ev+lf:=wrap_small (by omega) (by omega);have e3:IntKind.i64.wrap (left-(ev+lf))=left-(ev+lf):=wrap_small (by omega) (by omega);obtain⟨F,G⟩:=r
     conv=>whnf
     refine⟨⟨by decide +kernel,by kernel_rfl⟩,?_⟩
     conv=>whnf
     rw[e2,e3];refine⟨pI acc _ (by omega),?_⟩;rw[show List.map fq acc++[D.agg [D.int .i64 t,D.int .i64 left,D.int .i64 ev,D.int .i64 lf,D.int .i64 (F,G).1,D.int .i64 (F,G).2]]=(acc++[(⟨t,left,ev,lf,(F,G)⟩:St)]).map fq from by simp[fq]]
     conv=>whnf
     refine⟨⟨(k+1,left-(ev+lf),(F,G),acc++[⟨t,left,ev,lf,(F,G)⟩]),u,o,c,⟨by simp only;omega,by simp only;omega⟩,by simp;omega⟩,?_,by show e.length-(k+1)<e.length-k;omega⟩;refine TL ?_
     conv=>whnf
     repeat (first|exact trivial|refine And.intro (by first|with_reducible rfl|exact .inl rfl|(rw[next (by first|omega|(simp only;omega))])|rfl) ?_)
 ·have B:e.length<=k:=by simpa using h
  rw[List.drop_eq_nil_of_le B]at c;have c:(acc,(0:Int))=R:=c;subst c;exact z33
theorem oA:∀(ts:List Int)(a:List Bool),ts.length=a.length->∃b:PS,tm b=ts/\es b=a
 | [],[],_=>⟨[],rfl,rfl⟩
 | t :: ts,e :: a,h=>by
   obtain⟨b,c,d⟩:=oA ts a (by simpa using h);exact⟨(t,e) :: b,by rw[<-c];rfl,by rw[<-d];rfl⟩
 | [],_ :: _,h=>by simp at h
 | _ :: _,[],h=>by simp at h
def stepsG(ts:List Int)(evs:List Bool)(R:List St×Int):Prop :=
 (ts.length≠evs.length->R=([],17))/\(ts.length=evs.length->ts.length>200->R=([],1))/\(ts.length=evs.length->ts.length<=200->ts.any lrgT=true->R=([],2)) /\
 ∀ps,tm ps=ts->es ps=evs->ts.length<=200->ts.any lrgT=false->R=stepsF ps
theorem mN(v:Int):lrgT v=false↔0<=v/\v<=1000000:=by
 unfold lrgT;by_cases h:v<0<;>simp[h]<;>omega
theorem stepsAll(l:lw)(m:Xj)(ts:List Int)(a:List Bool)(R:List St×Int)(b:stepsG ts a R)(o:ts.length<=100000) :
 Ax prog 156 [.d (ints ts),.d (bl a)] (.tup [.d (sts R.1),.d (.int .i64 R.2)]):=by
 by_cases c:ts.length=a.length/\ts.length<=200/\ts.any lrgT=false
 ·obtain⟨n,e,g⟩:=c;obtain⟨i,rfl,rfl⟩:=oA ts a n;rw[b.2.2.2 i rfl rfl e g];refine rH l m i (by simpa [tm] using e) λp hp=>?_;have:=List.any_eq_false.1 g p.1 (wM (f:=λp:Int×Bool=>p.1) hp);exact(mN _).1 (by simpa using this)
 refine Du func156 (by kernel_rfl) ?_
 conv=>whnf
 refine br (λh=>?_) (λh=>?_)
 ·have:ts.length≠a.length:=by simp at h;omega
  rw[b.1 this];exact z33
 have d:ts.length=a.length:=by simp at h;omega
 conv=>whnf
 refine br (λh=>?_) (λh=>?_)
 ·have:ts.length>200:=by simp at h;omega
  rw[b.2.1 d this];exact z33
 have j:ts.length<=200:=by simp at h;omega
 have k:ts.any lrgT=true:=by
  cases q:ts.any lrgT with
  | true=>rfl
  | false=>exact absurd ⟨d,j,q⟩ c
 conv=>whnf
 refine A4 (contains _ lrgT ts (by omega) λx _=>og x) ?_;rw[k,b.2.2.1 d j k];exact z33
end Go.Proofs.YtaojdkijihbaoaaGreatDoor.P.F
namespace Go.Proofs.YtaojdkijihbaoaaGreatDoor.P
open Go.Abs Go.Proofs
set_option maxRecDepth 10000
theorem oh(ts:List Int)(c:List Bool):F.stepsG ts c (Og ts c):=by
 refine⟨λh=>?_,λd f=>?_,λd f g=>?_,λk d f g i=>?_⟩
 ·unfold Og;rw[uB h];rfl
 ·unfold Og;rw[un d,uB (by omega)];rfl
 ·unfold Og;rw[un d,un f,g];rfl
 ·have j:∀e:F.PS,(F.tm e).zip (F.es e)=e:=by
   intro e
   induction e with
   | nil=>rfl
   | cons p r ih =>
     obtain⟨a,b⟩:=p;show(a,b) :: (F.tm r).zip (F.es r)=_;rw[ih]
  subst d;subst f;unfold Og;rw[un (by simp[F.tm,F.es]),un g,i,j];rfl
theorem pV(l:List F.St):F.sts l=Ao 6 B7 (l.map oe):=by
 unfold F.sts Ao;rw[wI];rfl
theorem Qx(a:List Int)(b:List Bool)(R:List Bb×Int)(c:OT a b=some R):Ax prog 156 [.d (Ao 1 (D.int .i64) a),.d (Ao 1 D.bool b)] (.tup [.d (Ao 6 B7 R.1),.d (.int .i64 R.2)]):=by
 obtain⟨hr,c⟩:=Wj c;obtain rfl:=uc c;have:=F.stepsAll F.sortC F.compactC a b (Og a b) (oh a b) (uf hr);rw[pV]at this;exact this
instance:CS prog 156 (type_of% @Qx):=⟨@Qx⟩
