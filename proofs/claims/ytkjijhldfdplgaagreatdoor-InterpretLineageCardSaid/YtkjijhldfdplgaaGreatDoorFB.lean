/- FB -/
import Derived.Test.YtkjijhldfdplgaaGreatDoorFA
import Derived.Test.YtkjijhldfdplgaaGreatDoorP3HW
open Go.Proofs.Tryz
set_option linter.all false
namespace Go.Proofs.YtkjijhldfdplgaaGreatDoor.P.F
open Go.Abs Go.Proofs
theorem sortC:lz:=λxs a=>qb lays189 (by kernel_rfl) 3 xs a
theorem compactC:Xz:=λxs a=>mO lays20 (by kernel_rfl) 3 xs a
#print axioms sortC
#print axioms compactC
set_option maxRecDepth 10000
def fX(s:St):D:=.agg [.int .i64 s.time,.int .i64 s.risk,.int .i64 s.ev,.int .i64 s.lf,.int .i64 s.fr.1,.int .i64 s.fr.2]
def sts(l:List St):D:=.list 6 (l.map fX)
def bl(es:List Bool):D:=.list 1 (es.map D.bool)
def lm(ps:PS)(l:List Int):Int:=(l.map λt=>QV t ps+YY t ps).sum
theorem kC{n:Int}{d:Nat}(a:0<=n)(b:n<=1152921504606846976)(c:d<=1152921504606846976):okR n d=true:=by
 unfold okR;have e:=wd n.natAbs (Nat.gcd d n.natAbs);have f:=wd d (Nat.gcd d n.natAbs);rw[uh];exact⟨ti (by omega),ti (by omega)⟩
theorem Qg(t:Int)(a:PS):0<=QV t a:=vJ _
theorem Qr(t:Int)(a:PS):0<=YY t a:=vJ _
theorem cY(t:Int)(p:Int×Bool)(a:PS):QV t (p :: a)+YY t (p :: a)=(if p.1=t then 1 else 0)+(QV t a+YY t a):=by
 obtain⟨x,b⟩:=p;unfold QV YY;by_cases h:x=t
 ·cases b<;>simp[h]<;>omega
 ·simp[h]
theorem pF(l:List Int):lm [] l=0:=by
 unfold lm
 induction l with
 | nil=>rfl
 | cons t r ih=>simp only[tg,List.sum_cons,ih];rfl
theorem fq(p:Int×Bool)(b:PS):∀(l:List Int),l.Pairwise (·<·)->lm (p :: b) l=(if p.1∈l then 1 else 0)+lm b l
 | [],_=>by simp[lm]
 | t :: r,h=>by
   have ih:=fq p b r (List.pairwise_cons.1 h).2;unfold lm at ih ⊢;simp only[tg,List.sum_cons];rw[ih,cY];by_cases e:p.1=t
   ·have a:p.1 ∉ r:=λa=>by have:=(List.pairwise_cons.1 h).1 _ a;omega
    rw[tf e,tn a,tf (by simp[e])];omega
   ·by_cases a:p.1∈r
    ·rw[tn e,tf a,tf (ut _ a)];omega
    ·rw[tn e,tn a,tn (by simp[e,a])];omega
theorem jr(l:List Int)(b:l.Pairwise (·<·)):∀a:PS,(∀p∈a,p.1∈l)->lm a l=a.length
 | [],_=>pF l
 | p :: a,h=>by
   rw[fq p a l b,jr l b a (λq hq=>h q (.tail _ hq)),tf (h p (.head _)),tS];omega
theorem iw(t:Int):∀a:PS,t∈tm a->1<=QV t a+YY t a
 | [],h=>by cases h
 | p :: a,h=>by
   rw[cY];have:=Qg t a;have:=Qr t a;rcases List.mem_cons.1 h with h|h
   ·rw[tf h.symm];omega
   ·have:=iw t a h;split<;>omega
theorem mj(t:Int)(a:PS)(p:Int×Bool):QV t (a++[p])=QV t a+(if p.1=t/\p.2=true then 1 else 0):=by
 unfold QV;rw[uS,tF];obtain⟨x,b⟩:=p;by_cases h:x=t<;>cases b<;>simp[h]
theorem mH(t:Int)(a:PS)(p:Int×Bool):YY t (a++[p])=YY t a+(if p.1=t/\p.2=false then 1 else 0):=by
 unfold YY;rw[uS,tF];obtain⟨x,b⟩:=p;by_cases h:x=t<;>cases b<;>simp[h]
theorem mi(t:Int)(a:PS):QV t a<=a.length:=by unfold QV;have:=ug (λp:Int×Bool=>p.1==t&&p.2) a;omega
theorem mG(t:Int)(a:PS):YY t a<=a.length:=by unfold YY;have:=ug (λp:Int×Bool=>p.1==t&&!p.2) a;omega
theorem nT(v:Int):Ay prog 214 [.d (.int .i64 v)] (.d (.bool (lrgT v))):=by
 refine D2 func214 (by kernel_rfl) ?_
 conv=>whnf
 exact⟨by rfl⟩
theorem lJ:Lm prog 173=48:=by kernel_rfl
theorem p8:AF prog 173=6:=by kernel_rfl
theorem pp(B:List St)(y:D)(h:B.length<=1000000):(λn:Nat=>n+[y].length<=maxLen/\(n+[y].length)*Lm prog 173<=140737488355328/\([y]=[]\/0+1+1+1+1+1+1=AF prog 173)) (B.map fX).length:=by
 rw[lJ,p8];simp only[sX,tS,uP];exact⟨by unfold maxLen;omega,by omega,.inr (by trivial)⟩
set_option maxHeartbeats 4000000 in
theorem qY(X:lz)(Y:Xz)(a:PS)(hn:a.length<=200)(hr:∀p∈a,0<=p.1/\p.1<=1000000) :
 Ay prog 135 [.d (ints (tm a)),.d (bl (es a))] (.tup [.d (sts (stepsF a).1),.d (.int .i64 (stepsF a).2)]):=by
 refine D2 func135 (by kernel_rfl) ?_
 conv=>whnf
 refine br (λh=>?_) (λ_=>?_)
 ·simp[tm,es]at h
 conv=>whnf
 refine br (λh=>?_) (λ_=>?_)
 ·simp[tm]at h;omega
 have v:(tm a).length=a.length:=by simp[tm]
 have P:(es a).length=a.length:=by simp[es]
 conv=>whnf
 refine A3 (contains _ lrgT (tm a) (by omega) λx _=>nT x) ?_
 rw[show(tm a).any lrgT=false from by
  rw[wt];intro x hx;obtain⟨p,hp,rfl⟩:=List.mem_map.1 hx;have:=hr p hp;unfold lrgT;simp[show ¬p.1<0 by omega,show ¬p.1>1000000 by omega]]
 conv=>whnf
 refine A3 (clone (tm a) (by omega)) ?_
 conv=>whnf
 refine Ew (X (tm a) (by omega)) ?_
 conv=>whnf
 refine Ew (Y (FB (tm a)) (by rw[length_sortI];omega)) ?_;rw[show Go.Lib.compact (FB (tm a))=setI (tm a)from rfl];obtain⟨H,z⟩:=VW (tm a);have Z:=setI_len (tm a);have I:lm a (setI (tm a))=a.length:=jr _ H a λp hp=>(z _).2 (vC (f:=λp:Int×Bool=>p.1) hp);generalize V:stepsF a=R;have Q:stepGo a (setI (tm a)) a.length (1,1) []=R:=V;have J:∀t∈setI (tm a),1<=QV t a+YY t a:=λt ht=>iw t a ((z t).1 ht);generalize setI (tm a)=e at *;clear V H z;have gt:∀i (E:i<a.length),((tm a).map (D.int .i64))[((i:Nat):Int).toNat]?=some (D.int .i64 a[i].1):=λi E=>by simp[tm,E]
 have ge:∀i (E:i<a.length),((es a).map D.bool)[((i:Nat):Int).toNat]?=some (D.bool a[i].2):=λi E=>by simp[es,E]
 generalize hts:tm a=ts at *;generalize hes:es a=evs at *
 conv=>whnf
 refine loop {s:Nat×Int×(Int×Int)×List St // s.1<=e.length/\VF s.2.2.1/\stepGo a (e.drop s.1) s.2.1 s.2.2.1 s.2.2.2=R/\(s.2.1=lm a (e.drop s.1)/\s.2.1<=200)/\s.2.2.2.length<=s.1}
  (λs=>CY 108 [(0,.d (ints ts)),(1,.d (bl evs)),(7,.sl 7 1),(8,.d (.int .i64 s.1.2.1)),(9,.ptr 9 1 0),(40,.d (ints e)),(41,.d (.int .i64 e.length)),(42,.d (.int .i64 s.1.1))]
   [(7,.row 6 173 (s.1.2.2.2.map fX),1),(9,.var [.d (.int .i64 s.1.2.2.1.1),.d (.int .i64 s.1.2.2.1.2)],1)]) (λs=>e.length-s.1.1) ⟨(0,a.length,(1,1),[]),by simp,qq,Q,⟨I.symm,by simp only;omega⟩,by simp⟩ ?_ λs=>?_
 ·refine R1 ?_
  conv=>whnf
  rw[show(List.map (D.int .i64) e).length=e.length from by simp,show(List.map (D.int .i64) ts).length=a.length from by simp;exact v]
  repeat (first|exact trivial|refine And.intro (by first|with_reducible rfl|exact .inl rfl|(rw[next (by first|omega|(simp only;omega))])|rfl) ?_)
 obtain⟨⟨k,left,s,acc⟩,hk,hv,c,⟨hleft,hl200⟩,hacc⟩:=s;simp only at hk hv c hleft hl200 hacc
 conv=>whnf
 refine br (λh=>?_) (λh=>?_)
 ·have u:k<e.length:=by simpa using h
  have hm1:=J e[k] (ta u);rw[vW u]at c hleft
  conv=>whnf
  refine⟨⟨by first|omega|(simp only;omega),_,dP e k u,?_⟩⟩;generalize e[k]=t at *;have hev:=Qg t a;have hlf:=Qr t a
  have S:0<=lm a (e.drop (k+1)):=by
   unfold lm
   have:∀l:List Int,0<=(l.map λt=>QV t a+YY t a).sum:=by
    intro l
    induction l with
    | nil=>simp
    | cons x r ih=>have:=Qg x a;have:=Qr x a;simp only[tg,List.sum_cons];omega
   exact this _
  have L:left=QV t a+YY t a+lm a (e.drop (k+1)):=by rw[hleft];rfl
  conv=>whnf
  refine loop {i:Nat // i<=a.length} (λi=>CY 108 [(0,.d (ints ts)),(1,.d (bl evs)),(7,.sl 7 1),(8,.d (.int .i64 left)),(9,.ptr 9 1 0),(11,.d (.int .i64 t)),(12,.ptr 12 1 0),(40,.d (ints e)),(41,.d (.int .i64 e.length)),(42,.d (.int .i64 k)),(49,.d (ints ts)),(50,.d (.int .i64 a.length)),(51,.d (.int .i64 i.1))]
   [(7,.row 6 173 (acc.map fX),1),(9,.var [.d (.int .i64 s.1),.d (.int .i64 s.2)],1),(12,.var [.d (.int .i64 t),.d (.int .i64 left),.d (.int .i64 (QV t (a.take i.1))),.d (.int .i64 (YY t (a.take i.1))),.d (.int .i64 0),.d (.int .i64 0)],1)]) (λi=>a.length-i.1) ⟨0,by omega⟩ ?_ λi=>?_
  ·refine R1 ?_
   conv=>whnf
   rw[show(List.map (D.int .i64) ts).length=a.length from by simp;exact v,show QV t (List.take 0 a)=0 from rfl,show YY t (List.take 0 a)=0 from rfl]
   repeat (first|exact trivial|refine And.intro (by first|with_reducible rfl|exact .inl rfl|(rw[next (by first|omega|(simp only;omega))])|rfl) ?_)
  obtain⟨i,E⟩:=i;have w:=mi t (a.take i);have y:=mG t (a.take i);have htl:(a.take i).length<=200:=by simp;omega
  conv=>whnf
  refine br (λh=>?_) (λh=>?_)
  ·have g:i<a.length:=by simpa using h
   have j:=mj t (a.take i) a[i];have m:=mH t (a.take i) a[i];rw[<-kT a i g]at j m;have hb0:=Qg t (a.take i);have hb1:=Qr t (a.take i);have T:=gt i g;have A:=ge i g
   conv=>whnf
   refine⟨⟨by first|omega|(simp only;omega),_,T,?_⟩⟩;generalize a[i]=p at j m A;obtain⟨x,b⟩:=p;simp only at j m A
   conv=>whnf
   refine br (λq=>?_) (λq=>?_)
   ·have q:x≠t:=by simpa using q
    rw[tn (λh=>q h.1)]at j m
    conv=>whnf
    refine⟨⟨i+1,g⟩,?_,by show a.length-(i+1)<a.length-i;omega⟩;refine R1 ?_
    conv=>whnf
    rw[j,m,Int.add_zero,Int.add_zero]
    repeat (first|exact trivial|refine And.intro (by first|with_reducible rfl|exact .inl rfl|(rw[next (by first|omega|(simp only;omega))])|rfl) ?_)
   ·have W:x=t:=by simpa using q
    conv=>whnf
    refine⟨⟨by first|omega|(simp only;omega),_,A,?_⟩⟩
    cases b with
    | true =>
      rw[tf ⟨W,rfl⟩]at j;rw[tn (λh=>by cases h.2)]at m
      conv=>whnf
      refine⟨⟨i+1,g⟩,?_,by show a.length-(i+1)<a.length-i;omega⟩;refine R1 ?_
      conv=>whnf
      rw[j,m,Int.add_zero,wrap_small (n:=QV t (List.take i a)+1) (by omega) (by omega)]
      repeat (first|exact trivial|refine And.intro (by first|with_reducible rfl|exact .inl rfl|(rw[next (by first|omega|(simp only;omega))])|rfl) ?_)
    | false =>
      rw[tn (λh=>by cases h.2)]at j;rw[tf ⟨W,rfl⟩]at m
      conv=>whnf
      refine⟨⟨i+1,g⟩,?_,by show a.length-(i+1)<a.length-i;omega⟩;refine R1 ?_
      conv=>whnf
      rw[j,m,Int.add_zero,wrap_small (n:=YY t (List.take i a)+1) (by omega) (by omega)]
      repeat (first|exact trivial|refine And.intro (by first|with_reducible rfl|exact .inl rfl|(rw[next (by first|omega|(simp only;omega))])|rfl) ?_)
  ·have B:a.length<=i:=by simpa using h
   rw[uv B];clear w y;have w:=mi t a;have y:=mG t a;have e1:IntKind.i64.wrap (left-QV t a)=left-QV t a:=wrap_small (by omega) (by omega)
   conv=>whnf
   rw[e1];refine A3 (of_ (left-QV t a) left (by omega) (by omega) (by omega)) ?_;rw[show nn (left-QV t a) left=left-QV t a from tn (by omega),show left.natAbs=left.toNat by omega];have C:VF (redF (left-QV t a) left.toNat):=Y5 (by omega) (kC (by omega) (by omega) (by omega));unfold stepGo at c;generalize redF (left-QV t a) left.toNat=p at c C;generalize redE (left-QV t a) left.toNat=e0;have K:=mul_ s p hv C;have U:0<s.2*p.2:=Int.mul_pos (by have:=hv.1.1;omega) (by have:=C.1.1;omega);have o:=Y5 (n:=s.1*p.1) (d:=(s.2*p.2).toNat) (by omega);have hE:redE (s.1*p.1) (s.2*p.2).toNat=bif okR (s.1*p.1) (s.2*p.2).toNat then 0 else 14:=rfl;generalize QV t a=ev at *;generalize YY t a=lf at *;obtain⟨M,p2⟩:=p;obtain⟨N,O⟩:=s
   conv=>whnf
   refine A3 K ?_;rw[hE];generalize redF ((N,O).1*(M,p2).1) ((N,O).2*(M,p2).2).toNat=r at *
   cases hok:okR ((N,O).1*(M,p2).1) ((N,O).2*(M,p2).2).toNat with
   | false =>
     rw[hok]at c;have c:(([]:List St),(14:Int))=R:=c;subst c;obtain⟨F,G⟩:=r;exact z38
   | true =>
     rw[hok]at c;have c:stepGo a (List.drop (k+1) e) (left-(ev+lf)) r (acc++[⟨t,left,ev,lf,r⟩])=R:=c;have o:=o hok;have e2:IntKind.i64.wrap (ev+lf)=ev+lf:=wrap_small (by omega) (by omega);have e3:IntKind.i64.wrap (left-(ev+lf))=left-(ev+lf):=wrap_small (by omega) (by omega);obtain⟨F,G⟩:=r
     conv=>whnf
     refine⟨⟨by decide +kernel,by kernel_rfl⟩,?_⟩
     conv=>whnf
     rw[e2,e3];refine⟨pp acc _ (by omega),?_⟩;rw[show List.map fX acc++[D.agg [D.int .i64 t,D.int .i64 left,D.int .i64 ev,D.int .i64 lf,D.int .i64 (F,G).1,D.int .i64 (F,G).2]]=(acc++[(⟨t,left,ev,lf,(F,G)⟩:St)]).map fX from by simp[fX]]
     conv=>whnf
     refine⟨⟨(k+1,left-(ev+lf),(F,G),acc++[⟨t,left,ev,lf,(F,G)⟩]),u,o,c,⟨by simp only;omega,by simp only;omega⟩,by simp;omega⟩,?_,by show e.length-(k+1)<e.length-k;omega⟩;refine R1 ?_
     conv=>whnf
     repeat (first|exact trivial|refine And.intro (by first|with_reducible rfl|exact .inl rfl|(rw[next (by first|omega|(simp only;omega))])|rfl) ?_)
 ·have B:e.length<=k:=by simpa using h
  rw[wu B]at c;have c:(acc,(0:Int))=R:=c;subst c;exact z38
theorem ov:∀(ts:List Int)(a:List Bool),ts.length=a.length->∃b:PS,tm b=ts/\es b=a
 | [],[],_=>⟨[],rfl,rfl⟩
 | t :: ts,e :: a,h=>by
   obtain⟨b,c,d⟩:=ov ts a (by simpa using h);exact⟨(t,e) :: b,by rw[<-c];rfl,by rw[<-d];rfl⟩
 | [],_ :: _,h=>by simp at h
 | _ :: _,[],h=>by simp at h
def stepsG(ts:List Int)(evs:List Bool)(R:List St×Int):Prop :=
 (ts.length≠evs.length->R=([],17))/\(ts.length=evs.length->ts.length>200->R=([],1))/\(ts.length=evs.length->ts.length<=200->ts.any lrgT=true->R=([],2)) /\
 ∀ps,tm ps=ts->es ps=evs->ts.length<=200->ts.any lrgT=false->R=stepsF ps
theorem mL(v:Int):lrgT v=false↔0<=v/\v<=1000000:=by
 unfold lrgT;by_cases h:v<0<;>simp[h]<;>omega
theorem stepsAll(l:lz)(m:Xz)(ts:List Int)(a:List Bool)(R:List St×Int)(b:stepsG ts a R)(o:ts.length<=100000) :
 Ay prog 135 [.d (ints ts),.d (bl a)] (.tup [.d (sts R.1),.d (.int .i64 R.2)]):=by
 by_cases c:ts.length=a.length/\ts.length<=200/\ts.any lrgT=false
 ·obtain⟨n,e,g⟩:=c;obtain⟨i,rfl,rfl⟩:=ov ts a n;rw[b.2.2.2 i rfl rfl e g];refine qY l m i (by simpa [tm] using e) λp hp=>?_;have:=List.any_eq_false.1 g p.1 (vC (f:=λp:Int×Bool=>p.1) hp);exact(mL _).1 (by simpa using this)
 refine D2 func135 (by kernel_rfl) ?_
 conv=>whnf
 refine br (λh=>?_) (λh=>?_)
 ·have:ts.length≠a.length:=by simp at h;omega
  rw[b.1 this];exact z38
 have d:ts.length=a.length:=by simp at h;omega
 conv=>whnf
 refine br (λh=>?_) (λh=>?_)
 ·have:ts.length>200:=by simp at h;omega
  rw[b.2.1 d this];exact z38
 have j:ts.length<=200:=by simp at h;omega
 have k:ts.any lrgT=true:=by
  cases q:ts.any lrgT with
  | true=>rfl
  | false=>exact absurd ⟨d,j,q⟩ c
 conv=>whnf
 refine A3 (contains _ lrgT ts (by omega) λx _=>nT x) ?_;rw[k,b.2.2.1 d j k];exact z38
end Go.Proofs.YtkjijhldfdplgaaGreatDoor.P.F
namespace Go.Proofs.YtkjijhldfdplgaaGreatDoor.P
open Go.Abs Go.Proofs
set_option maxRecDepth 10000
theorem nU(ts:List Int)(c:List Bool):F.stepsG ts c (Ov ts c):=by
 refine⟨λh=>?_,λd f=>?_,λd f g=>?_,λk d f g i=>?_⟩
 ·unfold Ov;rw[tD h];rfl
 ·unfold Ov;rw[ti d,tD (by omega)];rfl
 ·unfold Ov;rw[ti d,ti f,g];rfl
 ·have j:∀e:F.PS,(F.tm e).zip (F.es e)=e:=by
   intro e
   induction e with
   | nil=>rfl
   | cons p r ih =>
     obtain⟨a,b⟩:=p;show(a,b) :: (F.tm r).zip (F.es r)=_;rw[ih]
  subst d;subst f;unfold Ov;rw[ti (by simp[F.tm,F.es]),ti g,i,j];rfl
theorem pB(l:List F.St):F.sts l=Am 6 Bm (l.map nS):=by
 unfold F.sts Am;rw[vS];rfl
theorem QR(a:List Int)(b:List Bool)(R:List Bd×Int)(c:Pk a b=some R):Ay prog 135 [.d (Am 1 (D.int .i64) a),.d (Am 1 D.bool b)] (.tup [.d (Am 6 Bm R.1),.d (.int .i64 R.2)]):=by
 obtain⟨hr,c⟩:=WE c;obtain rfl:=sY c;have:=F.stepsAll F.sortC F.compactC a b (Ov a b) (nU a b) (tb hr);rw[pB]at this;exact this
instance:CS prog 135 (type_of% @QR):=⟨@QR⟩
