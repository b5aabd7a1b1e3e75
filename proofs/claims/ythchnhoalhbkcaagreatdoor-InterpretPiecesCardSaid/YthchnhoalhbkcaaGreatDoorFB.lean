/- FB -/
import Derived.Test.YthchnhoalhbkcaaGreatDoorFA
import Derived.Test.YthchnhoalhbkcaaGreatDoorP3HW
open Go.Proofs.Tryz
set_option linter.unusedVariables false
set_option linter.unusedSimpArgs false
namespace Go.Proofs.YthchnhoalhbkcaaGreatDoor.P.F
open Go.Abs Go.Proofs
theorem sortC:iR:=λxs hl=>ni lays189 (by kernel_rfl) 3 xs hl
theorem compactC:Wj:=λxs hl=>jU lays20 (by kernel_rfl) 3 xs hl
#print axioms sortC
#print axioms compactC
set_option maxRecDepth 10000
def db(s:St):D:=.agg [.int .i64 s.time,.int .i64 s.risk,.int .i64 s.ev,.int .i64 s.lf,.int .i64 s.fr.1,.int .i64 s.fr.2]
def sts(l:List St):D:=.list 6 (l.map db)
def bl(es:List Bool):D:=.list 1 (es.map D.bool)
def iI(ps:PS)(l:List Int):Int:=(l.map λt=>Qc t ps+XK t ps).sum
theorem ig{n:Int}{d:Nat}(h0:0<=n)(h1:n<=1152921504606846976)(h2:d<=1152921504606846976):okR n d=true:=by
 unfold okR;have a1:=sH n.natAbs (Nat.gcd d n.natAbs);have a2:=sH d (Nat.gcd d n.natAbs);rw[qX];exact⟨qh (by omega),qh (by omega)⟩
theorem Pd(t:Int)(ps:PS):0<=Qc t ps:=sr _
theorem Pn(t:Int)(ps:PS):0<=XK t ps:=sr _
theorem az(t:Int)(p:Int×Bool)(ps:PS):Qc t (p :: ps)+XK t (p :: ps)=(if p.1=t then 1 else 0)+(Qc t ps+XK t ps):=by
 obtain⟨x,b⟩:=p;unfold Qc XK;by_cases h:x=t
 ·cases b<;>simp[h]<;>omega
 ·simp[h]
theorem mI(l:List Int):iI [] l=0:=by
 unfold iI
 induction l with
 | nil=>rfl
 | cons t r ih=>simp only[qk,List.sum_cons,ih];rfl
theorem cw(p:Int×Bool)(ps:PS):∀(l:List Int),l.Pairwise (·<·)->iI (p :: ps) l=(if p.1∈l then 1 else 0)+iI ps l
 | [],_=>by simp[iI]
 | t :: r,h=>by
   have ih:=cw p ps r (List.pairwise_cons.1 h).2;unfold iI at ih ⊢;simp only[qk,List.sum_cons];rw[ih,az];by_cases e:p.1=t
   ·have hm:p.1 ∉ r:=λhm=>by have:=(List.pairwise_cons.1 h).1 _ hm;omega
    rw[qf e,qi hm,qf (by simp[e])];omega
   ·by_cases hm:p.1∈r
    ·rw[qi e,qf hm,qf (rh _ hm)];omega
    ·rw[qi e,qi hm,qi (by simp[e,hm])];omega
theorem fR(l:List Int)(hl:l.Pairwise (·<·)):∀ps:PS,(∀p∈ps,p.1∈l)->iI ps l=ps.length
 | [],_=>mI l
 | p :: ps,h=>by
   rw[cw p ps l hl,fR l hl ps (λq hq=>h q (.tail _ hq)),qf (h p (.head _)),qP];omega
theorem eN(t:Int):∀ps:PS,t∈tm ps->1<=Qc t ps+XK t ps
 | [],h=>by cases h
 | p :: ps,h=>by
   rw[az];have:=Pd t ps;have:=Pn t ps;rcases List.mem_cons.1 h with h|h
   ·rw[qf h.symm];omega
   ·have:=eN t ps h;split<;>omega
theorem jy(t:Int)(ps:PS)(p:Int×Bool):Qc t (ps++[p])=Qc t ps+(if p.1=t/\p.2=true then 1 else 0):=by
 unfold Qc;rw[List.filter_append,qz];obtain⟨x,b⟩:=p;by_cases h:x=t<;>cases b<;>simp[h]
theorem jN(t:Int)(ps:PS)(p:Int×Bool):XK t (ps++[p])=XK t ps+(if p.1=t/\p.2=false then 1 else 0):=by
 unfold XK;rw[List.filter_append,qz];obtain⟨x,b⟩:=p;by_cases h:x=t<;>cases b<;>simp[h]
theorem jx(t:Int)(ps:PS):Qc t ps<=ps.length:=by unfold Qc;have:=rl (λp:Int×Bool=>p.1==t&&p.2) ps;omega
theorem jM(t:Int)(ps:PS):XK t ps<=ps.length:=by unfold XK;have:=rl (λp:Int×Bool=>p.1==t&&!p.2) ps;omega
theorem kZ(v:Int):Ax prog 197 [.d (.int .i64 v)] (.d (.bool (lrgT v))):=by
 refine Da func197 (by kernel_rfl) ?_
 conv=>whnf
 exact⟨by rfl⟩
theorem jb:K7 prog 158=48:=by kernel_rfl
theorem mD:AB prog 158=6:=by kernel_rfl
theorem m6(B:List St)(y:D)(h:B.length<=1000000):(λn:Nat=>n+[y].length<=maxLen/\(n+[y].length)*K7 prog 158<=140737488355328/\([y]=[]\/0+1+1+1+1+1+1=AB prog 158)) (B.map db).length:=by
 rw[jb,mD];simp only[pX,qP,rI];exact⟨by unfold maxLen;omega,by omega,.inr (by trivial)⟩
set_option maxHeartbeats 4000000 in
theorem ou(hS:iR)(hC:Wj)(ps:PS)(hn:ps.length<=200)(hr:∀p∈ps,0<=p.1/\p.1<=1000000) :
 Ax prog 119 [.d (ints (tm ps)),.d (bl (es ps))] (.tup [.d (sts (stepsF ps).1),.d (.int .i64 (stepsF ps).2)]):=by
 refine Da func119 (by kernel_rfl) ?_
 conv=>whnf
 refine br (λh=>?_) (λ_=>?_)
 ·simp[tm,es]at h
 conv=>whnf
 refine br (λh=>?_) (λ_=>?_)
 ·simp[tm]at h;omega
 have hlen:(tm ps).length=ps.length:=by simp[tm]
 have hlenE:(es ps).length=ps.length:=by simp[es]
 conv=>whnf
 refine A0 (contains _ lrgT (tm ps) (by omega) λx _=>kZ x) ?_
 rw[show(tm ps).any lrgT=false from by
  rw[sV];intro x hx;obtain⟨p,hp,rfl⟩:=List.mem_map.1 hx;have:=hr p hp;unfold lrgT;simp[show ¬p.1<0 by omega,show ¬p.1>1000000 by omega]]
 conv=>whnf
 refine A0 (clone (tm ps) (by omega)) ?_
 conv=>whnf
 refine Hm (hS (tm ps) (by omega)) ?_
 conv=>whnf
 refine Hm (hC (Fc (tm ps)) (by rw[length_sortI];omega)) ?_;rw[show Go.Lib.compact (Fc (tm ps))=setI (tm ps)from rfl];obtain⟨hs1,hs2⟩:=UM (tm ps);have hsl:=setI_len (tm ps);have htot:iI ps (setI (tm ps))=ps.length:=fR _ hs1 ps λp hp=>(hs2 _).2 (sF (f:=λp:Int×Bool=>p.1) hp);generalize hR:stepsF ps=R;have hR2:stepGo ps (setI (tm ps)) ps.length (1,1) []=R:=hR;have hmem:∀t∈setI (tm ps),1<=Qc t ps+XK t ps:=λt ht=>eN t ps ((hs2 t).1 ht);generalize setI (tm ps)=D0 at *;clear hR hs1 hs2;have gt:∀i (hi:i<ps.length),((tm ps).map (D.int .i64))[((i:Nat):Int).toNat]?=some (D.int .i64 ps[i].1):=λi hi=>by simp[tm,hi]
 have ge:∀i (hi:i<ps.length),((es ps).map D.bool)[((i:Nat):Int).toNat]?=some (D.bool ps[i].2):=λi hi=>by simp[es,hi]
 generalize hts:tm ps=ts at *;generalize hes:es ps=evs at *
 conv=>whnf
 refine loop {s:Nat×Int×(Int×Int)×List St // s.1<=D0.length/\VF s.2.2.1/\stepGo ps (D0.drop s.1) s.2.1 s.2.2.1 s.2.2.2=R/\(s.2.1=iI ps (D0.drop s.1)/\s.2.1<=200)/\s.2.2.2.length<=s.1}
  (λs=>CJ 108 [(0,.d (ints ts)),(1,.d (bl evs)),(7,.sl 7 1),(8,.d (.int .i64 s.1.2.1)),(9,.ptr 9 1 0),(40,.d (ints D0)),(41,.d (.int .i64 D0.length)),(42,.d (.int .i64 s.1.1))]
   [(7,.row 6 158 (s.1.2.2.2.map db),1),(9,.var [.d (.int .i64 s.1.2.2.1.1),.d (.int .i64 s.1.2.2.1.2)],1)]) (λs=>D0.length-s.1.1) ⟨(0,ps.length,(1,1),[]),by simp,nC,hR2,⟨htot.symm,by simp only;omega⟩,by simp⟩ ?_ λs=>?_
 ·refine Rp ?_
  conv=>whnf
  rw[show(List.map (D.int .i64) D0).length=D0.length from by simp,show(List.map (D.int .i64) ts).length=ps.length from by simp;exact hlen]
  repeat (first|exact trivial|refine And.intro (by first|with_reducible rfl|exact .inl rfl|(rw[next (by first|omega|(simp only;omega))])|rfl) ?_)
 obtain⟨⟨k,left,s,acc⟩,hk,hv,hgo,⟨hleft,hl200⟩,hacc⟩:=s;simp only at hk hv hgo hleft hl200 hacc
 conv=>whnf
 refine br (λh=>?_) (λh=>?_)
 ·have hlt:k<D0.length:=by simpa using h
  have hm1:=hmem D0[k] (qa hlt);rw[sD hlt]at hgo hleft
  conv=>whnf
  refine⟨⟨by first|omega|(simp only;omega),_,bm D0 k hlt,?_⟩⟩;generalize D0[k]=t at *;have hev:=Pd t ps;have hlf:=Pn t ps
  have hrest:0<=iI ps (D0.drop (k+1)):=by
   unfold iI
   have:∀l:List Int,0<=(l.map λt=>Qc t ps+XK t ps).sum:=by
    intro l
    induction l with
    | nil=>simp
    | cons x r ih=>have:=Pd x ps;have:=Pn x ps;simp only[qk,List.sum_cons];omega
   exact this _
  have hleft2:left=Qc t ps+XK t ps+iI ps (D0.drop (k+1)):=by rw[hleft];rfl
  conv=>whnf
  refine loop {i:Nat // i<=ps.length} (λi=>CJ 108 [(0,.d (ints ts)),(1,.d (bl evs)),(7,.sl 7 1),(8,.d (.int .i64 left)),(9,.ptr 9 1 0),(11,.d (.int .i64 t)),(12,.ptr 12 1 0),(40,.d (ints D0)),(41,.d (.int .i64 D0.length)),(42,.d (.int .i64 k)),(49,.d (ints ts)),(50,.d (.int .i64 ps.length)),(51,.d (.int .i64 i.1))]
   [(7,.row 6 158 (acc.map db),1),(9,.var [.d (.int .i64 s.1),.d (.int .i64 s.2)],1),(12,.var [.d (.int .i64 t),.d (.int .i64 left),.d (.int .i64 (Qc t (ps.take i.1))),.d (.int .i64 (XK t (ps.take i.1))),.d (.int .i64 0),.d (.int .i64 0)],1)]) (λi=>ps.length-i.1) ⟨0,by omega⟩ ?_ λi=>?_
  ·refine Rp ?_
   conv=>whnf
   rw[show(List.map (D.int .i64) ts).length=ps.length from by simp;exact hlen,show Qc t (List.take 0 ps)=0 from rfl,show XK t (List.take 0 ps)=0 from rfl]
   repeat (first|exact trivial|refine And.intro (by first|with_reducible rfl|exact .inl rfl|(rw[next (by first|omega|(simp only;omega))])|rfl) ?_)
  obtain⟨i,hi⟩:=i;have hle1:=jx t (ps.take i);have hle2:=jM t (ps.take i);have htl:(ps.take i).length<=200:=by simp;omega
  conv=>whnf
  refine br (λh=>?_) (λh=>?_)
  ·have hlt2:i<ps.length:=by simpa using h
   have hn1:=jy t (ps.take i) ps[i];have hn2:=jN t (ps.take i) ps[i];rw[<-iB ps i hlt2]at hn1 hn2;have hb0:=Pd t (ps.take i);have hb1:=Pn t (ps.take i);have gt':=gt i hlt2;have ge':=ge i hlt2
   conv=>whnf
   refine⟨⟨by first|omega|(simp only;omega),_,gt',?_⟩⟩;generalize ps[i]=p at hn1 hn2 ge';obtain⟨x,b⟩:=p;simp only at hn1 hn2 ge'
   conv=>whnf
   refine br (λq=>?_) (λq=>?_)
   ·have q:x≠t:=by simpa using q
    rw[qi (λh=>q h.1)]at hn1 hn2
    conv=>whnf
    refine⟨⟨i+1,hlt2⟩,?_,by show ps.length-(i+1)<ps.length-i;omega⟩;refine Rp ?_
    conv=>whnf
    rw[hn1,hn2,Int.add_zero,Int.add_zero]
    repeat (first|exact trivial|refine And.intro (by first|with_reducible rfl|exact .inl rfl|(rw[next (by first|omega|(simp only;omega))])|rfl) ?_)
   ·have qe:x=t:=by simpa using q
    conv=>whnf
    refine⟨⟨by first|omega|(simp only;omega),_,ge',?_⟩⟩
    cases b with
    | true =>
      rw[qf ⟨qe,rfl⟩]at hn1;rw[qi (λh=>by cases h.2)]at hn2
      conv=>whnf
      refine⟨⟨i+1,hlt2⟩,?_,by show ps.length-(i+1)<ps.length-i;omega⟩;refine Rp ?_
      conv=>whnf
      rw[hn1,hn2,Int.add_zero,wrap_small (n:=Qc t (List.take i ps)+1) (by omega) (by omega)]
      repeat (first|exact trivial|refine And.intro (by first|with_reducible rfl|exact .inl rfl|(rw[next (by first|omega|(simp only;omega))])|rfl) ?_)
    | false =>
      rw[qi (λh=>by cases h.2)]at hn1;rw[qf ⟨qe,rfl⟩]at hn2
      conv=>whnf
      refine⟨⟨i+1,hlt2⟩,?_,by show ps.length-(i+1)<ps.length-i;omega⟩;refine Rp ?_
      conv=>whnf
      rw[hn1,hn2,Int.add_zero,wrap_small (n:=XK t (List.take i ps)+1) (by omega) (by omega)]
      repeat (first|exact trivial|refine And.intro (by first|with_reducible rfl|exact .inl rfl|(rw[next (by first|omega|(simp only;omega))])|rfl) ?_)
  ·have hge:ps.length<=i:=by simpa using h
   rw[qS hge];clear hle1 hle2;have hle1:=jx t ps;have hle2:=jM t ps;have e1:IntKind.i64.wrap (left-Qc t ps)=left-Qc t ps:=wrap_small (by omega) (by omega)
   conv=>whnf
   rw[e1];refine A0 (of_ (left-Qc t ps) left (by omega) (by omega) (by omega)) ?_;rw[show nn (left-Qc t ps) left=left-Qc t ps from qi (by omega),show left.natAbs=left.toNat by omega];have hvp:VF (redF (left-Qc t ps) left.toNat):=Xp (by omega) (ig (by omega) (by omega) (by omega));unfold stepGo at hgo;generalize redF (left-Qc t ps) left.toNat=p at hgo hvp;generalize redE (left-Qc t ps) left.toNat=e0;have hmul:=mul_ s p hv hvp;have hdpos:0<s.2*p.2:=Int.mul_pos (by have:=hv.1.1;omega) (by have:=hvp.1.1;omega);have hval:=Xp (n:=s.1*p.1) (d:=(s.2*p.2).toNat) (by omega);have hE:redE (s.1*p.1) (s.2*p.2).toNat=bif okR (s.1*p.1) (s.2*p.2).toNat then 0 else 14:=rfl;generalize Qc t ps=ev at *;generalize XK t ps=lf at *;obtain⟨p1,p2⟩:=p;obtain⟨s1,s2⟩:=s
   conv=>whnf
   refine A0 hmul ?_;rw[hE];generalize redF ((s1,s2).1*(p1,p2).1) ((s1,s2).2*(p1,p2).2).toNat=r at *
   cases hok:okR ((s1,s2).1*(p1,p2).1) ((s1,s2).2*(p1,p2).2).toNat with
   | false =>
     rw[hok]at hgo;have hgo:(([]:List St),(14:Int))=R:=hgo;subst hgo;obtain⟨r1,r2⟩:=r;exact z36
   | true =>
     rw[hok]at hgo;have hgo:stepGo ps (List.drop (k+1) D0) (left-(ev+lf)) r (acc++[⟨t,left,ev,lf,r⟩])=R:=hgo;have hval:=hval hok;have e2:IntKind.i64.wrap (ev+lf)=ev+lf:=wrap_small (by omega) (by omega);have e3:IntKind.i64.wrap (left-(ev+lf))=left-(ev+lf):=wrap_small (by omega) (by omega);obtain⟨r1,r2⟩:=r
     conv=>whnf
     refine⟨⟨by decide +kernel,by kernel_rfl⟩,?_⟩
     conv=>whnf
     rw[e2,e3];refine⟨m6 acc _ (by omega),?_⟩;rw[show List.map db acc++[D.agg [D.int .i64 t,D.int .i64 left,D.int .i64 ev,D.int .i64 lf,D.int .i64 (r1,r2).1,D.int .i64 (r1,r2).2]]=(acc++[(⟨t,left,ev,lf,(r1,r2)⟩:St)]).map db from by simp[db]]
     conv=>whnf
     refine⟨⟨(k+1,left-(ev+lf),(r1,r2),acc++[⟨t,left,ev,lf,(r1,r2)⟩]),hlt,hval,hgo,⟨by simp only;omega,by simp only;omega⟩,by simp;omega⟩,?_,by show D0.length-(k+1)<D0.length-k;omega⟩;refine Rp ?_
     conv=>whnf
     repeat (first|exact trivial|refine And.intro (by first|with_reducible rfl|exact .inl rfl|(rw[next (by first|omega|(simp only;omega))])|rfl) ?_)
 ·have hge:D0.length<=k:=by simpa using h
  rw[sW hge]at hgo;have hgo:(acc,(0:Int))=R:=hgo;subst hgo;exact z36
theorem lA:∀(ts:List Int)(evs:List Bool),ts.length=evs.length->∃ps:PS,tm ps=ts/\es ps=evs
 | [],[],_=>⟨[],rfl,rfl⟩
 | t :: ts,e :: evs,h=>by
   obtain⟨ps,h1,h2⟩:=lA ts evs (by simpa using h);exact⟨(t,e) :: ps,by rw[<-h1];rfl,by rw[<-h2];rfl⟩
 | [],_ :: _,h=>by simp at h
 | _ :: _,[],h=>by simp at h
def stepsG(ts:List Int)(evs:List Bool)(R:List St×Int):Prop :=
 (ts.length≠evs.length->R=([],17))/\(ts.length=evs.length->ts.length>200->R=([],1))/\(ts.length=evs.length->ts.length<=200->ts.any lrgT=true->R=([],2)) /\
 ∀ps,tm ps=ts->es ps=evs->ts.length<=200->ts.any lrgT=false->R=stepsF ps
theorem jR(v:Int):lrgT v=false↔0<=v/\v<=1000000:=by
 unfold lrgT;by_cases h:v<0<;>simp[h]<;>omega
theorem stepsAll(hS:iR)(hC:Wj)(ts:List Int)(evs:List Bool)(R:List St×Int)(hR:stepsG ts evs R)(h1:ts.length<=100000) :
 Ax prog 119 [.d (ints ts),.d (bl evs)] (.tup [.d (sts R.1),.d (.int .i64 R.2)]):=by
 by_cases c:ts.length=evs.length/\ts.length<=200/\ts.any lrgT=false
 ·obtain⟨c1,c2,c3⟩:=c;obtain⟨ps,rfl,rfl⟩:=lA ts evs c1;rw[hR.2.2.2 ps rfl rfl c2 c3];refine ou hS hC ps (by simpa [tm] using c2) λp hp=>?_;have:=List.any_eq_false.1 c3 p.1 (sF (f:=λp:Int×Bool=>p.1) hp);exact(jR _).1 (by simpa using this)
 refine Da func119 (by kernel_rfl) ?_
 conv=>whnf
 refine br (λh=>?_) (λh=>?_)
 ·have:ts.length≠evs.length:=by simp at h;omega
  rw[hR.1 this];exact z36
 have q1:ts.length=evs.length:=by simp at h;omega
 conv=>whnf
 refine br (λh=>?_) (λh=>?_)
 ·have:ts.length>200:=by simp at h;omega
  rw[hR.2.1 q1 this];exact z36
 have q2:ts.length<=200:=by simp at h;omega
 have q3:ts.any lrgT=true:=by
  cases q:ts.any lrgT with
  | true=>rfl
  | false=>exact absurd ⟨q1,q2,q⟩ c
 conv=>whnf
 refine A0 (contains _ lrgT ts (by omega) λx _=>kZ x) ?_;rw[q3,hR.2.2.1 q1 q2 q3];exact z36
end Go.Proofs.YthchnhoalhbkcaaGreatDoor.P.F
namespace Go.Proofs.YthchnhoalhbkcaaGreatDoor.P
open Go.Abs Go.Proofs
set_option maxRecDepth 10000
theorem lg(ts:List Int)(evs:List Bool):F.stepsG ts evs (Ny ts evs):=by
 refine⟨λh=>?_,λh1 h2=>?_,λh1 h2 h3=>?_,λps h1 h2 h3 h4=>?_⟩
 ·unfold Ny;rw[qC h];rfl
 ·unfold Ny;rw[qh h1,qC (by omega)];rfl
 ·unfold Ny;rw[qh h1,qh h2,h3];rfl
 ·have hz:∀qs:F.PS,(F.tm qs).zip (F.es qs)=qs:=by
   intro qs
   induction qs with
   | nil=>rfl
   | cons p r ih =>
     obtain⟨a,b⟩:=p;show(a,b) :: (F.tm r).zip (F.es r)=_;rw[ih]
  subst h1;subst h2;unfold Ny;rw[qh (by simp[F.tm,F.es]),qh h3,h4,hz];rfl
theorem mF(l:List F.St):F.sts l=An 6 By (l.map kY):=by
 unfold F.sts An;rw[List.map_map];rfl
theorem PZ(p0:List Int)(p1:List Bool)(R:List Ba×Int)(hF:Su p0 p1=some R):Ax prog 119 [.d (An 1 (D.int .i64) p0),.d (An 1 D.bool p1)] (.tup [.d (An 6 By R.1),.d (.int .i64 R.2)]):=by
 obtain⟨hr,hF⟩:=Vv hF;obtain rfl:=P3 hF;have:=F.stepsAll F.sortC F.compactC p0 p1 (Ny p0 p1) (lg p0 p1) (pZ hr);rw[mF]at this;exact this
instance:CS prog 119 (type_of% @PZ):=⟨@PZ⟩
end Go.Proofs.YthchnhoalhbkcaaGreatDoor.P
