/- QD -/
import Derived.Test.YtkjijhldfdplgaaGreatDoorQC
open Go.IntKind (i64 u64)
set_option linter.all false
namespace Go.Proofs.YtkjijhldfdplgaaGreatDoor.P
open Go Go.Abs Go.Proofs
set_option maxRecDepth 100000
variable {s:Aa} {x:Ao} {n:Nat}
def TI(x:Ao)(i j:Nat):Int:=(x.C.getD j []).getD i 0
theorem iy{i j:Nat}(a:j<x.C.length)(b:i<x.C[j].length):x.C[j][i]=TI x i j:=by
 unfold TI;grind
theorem aP(hx:Wk s x n){i j:Nat}(b:1<=i)(c:i<s.A.length)(a:j<x.C.length):Z1 s s.A[i] (TI x i j):=by
 have hr:=hx.rows _ (ta a);have d:=hr.1;exact hr.2.2.2 i _ _ b (P3 c) (by rw[P3 (by omega),iy a])
theorem dU(c:DS s)(hx:Wk s x n){i j:Nat}(h:1<=i)(l:i<s.A.length)(a:j<x.C.length)(b:Int):Be s x j i b=(D6 s i (Da s i) (TI x i j) b).bind λp=>some (p.1,p.2):=by
 have d:=c.cols_length;obtain⟨k,rfl⟩:∃k,i=k+1:=⟨i-1,by omega⟩;have hk:k<(LY s).length:=by rw[H1];omega
 have hr:=(hx.rows _ (ta a)).1;unfold Be;have e:By x.H (λa0=>IR a0 ((k+1:Nat):Int))=some (G6 (λp=>p.B==((k+1:Nat):Int)) x.H):=IS (λ_ _=>rfl) (by rw[hx.picks,H1];omega)
 have f:x.H.findIdx? (λp=>p.B==((k+1:Nat):Int))=some k:=by
  rw[hx.picks,vu];refine⟨hk,by rw[Hf];exact w8 _,λj a=>?_⟩;rw[Hf];grind
 have g:G6 (λp=>p.B==((k+1:Nat):Int)) x.H=(k:Int):=by unfold G6;rw[f]
 rw[e,g,tc,EL,hx.picks,DG hk,tc,Hf,DG a,tc,show i64.wrap ((k:Int)+1)=((k+1:Nat):Int)from CB,DG (by omega),tc,iy a]
theorem dV(d:DS s)(hx:Wk s x n){i j:Nat}(c:1<=i)(a:i<s.A.length)(h:ER s.A[i])(g:j<x.C.length){b:Int}(k:1<=b)(e:b<=Da s i):Be s x j i b=some (mv s.A[i] b (TI x i j),true)/\MV s.A[i] (TI x i j):=by
 have f:=aP hx c a g;have l:Da s i=s.A[i].S.length:=by rw[Es a,Db h]
 have m:mv s.A[i] (Da s i) (TI x i j)=TI x i j:=by rw[<-Sv (s:=s) h];exact Xy d c a f
 have:=kE d c a h k e (by grind) (f.meas h);rw[m]at this;refine⟨?_,f.meas h⟩;rw[dU d hx c a g,this];rfl
theorem ZR(c:DS s)(hx:Wk s x n){i j:Nat}(a:1<=i)(b:i<s.A.length)(h:ER s.A[i])(d:j<x.C.length):Be s x j i (Da s i)=some (TI x i j,true)/\MV s.A[i] (TI x i j):=by
 have e:=c.fin_ok a b;have:=dV c hx a b h d e.1 (ua _);rw[<-Sv (s:=s) h,Xy c a b (aP hx a b d)]at this;exact this
theorem gG{c:Au}(h:ER c){v:Int}(a:MV c v)(b:v≠CF):-46<=v/\v<=46:=by
 obtain⟨d,e⟩:=h.low;obtain⟨f,g⟩:=h.high;rcases a with a|a
 all_goals grind
def RW(x:Ao)(cols r:List Int):Prop:=r.length<=x.C.length/\∀v∈r,∃j:Nat,v=(j:Int)/\j<x.C.length/\∀c∈cols,TI x c.toNat j≠CF
theorem iB{l:List Int}{p:Int->Option Bool}(q:Int->Bool)(hp:∀x∈l,p x=some (q x))(a:l.length<=1000000):DK l p=some (l.filter λx=>!q x):=by
 unfold DK;rw[show(l.all λx=>(p x).isSome)=true from List.all_eq_true.2 λx hx=>by rw[hp x hx];rfl,Sd (by omega)];refine congrArg some (List.filter_congr λx hx=>?_);grind
theorem Vk(a:DS s)(hx:Wk s x n)(f:n<=200){c:Ah}(h:GC s c){d:Nat}(hd:40<=d){cols:List Int}(m:cols.length<=10/\∀v∈cols,IM s v):Ok (BP d s x c cols) (RW x cols):=by
 have t:=hx.len;unfold BP;refine qr ((hx.gx a f).check a) (y3 rfl ((Qk a hx f h hd).bind λr hr=>?_))
 have hp:∀v∈r,Cs v cols s x=some (cols.any λc=>TI x c.toNat v.toNat==CF):=λv b=>by
  obtain⟨j,rfl,g⟩:=hr.2 v b;unfold Cs;rw[XH (p:=λa0=>C1 a0 s x (j:Int)) (λc=>TI x c.toNat j==CF) (λc e=>Ok.val ?_) (by omega)]
  ·rfl
  ·obtain⟨i,rfl,k,l,o⟩:=m.2 c e;unfold C1;exact qr (a.pFinest k l) (qr (ZR a hx k l o g).1 (ur rfl))
 refine qr (iB (p:=λa0=>Cs a0 cols s x) _ hp (by have:=hr.1;omega)) (ur ⟨tw (ug _ _) hr.1,λv b=>?_⟩);obtain⟨q,u⟩:=List.mem_filter.1 b;obtain⟨j,rfl,g⟩:=hr.2 v q;grind
def SM(l:List Int):Prop:=∀v∈l,-46<=v/\v<=46
theorem PZ(o:DS s)(hx:Wk s x n){m:Int}(u:IM s m){cols r:List Int}(d:m∈cols)(hr:RW x cols r)(z:n<=200):Ok (Bu s x r m) λl=>l.length=r.length/\SM l:=by
 have A:=hx.len;have w:=hr.1;obtain⟨i,rfl,p,q,t⟩:=u;unfold Bu;refine y9 r.length (λk b=>b.length=k/\SM b) ⟨rfl,(λv f=>by cases f)⟩ (λrec b c=>Ok.f (ur c)) λrec k b hk c ih=>Ok.t (y4 hk (qr (o.pFinest p q) ?_));obtain⟨j,y,g,h⟩:=hr.2 _ (ta hk);rw[y];obtain⟨e,f⟩:=ZR o hx p q t g;refine qr e (Ok.rm (by grind) (ih _ _ CB ⟨by simp;exact c.1,λv a=>?_⟩));rcases List.mem_append.1 a with a|a
 ·exact c.2 v a
 ·rw[List.mem_singleton.1 a];have:=h _ d;rw[tu]at this;exact gG t f this
theorem SC(d:DS s)(hx:Wk s x n)(g:n<=200){cols r:List Int}(hr:RW x cols r):Ok (BV x r) λl=>l.length=r.length:=by
 have h:=hx.len;have e:=hr.1;unfold BV;refine y9 r.length (λk b=>b.length=k) rfl (λrec b c=>Ok.f (ur c)) λrec k b hk c ih=>Ok.t (y4 hk ?_);obtain⟨j,f,a,_⟩:=hr.2 _ (ta hk);rw[f];exact y4 a (qr (GM ((hx.rows _ (ta a)).ne d)) (Ok.rm (by simp;omega) (ih _ _ CB (by grind))))
theorem IX.rw{r:List Int}(h:IX x r):RW x [] r:=⟨h.1,λv a=>by
 obtain⟨j,b,d⟩:=h.2 v a;exact⟨j,b,d,λc e=>by cases e⟩⟩
theorem Y6{m:Int}{d:Nat}(hd:0<d)(h:(Xl m d).2=0):Vt (Xl m d).1=true:=by
 have ok:F.okR m d=true:=by
  change F.redE m d=0 at h;unfold F.redE at h;grind
 have j:0<Nat.gcd d m.natAbs:=uV _ hd;have f:=ok;unfold F.okR at f;obtain⟨k,i⟩:=Bool.and_eq_true_iff.1 f;have k:=tb k;have i:=tb i
 have e:Xl m d=({ L:=((m.natAbs/Nat.gcd d m.natAbs:Nat):Int)*m.sign,N:=((d/Nat.gcd d m.natAbs:Nat):Int) },0):=by
  unfold Xl F.redF F.redE;rw[ok];rfl
 have l:1<=d/Nat.gcd d m.natAbs:=Nat.div_pos (Nat.gcd_le_left _ hd) j;have c:Nat.Coprime (d/Nat.gcd d m.natAbs) (m.natAbs/Nat.gcd d m.natAbs):=Nat.coprime_div_gcd_div_gcd j;rw[e];unfold Vt;generalize m.natAbs/Nat.gcd d m.natAbs=a at *;generalize o:d/Nat.gcd d m.natAbs=b at *;refine ti ⟨⟨by show(1:Int)<=(b:Int);omega,i⟩,?_⟩;show(-1152921504606846976<=(a:Int)*m.sign/\(a:Int)*m.sign<=1152921504606846976)/\Nat.gcd ((a:Int)*m.sign).natAbs (b:Int).natAbs=1;rcases Int.lt_trichotomy m 0 with g|g|g
 ·rw[ux g];refine⟨by omega,?_⟩;rw[show((a:Int) * -1).natAbs=a by omega,wg,vH];exact c
 ·subst g;have:b=1:=by rw[<-o];simp;exact Nat.div_self hd
  grind
 ·rw[vG g];refine⟨by omega,?_⟩;rw[show((a:Int)*1).natAbs=a by omega,wg,vH];exact c
def FR(r:AO×Int):Prop:=r.2=0->Vt r.1=true
theorem mY{m k:Int}(a:gr m=true)(b:gr k=true):Ok (Gj m k) FR:=by
 unfold Gj;rw[a,b];refine y6 rfl (y5 (λ_=>ur λh=>by cases h) λe=>ur (Y6 ?_));grind
theorem ib{p:AO}(h:Vt p=true):1<=p.N:=(tb h).1.1
theorem aU{p q:AO}(hp:Vt p=true)(hq:Vt q=true):0<(p.N*q.N).toNat:=by
 have:=Int.mul_pos (show 0<p.N by have:=ib hp;omega) (show 0<q.N by have:=ib hq;omega);omega
theorem lC{p q:AO}(hp:Vt p=true)(hq:Vt q=true):Ok (ML p q) FR:=by
 unfold ML;rw[hp,hq];exact y6 rfl (ur (Y6 (aU hp hq)))
theorem nV{p q:AO}(hp:Vt p=true)(hq:Vt q=true):Ok (MO p q) FR:=by
 unfold MO;rw[hp,hq];exact y6 rfl (ur (Y6 (aU hp hq)))
theorem mV{p q:AO}(hp:Vt p=true)(hq:Vt q=true):Ok (MN p q) FR:=by
 unfold MN;rw[hp,hq];exact y6 rfl (ur (Y6 (aU hp hq)))
theorem lS{p q:AO}(hp:Vt p=true)(hq:Vt q=true):Ok (MM p q) FR:=by
 unfold MM;rw[hp,hq];refine y6 rfl (y5 (λ_=>ur λh=>by cases h) λe=>ur (Y6 ?_));have a:q.L≠0:=by grind
 have:=Int.mul_ne_zero a (show p.N≠0 by have:=ib hp;omega);omega
theorem eV:∀l:List Int,(F.setU l).length<=l.length
 | []=>td _
 | x :: r=>by
   have h:∀(x:Int)(l:List Int),(F.insU x l).length<=l.length+1:=by
    intro x l
    induction l with
    | nil=>simp[F.insU]
    | cons y r ih =>
      unfold F.insU;grind
   have:=eV r;have:=h x (F.setU r);show(F.insU x (F.setU r)).length<=r.length+1;omega
theorem fu{a b:List Int}{k m:Nat}(c:a.length<=k)(d:b.length<=m)(hk:k<=100000)(e:m<=100000):Ok (D4 a b) λr=>r.length<=k+m:=by
 unfold D4;refine Ok.t (ur (tw (eV _) ?_)) (by omega);grind
variable {s:Aa} {x:Ao} {n:Nat} {ns:List ByteArray}
structure VB(v:A9):Prop where
 dims:v.Table.Y.length<=1000000
 cells:v.Table.Al.length<=1000000
 cell:∀c∈v.Table.Al,c.U.length<=1000000/\c.C.length<=1000000
 terms:v.Model.An.length<=1000000
 coefs:v.Model.A1.length<=1000000
 curve:v.Curve.length<=1000000
 hist:v.Hist.length<=1000000
 line:v.Lineage.length<=1000000
theorem eU{α:Type}{l:List α}{d:α->α->Bool}{K:Int->Option Bool}(e:l.length<=1000000)(c:∀a,d a a=false)(hK:∀v,K v=some true) :
 (bif((l.length:Int) != (l.length:Int))then some false else P.iter (λrec v=>bif decide (v<(l.length:Int))then(idx l v).bind λa=>(idx l v).bind λb=>bif d a b then some false else rec (i64.wrap (v+1))else K v) AC 0)=some true :=
 Ok.val (y3 (by simp) (ya l.length (λrec=>Ok.f ⟨true,hK _,rfl⟩) λrec k hk ih=>Ok.t (y4 hk (y4 hk (y3 (c _) (ih _ CB))))))
theorem S8{l:List Int}(b:l.length<=1000000):IB l l=some true:=eU b (λa=>by simp) λ_=>rfl
theorem ia{v:A9}(h:VB v):Ib v v=some true:=by
 refine Ok.val ?_;unfold Ib;refine y6 (by simp) (qr (x:=true) (Ok.val ?_) (y6 rfl (qr (x:=true) (Ok.val ?_) (y6 rfl (qr (x:=true) (eU h.curve (λa=>by simp) λ_=>rfl) (y6 rfl (qr (x:=true) (eU h.hist (λa=>by simp) λ_=>rfl) (y6 (by simp) (qr (S8 h.line) (ur rfl))))))))))
 ·unfold Qx;refine qr (x:=true) (eU h.dims (λa=>by simp) λ_=>rfl) (y3 (by simp) (ya v.Table.Al.length (λrec=>Ok.f (ur rfl)) (λrec k hk ih=>Ok.t (y4 hk (y4 hk (qr (x:=true) (Ok.val ?_) (y3 rfl (ih _ (CB (by have:=h.cells;omega)))))))) (by have:=h.cells;omega)));obtain⟨b,c⟩:=h.cell _ (ta hk);unfold KN;exact qr (S8 b) (y6 (by simp) (qr (S8 c) (ur rfl)))
 ·unfold Qy;exact y6 (by simp) (qr (S8 h.terms) (y6 rfl (qr (x:=true) (eU h.coefs (λa=>by simp) λ_=>rfl) (ur (by simp)))))
def zT:El:={ Y:=[],Ag:=0,Al:=[] }
def zM:Ct:={ Ag:=0,An:=[],A1:=[],Ax:={ L:=0,N:=0 },Ay:={ L:=0,N:=0 },Ad:=0,Ba:=0 }
def zB:Pp:={ Ad:=0,Bf:=0,Bh:=0,Bi:=0,Bj:=0,Bk:=0 }
def nv(k:Int)(f:AO)(l:List Int):A9:={ Kind:=k,Number:=f,Table:=zT,Model:=zM,Curve:=[],Hist:=[],Box:=zB,Lineage:=l }
def NV(B:Nat)(v:A9):Prop:=∃f l,v=nv 1 f l/\Vt f=true/\l.length<=B
theorem NV.mono{B C:Nat}{v:A9}(h:NV B v)(c:B<=C):NV C v:=by
 obtain⟨f,l,a,b,d⟩:=h;exact⟨f,l,a,b,by omega⟩
theorem NV.vb{B:Nat}{v:A9}(h:NV B v)(b:B<=1000000):VB v:=by
 obtain⟨f,l,rfl,_,d⟩:=h;exact⟨by simp[nv,zT],by simp[nv,zT],(λc a=>by cases a),by simp[nv,zM],by simp[nv,zM],by simp[nv],by simp[nv],by show l.length<=_;omega⟩
theorem Qf{l:List Int}(h:l.length<=1000000):AG l=some l:=Ok.val (Ok.rm (by omega) (ur rfl))
theorem oE{B:Nat}{v:A9}(h:NV B v)(a:B<=1000000):FP v=some v:=by
 obtain⟨f,l,rfl,_,b⟩:=h;have e:FP (nv 1 f l)=(AG l).bind λy=>some (nv 1 f y):=rfl;rw[e,Qf (by omega)];rfl
abbrev Po(s:Aa)(x:Ao)(bs:List AH):A0:={ I:={ Ai:=s,Q:=x },Aw:=bs }
def RN(B:Nat)(r:A9×Int):Prop:=r.2=0->NV B r.1
theorem RN.err{B:Nat}{v:A9}{e:Int}(h:(e != 0)=true):RN B (v,e):=λa=>by change e=0 at a;rw[a]at h;cases h
theorem i64_in{m:Int}(a:-1000000000<=m)(b:m<=1000000000):gr m=true:=ti (by omega)
theorem cn{m:Int}(a:-1000000000<=m)(b:m<=1000000000):Vt { L:=m,N:=1 }=true:=ti ⟨by show(1:Int)<=1/\(1:Int)<=1152921504606846976;decide,by show -1152921504606846976<=m/\m<=1152921504606846976;omega,Nat.gcd_one_right _⟩
theorem qZ(b:DS s)(hx:Wk s x n)(g:n<=200){op m:Int}{c:Ah}(j:IM s m)(h:GC s c)(o:List AH){d:Nat}(hd:40<=d){B:Nat}(z:200<=B):Ok (BU d (Po s x o) (eX op 0 .empty m [] [] c C9 [])) (RN B):=by
 have A:=hx.len;unfold BU;refine(Vk b hx g h hd (cols:=[m]) ⟨by simp,λv p=>by rw[List.mem_singleton.1 p];exact j⟩).bind λr hr=>(PZ b hx j (List.mem_singleton.2 rfl) hr g).bind λV l=>?_;have t:=hr.1;have u:=l.1;refine y7 (λq=>q.2) V.length (λk q=>-(46*(k:Int))<=q.1/\q.1<=46*k) 0 (sZ _) rfl ⟨by decide,by decide⟩ (by omega) (λrec q hq w=>?_) λrec k q hk hq w ih=>?_
 ·simp only[Cb,hq];have hK:∀{k:Int},gr k=true->Ok ((Gj q.1 k).bind λa=>bif(a.2 != 0)then some (nv 0 { L:=0,N:=0 } [],a.2)else(BV x r).bind λi=>some (nv 1 a.1 i,0)) (RN B):=λhk=>(mY (i64_in (by omega) (by omega)) hk).bind λf y=>y5 (λe=>ur (RN.err e)) λe=>(SC b hx g hr).bind λK hK=>ur λ_=>⟨_,_,rfl,y (by grind),by rw[hK];omega⟩;exact Ok.f (y5 (λ_=>hK (i64_in (by omega) (by omega))) λ_=>hK (by decide))
 ·simp only[Cb,hq];have:=l.2 _ (ta hk);refine Ok.t (y4 hk (ih _ CB ?_));show -(46*((k+1:Nat):Int))<=i64.wrap (q.1+V[k])/\i64.wrap (q.1+V[k])<=46*((k+1:Nat):Int);rw[wr];omega
theorem cg(w:DS s)(hx:Wk s x n)(y:n<=200){j:List AH}{B:Nat}(G:200<=B)(z:B<=20000)(A:BD (NV B) ns j):∀(m d:Nat){e:Ar},EN s ns m e->m<=2->40+2*m<d->Ok (An d (Po s x j) e) (RN (2 ^ m*B))
 | m,d+1,e,h,H,hd=>by
   have hp:B<=2 ^ m*B:=vI _ (uc m);have X:=hx.len;show Ok (AD d (An d) (AJ d) (Po s x j) e) _;unfold AD
   cases h with
   | int m k h =>
     exact y6 rfl (ur λ_=>⟨_,[],rfl,cn (m:=k) (by omega) (by omega),sZ _⟩)
   | name m I h =>
     refine y3 rfl (y6 rfl ?_);refine Ok.bind (P:=NV B) (rC (A.2.1 I h) (λi J M=>y4 J ?_) (by have:=A.1;show j.length<=_;omega)) λv C=>ur λ_=>C.mono hp;have C:=A.2.2 _ (ta J) I h M;exact qr (oE C (by omega)) (ur C)
   | count m c h =>
     exact y3 rfl (y3 rfl (y6 rfl ((Qk w hx y h (by omega)).bind λr hr=>(SC w hx y hr.rw).bind λK hK=>ur λ_=>⟨_,_,rfl,cn (m:=(r.length:Int)) (by omega) (by have:=hr.1;omega),by rw[hK];have:=hr.1;omega⟩)))
   | sum m op k c ho H h =>
     have:=qZ w hx y (op:=op) H h j (d:=d) (by omega) (B:=2 ^ m*B) (by omega);rcases ho with rfl|rfl
     ·exact y3 rfl (y3 rfl (y3 rfl (y6 rfl (this.bind λr hr=>ur hr))))
     ·exact y3 rfl (y3 rfl (y3 rfl (y3 rfl (y6 rfl (this.bind λr hr=>ur hr)))))
   | pair m op a b ho O Q =>
     obtain⟨d,rfl⟩:∃k,d=k+1:=⟨d-1,by omega⟩;have R:2 ^ m*B<=2*B:=tW _ (by rcases(by omega:m=0\/m=1)with rfl|rfl<;>decide)
     have o:Ok (AJ (d+1) (Po s x j) (eX op 0 .empty 0 [] [] C9 C9 [a,b])) (RN (2 ^ (m+1)*B)):=by
      show Ok (Bl d (An d) (AJ d) (Po s x j) _) _;unfold Bl;refine qr (x:=a) rfl ((cg w hx y G z A m d O (by omega) (by omega)).bind λp hp=>y5 (λe=>ur (RN.err e)) λe=>qr (x:=b) rfl ((cg w hx y G z A m d Q (by omega) (by omega)).bind λq hq=>y5 (λe=>ur (RN.err e)) λY=>?_));obtain⟨f,l,S,D,T⟩:=hp (by grind);obtain⟨g,k,U,E,V⟩:=hq (by grind);rw[S,U];have Da:∀{F:Option (AO×Int)},Ok F FR->Ok (F.bind λt=>bif(t.2 != 0)then some (nv 0 { L:=0,N:=0 } [],t.2)else(D4 l k).bind λx63=>some (nv 1 t.1 x63,0)) (RN (2 ^ (m+1)*B)):=λW=>W.bind λr hr=>y5 (λe=>ur (RN.err e)) λe=>(fu T V (by omega) (by omega)).bind λu Z=>ur λ_=>⟨_,_,rfl,hr (by grind),by rw[vR,tV (2 ^ m) 2,uw];omega⟩;rcases ho with rfl|rfl|rfl|rfl
      ·exact y3 rfl (y3 rfl (y3 rfl (Da (lC D E))))
      ·exact y6 rfl (Da (nV D E))
      ·exact y3 rfl (y6 rfl (Da (mV D E)))
      ·exact y3 rfl (y3 rfl (y6 rfl (Da (lS D E))))
     rcases ho with rfl|rfl|rfl|rfl <;>
     ·iterate 10 refine y3 rfl ?_
      exact o.bind λr hr=>ur hr
variable {s:Aa} {x:Ao} {n:Nat}
theorem ET.right'(a:DS s){e:Ar}(h:ET s e){d:Nat}(hd:50<=d):Dd d s e=some true/\Ok (CZ d s e) (NA s):=ES.right (ns:=[]) a (λc b=>by cases b) (.inr h) hd
theorem LX(a:DS s){e:Ar}(h:ET s e){d:Nat}(hd:50<=d):Ok (He d s e) (NA s):=by
 obtain⟨b,c⟩:=h.right' a hd;unfold He;exact qr a.check (y3 rfl (qr b (y3 rfl (c.bind λr hr=>ur hr))))
theorem an(a:DS s)(hx:Wk s x n)(b:n<=200){e:Ar}(h:ET s e){d:Nat}(hd:50<=d):Ea d s x e=some 0:=by
 refine Ok.val ?_;unfold Ea;exact qr ((hx.gx a b).check a) (y3 rfl (qr (h.right' a hd).1 (y3 rfl ((LX a h hd).bind λr hr=>qr (hx.covers a hr) (y3 rfl (ur rfl))))))
def L2{α β:Type}(r:α×List β×Int):Prop:=r.2.1.length<=200
theorem np(o:DS s)(hx:Wk s x n)(y:n<=200){m w:Int}{c:Ah}(p:WM s m w)(h:GC s c){d:Nat}(hd:50<=d):Ok (FS d s x m w c) λr=>r.1.length<=200/\r.2.1.length<=200:=by
 have S:=hx.len;have L:=an o hx y (.hist m w c p h) hd;obtain⟨i,rfl,M,z,g,p⟩:=p;obtain⟨t,G,rfl⟩:=List.mem_iff_getElem.1 p;have N:Da s i=s.A[i].S.length:=by rw[Es z,Db g]
 have A:=fy g G;unfold FS;refine qr L (y3 rfl ((Qk o hx y h (by omega)).bind λr hr=>?_));have O:=hr.1;refine y7 (λq=>q.1) r.length (λk q=>q.2.1.length<=k/\q.2.2.length<=k/\(∀v∈q.2.1,v∈r)/\∀v∈q.2.2,-1000000<=v/\v<=1000000) 0 (sZ _) rfl ⟨td _,td _,(λv f=>by cases f),(λv f=>by cases f)⟩ (by omega) (λrec q hq B=>?_) λrec k q hk hq B ih=>?_
 ·obtain⟨H,I,C,D⟩:=B;simp only[IW,hq];refine Ok.f ((ir (by omega) A.1 (by omega) D).bind λb u=>y5 (λe=>by rw[u.1]at e;cases e) λ_=>?_);exact(SC o hx y (cols:=[]) (r:=q.2.1) ⟨by omega,λv f=>hr.rw.2 v (C v f)⟩).bind λK hK=>ur ⟨u.2,by show K.length<=200;omega⟩
 ·obtain⟨H,I,C,D⟩:=B;simp only[IW,hq];obtain⟨j,P,E⟩:=hr.2 _ (ta hk);refine Ok.t (y4 hk (qr (Ys z g G) ?_));rw[P];obtain⟨e,f⟩:=dV o hx M z g E (b:=(s.A[i].S.length:Int)-t) (by omega) (by omega);refine qr e (y5 (λJ=>Ok.rm (by grind) (Ok.rm (by simp;omega) (ih _ CB ⟨by simp;exact H,by simp;exact I,λv a=>?_,λv a=>?_⟩))) λ_=>ih _ CB ⟨by show q.2.1.length<=k+1;omega,by show q.2.2.length<=k+1;omega,C,D⟩)
  ·grind
  ·rcases List.mem_append.1 a with a|a
   ·grind
   ·rw[List.mem_singleton.1 a]
    have F:TI x i j≠CF:=λQ=>by
     rw[(gJ g (by omega) (by omega) f).2 Q]at J
     cases J
    have u:=f.resolve_right λh=>F h.2;have:=Ku g (l:=(s.A[i].S.length:Int)-t) (by omega) (by omega) u;have R:=FV g (l:=(s.A[i].S.length:Int)-t) (by omega) (by omega);grind
theorem eM{l:List Int}(z:l.length<=200)(o:SM l):Ok (IA l) λ_=>True:=by
 have q:(Vq l).length=l.length:=vm _
 have g:l.any (λv=>bif decide (v < -1000000)then true else decide (v>1000000))=false:=List.any_eq_false.2 λv h=>by
  have:=o v h;grind
 unfold IA;rw[XH (p:=NX) (λv=>bif decide (v < -1000000)then true else decide (v>1000000)) (λ_ _=>rfl) (by omega),g];refine Ok.f (qr rfl (y3 rfl (y5 (λ_=>ur trivial) λe=>?_)));have A:l.length≠0:=λh=>by grind
 have hp:Du l=some (Vq l):=Ok.val (Ok.rm (by omega) (ur rfl));have i:∀k:Int,0<=k->k<l.length->∃v,idx (Vq l) k=some v:=λk r B=>⟨_,GN r (by omega)⟩;have t4:∀a b:Int,0<=a->0<=b->Int.tdiv a b=a/b:=λa b j m=>Int.tdiv_eq_ediv_of_nonneg j;have t:i64.wrap ((l.length:Int)-1)=(l.length:Int)-1:=wr;have u:i64.wrap (3*((l.length:Int)-1))=3*((l.length:Int)-1):=wr;rw[t,u,t4 _ _ (by omega) (by decide),t4 _ _ (by omega) (by decide),t4 _ _ (by omega) (by decide)];refine qr (Qf (by omega)) (qr hp ?_);obtain⟨a,j⟩:=i 0 (by omega) (by omega);obtain⟨b,m⟩:=i (i64.wrap (((l.length:Int)-1)/4)) (by rw[wr];omega) (by rw[wr];omega);obtain⟨c,w⟩:=i (i64.wrap (((l.length:Int)-1)/2)) (by rw[wr];omega) (by rw[wr];omega);obtain⟨d,hd⟩:=i (i64.wrap (3*((l.length:Int)-1)/4)) (by rw[wr];omega) (by rw[wr];omega);obtain⟨f,y⟩:=i ((l.length:Int)-1) (by omega) (by omega);exact qr j (qr m (qr w (qr hd (qr y (ur trivial)))))
theorem pd(a:DS s)(hx:Wk s x n)(b:n<=200){m:Int}{c:Ah}(e:IM s m)(h:GC s c){d:Nat}(hd:50<=d):Ok (H9 d s x m c) L2:=by
 have k:=hx.len;unfold H9;refine qr (an a hx b (.box m c e h) hd) (y3 rfl ((Vk a hx b h (by omega) (cols:=[m]) ⟨by simp,λv g=>by rw[List.mem_singleton.1 g];exact e⟩).bind λr hr=>(PZ a hx e (List.mem_singleton.2 rfl) hr b).bind λV f=>?_));have i:=hr.1;have j:=f.1;exact(eM (by omega) f.2).bind λq _=>y5 (λ_=>ur (sZ _)) λ_=>(SC a hx b hr).bind λK hK=>ur (by show K.length<=200;omega)
theorem XK{l:List Int}(a:l.length<=1000000)(v:Int):Ok (AP l v) λ_=>True:=by
 unfold AP Cd;refine Ok.bind (P:=λ_=>True) (ya l.length (λrec=>Ok.f (ur trivial)) λrec k hk ih=>Ok.t (y4 hk (y5 (λ_=>ur trivial) λ_=>ih _ CB))) λr _=>ur trivial
theorem lO(a:DS s)(hx:Wk s x n)(e:n<=200){m:Int}{ev c:Ah}(g:IM s m)(f:∀y,idx s.A m=some y->0<=y.D)(i:GC s ev)(h:GC s c){d:Nat}(hd:50<=d):Ok (Dm d s x m ev c) λr=>r.1.length<=200/\r.2.1.length<=200:=by
 have z:=hx.len;have j:ET s (eX 12 0 .empty m [] [] c ev []):=.curve m ev c g f i h;unfold Dm;refine qr ((hx.gx a e).check a) (y3 rfl (qr (j.right' a hd).1 (y3 rfl ((LX a j hd).bind λq hq=>qr (hx.covers a hq) (y3 rfl ((Vk a hx e h (by omega) (cols:=[m]) ⟨by simp,λv l=>by rw[List.mem_singleton.1 l];exact g⟩).bind λr hr=>(Qk a hx e i (by omega)).bind λo ho=>?_))))));have p:=hr.1;have u:=ho.1;refine yc (by rw[dt,Sd (by omega)];rfl) (y9 r.length (λ_ b=>b.length=r.length) (by simp) (λrec b w=>Ok.f ((PZ a hx g (List.mem_singleton.2 rfl) hr e).bind λV A=>?_)) λrec k b hk w ih=>Ok.t (y4 hk ((XK (by omega) _).bind λt _=>y4 (by omega) (ih _ _ CB (by grind)))));refine qr (x:=cd V b) (C4 (by grind)) (y5 (λ_=>ur ⟨sZ _,sZ _⟩) λ_=>(SC a hx e hr).bind λK hK=>ur ⟨YN _ _,by show K.length<=200;omega⟩)
theorem Us:(YZ.all λL=>(List.range (H5 L).toNat).all λl=>decide (((Iz L (l:Int)).getD []).length<=20)&&(Cr L).all λv=>(EJ L (H5 L-1) v l).isSome)=true:=by decide +kernel
theorem gB(c:DS s)(hx:Wk s x n){i j:Nat}(d:1<=i)(b:i<s.A.length)(h:Nt s.A[i])(e:j<x.C.length){l:Int}(o:0<=l)(q:l<=Da s i):Ok (Be s x j i l) λ_=>True:=by
 obtain⟨L,f,a⟩:=c.clist h;have g:=(aP hx d b e).code h a;have k:Da s i=H5 L-1:=by rw[Es b,FO h a]
 have m:=c.fin_ok d b;have:=(Bool.and_eq_true_iff.1 (List.all_eq_true.1 (List.all_eq_true.1 Us L f) l.toNat (List.mem_range.2 (by omega)))).2;have:=List.all_eq_true.1 this _ g;rw[show((l.toNat:Nat):Int)=l by omega]at this;obtain⟨r,hr⟩:=Option.isSome_iff_exists.1 this;rw[dU c hx d b e];refine Ok.bind (P:=λ_=>True) ?_ λp _=>ur trivial;unfold D6;refine qr (c.pfinest d b) (y3 (by grind) (y4 b (y6 (by rw[h.kind];rfl) (qr a ?_))));rw[k];exact qr hr (y5 (λ_=>ur trivial) λ_=>ur trivial)
theorem mJ(w:DS s){a:List Ac}(h:Q7 s a):Ok (FD s a) λr=>r.2=true->1<=r.1.length/\r.1.length<=2000/\∀y∈r.1,y.length=a.length:=by
 have z:=h.len;unfold FD;refine qr (x:=[[]]) rfl (y7 (λq=>q.2) a.length (λk q=>1<=q.1.length/\q.1.length<=2000/\∀y∈q.1,y.length=k) 0 (sZ _) rfl ⟨td _,by simp,λy hy=>by rw[List.mem_singleton.1 hy];rfl⟩ (by omega) (λrec q hq f=>?_) λrec k q hk hq f ih=>?_)
 ·simp only[EE,hq];exact Ok.f (ur λ_=>f)
 ·obtain⟨M,B,C⟩:=f;obtain⟨⟨i,D,N,m,o⟩,⟨E,F,G,H,O,P⟩⟩:=h.all _ (ta hk);obtain rfl:i=E:=by omega
  obtain⟨L,p,c⟩:=w.clist o;have Q:Da s i=H5 L-1:=by rw[Es m,FO o c]
  have f1:=List.all_eq_true.1 (List.all_eq_true.1 X9 L p) (a[k].T).toNat (List.mem_range.2 (by omega));have f2:=tb (Bool.and_eq_true_iff.1 (List.all_eq_true.1 (List.all_eq_true.1 Us L p) (a[k].T).toNat (List.mem_range.2 (by omega)))).1;rw[show((a[k].T.toNat:Nat):Int)=a[k].T by omega]at f1 f2;obtain⟨A,u⟩:=Option.isSome_iff_exists.1 f1;rw[u]at f2;change A.length<=20 at f2;simp only[EE,hq];refine Ok.t (y4 hk ?_);rw[D];refine y4 m (qr c (qr u (Ok.rm (by grind) (y8 (λ_=>ur λh=>by cases h) λg=>?_))));have d:([(-1:Int)]++A).length=A.length+1:=by simp
  have I:q.1.length*(A.length+1)<=2000*21:=vh B (by omega)
  have R:q.1.length*(A.length+1)<=2000:=by
   rw[d,<-wb,wr]at g;omega
  refine y9 q.1.length (λj b=>b.length=j*(A.length+1)/\∀y∈b,y.length=k+1) ⟨by simp,(λy hy=>by cases hy)⟩ (λrec b e=>Ok.f (ih _ CB ⟨?_,?_,e.2⟩)) λrec j b v e ih2=>Ok.t (y4 v ?_)
  ·grind
  ·grind
  ·have l:(j+1)*(A.length+1)<=q.1.length*(A.length+1):=tW _ (by omega);rw[vT]at l;refine y9 ([(-1:Int)]++A).length (λt r=>r.length=j*(A.length+1)+t/\∀y∈r,y.length=k+1) ⟨e.1,e.2⟩ (λrec r hr=>Ok.f (ih2 _ _ CB ⟨by rw[vT];have:=hr.1;omega,hr.2⟩)) (λrec t r J hr ih3=>Ok.t (y4 J ?_)) (by omega);have hy:=C _ (ta v);refine qr (Qf (by omega)) (Ok.rm (by simp;omega) (Ok.rm (by grind) (ih3 _ _ CB ⟨by simp;have:=hr.1;omega,λy K=>?_⟩)));grind
theorem kg{o c:List Int}(h:c.length<=o.length)(a:o.length<=1000):Ok (Ci o c) λ_=>True:=by
 unfold Ci;exact ya c.length (λrec=>Ok.f (ur trivial)) λrec k hk ih=>Ok.t (y4 hk (y5 (λ_=>y4 (by omega) (y5 (λ_=>ur trivial) λ_=>ih _ CB)) λ_=>ih _ CB))
def CE(k m:Nat)(cs:List Ap):Prop:=∀c∈cs,c.U.length=k/\c.C.length<=m
theorem cI(c:Ap)(key v:Int)(b:Bool):(BG c key v b).U=c.U/\(BG c key v b).C=c.C++[key]:=by
 unfold BG;grind
theorem XG{o:List Int}(ho:o.length<=1000)(key v:Int)(b:Bool){m:Nat}(f:m<=1000):∀cs,CE o.length m cs->Ok (Cu o key v b cs) λr=>r.length=cs.length/\CE o.length (m+1) r
 | [],_=>ur ⟨rfl,λc d=>by cases d⟩
 | c :: r,h=>by
   obtain⟨g,i⟩:=h c (by simp);unfold Cu;refine Ok.t ((kg (by omega) ho).bind λt _=>(XG ho key v b f r λc d=>h c (by simp[d])).bind λq hq=>ur ⟨by simp[hq.1],λc' a=>?_⟩);rcases List.mem_cons.1 a with e|a
   ·rw[e];obtain⟨j,k⟩:=cI c key v b;grind
   ·exact hq.2 c' a
theorem eG(b:DS s)(hx:Wk s x n){j:Nat}(c:j<x.C.length):∀a:List Ac,(∀p∈a,IC s p.B/\QT s p)->Ok (CO s x j a) λo=>o.length=a.length
 | [],_=>ur rfl
 | p :: r,h=>by
   obtain⟨⟨i,d,e,f,g⟩,⟨k,_,_,l,m,q⟩⟩:=h p (by simp);obtain rfl:i=k:=by omega
   unfold CO;rw[d];exact(gB b hx e f g c m q).bind λv _=>(eG b hx c r λp hp=>h p (by simp[hp])).bind λvs t=>ur (by simp[t])
theorem eP(e:DS s)(hx:Wk s x n)(t:n<=200){a:List Ac}(hd:a.length<=3/\∀p∈a,IC s p.B/\QT s p){m:Int}(u:m=-1\/IM s m){cols:List Int}(y:0<=m->m∈cols):∀(l:List Int)(k:Nat)(cs:List Ap),(∀v∈l,∃j:Nat,v=(j:Int)/\j<x.C.length/\∀c∈cols,TI x c.toNat j≠CF)->CE a.length k cs->k+l.length<=1000 ->
 Ok (DO s x a m l cs) λr=>r.length=cs.length/\CE a.length (k+l.length) r
 | [],k,cs,_,h,_=>ur ⟨rfl,h⟩
 | v :: l,k,cs,hv,h,hl=>by
   obtain⟨j,rfl,f,b⟩:=hv v (by simp)
   have d:Ok (FE s x m j) λ_=>True:=by
    unfold FE;refine y8 (λz=>?_) λ_=>ur trivial;have g:1<=x.C.length:=by omega
    refine(PZ e hx (u.resolve_left (by omega)) (y z) (r:=[(j:Int)]) ⟨g,λw A=>by rw[List.mem_singleton.1 A];exact⟨j,rfl,f,b⟩⟩ t).bind λV B=>?_;exact⟨_,GN (ua _) (by grind),trivial⟩
   unfold DO;rw[tS]at hl;refine d.bind λw _=>(eG e hx f a hd.2).bind λo ho=>y4 f (qr (GM ((hx.rows _ (ta f)).ne e)) ((XG (by omega) _ w _ (m:=k) (by omega) cs (by rw[ho];exact h)).bind λq hq=>(eP e hx t hd u y l (k+1) q (λv i=>hv v (by simp[i])) (by grind) (by omega)).mono λr hr=>⟨hr.1.trans hq.1,by rw[tS,show k+(l.length+1)=k+1+l.length by omega];exact hr.2⟩))
theorem pD(d:DS s){q:AE}(h:Q7 s q.Y)(f:q.Ag=-1\/IM s q.Ag)(g:q.An=[])(j:q.V=C9):Gd s q=some 0:=by
 have v:=h.pos;have w:=h.len
 have a:Ok (bif(decide ((q.An.length:Int)>0))then some (11:Int)else(Gb q.V).bind λb=>bif(!b)then some 11 else some 0) (·=0):=by
  rw[g,j];exact y3 rfl (qr (x:=true) rfl (y3 rfl (ur rfl)))
 refine Ok.val ?_;unfold Gd;refine y3 (by grind) (ya q.Y.length (λrec=>Ok.f ?_) λrec k hk ih=>Ok.t ?_)
 ·unfold I3;refine y5 (λe=>?_) λ_=>a;obtain⟨i,c,_,l,m⟩:=f.resolve_left (λo=>by rw[o]at e;cases e);refine qr (x:=3) (Ok.val ?_) (y3 rfl a);unfold Eo;rw[c];exact y3 (by grind) (y4 l (ur m.kind))
 ·obtain⟨⟨i,r,y,t,u⟩,hp⟩:=h.all _ (ta hk);refine y4 hk (qr (x:=0) (Ok.val (qr d.check (y3 rfl (qr (nu d hp) (ur rfl))))) (y3 rfl (qr (x:=2) (Ok.val ?_) (y3 rfl (Ok.t ?_)))))
  ·unfold Eo;rw[r];exact y3 (by grind) (y4 t (ur u.kind))
  ·rw[jI _ (by omega),Xs (p:=λa0=>Ge a0 q.Y[k]) (λp=>p.B==q.Y[k].B) (λ_ _=>rfl) (by grind)];refine qr rfl (y3 (List.any_eq_false.2 λp hp=>?_) (ih _ CB));have:=aK h.asc (k:=k) (by grind) p.B (by rw[<-List.map_take];exact vC hp);grind
theorem lF(b:DS s){a:List Ac}(h:Q7 s a){m:Int}(e:m=-1\/IM s m){c:Ah}(f:GC s c){d:Nat}(hd:40<=d):KZ d s a m c=some 0:=by
 have g:Cz ({ data:=#[116] }:ByteArray)=some true:=by decide +kernel
 refine Ok.val ?_;unfold KZ Ga;refine qr (x:=0) (Ok.val (qr b.check (y3 rfl (qr g (y3 rfl (y3 rfl (qr (f.check b (by omega)) (y3 rfl (y6 rfl (qr (x:=0) ?_ (ur rfl))))))))))) (ur rfl);exact pD b h e rfl rfl
theorem nZ(g:DS s)(hx:Wk s x n)(t:n<=200){a:List Ac}(j:Q7 s a){m:Int}(u:m=-1\/IM s m){c:Ah}(h:GC s c){d:Nat}(hd:50<=d):Ok (CJ d s x a m c) λr=>r.1.Y.length<=3/\r.1.Al.length<=2000/\CE a.length 200 r.1.Al/\(r.2=0->1<=r.1.Al.length):=by
 have F:=hx.len;have o:=j.len;have w:∀e:Int,e≠0->Ok (some (zT,e)) λr=>r.1.Y.length<=3/\r.1.Al.length<=2000/\CE a.length 200 r.1.Al/\(r.2=0->1<=r.1.Al.length):=λe B=>ur ⟨sZ _,sZ _,(λc f=>by cases f),λh=>absurd h B⟩;unfold CJ;refine qr ((hx.gx g t).check g) (y3 rfl (qr (lF g j u h (by omega)) (y3 rfl ((LX g (.table m a c u j h) hd).bind λq hq=>qr (hx.covers g hq) (y3 rfl ((mJ g j).bind λl C=>?_))))));refine y5 (λ_=>w 1 (by decide)) λe=>?_;obtain⟨G,H,I⟩:=C (by grind);refine qr (x:=a) (Ok.val (Ok.rm (by omega) (ur rfl))) (y9 l.1.length (λk b=>b.length=k/\CE a.length 0 b) ⟨rfl,(λc f=>by cases f)⟩ (λrec b i=>Ok.f ?_) λrec k b hk i ih=>Ok.t (y4 hk ?_))
 ·have Da:∀{cols:List Int},(cols.length<=10/\∀v∈cols,IM s v)->(0<=m->m∈cols)->Ok (Dw d s x c a m b a cols) λr=>r.1.Y.length<=3/\r.1.Al.length<=2000/\CE a.length 200 r.1.Al/\(r.2=0->1<=r.1.Al.length):=λ{cols} f hmc=>by
   unfold Dw;refine(Vk g hx t h (by omega) f).bind λr hr=>?_;have D:=hr.1;have E:=i.1;have y:(b.all λc=>c.C.isEmpty)=true:=List.all_eq_true.2 λc f=>List.isEmpty_iff.2 (tx (by have:=(i.2 c f).2;omega))
   have p:Js s x a m r b=DO s x a m r b:=by
    unfold Js;grind
   rw[p];exact(eP g hx t ⟨o,j.all⟩ u hmc r 0 b hr.2 i.2 (by omega)).bind λz A=>ur ⟨o,by show z.length<=_;omega,λc f=>⟨(A.2 c f).1,by have:=(A.2 c f).2;omega⟩,λ_=>by show 1<=z.length;omega⟩
  unfold Dv;grind
 ·unfold XF;refine qr (C4 (by grind)) (ih _ _ CB ⟨by simp;exact i.1,λc f=>?_⟩);rcases List.mem_append.1 f with f|f
  ·exact i.2 c f
  ·grind
theorem Yx(z:Int):Pn (o6 z).E=true/\Pn (o6 z).D=true:=by
 refine⟨ti ?_,ti ?_⟩
 ·show 0<=z/18446744073709551616%18446744073709551616/\z/18446744073709551616%18446744073709551616<18446744073709551616;omega
 ·show 0<=z%18446744073709551616/\z%18446744073709551616<18446744073709551616;omega
theorem bI{z:Int}(h:z.natAbs<=10000000000000000000000000000000000):Q5 (o6 z)=z:=by
 unfold Q5;show(bif decide (z/18446744073709551616%18446744073709551616*18446744073709551616+z%18446744073709551616<170141183460469231731687303715884105728)then z/18446744073709551616%18446744073709551616*18446744073709551616+z%18446744073709551616 else z/18446744073709551616%18446744073709551616*18446744073709551616+z%18446744073709551616-2*170141183460469231731687303715884105728)=z;grind
theorem nC{a b:Int}(c:a.natAbs<=10000000000000000000000000000000000)(d:b.natAbs<=10000000000000000000000000000000000)(e:b≠0):Ok (GL (o6 a) (o6 b)) λ_=>True:=by
 unfold GL;rw[(Yx a).1,(Yx a).2,(Yx b).1,(Yx b).2,bI c,bI d,dt ⟨e,by show -(170141183460469231731687303715884105728:Int)<a;omega,by show -(170141183460469231731687303715884105728:Int)<b;omega⟩];exact y6 rfl (ur trivial)
def MX(w:Nat)(m:List (List Int)):Prop:=m.length=w/\∀r∈m,r.length=w/\∀v∈r,v.natAbs<=1000000
theorem jh:∀r:List Int,(∀v∈r,v.natAbs<=1000000)->bR r<=1000000*r.length
 | [],_=>td _
 | v :: r,h=>by
   have:=jh r λv a=>h v (by simp[a]);have:=h v (by simp);show v.natAbs+bR r<=1000000*(r.length+1);omega
theorem eJ{K:Nat}:∀m:List (List Int),(∀r∈m,bR r<=K)->Y3 m<=K ^ m.length
 | [],_=>td _
 | r :: m,h=>by
   have a:=eJ m λr hr=>h r (by simp[hr]);rw[tS,vR,tV];exact vh (h r (by simp)) a
theorem MX.lenM{w:Nat}{m:List (List Int)}(h:MX w m):lenM m m.length=true:=List.all_eq_true.2 λr hr=>by rw[(h.2 r hr).1,h.1];exact w8 _
theorem aV{w:Nat}{m:List (List Int)}(h:MX w m)(w0:1<=w)(a:w<=5):Dq m=some (o6 (XN m))/\(XN m).natAbs<=10000000000000000000000000000000000:=by
 have b:=h.1;refine⟨?_,?_⟩
 ·unfold Dq;rw[dt ⟨by omega,by omega⟩,h.lenM,show(m.all λr=>r.all m8)=true from List.all_eq_true.2 λr hr=>List.all_eq_true.2 λv c=>ti (by have:=(h.2 r hr).2 v c;omega)];rfl
 ·refine tw (oH m) (tw (eJ (K:=5000000) m λr hr=>tw (jh r (h.2 r hr).2) (by rw[(h.2 r hr).1];omega)) ?_);rw[b];exact tw (tR (by decide) a) (by decide)
theorem mE{w:Nat}{m:List (List Int)}(h:MX w m)(u:w<=5):Ok (Kt m) λ_=>True:=by
 have y:=h.1;have l:∀v:Int,Pn (u64.wrap v)=true:=λv=>ti (SO v);have i:∀{a b:Int},Pn a=true->Pn b=true->H7 a b=some (a*b/18446744073709551616,a*b%18446744073709551616):=λg o=>by unfold H7;rw[g,o];rfl
 unfold Kt;refine qr (x:=o6 1) rfl (y9 m.length (λ_ c=>Pn c.E=true/\Pn c.D=true) (Yx 1) (λrec c e=>Ok.f (ur trivial)) λrec k c hk e ih=>Ok.t (y4 hk ?_));have hr:=(h.2 _ (ta hk)).1;refine y7 (λq=>q.2) m[k].length (λ_ _=>True) 0 (sZ _) rfl trivial (by omega) (λd q hq _=>?_) λd t q p hq _ ih2=>?_
 ·simp only[Jy,hq];refine Ok.f ?_;unfold Jz;have f:=l (if 1>q.1 then 1 else q.1);generalize u64.wrap (if 1>q.1 then 1 else q.1)=v at f ⊢;refine qr (i e.2 f) (qr (i e.1 f) ?_);have j:=tb e.2;have r:=tb f
  have hd:Pn (c.D*v/18446744073709551616)=true:=by
   have z:=Int.mul_nonneg j.1 r.1;have A:c.D*v<=c.D*18446744073709551616:=Int.mul_le_mul_of_nonneg_left (by omega) j.1;exact ti ⟨by omega,by omega⟩
  have g:J0 (c.E*v%18446744073709551616) (c.D*v/18446744073709551616) 0=some ((c.E*v%18446744073709551616+c.D*v/18446744073709551616+0)%18446744073709551616,(c.E*v%18446744073709551616+c.D*v/18446744073709551616+0)/18446744073709551616):=by
   unfold J0;rw[hd,show Pn (c.E*v%18446744073709551616)=true from ti (by omega)];rfl
  exact qr g (y5 (λ_=>ur trivial) λ_=>ih _ _ CB ⟨ti (by grind),ti (by show 0<=c.D*v%18446744073709551616/\c.D*v%18446744073709551616<_;omega)⟩)
 ·simp only[Jy,hq];exact Ok.t (y4 p (ih2 _ CB trivial))
theorem U8{w:Nat}{m:List (List Int)}(h:MX w m)(c:w<=5):Ok (Gm m) λ_=>True:=by
 have e:=h.1;unfold Gm;refine y5 (λ_=>ur trivial) λ_=>y8 (λ_=>ur trivial) λ_=>ya m.length (λrec=>Ok.f ?_) λrec k hk ih=>Ok.t (y4 hk (y5 (λ_=>ur trivial) λ_=>ih _ CB));refine ya m.length (λrec=>Ok.f ((mE h c).bind λb _=>y5 (λ_=>ur trivial) λ_=>ur trivial)) λrec k hk ih=>Ok.t (y4 hk ?_);have hr:=(h.2 _ (ta hk)).1;exact ya m[k].length (λa=>Ok.f (ih _ CB)) λa t d ih2=>Ok.t (y4 d (y5 (λ_=>ur trivial) λ_=>ih2 _ CB))
theorem mN{w:Nat}{S:Nat->Nat->Int}(h:∀i j,(S i j).natAbs<=1000000):MX w (kx w S):=by
 unfold kx;refine⟨by simp,λr hr=>?_⟩;grind
theorem oL{l:List Int}{B:Nat}(h:∀v∈l,v.natAbs<=B)(i:Nat):(l.getD i 0).natAbs<=B:=by grind
theorem ie{m:List (List Int)}{B:Nat}(h:∀r∈m,∀v∈r,v.natAbs<=B)(i j:Nat):(Q6 m i j).natAbs<=B:=by
 unfold Q6;refine oL ?_ j;grind
theorem jg{w:Nat}{m:List (List Int)}(h:MX w m){b:List Int}(c:b.length=w/\∀v∈b,v.natAbs<=1000000)(d:w<=5){k:Nat}(hk:k<w):∃q,H6 m k b=some q/\MX w q:=by
 have a:=h.1;refine⟨kx m.length (TA m k b),?_,?_⟩
 ·unfold H6;rw[h.lenM,dt ⟨by omega,by omega,by omega,by omega⟩,tu];rfl
 ·rw[a];refine mN λi j=>?_;unfold TA;split
  ·grind
  ·exact ie (λr hr=>(h.2 r hr).2) i j
theorem jj(z:Int)(h:z.natAbs<=10000000000000000000000000000000000):F0 (o6 z)=some z.sign:=by
 unfold F0;rw[(Yx z).1,(Yx z).2,bI h];rfl
theorem ji{z:Int}(h:(z.sign==0)=false):z≠0:=by grind
theorem nR{w:Nat}{m:List (List Int)}(h:MX w m){b:List Int}(f:b.length=w/\∀v∈b,v.natAbs<=1000000)(w0:1<=w)(a:w<=5):Ok (Ks m b) λr=>r.1.length<=5:=by
 have g:=h.1;have c:∀e:Int,Ok (some (([]:List AO),e)) λr=>r.1.length<=5:=λe=>ur (sZ _);unfold Ks;refine(U8 h a).bind λe _=>y5 (λ_=>c _) λ_=>y5 (λ_=>c _) λ_=>ya m.length (λrec=>Ok.f ?_) λrec k hk ih=>Ok.t ?_
 ·obtain⟨d1,d2⟩:=aV h w0 a;unfold M0;refine qr d1 (qr (jj _ d2) (y5 (λ_=>c _) λe=>y9 m.length (λk q=>q.length=k) rfl (λrec q hq=>Ok.f (ur (by grind))) λrec k q hk hq ih=>Ok.t ?_));obtain⟨p,d,p2⟩:=jg h f a (k:=k) (by omega);obtain⟨f1,f2⟩:=aV p2 w0 a;exact qr d (qr f1 ((nC f2 d2 (ji e)).bind λr _=>y5 (λ_=>c _) λ_=>Ok.rm (by grind) (ih _ _ CB (by simp;omega))))
 ·obtain⟨p,d,p2⟩:=jg h f a (k:=k) (by omega);exact qr d ((U8 p2 a).bind λe _=>y5 (λ_=>c _) λ_=>ih _ CB)
theorem n3{w v:Nat}{a b:List (List Int)}(c:MX w a)(d:MX v b)(w0:1<=w)(f:w<=5)(i:1<=v)(g:v<=5):Ok (Kr a b) λ_=>True:=by
 obtain⟨j,k⟩:=aV c w0 f;obtain⟨l,h⟩:=aV d i g;unfold Kr;exact(U8 c f).bind λ_ _=>y5 (λ_=>ur trivial) λ_=>(U8 d g).bind λ_ _=>y5 (λ_=>ur trivial) λ_=>qr l (qr (jj _ h) (y5 (λ_=>ur trivial) λe=>qr j ((nC k h (ji e)).bind λ_ _=>ur trivial)))
def RS(w:Nat)(m:List (List Int)):Prop:=∀r∈m,r.length=w/\SM r
theorem nQ{a b:Int}(c:-46<=a/\a<=46)(d:-46<=b/\b<=46):(a*b).natAbs<=2116:=by
 rw[Int.natAbs_mul];exact vh (show a.natAbs<=46 by omega) (show b.natAbs<=46 by omega)
theorem so{z:Int}(h:z.natAbs<=1000000000):i64.wrap z=z:=wr
theorem ma{w:Nat}{m:List (List Int)}(h:RS w m)(a b:Nat):∀k,k<=300->(SR m k a b).natAbs<=2116*k
 | 0,_=>sZ _
 | k+1,hk=>by
   have ih:=ma h a b k (by omega);have d:=ie (m:=m) (B:=46) (λr hr v c=>by have:=(h r hr).2 v c;omega) k a;have e:=ie (m:=m) (B:=46) (λr hr v c=>by have:=(h r hr).2 v c;omega) k b;have:=nQ (a:=Q6 m k a) (b:=Q6 m k b) (by omega) (by omega);unfold SR;rw[so (z:=Q6 m k a*Q6 m k b) (by omega),so (by omega)];omega
theorem jo{w:Nat}{m:List (List Int)}(h:RS w m)(b:1<=m.length/\m.length<=200)(w0:1<=w)(c:w<=5):∃q,KU m=some q/\MX w q:=by
 have a:(m.getD 0 []).length=w:=by
  rw[te,P3 (by omega)];exact(h _ (ta _)).1
 refine⟨kx w (SR m m.length),?_,mN λi j=>tw (ma h i j _ (by omega)) (by omega)⟩;unfold KU;rw[a,dt ⟨by omega,by omega,by omega,by omega⟩,show lenM m w=true from List.all_eq_true.2 λr hr=>by rw[(h r hr).1];exact w8 _];rfl
theorem m7(z:Int):gr (i64.wrap z)=true:=by
 refine ti ?_;unfold IntKind.wrap;simp only[IntKind.signed,IntKind.bits];grind
theorem od{w:Nat}{m:List (List Int)}(h:RS w m)(w0:1<=w)(c:m.length<=200):Ok (Jr m) λ_=>True:=by
 unfold Jr;refine y7 (λq=>q.2.2) m.length (λ_ _=>True) 0 (sZ _) rfl trivial (by omega) (λrec q hq _=>?_) λrec k q hk hq _ ih=>?_
 ·simp only[Jb,hq];exact Ok.f ((mY (m7 _) (i64_in (by omega) (by omega))).bind λ_ _=>ur trivial)
 ·simp only[Jb,hq];have hr:=(h _ (ta hk)).1;have b:∃v,idx m[k] 0=some v:=⟨_,GN (ua _) (by grind)⟩;obtain⟨v,a⟩:=b;exact Ok.t (y4 hk (qr a (qr a (qr a (ih _ CB trivial)))))
theorem dB{w:Nat}{m:List (List Int)}(h:RS w m)(d:w<=5):Ok (GU m) λb=>b=true->1<=m.length/\m.length<=200:=by
 unfold GU;refine y5 (λ_=>ur λh=>by cases h) λe=>?_;have c:1<=m.length/\m.length<=200:=by grind
 have a:idx m 0=some m[0]:=GN (ua _) (by grind);refine qr a (y8 (λ_=>ur λh=>by cases h) λ_=>qr a (y8 (λ_=>ur λh=>by cases h) λ_=>ya m.length (λrec=>Ok.f (ur λ_=>c)) λrec k hk ih=>Ok.t (y4 hk (qr a (y5 (λ_=>ur λh=>by cases h) λe=>?_)))));rw[XH (p:=GA) (λv=>bif decide (v < -1000000)then true else decide (v>1000000)) (λ_ _=>rfl)]
 ·exact qr rfl (y5 (λ_=>ur λh=>by cases h) λ_=>ih _ CB)
 ·grind
theorem RS.snoc{w:Nat}{m:List (List Int)}{r:List Int}(h:RS w m)(hr:r.length=w/\SM r):RS w (m++[r]):=λq hq=>by
 rcases List.mem_append.1 hq with hq|hq
 ·exact h q hq
 ·grind
theorem mo{w:Nat}{m:List (List Int)}(h:RS w m)(w0:1<=w)(Y:w<=4):Ok (Mv m) λr=>r.1.A1.length<=5/\r.1.An=[]:=by
 have o:∀e:Int,Ok (some (zM,e)) λr=>r.1.A1.length<=5/\r.1.An=[]:=λe=>ur ⟨sZ _,rfl⟩;unfold Mv;refine(dB h (by omega)).bind λb R=>y5 (λ_=>o _) λe=>?_;have S:=R (by cases b with|true=>rfl|false=>cases e);have F:idx m 0=some m[0]:=GN (ua _) (by show 0<_;omega);have T:=(h _ (ta (l:=m) (n:=0) (by omega))).1;refine qr F (y8 (λ_=>o _) λ_=>qr F (y8 (λ_=>o _) λ_=>?_));unfold KR;refine qr F (yc (by rw[dt,Sd (by omega)];rfl) ?_);refine y7 (λq=>q.1) m.length (λk q=>q.2.1.length=k/\RS w q.2.1/\q.2.2.1.length=k/\RS (w+1) q.2.2.1/\q.2.2.2.length=w/\∀v∈q.2.2.2,v.natAbs<=2116*k) 0 (sZ _) rfl ⟨rfl,(λr hr=>by cases hr),rfl,(λr hr=>by cases hr),by simp;omega,λv a=>?_⟩ (by omega) (λrec q hq G=>?_) λrec k q hk hq G ih=>?_
 ·rw[un a];decide
 ·obtain⟨N,H,O,I,J,K⟩:=G;simp only[KO,hq];refine Ok.f ?_;unfold KS;obtain⟨A,A1,A2⟩:=jo H (by omega) w0 (by omega);obtain⟨B,B1,U⟩:=jo I (by omega) (by omega) (by omega);refine qr A1 ((nR A2 ⟨J,λv a=>tw (K v a) (by omega)⟩ w0 (by omega)).bind λc P=>y5 (λ_=>o _) λ_=>qr B1 ((n3 U A2 (by omega) (by omega) w0 (by omega)).bind λt _=>y5 (λ_=>o _) λ_=>(od h w0 S.2).bind λu _=>y5 (λ_=>o _) λ_=>ur ⟨P,rfl⟩))
 ·obtain⟨N,H,O,I,J,K⟩:=G;obtain⟨Z,Q⟩:=h _ (ta hk);have p:idx m[k] 0=some m[k][0]:=GN (ua _) (by show 0<_;omega);have y:=Q _ (ta (l:=m[k]) (n:=0) (by omega))
  have d:([1]++NB m[k] 1 (m[k].length:Int)).length=w/\SM ([1]++NB m[k] 1 (m[k].length:Int)):=by
   rw[qA];refine⟨by simp;omega,λv a=>?_⟩;rcases List.mem_append.1 a with a|a
   ·rw[List.mem_singleton.1 a];decide
   ·exact Q v (uu a)
  simp only[KO,hq];refine Ok.t (y4 hk (Ok.t ?_));have P:(NB m[k] 1 (m[k].length:Int)).length<=4:=by have:=d.1;simp at this;omega
  refine Ok.rm (by simp;omega) (Ok.rm (by simp;omega) (qr (Qf (by have:=d.1;omega)) (qr p (Ok.rm (by have:=d.1;rw[this];simp;omega) (Ok.rm (by simp;omega) ?_)))));generalize g:[1]++NB m[k] 1 (m[k].length:Int)=D at d;refine y7 (λt=>t.1) w (λi t=>t.2.length=w/\∀(j:Nat)(f:j<t.2.length),(t.2[j]).natAbs<=2116*k+if j<i then 2116 else 0) 0 (sZ _) rfl ⟨J,λj f=>by rw[tn (by omega)];exact K _ (ta f)⟩ (by omega) (λC t L E=>?_) λC i t hi L E ih2=>?_
  ·simp only[KP,L,g,d.1];refine Ok.f ?_;unfold KT;refine ih _ CB ⟨by simp;exact N,H.snoc (by rw[g];exact d),by simp;exact O,I.snoc ⟨by simp;exact d.1,λv a=>?_⟩,E.1,λv a=>?_⟩
   ·rcases List.mem_append.1 a with a|a
    ·exact d.2 v a
    ·rw[List.mem_singleton.1 a];exact y
   ·obtain⟨j,f,rfl⟩:=List.mem_iff_getElem.1 a;have M:=E.2 j f;have V:=E.1;have:t.2.length=w:=V;rw[tf (by have:j<t.2.length:=f;omega)]at M;show(t.2[j]).natAbs<=_;omega
  ·obtain⟨t1,t2⟩:=E;simp only[KP,L,g,d.1];have a:=d.2 _ (ta (l:=D) (n:=i) (by have:=d.1;omega));have hp:=nQ a y;have M:=t2 i (by omega);rw[tn (by omega)]at M;refine Ok.t (y4 (by have:=d.1;omega) (y4 (by omega) (qr p (y4 (by omega) (ih2 _ CB ⟨by simp;exact t1,λj f=>?_⟩)))));show((t.2.set (i:Int).toNat _)[j]'f).natAbs<=_;simp only[tu,List.getElem_set];have W:k<=200:=by omega
   by_cases e:i=j
   ·rw[tf e,tf (by omega),so (z:=D[i]*m[k][0]) (by omega),so (by omega)];omega
   ·have X:=t2 j (by rw[t1];simp at f;omega);rw[tn e];split<;>split at X<;>omega
theorem iE(b:DS s)(hx:Wk s x n)(d:n<=200){cols r:List Int}(hr:RW x cols r):∀(l:List Int)(k:Nat)(cs:List (List Int)),(∀v∈l,IM s v/\v∈cols)->cs.length=r.length->RS k cs->Ok (Gv s x r l cs) (RS (k+l.length))
 | [],k,cs,_,_,h=>ur h
 | c :: l,k,cs,hl,hc,h=>by
   obtain⟨e,f⟩:=hl c (by simp);unfold Gv;refine(PZ b hx e f hr d).bind λV g=>y6 (by grind) ?_;rw[tS,show k+(l.length+1)=k+1+l.length by omega];refine iE b hx d hr l (k+1) _ (λv a=>hl v (by simp[a])) (by grind) λq hq=>?_;obtain⟨i,j,rfl⟩:=List.mem_iff_getElem.1 hq;rw[List.length_zipWith]at j;rw[List.getElem_zipWith];obtain⟨m,o⟩:=h _ (ta (l:=cs) (n:=i) (by omega));refine⟨by simp;exact m,λv a=>?_⟩;rcases List.mem_append.1 a with a|a
   ·exact o v a
   ·rw[List.mem_singleton.1 a];exact g.2 _ (ta _)
theorem mT(b:DS s)(hx:Wk s x n)(g:n<=200){m:Int}(l:IM s m){cols:List Int}(i:Re s m cols){c:Ah}(h:GC s c){d:Nat}(hd:50<=d):Ok (Dk d s x m cols c) λr=>r.1.An.length<=3/\r.1.A1.length<=5/\r.2.1.length<=200:=by
 have w:=hx.len;have o:=i.len;have z:=i.pos;have p:∀e:Int,Ok (some (zM,([]:List Int),e)) λr=>r.1.An.length<=3/\r.1.A1.length<=5/\r.2.1.length<=200:=λe=>ur ⟨sZ _,sZ _,sZ _⟩;have j:ET s (eX 11 0 .empty m cols [] c C9 []):=.model m cols c l i h
 have k:∀v∈[m]++cols,IM s v:=λv a=>by
  rcases List.mem_append.1 a with a|a
  ·grind
  ·exact(i.all v a).1
 unfold Dk;refine qr ((hx.gx b g).check b) (y3 rfl (qr (j.right' b hd).1 (y3 rfl ((LX b j hd).bind λq hq=>qr (hx.covers b hq) (y3 rfl (Ok.rm (by grind) ((Vk b hx g h (by omega) (cols:=[m]++cols) ⟨by simp;omega,k⟩).bind λr hr=>?_)))))));have t:=hr.1;refine qr (x:=List.replicate r.length []) (C4 ⟨by omega,by simp;omega⟩) ((iE b hx g hr ([m]++cols) 0 _ (λv a=>⟨k v a,a⟩) (by simp) λq hq=>⟨by rw[un hq];rfl,λv a=>by rw[un hq]at a;cases a⟩).bind λy hy=>?_);refine(mo hy (by simp) (by grind)).bind λf u=>y5 (λ_=>p _) λ_=>qr (Qf (by omega)) ((SC b hx g hr).bind λK hK=>ur ⟨o,u.1,by show K.length<=200;omega⟩)
variable {s:Aa} {x:Ao} {n:Nat} {ns:List ByteArray}
def VL(e:Ar)(B:Nat)(r:A9×Int):Prop:=r.2=0->r.1.Kind=kd e/\VB r.1/\(e.Op<10->NV B r.1)
theorem VL.err{e:Ar}{B:Nat}{v:A9}{k:Int}(h:(k != 0)=true):VL e B (v,k):=λa=>by change k=0 at a;rw[a]at h;cases h
theorem ET.op{e:Ar}(h:ET s e):¬e.Op<10:=by cases h<;>simp[eX]
theorem pH(g:DS s)(hx:Wk s x n)(i:n<=200)(q:List AH){e:Ar}(h:ET s e){d:Nat}(hd:51<=d)(B:Nat):Ok (An d (Po s x q) e) (VL e B):=by
 obtain⟨d,rfl⟩:∃k,d=k+1:=⟨d-1,by omega⟩;show Ok (AD d (An d) (AJ d) (Po s x q) e) _;unfold AD;have b:=h.op
 cases h with
 | table m t c f u h =>
   iterate 5 refine y3 rfl ?_
   refine y6 rfl ((nZ g hx i u f h (d:=d) (by omega)).bind λr ⟨j,p,o,v⟩=>y5 (λe=>?_) λe=>?_)
   ·have C:=v (by grind);have D:=o _ (ta (l:=r.1.Al) (n:=0) (by omega));refine qr (GN (ua _) (by show 0<_;omega)) (qr (Qf (by grind)) (y5 (λe=>ur (VL.err e)) λ_=>ur λ_=>⟨rfl,⟨by show r.1.Y.length<=_;omega,by show r.1.Al.length<=_;omega,λc a=>⟨by rw[(o c a).1];have:=u.len;omega,by have:=(o c a).2;omega⟩,sZ _,sZ _,sZ _,sZ _,by show(r.1.Al[0]).C.length<=_;omega⟩,λh=>absurd h b⟩))
   ·refine y6 (by simpa using e) (ur (VL.err (by grind)))
 | model m cols c f a h =>
   iterate 6 refine y3 rfl ?_
   refine y6 rfl ((mT g hx i f a h (d:=d) (by omega)).bind λr ⟨j,p,o⟩=>y5 (λe=>ur (VL.err e)) λ_=>ur λ_=>⟨rfl,⟨sZ _,sZ _,(λc a=>by cases a),by show r.1.An.length<=_;omega,by show r.1.A1.length<=_;omega,sZ _,sZ _,by show r.2.1.length<=_;omega⟩,λh=>absurd h b⟩)
 | curve m ev c f y z h =>
   iterate 7 refine y3 rfl ?_
   refine y6 rfl ((lO g hx i f y z h (d:=d) (by omega)).bind λr ⟨j,p⟩=>y5 (λe=>ur (VL.err e)) λ_=>ur λ_=>⟨rfl,⟨sZ _,sZ _,(λc a=>by cases a),sZ _,sZ _,by show r.1.length<=_;omega,sZ _,by show r.2.1.length<=_;omega⟩,λh=>absurd h b⟩)
 | hist m w c A h =>
   iterate 8 refine y3 rfl ?_
   refine y6 rfl ((np g hx i A h (d:=d) (by omega)).bind λr ⟨j,p⟩=>y5 (λe=>ur (VL.err e)) λ_=>ur λ_=>⟨rfl,⟨sZ _,sZ _,(λc a=>by cases a),sZ _,sZ _,sZ _,by show r.1.length<=_;omega,by show r.2.1.length<=_;omega⟩,λh=>absurd h b⟩)
 | box m c f h =>
   iterate 9 refine y3 rfl ?_
   refine y6 rfl ((pd g hx i f h (d:=d) (by omega)).bind λr j=>y5 (λe=>ur (VL.err e)) λ_=>ur λ_=>⟨rfl,⟨sZ _,sZ _,(λc a=>by cases a),sZ _,sZ _,sZ _,sZ _,by have h:r.2.1.length<=200:=j;show r.2.1.length<=_;omega⟩,λh=>absurd h b⟩)
theorem ES.value(i:DS s)(hx:Wk s x n)(j:n<=200){a:List AH}{B:Nat}(k:200<=B)(b:B<=20000)(m:BD (NV B) ns a){e:Ar}(h:ES s ns e){d:Nat}(hd:51<=d):Ok (An d (Po s x a) e) (VL e (4*B)):=by
 rcases h with h|h
 ·refine(cg i hx j k b m 2 d h (by omega) (by omega)).mono λr hr o=>?_;have c:=hr o;have g:=h.op.2;refine⟨?_,c.vb (by omega),λ_=>c⟩;obtain⟨f,l,p,_⟩:=c;rw[p];unfold kd;rw[tf g];rfl
 ·exact pH i hx j a h (by omega) _
end Go.Proofs.YtkjijhldfdplgaaGreatDoor.P
namespace Go.Proofs.YtkjijhldfdplgaaGreatDoor.P.F
open Go.Proofs
set_option maxRecDepth 10000
theorem kz{x:Int}{xs:List Int}:x∈FB xs↔x∈xs:=by simp[FB,List.mem_mergeSort]
theorem TJ(d:Array Int)(hd:∀i,i+1<d.size->d[i]!<=d[i+1]!):∀m,m<=d.size->(Go.Lib.compactUpTo d m).Pairwise (·<·)/\(∀x,x∈Go.Lib.compactUpTo d m↔∃j,j<m/\d[j]! = x)/\∀x∈Go.Lib.compactUpTo d m,x<=d[m-1]!:=by
 intro m
 induction m with
 | zero=>intro _;simp[Go.Lib.compactUpTo]
 | succ m ih =>
   intro r;obtain⟨l,n,g⟩:=ih (by omega);rw[Go.Lib.compactUpTo_succ];by_cases p:m=0
   ·subst p;have:Go.Lib.compactUpTo d 0=[]:=rfl;rw[this];have hk:Go.Lib.keeps d 0=true:=Go.Lib.keeps_lt_one d 0 (by omega);rw[tf hk];refine⟨by simp,λx=>?_,by simp⟩;constructor
    ·intro h;simp at h;exact⟨0,by omega,h.symm⟩
    ·rintro⟨j,c,rfl⟩;have:j=0:=by omega
     subst this;simp
   have k:=hd (m-1) (by omega);rw[show m-1+1=m by omega]at k;by_cases f:d[m]! = d[m-1]!
   ·rw[Go.Lib.keeps_neg (by omega) f];simp only[uk,if_false,vM];refine⟨l,λx=>?_,λx hx=>?_⟩
    ·rw[n];constructor
     ·rintro⟨j,c,rfl⟩;exact⟨j,by omega,rfl⟩
     ·rintro⟨j,c,rfl⟩;by_cases e:j=m
      ·subst e;exact⟨j-1,by omega,f.symm⟩
      ·exact⟨j,by omega,rfl⟩
    ·have:=g x hx;rw[show m+1-1=m by omega,f];exact this
   ·rw[Go.Lib.keeps_pos f,tf rfl];refine⟨List.pairwise_append.2 ⟨l,by simp,λa q b o=>?_⟩,λx=>?_,λx hx=>?_⟩
    ·simp at o;subst o;have:=g a q;omega
    ·rw[uB,n];constructor
     ·rintro(⟨j,c,rfl⟩|h)
      ·exact⟨j,by omega,rfl⟩
      ·simp at h;exact⟨m,by omega,h.symm⟩
     ·rintro⟨j,c,rfl⟩;by_cases e:j=m
      ·subst e;exact .inr (by simp)
      ·exact .inl ⟨j,by omega,rfl⟩
    ·rw[show m+1-1=m by omega];rcases List.mem_append.1 hx with hx|hx
     ·have:=g x hx;omega
     ·simp at hx;omega
theorem ca(xs:List Int):(FB xs).Pairwise (·<=·):=by
 have:=List.pairwise_mergeSort (le:=λx y:Int=>decide (x<=y)) (λa b c d e=>by simp at *;omega) (λa b=>by simp;omega) xs;exact this.imp (by simp)
theorem VW(xs:List Int):(setI xs).Pairwise (·<·)/\∀x,x∈setI xs↔x∈xs:=by
 have d:=ca xs;have e:∀x,x∈FB xs↔x∈xs:=λx=>kz;unfold setI;generalize FB xs=s at d e;have b:∀i (h:i<s.length),s.toArray[i]! = s[i]:=λi h=>by simp[h]
 obtain⟨f,g,_⟩:=TJ s.toArray (λi c=>by
  have c:i+1<s.length:=by simpa using c
  rw[b i (by omega),b (i+1) c];exact List.pairwise_iff_getElem.1 d i (i+1) (by omega) c (by omega)) s.length (by simp)
 refine⟨f,λx=>?_⟩;unfold Go.Lib.compact;rw[g,<-e];constructor
 ·rintro⟨j,a,rfl⟩;rw[b j a];exact ta a
 ·intro h;obtain⟨j,a,rfl⟩:=List.getElem_of_mem h;exact⟨j,a,b j a⟩
theorem o9{a b:List Int}(c:a.Pairwise (·<·))(d:b.Pairwise (·<·))(h:∀x,x∈a↔x∈b):a=b:=by
 have hp:a.Perm b:=(List.perm_ext_iff_of_nodup (c.imp λh=>by omega) (d.imp λh=>by omega)).2 h;exact List.Perm.eq_of_pairwise (le:=(·<·)) (λx y _ _ e f=>by omega) c d hp
theorem ZQ(x:Int):∀(l:List Int),l.Pairwise (·<·)->(insU x l).Pairwise (·<·)/\∀y,y∈insU x l↔y=x\/y∈l
 | [],_=>by simp[insU]
 | z :: r,h=>by
   obtain⟨a,d⟩:=List.pairwise_cons.1 h;unfold insU;by_cases c:x<z
   ·rw[ti c,tJ];refine⟨List.pairwise_cons.2 ⟨λy hy=>?_,h⟩,λy=>by simp⟩;rcases List.mem_cons.1 hy with rfl|hy
    ·exact c
    ·have:=a y hy;omega
   ·rw[tD c,tC];by_cases e:x=z
    ·rw[show(x==z)=true by simp[e],tJ];exact⟨h,λy=>by subst e;simp⟩
    ·rw[show(x==z)=false by simp[e],tC];obtain⟨f,b⟩:=ZQ x r d;refine⟨List.pairwise_cons.2 ⟨λy hy=>?_,f⟩,λy=>by simp only[vA,b];exact⟨λh=>by rcases h with h|h|h<;>simp[h],λh=>by rcases h with h|h|h<;>simp[h]⟩⟩
     rcases(b y).1 hy with rfl|hy
     ·omega
     ·exact a y hy
theorem setU_spec:∀(xs:List Int),(setU xs).Pairwise (·<·)/\∀x,x∈setU xs↔x∈xs
 | []=>by simp[setU]
 | z :: r=>by
   obtain⟨a,b⟩:=setU_spec r;obtain⟨c,d⟩:=ZQ z (setU r) a;exact⟨c,λx=>by rw[show setU (z :: r)=insU z (setU r)from rfl,d,b];simp⟩
theorem setU_eq(xs:List Int):setU xs=setI xs :=
 o9 (setU_spec xs).1 (VW xs).1 λx=>((setU_spec xs).2 x).trans ((VW xs).2 x).symm
end Go.Proofs.YtkjijhldfdplgaaGreatDoor.P.F
namespace Go.Proofs.YtkjijhldfdplgaaGreatDoor.P
open Go Go.Abs Go.Proofs
set_option maxRecDepth 100000
variable {s:Aa} {x:Ao}
theorem oe:(YZ.all λL=>(List.range (H5 L).toNat).all λb=>(EJ L 0 0 b).isSome&&(Cr L).all λv=>(List.range (H5 L).toNat).all λa=>(EJ L a (cv L a v) b).isSome)=true:=by decide +kernel
def KQ(s:Aa)(i:Nat)(r:Int×Bool):Prop:=∀hi:i<s.A.length,ER s.A[i]->r.2=true->r.1=CF\/(-46<=r.1/\r.1<=46)
theorem ai(j:DS s){i:Nat}(q:1<=i)(d:i<s.A.length){a b u:Int}(a0:0<=a)(F:a<=Da s i)(G:0<=b)(H:b<=Da s i)(k:ER s.A[i]->1<=b)(t:a=0/\u=0\/∃v,Z1 s s.A[i] v/\u=CV s s.A[i] a v):Ok (D6 s i a u b) (KQ s i):=by
 have I:=j.fin_ok q d;unfold D6;refine qr (j.pfinest q d) (y3 (by grind) (y4 d ?_));rcases j.col q d with h|h
 ·obtain⟨L,A,c⟩:=j.clist h;have e:Da s i=H5 L-1:=by rw[Es d,FO h c]
  have y:∀r,KQ s i r:=λr _ m=>by have:=m.kind;rw[h.kind]at this;cases this
  obtain⟨f1,f2⟩:=Bool.and_eq_true_iff.1 (List.all_eq_true.1 (List.all_eq_true.1 oe L A) b.toNat (List.mem_range.2 (by omega)));rw[show((b.toNat:Nat):Int)=b by omega]at f1 f2
  have:Ok (EJ L a u b) λ_=>True:=by
   rcases t with⟨rfl,rfl⟩|⟨v,o,rfl⟩
   ·obtain⟨r,hr⟩:=Option.isSome_iff_exists.1 f1;exact⟨r,hr,trivial⟩
   ·have:=List.all_eq_true.1 (List.all_eq_true.1 f2 _ (o.code h c)) a.toNat (List.mem_range.2 (by omega));rw[show((a.toNat:Nat):Int)=a by omega]at this;rw[ax h c];obtain⟨r,hr⟩:=Option.isSome_iff_exists.1 this;exact⟨r,hr,trivial⟩
  exact y6 (by rw[h.kind];rfl) (qr c (this.bind λr _=>y5 (λ_=>ur (y _)) λ_=>ur (y _)))
 ·have B:Da s i=s.A[i].S.length:=by rw[Es d,Db h]
  have k:=k h;have C:CF=-1099511627776:=rfl;obtain⟨J,K⟩:=h.low;obtain⟨D,M⟩:=h.high;refine y3 (by rw[h.kind];rfl) (Ok.bind (P:=λr:Int×Bool=>r.2=true->r.1=CF\/(-46<=r.1/\r.1<=46)) ?_ λr hr=>y5 (λ_=>ur λ_ _ h=>by cases h) λe=>ur λ_ _ _=>hr (by grind));unfold F9;refine y5 (λe=>y3 (by grind) (ur λ_=>.inl (by grind))) λe=>?_
  obtain⟨w,z,rfl⟩:∃w,(s.A[i].D<=w/\w<=s.A[i].E)/\u=mv s.A[i] a w:=by
   by_cases p:a=0
   ·refine⟨_,⟨ua _,D⟩,?_⟩;rcases t with⟨_,f⟩|⟨v,o,f⟩
    ·rw[f];unfold mv;rw[tf p]
    ·rw[f,Sv h];unfold mv;rw[tf p,tf p]
   ·obtain⟨v,o,f⟩:=t.resolve_left (by grind);rw[Sv h]at f;rcases o.meas h with E|⟨_,E⟩
    ·grind
    ·unfold mv at f;grind
  have g:=FV h (l:=b) k (by omega);have N:=vO (it s.A[i] a w) (by omega:Ld s.A[i] b≠0);have O:=vj (it s.A[i] a w) (by omega:0<Ld s.A[i] b)
  have Q:(s.A[i].D<=it s.A[i] a w/\it s.A[i] a w<=s.A[i].E)/\s.A[i].D<=lj s.A[i] a w/\lj s.A[i] a w<=s.A[i].E:=by
   unfold it lj;by_cases p:a=0
   ·grind
   ·have:=Ku h (l:=a) (by omega) (by omega) z;grind
  refine qr (nx h a0 (by omega) z) (y3 rfl (y3 (by grind) (y5 (λ_=>ur λh=>by cases h) λ_=>qr (bP h k (by omega)) ?_)));have hd:=MK (n:=it s.A[i] a w) g.1 (by omega) (by omega) (by omega);refine qr hd (qr hd (qr (MK (n:=lj s.A[i] a w) g.1 (by omega) (by omega) (by omega)) (ur λ_=>.inr ⟨?_,?_⟩)))
  all_goals grind
def pb(p:List Ac)(r:List Int):Ao:={ Ae:=.empty,Af:=0,H:=p,C:=[r] }
def kv(s:Aa)(p:List Ac)(r:List Int)(i b:Int):Int×Bool:=(Be s (pb p r) 0 i b).getD (0,false)
theorem pX(c:DS s)(hx:GX s x){i j:Nat}(d:1<=i)(e:i<s.A.length)(g:j<x.C.length){b:Int}(h:0<=b)(l:b<=Da s i)(m:ER s.A[i]->1<=b):Ok (Be s x j i b) (KQ s i):=by
 have B:=c.fin_ok d e;have o:=hx.picks_len c;have hr:=hx.rows _ (ta g);unfold Be;refine qr (IS (q:=λp=>p.B==(i:Int)) (λ_ _=>rfl) (by omega)) ?_;unfold G6
 cases hff:x.H.findIdx? (λp=>p.B==(i:Int))with
 | none=>exact y6 rfl ((ai c d e (ua _) (by omega) h l m (.inl ⟨rfl,rfl⟩)).bind λr hr=>ur hr)
 | some k =>
   obtain⟨hk,f,_⟩:=List.findIdx?_eq_some_iff_getElem.1 hff;have f:x.H[k].B=(i:Int):=by grind
   obtain⟨n,_,_,C,t,u⟩:=hx.picks _ (ta hk);obtain rfl:n=i:=by omega
   have a:k+1<x.C[j].length:=by omega
   obtain⟨v,y,w,_,D,z,A⟩:=hr.2.2.2 k _ _ (P3 hk) (P3 a);obtain rfl:v=n:=by omega
   refine y3 (tD (by grind)) (y4 hk (y4 g ?_));rw[CB];exact y4 a ((ai c d e t u h l m (.inr ⟨w,z,A⟩)).bind λr hr=>ur hr)
theorem ZS{j:Nat}(a:j<x.C.length)(i b:Int):Be s x j i b=Be s (pb x.H x.C[j]) 0 i b:=by
 unfold Be;rw[DG a];rfl
theorem dW(c:DS s)(hx:GX s x){i j:Nat}(d:1<=i)(f:i<s.A.length)(a:j<x.C.length){b:Int}(g:0<=b)(k:b<=Da s i)(l:ER s.A[i]->1<=b):Be s x j i b=some (kv s x.H x.C[j] i b)/\KQ s i (kv s x.H x.C[j] i b):=by
 obtain⟨r,e,h⟩:=pX c hx d f a g k l;have:kv s x.H x.C[j] i b=r:=by unfold kv;rw[<-ZS a,e];rfl
 grind
def hp(d:Nat)(s:Aa)(p:List Ac)(c:Ah)(r:List Int):Bool:=(((BL d s c).bind λq=>BB p q).getD false)&&(Fu d s c p (r.drop 1)).getD 0==1
def qy(s:Aa)(p:List Ac)(r:List Int)(c:Int):Bool:=bif !(kv s p r c (Da s c.toNat)).2 then true else(kv s p r c (Da s c.toNat)).1==-1099511627776
def cp(d:Nat)(s:Aa)(p:List Ac)(c:Ah)(cols:List Int)(r:List Int):Bool:=hp d s p c r&&!cols.any (qy s p r)
theorem Ym{σ ρ:Type}{body:(Int×σ->Option ρ)->Int->σ->Option ρ}{z:Option ρ}(len:Nat)(f:Nat->σ)(d:∀rec (i:Nat),i<len->body rec (i:Int) (f i)=rec (((i+1:Nat):Int),f (i+1)))(b:∀rec,body rec (len:Int) (f len)=z)(e:len<=1000000000000:=by omega):P.iter (λrec a=>body rec a.1 a.2) AC (0,f 0)=z:=by
 have key:∀(m i n:Nat),i+m=len->m<n->P.iter (λrec a=>body rec a.1 a.2) n ((i:Int),f i)=z:=by
  intro m
  induction m with
  | zero =>
    intro i n h c;obtain⟨n,rfl⟩:∃k,n=k+1:=⟨n-1,by omega⟩;obtain rfl:i=len:=by omega
    exact b _
  | succ m ih =>
    intro i n h c;obtain⟨n,rfl⟩:∃k,n=k+1:=⟨n-1,by omega⟩;rw[kh];grind
 exact key len 0 AC (by omega) (by unfold AC;omega)
def VG(P:List Int->Bool)(R:List (List Int)):List Int:=((List.range R.length).filter λj=>P (R.getD j [])).map λj:Nat=>(j:Int)
abbrev Hc(R:List (List Int))(v:Int):List Int:=R.getD v.toNat []
theorem aa{R:List (List Int)}{j:Nat}(a:j<R.length):Hc R (j:Int)=R[j]:=by grind
theorem bB{P:List Int->Bool}{R:List (List Int)}{v:Int}(h:v∈VG P R):∃j:Nat,v=j/\∃a:j<R.length,P R[j]=true:=by
 obtain⟨j,b,rfl⟩:=List.mem_map.1 h;grind
theorem oP(P:List Int->Bool)(R:List (List Int)):(VG P R).length<=R.length:=by
 unfold VG;grind
theorem SA{β:Type}(f:List Int->β)(P:List Int->Bool)(R:List (List Int)):(VG P R).map (λv=>f (Hc R v))=(R.filter P).map f:=by
 have e:(List.range R.length).map (λj=>R.getD j [])=R:=List.ext_getElem (by simp) λi b a=>by simp[a]
 have h:=congrArg (λl=>(List.filter P l).map f) e;simp only[List.filter_map,vS]at h;rw[<-h];unfold VG;rw[vS];rfl
theorem Yo(P Q:List Int->Bool)(R:List (List Int)):(VG P R).filter (λv=>Q (Hc R v))=VG (λr=>P r&&Q r) R:=by
 unfold VG;rw[List.filter_map,List.filter_filter];grind
theorem S6(a:DS s)(hx:GX s x){c:Ah}(h:GC s c){d:Nat}(hd:40<=d):Ck d s x c=some (VG (hp d s x.H c) x.C):=by
 have u:=hx.len;have l:=hx.picks_len a;obtain⟨q,hq,f⟩:=h.needs a hd;have g:=bO x.H q (by omega) (by have:=f.2;omega)
 have w:∀r,hp d s x.H c r=(covers x.H q&&(Fu d s c x.H (r.drop 1)).getD 0==1):=λr=>by
  unfold hp;grind
 refine Ok.val ?_;unfold Ck;refine qr (h.check a hd) (y3 rfl (qr hq (qr g (y5 (λe=>ur ?_) λe=>?_))))
 ·have:∀R,VG (hp d s x.H c) R=[]:=λR=>List.eq_nil_iff_forall_not_mem.2 λv m=>by
   obtain⟨j,_,y,z⟩:=bB m;grind
  rw[this]
 ·unfold GD;refine y9 x.C.length (λk b=>b=((List.range k).filter λj=>hp d s x.H c (x.C.getD j [])).map λj:Nat=>(j:Int)) rfl (λrec b i=>Ok.f (ur i)) λrec k b hk i ih=>Ok.t (y4 hk (Ok.t ?_ (by have:=(hx.rows _ (ta hk)).1;omega)));have n:b.length<=k:=by grind
  obtain⟨t,o,_⟩:=jq a hx (ta hk) h hd;have p:hp d s x.H c (x.C.getD k [])=(t==1):=by grind
  rw[qA]
  refine qr o (y5 (λe=>Ok.rm (by grind) (ih _ _ CB ?_)) λe=>ih _ _ CB ?_) <;>
   ·rw[List.range_succ,uS,tA,<-i];grind
def IP(x:Ao)(l:List Int):Prop:=l.length<=200/\∀v∈l,∃j:Nat,v=j/\j<x.C.length
theorem Ud(hx:GX s x)(P:List Int->Bool):IP x (VG P x.C):=⟨tw (oP _ _) hx.len,λv a=>by
 obtain⟨j,b,c,_⟩:=bB a;exact⟨j,b,c⟩⟩
theorem Kh(a:DS s)(hx:GX s x){c:Ah}(h:GC s c){d:Nat}(hd:40<=d){cols:List Int}(l:cols.length<=10/\∀v∈cols,IM s v):BP d s x c cols=some (VG (cp d s x.H c cols) x.C):=by
 have b:=Ud hx (hp d s x.H c);refine Ok.val ?_;unfold BP;refine qr (hx.check a) (y3 rfl (qr (S6 a hx h hd) ?_))
 have e:∀v∈VG (hp d s x.H c) x.C,Cs v cols s x=some (cols.any (qy s x.H (Hc x.C v))):=λv m=>by
  obtain⟨j,rfl,n⟩:=b.2 v m;unfold Cs;rw[XH (p:=λa0=>C1 a0 s x (j:Int)) (qy s x.H (Hc x.C j)) (λc f=>Ok.val ?_) (by omega)]
  ·rfl
  ·obtain⟨i,rfl,g,k,q⟩:=l.2 c f;have o:=a.fin_ok g k;unfold C1;refine qr (a.pFinest g k) (qr (dW a hx g k n (by omega) (ua _) (λ_=>o.1)).1 (ur ?_));unfold qy;grind
 refine qr (iB (p:=λa0=>Cs a0 cols s x) _ e (by have:=b.1;omega)) (ur ?_);exact Yo _ (λr=>!cols.any (qy s x.H r)) _
def vl(s:Aa)(p:List Ac)(m:Int)(r:List Int):Int:=(kv s p r m (Da s m.toNat)).1
theorem fw(c:DS s)(hx:GX s x){m:Int}(n:IM s m){l:List Int}(f:IP x l):Bu s x l m=some (l.map λv=>vl s x.H m (Hc x.C v)):=by
 obtain⟨i,rfl,d,e,q⟩:=n;have o:=c.fin_ok d e;have p:=f.1;refine Ok.val ?_;unfold Bu;refine y9 l.length (λk b=>b=(l.take k).map λv=>vl s x.H i (Hc x.C v)) rfl (λrec b g=>Ok.f (ur (by grind))) λrec k b hk g ih=>Ok.t (y4 hk (qr (c.pFinest d e) ?_));obtain⟨j,h,a⟩:=f.2 _ (ta hk);rw[h];refine qr (dW c hx d e a (by omega) (ua _) (λ_=>o.1)).1 (Ok.rm (by grind) (ih _ _ CB ?_));rw[g,tp hk,tA,h];simp only[tg,t9,vl,aa a,tu]
theorem qI(hx:GX s x){l:List Int}(c:IP x l):BV x l=some (l.map λv=>hd (Hc x.C v)):=by
 have f:=c.1;refine Ok.val ?_;unfold BV;refine y9 l.length (λk b=>b=(l.take k).map λv=>hd (Hc x.C v)) rfl (λrec b d=>Ok.f (ur (by grind))) λrec k b hk d ih=>Ok.t (y4 hk ?_);obtain⟨j,e,a⟩:=c.2 _ (ta hk);rw[e];refine y4 a (qr (GM (hx.ne (ta a))) (Ok.rm (by grind) (ih _ _ CB ?_)));rw[d,tp hk,tA,e];simp only[tg,t9,aa a]
theorem PY(a:DS s)(hx:GX s x){m:Int}(b:IM s m)(P:List Int->Bool):Bu s x (VG P x.C) m=some ((x.C.filter P).map (vl s x.H m)):=by
 rw[fw a hx b (Ud hx P),SA]
theorem OX(hx:GX s x)(P:List Int->Bool):BV x (VG P x.C)=some ((x.C.filter P).map hd):=by
 rw[qI hx (Ud hx P),SA]
theorem NO(P:List Int->Bool)(R:List (List Int)):(VG P R).length=(R.filter P).length:=by
 have:=congrArg List.length (SA (λ_=>()) P R);grind
section
variable {s:Aa} {x y:Ao} {P:List Int->Bool}
def NR(s:Aa)(P:List Int->Bool)(x y:Ao):Prop:=GX s y/\y.H=x.H/\y.C.filter P=x.C.filter P
def SB(s:Aa)(x:Ao)(L:List Int)(y:Ao):Prop:=GX s y/\y.H=x.H/\∃K:List Int,y.C=x.C.filter (λr=>K.contains (hd r))/\∀v∈L,v∈K
abbrev ky(P:List Int->Bool)(x:Ao):List Int:=(x.C.filter P).map hd
theorem SB.nr{L:List Int}(h:SB s x L y)(a:L=ky P x):NR s P x y:=⟨h.1,h.2.1,by
 obtain⟨K,b,c⟩:=h.2.2;rw[b,List.filter_filter];refine List.filter_congr λr hr=>?_
 cases e:P r
 ·rfl
 ·have:=c (hd r) (by rw[a];exact vC (List.mem_filter.2 ⟨hr,e⟩))
  simpa using this⟩
theorem SB.mono{L M:List Int}(h:SB s x L y)(a:∀v∈M,v∈L):SB s x M y:=by
 obtain⟨b,c,K,d,e⟩:=h;exact⟨b,c,K,d,λv f=>e v (a v f)⟩
def LI(x:Ao)(l:List Int):Prop:=l.Pairwise (·<·)/\∀v∈l,∃r∈x.C,hd r=v
theorem rK(hx:GX s x):LI x (ky P x):=⟨List.pairwise_map.2 (hx.asc.sublist vZ),λv a=>by
 obtain⟨r,b,c⟩:=List.mem_map.1 a;exact⟨r,(List.mem_filter.1 b).1,c⟩⟩
theorem Ko(hx:GX s x):(ky P x).length<=200:=by
 rw[sX];exact tw (ug _ _) hx.len
def VI(s:Aa)(x:Ao)(d:Nat)(e:Ar)(r:A9×Int):Prop:=r.2=0->VB r.1/\LI x r.1.Lineage/\∀y,SB s x r.1.Lineage y->An d (Po s y []) e=some r
theorem VI.leaf(hx:GX s x){d:Nat}{e:Ar}(h:Ok (An d (Po s x []) e) λr=>r.2=0->VB r.1/\r.1.Lineage=ky P x)(c:∀y,NR s P x y->An d (Po s y []) e=An d (Po s x []) e):Ok (An d (Po s x []) e) (VI s x d e):=by
 obtain⟨r,a,f⟩:=h;refine⟨r,a,λg=>?_⟩;obtain⟨i,b⟩:=f g;exact⟨i,by rw[b];exact rK hx,λy hy=>(c y (hy.nr b)).trans a⟩
theorem qX(e:DS s)(hx:GX s x){d:Nat}{c:Ah}{cols:List Int}{m:Int}(g:IM s m)(t:m∈cols):SM ((x.C.filter (cp d s x.H c cols)).map (vl s x.H m)):=λv h=>by
 obtain⟨r,hr,rfl⟩:=List.mem_map.1 h;obtain⟨hr,k⟩:=List.mem_filter.1 hr;obtain⟨j,l,rfl⟩:=List.mem_iff_getElem.1 hr;obtain⟨i,rfl,f,a,n⟩:=g;have o:=e.fin_ok f a;have hk:=(dW e hx f a l (b:=Da s i) (by omega) (ua _) (λ_=>o.1)).2 a n;unfold cp at k;have p:qy s x.H x.C[j] i=false:=by grind
 have q:CF=-1099511627776:=rfl;unfold qy at p;unfold vl;grind
def nW(op:Int)(V K:List Int):Option (A9×Int):=iter (λf t=>Cb V (λg _=>(Gj g (bif op==5 then(V.length:Int)else 1)).bind λa=>bif a.2 != 0 then some (nv 0 { L:=0,N:=0 } [],a.2)else some (nv 1 a.1 K,0)) f t.1 t.2) AC (0,0)
theorem nX(a:DS s)(hx:GX s x){op m:Int}{c:Ah}(b:IM s m)(h:GC s c){d:Nat}(hd:40<=d):BU d (Po s x []) (eX op 0 .empty m [] [] c C9 [])=nW op ((x.C.filter (cp d s x.H c [m])).map (vl s x.H m)) (ky (cp d s x.H c [m]) x):=by
 unfold BU;show(BP d s x c [m]).bind _=_;rw[Kh a hx h hd ⟨by simp,λv e=>by rw[List.mem_singleton.1 e];exact b⟩,tc];show(Bu s x _ m).bind _=_;rw[PY a hx b,tc];unfold nW Ek;simp only[NO,sX,Po,eX];rw[OX hx];simp only[tc]
 cases op==5<;>rfl
theorem pC{op:Int}{V K:List Int}(d:V.length<=200)(a:SM V):Ok (nW op V K) λr=>r.2=0->∃f,r.1=nv 1 f K/\Vt f=true:=by
 unfold nW;refine y7 (λq=>q.2) V.length (λk q=>-(46*(k:Int))<=q.1/\q.1<=46*k) 0 (sZ _) rfl ⟨by decide,by decide⟩ (by omega) (λrec q hq b=>?_) λrec k q hk hq b ih=>?_
 ·simp only[Cb,hq];refine Ok.f ((mY (i64_in (by omega) (by omega)) ?_).bind λf c=>y5 (λe=>ur λg=>?_) λe=>ur λ_=>⟨_,rfl,c (by grind)⟩)
  ·cases op==5
   ·exact i64_in (m:=1) (by omega) (by omega)
   ·exact i64_in (m:=(V.length:Int)) (by omega) (by omega)
  ·grind
 ·simp only[Cb,hq];have:=a _ (ta hk);refine Ok.t (y4 hk (ih _ CB ?_));show -(46*((k+1:Nat):Int))<=i64.wrap (q.1+V[k])/\i64.wrap (q.1+V[k])<=46*((k+1:Nat):Int);rw[wr];omega
theorem TP(a:DS s)(hx:GX s x){c:Ah}(h:GC s c){d:Nat}(hd:40<=d):An (d+1) (Po s x []) (eX 3 0 .empty 0 [] [] c C9 [])=some (nv 1 { L:=((x.C.filter (hp d s x.H c)).length:Int),N:=1 } (ky (hp d s x.H c) x),0):=by
 refine Ok.val ?_;show Ok (AD d (An d) (AJ d) (Po s x []) _) _;unfold AD;refine y3 rfl (y3 rfl (y6 rfl (qr (S6 a hx h hd) (qr (OX hx _) (ur ?_)))));rw[NO];rfl
def PP(s:Aa)(x:Ao)(d M:Nat)(a b:Ar)(r:A9×Int):Prop:=RN M r/\(r.2=0->∃p q,VI s x d a (p,0)/\VI s x d b (q,0)/\An d (Po s x []) a=some (p,0)/\An d (Po s x []) b=some (q,0)/\r.1.Lineage=F.setU (p.Lineage++q.Lineage))
theorem cm(C:DS s)(hx:GX s x){B:Nat}(hB:200<=B)(D:B<=20000):∀(m d:Nat){e:Ar},EN s [] m e->m<=2->40+2*m<d->Ok (An d (Po s x []) e) λr=>RN (2 ^ m*B) r/\VI s x d e r
 | m,d+1,e,h,hm,hd=>by
   have hq:B<=2 ^ m*B:=vI _ (uc m);have E:2 ^ m*B<=1000000:=tw (vh (tR (by decide) hm) D) (by decide)
   have A:∀{Q:List Int->Bool}(f:AO->Prop),(∀j,f j->Vt j=true)->(Ok (An (d+1) (Po s x []) e) λr=>r.2=0->∃j,r.1=nv 1 j (ky Q x)/\f j)->(∀y,NR s Q x y->An (d+1) (Po s y []) e=An (d+1) (Po s x []) e)->Ok (An (d+1) (Po s x []) e) λr=>RN (2 ^ m*B) r/\VI s x (d+1) e r:=λ{Q} f hf t i=>by
    have hn:∀r:A9×Int,(r.2=0->∃j,r.1=nv 1 j (ky Q x)/\f j)->RN (2 ^ m*B) r:=λr hr H=>by
     obtain⟨j,z,M⟩:=hr H;exact⟨j,_,z,hf _ M,by have:=Ko (P:=Q) hx;omega⟩
    obtain⟨r,z,M⟩:=t;refine⟨r,z,hn r M,?_⟩;obtain⟨r',h5,h6⟩:=VI.leaf hx ⟨r,z,λH=>⟨(hn r M H).vb E,by obtain⟨_,h7,_⟩:=M H;rw[h7];rfl⟩⟩ i;rw[z]at h5;obtain rfl:=sY h5;exact h6
   cases h with
   | int m k h =>
     have o:NV (2 ^ m*B) (nv 1 { L:=k,N:=1 } []):=⟨_,[],rfl,cn (m:=k) (by omega) (by omega),sZ _⟩;exact⟨(nv 1 { L:=k,N:=1 } [],0),rfl,λ_=>o,λ_=>⟨o.vb E,⟨List.Pairwise.nil,λv o=>by cases o⟩,λy _=>rfl⟩⟩
   | name m nm h=>cases h
   | count m c h =>
     refine A (λj=>Vt j=true) (λ_ h=>h) (Q:=hp d s x.H c) ?_ λy hy=>?_
     ·rw[TP C hx h (by omega)];exact ur λ_=>⟨_,rfl,cn (m:=((x.C.filter (hp d s x.H c)).length:Int)) (by omega) (by have:=Ko (P:=hp d s x.H c) hx;rw[sX]at this;omega)⟩
     ·obtain⟨O,t,i⟩:=hy;rw[TP C hx h (by omega),TP C O h (by omega),t];unfold ky;rw[i]
   | sum m op k c ho R h =>
     have w:∀y,GX s y->An (d+1) (Po s y []) (eX op 0 .empty k [] [] c C9 [])=nW op ((y.C.filter (cp d s y.H c [k])).map (vl s y.H k)) (ky (cp d s y.H c [k]) y):=λy O=>by
      rw[<-nX C O R h (d:=d) (by omega)];have e:∀m:Option (A9×Int),m.bind (λg=>some (g.1,g.2))=m:=λm=>by cases m<;>rfl
      rcases ho with rfl|rfl<;>exact e _
     refine A (λj=>Vt j=true) (λ_ h=>h) (Q:=cp d s x.H c [k]) ?_ λy hy=>?_
     ·rw[w x hx];exact pC (by have:=Ko (P:=cp d s x.H c [k]) hx;rw[sX]at this ⊢;exact this) (qX C hx R (List.mem_singleton.2 rfl))
     ·obtain⟨O,t,i⟩:=hy;rw[w x hx,w y O,t];unfold ky;rw[i]
   | pair m op a b ho ha hb =>
     obtain⟨d,rfl⟩:∃k,d=k+1:=⟨d-1,by omega⟩;have hm2:2 ^ m*B<=2*B:=tW _ (by rcases(by omega:m=0\/m=1)with rfl|rfl<;>decide)
     have hc:∀y,An d (Po s y []) a=An d (Po s x []) a->An d (Po s y []) b=An d (Po s x []) b->AJ (d+1) (Po s y []) (eX op 0 .empty 0 [] [] C9 C9 [a,b])=AJ (d+1) (Po s x []) (eX op 0 .empty 0 [] [] C9 C9 [a,b]):=λy t i=>by
      show Bl d (An d) (AJ d) (Po s y []) _=Bl d (An d) (AJ d) (Po s x []) _;unfold Bl;rw[show P.idx (eX op 0 .empty 0 [] [] C9 C9 [a,b]).G 0=some a from rfl,show P.idx (eX op 0 .empty 0 [] [] C9 C9 [a,b]).G 1=some b from rfl];simp only[tc,t,i]
     have o:∀y,An (d+1+1) (Po s y []) (eX op 0 .empty 0 [] [] C9 C9 [a,b])=AJ (d+1) (Po s y []) (eX op 0 .empty 0 [] [] C9 C9 [a,b]):=λy=>by
      have e:∀m:Option (A9×Int),m.bind (λg=>some (g.1,g.2))=m:=λm=>by cases m<;>rfl
      rcases ho with rfl|rfl|rfl|rfl<;>exact e _
     rw[o]
     have I:Ok (AJ (d+1) (Po s x []) (eX op 0 .empty 0 [] [] C9 C9 [a,b])) (PP s x d (2 ^ (m+1)*B) a b):=by
      show Ok (Bl d (An d) (AJ d) (Po s x []) _) _;unfold Bl;obtain⟨⟨p,u⟩,S,p2,p3⟩:=cm C hx hB D m d ha (by omega) (by omega);obtain⟨⟨q,v⟩,T,q2,W⟩:=cm C hx hB D m d hb (by omega) (by omega);have X:∀{v:A9}{n:Int},(n != 0)=true->Ok (some (v,n)) (PP s x d (2 ^ (m+1)*B) a b):=λ{v n} e=>ur ⟨RN.err e,λe0=>absurd (show n=0 from e0) (by simpa using e)⟩;refine qr (x:=a) rfl (qr S (y5 X λe=>qr (x:=b) rfl (qr T (y5 X λe'=>?_))));obtain rfl:u=0:=by grind
      obtain rfl:v=0:=by grind
      obtain⟨f,l,t,i,z⟩:=p2 rfl;obtain⟨g,k,k1,K,Y⟩:=q2 rfl;change p=_ at t;change q=_ at k1;subst t k1
      have Da:∀{G:Option (AO×Int)},Ok G FR->Ok (G.bind λJ=>bif(J.2 != 0)then some (nv 0 { L:=0,N:=0 } [],J.2)else(D4 l k).bind λx63=>some (nv 1 J.1 x63,0)) (PP s x d (2 ^ (m+1)*B) a b):=λhF=>hF.bind λr hr=>y5 X λe=>by
       obtain⟨u,U,hu2⟩:=fu (a:=l) (b:=k) z Y (by omega) (by omega)
       have Z:u=F.setU (l++k):=by
        unfold D4 at U;rw[dt ⟨by omega,by omega⟩]at U;exact(sY U).symm
       exact qr U (ur ⟨λ_=>⟨_,_,rfl,hr (by grind),by rw[vR,tV (2 ^ m) 2,uw];omega⟩,λ_=>⟨_,_,p3,W,S,T,Z⟩⟩)
      rcases ho with rfl|rfl|rfl|rfl
      ·exact y3 rfl (y3 rfl (y3 rfl (Da (lC i K))))
      ·exact y6 rfl (Da (nV i K))
      ·exact y3 rfl (y6 rfl (Da (mV i K)))
      ·exact y3 rfl (y3 rfl (y6 rfl (Da (lS i K))))
     obtain⟨r,t,i,z⟩:=I;refine⟨r,t,i,λH=>?_⟩;obtain⟨p,q,p3,W,S,T,hL⟩:=z H;obtain⟨_,⟨_,l2⟩,l3⟩:=p3 rfl;obtain⟨_,⟨_,K⟩,Y⟩:=W rfl;have V:=F.setU_spec (p.Lineage++q.Lineage);refine⟨(i H).vb E,⟨by rw[hL];exact V.1,λv o=>?_⟩,λy hy=>?_⟩
     ·rw[hL,V.2]at o;exact(List.mem_append.1 o).elim (l2 v) (K v)
     ·rw[hL]at hy;rw[o,<-t];exact hc y ((l3 y (hy.mono λv o=>(V.2 v).2 (List.mem_append_left _ o))).trans S.symm) ((Y y (hy.mono λv o=>(V.2 v).2 (List.mem_append_right _ o))).trans T.symm)
end
variable {s:Aa} {x y:Ao}
theorem N9(a:DS s)(hx:GX s x){q:List Ac}(h:NA s q):BB x.H q=some (covers x.H q):=bO _ _ (by have:=hx.picks_len a;omega) (by have:=h.2;omega)
theorem YU(a:DS s)(hx:GX s x){e:Ar}(h:ET s e){d:Nat}(hd:50<=d):Ok (Ea d s x e) λ_=>True:=by
 unfold Ea;exact qr (hx.check a) (y3 rfl (qr (h.right' a hd).1 (y3 rfl ((LX a h hd).bind λr hr=>qr (N9 a hx hr) (y5 (λ_=>ur trivial) λ_=>ur trivial)))))
theorem am(a:DS s)(hx:GX s x)(hy:GX s y)(hp:y.H=x.H)(d:Nat)(e:Ar):Ea d s y e=Ea d s x e:=by
 unfold Ea;rw[hx.check a,hy.check a,hp]
def LB{α:Type}(x:Ao)(P:List Int->Bool)(r:α×List Int×Int):Prop:=r.2.2=0->r.2.1=ky P x
theorem q8(a:DS s)(hx:GX s x){m:Int}{c:Ah}(e:IM s m)(h:GC s c){d:Nat}(hd:50<=d)(hy:NR s (cp d s x.H c [m]) x y):H9 d s y m c=H9 d s x m c:=by
 obtain⟨b,f,i⟩:=hy;have g:([m]:List Int).length<=10/\∀v∈[m],IM s v:=⟨by simp,λv j=>by rw[List.mem_singleton.1 j];exact e⟩;unfold H9;simp only[am a hx b f,Kh a hx h (by omega:40<=d) g,Kh a b h (by omega:40<=d) g,tc,PY a hx e,PY a b e,OX hx,OX b,f,i]
theorem rz(a:DS s)(hx:GX s x){m:Int}{c:Ah}(b:IM s m)(h:GC s c){d:Nat}(hd:50<=d):Ok (H9 d s x m c) (LB x (cp d s x.H c [m])):=by
 have f:=Ko (P:=cp d s x.H c [m]) hx;rw[sX]at f;unfold H9;refine(YU a hx (.box m c b h) hd).bind λu _=>y5 (λe=>ur λg=>?_) λ_=>?_
 ·grind
 refine qr (Kh a hx h (by omega) ⟨by simp,λv i=>by rw[List.mem_singleton.1 i];exact b⟩) (qr (PY a hx b _) ((eM (by grind) (qX a hx b (List.mem_singleton.2 rfl))).bind λq _=>y5 (λe=>ur λg=>?_) λ_=>qr (OX hx _) (ur λ_=>rfl)));grind
def oZ(s:Aa)(p:List Ac)(i:Nat)(b:Int)(r:List Int):Bool:=bif(kv s p r i b).2 then(kv s p r i b).1 != -1099511627776 else false
def mz(w:Int)(V K:List Int):Option ((List Ei)×(List Int)×Int):=(Nn V w).bind λa=>bif a.2 != 0 then some ([],[],a.2)else some (a.1,K,0)
def hq(d:Nat)(s:Aa)(p:List Ac)(i:Nat)(b:Int)(c:Ah)(r:List Int):Bool:=hp d s p c r&&oZ s p i b r
theorem VC(o:DS s)(hx:GX s x){i t:Nat}(C:1<=i)(g:i<s.A.length)(p:ER s.A[i])(D:t<s.A[i].S.length){c:Ah}(h:GC s c){d:Nat}(hd:50<=d) :
 FS d s x i s.A[i].S[t] c=(Ea d s x (eX 13 s.A[i].S[t] .empty i [] [] c C9 [])).bind λu=>bif u != 0 then some ([],[],u)else mz s.A[i].S[t] ((x.C.filter (hq d s x.H i ((s.A[i].S.length:Int)-t) c)).map λr=>(kv s x.H r i ((s.A[i].S.length:Int)-t)).1) (ky (hq d s x.H i ((s.A[i].S.length:Int)-t) c) x):=by
 have E:Da s i=s.A[i].S.length:=by rw[Es g,Db p]
 unfold FS;rw[S6 o hx h (by omega)];refine congrArg _ (funext λu=>?_)
 cases u != 0
 ·rw[tC,tC,tc];generalize w:VG (hp d s x.H c) x.C=l;generalize F:(s.A[i].S.length:Int)-t=b;have f:IP x l:=by rw[<-w];exact Ud hx _
  have B:=f.1;have key:=Ym (z:=Kv s.A[i].S[t] x (l.length:Int) (l.filter λv=>oZ s x.H i b (Hc x.C v)) ((l.filter λv=>oZ s x.H i b (Hc x.C v)).map λv=>(kv s x.H (Hc x.C v) i b).1)) (body:=λrec v (q:List Int×List Int)=>IW l s i s.A[i].S[t] x (Kv s.A[i].S[t] x) rec v q.1 q.2) l.length (λk=>((l.take k).filter (λv=>oZ s x.H i b (Hc x.C v)),((l.take k).filter λv=>oZ s x.H i b (Hc x.C v)).map λv=>(kv s x.H (Hc x.C v) i b).1)) (λrec k hk=>?_) (λrec=>?_)
  ·refine key.trans ?_;rw[<-w,Yo];show Kv _ x _ (VG (hq d s x.H i b c) x.C) ((VG (hq d s x.H i b c) x.C).map λv=>(kv s x.H (Hc x.C v) i b).1)=_;rw[SA (λr=>(kv s x.H r i b).1)];unfold Kv mz;rw[OX hx];rfl
  ·obtain⟨j,m,a⟩:=f.2 _ (ta hk);have n:=(dW o hx C g a (b:=b) (by omega) (by omega) (λ_=>by omega)).1;have e:∀q:Int->Bool,((l.take k).filter q).length<=k:=λq=>tw (ug _ _) (by grind);simp only[IW];rw[C4,DG hk,tc,Ys g p D,tc,F,m,n,tc];have G:i64.wrap ((k:Int)+1)=((k+1:Nat):Int):=CB;have H:oZ s x.H i b (Hc x.C l[k])=bif(kv s x.H x.C[j] i b).2 then(kv s x.H x.C[j] i b).1 != -1099511627776 else false:=by rw[m,aa a];rfl
   rw[G,tp hk,uS,vF,List.filter_nil,H];have I:=e λv=>oZ s x.H i b (Hc x.C v);generalize (l.take k).filter (λv=>oZ s x.H i b (Hc x.C v))=A at I ⊢
   cases bif(kv s x.H x.C[j] i b).2 then(kv s x.H x.C[j] i b).1 != -1099511627776 else false
   ·simp
   ·rw[tJ,Sd (by show A.length+1<=_;omega),Sd (by grind)];simp only[tJ,if_true,tA,tg,t9,m,aa a]
  ·grind
 ·rfl
theorem oN(a:DS s)(hx:GX s x){i t:Nat}(b:1<=i)(e:i<s.A.length)(f:ER s.A[i])(g:t<s.A[i].S.length){c:Ah}(h:GC s c){d:Nat}(hd:50<=d)(hy:NR s (hq d s x.H i ((s.A[i].S.length:Int)-t) c) x y):FS d s y i s.A[i].S[t] c=FS d s x i s.A[i].S[t] c:=by
 obtain⟨j,k,l⟩:=hy;rw[VC a hx b e f g h hd,VC a j b e f g h hd,am a hx j k,k];grind
theorem qG(g:DS s)(hx:GX s x){i t:Nat}(k:1<=i)(a:i<s.A.length)(f:ER s.A[i])(m:t<s.A[i].S.length){c:Ah}(h:GC s c){d:Nat}(hd:50<=d):Ok (FS d s x i s.A[i].S[t] c) λr=>r.1.length<=200/\LB x (hq d s x.H i ((s.A[i].S.length:Int)-t) c) r:=by
 have n:Da s i=s.A[i].S.length:=by rw[Es a,Db f]
 have o:=Ko (P:=hq d s x.H i ((s.A[i].S.length:Int)-t) c) hx;rw[sX]at o;have l:=fy f m;rw[VC g hx k a f m h hd];refine(YU g hx (.hist i _ c ⟨i,rfl,k,a,f,ta _⟩ h) hd).bind λu _=>y5 (λe=>ur ⟨sZ _,λp=>?_⟩) λ_=>?_
 ·grind
 unfold mz;refine(ir (by grind) l.1 (by omega) λv q=>?_).bind λb C=>y5 (λe=>ur ⟨sZ _,λp=>?_⟩) λ_=>ur ⟨?_,λ_=>rfl⟩
 ·obtain⟨r,hr,rfl⟩:=List.mem_map.1 q;obtain⟨hr,w⟩:=List.mem_filter.1 hr;obtain⟨j,z,rfl⟩:=List.mem_iff_getElem.1 hr;have hk:=(dW g hx k a z (b:=(s.A[i].S.length:Int)-t) (by omega) (by omega) (λ_=>by omega)).2 a f;have A:CF=-1099511627776:=rfl;have B:=(Bool.and_eq_true_iff.1 w).2;unfold oZ at B;grind
 all_goals grind
theorem aQ{l:List Int}(b:l.length<=1000000)(v:Int):AP l v=some (decide (v∈l)):=by
 refine Ok.val ?_;unfold AP Cd;refine Ok.bind (P:=λr:Int=>decide (r>=0)=decide (v∈l)) (y7 (λq=>q) l.length (λk _=>v ∉ l.take k) 0 (sZ _) rfl (by simp) (by omega) (λrec q hq a=>?_) λrec k q hk hq a ih=>?_) λr hr=>ur hr
 ·rw[vf]at a;simp only[Ez,hq];exact Ok.f (ur (by grind))
 ·simp only[Ez,hq];refine Ok.t (y4 hk (y5 (λe=>ur ?_) λe=>ih _ CB λh=>?_))
  ·grind
  ·rw[tp hk]at h;grind
theorem oO(P:List Int->Bool){R:List (List Int)}{j:Nat}(a:j<R.length):decide ((j:Int)∈VG P R)=P R[j]:=by
 cases e:P R[j]
 ·refine tD λh=>?_;obtain⟨i,b,c,d⟩:=bB h;grind
 ·refine ti (List.mem_map.2 ⟨j,List.mem_filter.2 ⟨List.mem_range.2 a,?_⟩,rfl⟩);grind
theorem pt{α:Type}(A:List α)(a b:α)(B:List α):(A++a :: B).set A.length b=A++[b]++B:=by simp
def q9(V:List Int)(F:List Bool)(K:List Int):Option ((List Bd)×(List Int)×Int):=(Pk V F).bind λa=>bif a.2 != 0 then some ([],[],a.2)else some (a.1,K,0)
theorem oJ(hx:GX s x){l:List Int}(b:IP x l)(E:List Int->Bool)(K:Int->List Bool->Option ((List Bd)×(List Int)×Int)):iter (λm t=>FU l (VG E x.C) K m t.1 t.2) AC (0,List.replicate l.length false)=K l.length (l.map λv=>E (Hc x.C v)):=by
 have c:=b.1;have f:(VG E x.C).length<=200:=(Ud hx E).1;have key:=Ym (z:=K l.length (l.map λv=>E (Hc x.C v))) (body:=λm v t=>FU l (VG E x.C) K m v t) l.length (λk=>(l.take k).map (λv=>E (Hc x.C v))++List.replicate (l.length-k) false) (λrec k hk=>?_) (λrec=>?_)
 ·grind
 ·obtain⟨j,d,a⟩:=b.2 _ (ta hk);simp only[FU];rw[C4,DG hk,tc,aQ (by omega),tc,d,oO E a,DG (by grind),tc,tu,show l.length-k=(l.length-(k+1))+1 by omega,List.replicate_succ];have g:i64.wrap ((k:Int)+1)=((k+1:Nat):Int):=CB;have h:((l.take k).map λv=>E (Hc x.C v)).length=k:=by grind
  have e:=pt ((l.take k).map λv=>E (Hc x.C v)) false (E x.C[j]) (List.replicate (l.length-(k+1)) false);rw[h]at e;rw[g,e,tp hk,tA,d];grind
 ·grind
theorem TQ(b:DS s)(hx:GX s x){m:Int}{ev c:Ah}(e:IM s m)(g:GC s ev)(h:GC s c){d:Nat}(hd:50<=d):((BP d s x c [m]).bind λr=>(Ck d s x ev).bind λo=>bif decide (0<=(r.length:Int))&&rm ((r.length:Int):Int).toNat 0 then iter (λi t=>FU r o (M7 s x r m) i t.1 t.2) AC (0,List.replicate ((r.length:Int):Int).toNat false)else none)
 = q9 ((x.C.filter (cp d s x.H c [m])).map (vl s x.H m)) ((x.C.filter (cp d s x.H c [m])).map (hp d s x.H ev)) (ky (cp d s x.H c [m]) x):=by
 have a:=Ud hx (cp d s x.H c [m]);have f:=a.1;rw[Kh b hx h (by omega) ⟨by simp,λv j=>by rw[List.mem_singleton.1 j];exact e⟩,S6 b hx g (by omega),tc,tc,tu,dt,Sd (by omega),Bool.and_self,tJ,oJ hx a,SA];unfold M7 q9;rw[PY b hx e,tc,OX hx];rfl
theorem lN(a:DS s)(hx:GX s x){m:Int}{ev c:Ah}(b:IM s m)(e:GC s ev)(h:GC s c){d:Nat}(hd:50<=d)(hy:NR s (cp d s x.H c [m]) x y):Dm d s y m ev c=Dm d s x m ev c:=by
 obtain⟨f,g,i⟩:=hy;unfold Dm;rw[TQ a hx b e h hd,TQ a f b e h hd,hx.check a,f.check a,g];grind
theorem oG(a:DS s)(hx:GX s x){m:Int}{ev c:Ah}(f:IM s m)(b:∀y,idx s.A m=some y->0<=y.D)(g:GC s ev)(h:GC s c){d:Nat}(hd:50<=d):Ok (Dm d s x m ev c) λr=>r.1.length<=200/\LB x (cp d s x.H c [m]) r:=by
 have i:ET s (eX 12 0 .empty m [] [] c ev []):=.curve m ev c f b g h;have k:=Ko (P:=cp d s x.H c [m]) hx;rw[sX]at k;have j:∀{e:Int},e≠0->Ok (some (([]:List Bd),([]:List Int),e)) λr=>r.1.length<=200/\LB x (cp d s x.H c [m]) r:=λh=>ur ⟨sZ _,λl=>absurd l h⟩;unfold Dm;refine qr (hx.check a) (y3 rfl (qr (i.right' a hd).1 (y3 rfl ((LX a i hd).bind λq hq=>qr (N9 a hx hq) (y5 (λ_=>j (by decide)) λ_=>?_)))));rw[TQ a hx f g h hd];unfold q9;refine qr (x:=cd _ _) (C4 (by grind)) (y5 (λe=>j (by grind)) λ_=>ur ⟨YN _ _,λ_=>rfl⟩)
def F1(b:List (List Int)):Prop:=∀l,b[0]?=some l->∀v∈l,v=-1
theorem F1.snoc{b:List (List Int)}{l:List Int}(h:F1 b)(c:b=[]->∀v∈l,v=-1):F1 (b++[l]):=λm d=>by
 cases b with
 | nil=>grind
 | cons a r=>exact h m (by grind)
theorem oS(F:DS s){a:List Ac}(h:Q7 s a):Ok (FD s a) λr=>r.2=true->(1<=r.1.length/\r.1.length<=2000/\∀y∈r.1,y.length=a.length)/\F1 r.1:=by
 have G:=h.len;unfold FD;refine qr (x:=[[]]) rfl (y7 (λq=>q.2) a.length (λk q=>(1<=q.1.length/\q.1.length<=2000/\∀y∈q.1,y.length=k)/\F1 q.1) 0 (sZ _) rfl ⟨⟨td _,by simp,λy hy=>by rw[List.mem_singleton.1 hy];rfl⟩,λl g v c=>by simp at g;subst g;cases c⟩ (by omega) (λrec q hq n=>?_) λrec k q hk hq n ih=>?_)
 ·simp only[EE,hq];exact Ok.f (ur λ_=>n)
 ·obtain⟨⟨T,H,I⟩,J⟩:=n;obtain⟨⟨i,K,U,z,B⟩,⟨M,N,O,P,V,W⟩⟩:=h.all _ (ta hk);obtain rfl:i=M:=by omega
  obtain⟨L,C,d⟩:=F.clist B;have X:Da s i=H5 L-1:=by rw[Es z,FO B d]
  have f1:=List.all_eq_true.1 (List.all_eq_true.1 X9 L C) (a[k].T).toNat (List.mem_range.2 (by omega));have f2:=tb (Bool.and_eq_true_iff.1 (List.all_eq_true.1 (List.all_eq_true.1 Us L C) (a[k].T).toNat (List.mem_range.2 (by omega)))).1;rw[show((a[k].T.toNat:Nat):Int)=a[k].T by omega]at f1 f2;obtain⟨A,D⟩:=Option.isSome_iff_exists.1 f1;rw[D]at f2;change A.length<=20 at f2;simp only[EE,hq];refine Ok.t (y4 hk ?_);rw[K];refine y4 z (qr d (qr D (Ok.rm (by grind) (y8 (λ_=>ur λh=>by cases h) λo=>?_))));have f:([(-1:Int)]++A).length=A.length+1:=by simp
  have Q:q.1.length*(A.length+1)<=2000*21:=vh H (by omega)
  have Y:q.1.length*(A.length+1)<=2000:=by
   rw[f,<-wb,wr]at o;omega
  refine y9 q.1.length (λj b=>(b.length=j*(A.length+1)/\∀y∈b,y.length=k+1)/\F1 b) ⟨⟨by simp,(λy hy=>by cases hy)⟩,λl g=>by cases g⟩ (λrec b m=>Ok.f (ih _ CB ⟨⟨?_,?_,m.1.2⟩,m.2⟩)) λrec j b p m ih2=>Ok.t (y4 p ?_)
  ·grind
  ·grind
  ·have u:(j+1)*(A.length+1)<=q.1.length*(A.length+1):=tW _ (by omega);rw[vT]at u;refine y9 ([(-1:Int)]++A).length (λt r=>(r.length=j*(A.length+1)+t/\∀y∈r,y.length=k+1)/\F1 r) m (λrec r hr=>Ok.f (ih2 _ _ CB ⟨⟨by rw[vT];have:=hr.1.1;omega,hr.1.2⟩,hr.2⟩)) (λrec t r R hr ih3=>Ok.t (y4 R ?_)) (by omega);have hy:=I _ (ta p);refine qr (Qf (by omega)) (Ok.rm (by simp;omega) (Ok.rm (by have:=hr.1.1;grind) (ih3 _ _ CB ⟨⟨by simp;have:=hr.1.1;omega,λy S=>?_⟩,hr.2.snoc λe v c=>?_⟩)))
   ·have:=hr.1.2;grind
   ·have E:=hr.1.1;rw[e]at E;have w:j*(A.length+1)=0/\t=0:=by constructor<;>simp at E<;>omega
    obtain⟨w,rfl⟩:=w;obtain rfl:j=0:=by rcases Nat.mul_eq_zero.1 w with h|h<;>omega
    rcases List.mem_append.1 c with c|c
    ·exact J _ (P3 p) v c
    ·simpa using c
theorem gw{o c:List Int}(h:∀v∈c,v=-1)(a:c.length<=1000):Ci o c=some true:=by
 refine Ok.val ?_;unfold Ci;exact ya c.length (λrec=>Ok.f (ur rfl)) λrec k hk ih=>Ok.t (y4 hk (y3 (by rw[h _ (ta hk)];rfl) (ih _ CB)))
def FC(cs q:List Ap)(K:List Int):Prop:=∀c,cs[0]?=some c->(∀v∈c.U,v=-1)->∃c',q[0]?=some c'/\c'.C=c.C++K/\c'.U=c.U
theorem oB{o:List Int}(ho:o.length<=1000)(key v:Int)(b:Bool){m:Nat}(f:m<=1000){cs:List Ap}(h:CE o.length m cs):Ok (Cu o key v b cs) λq=>(q.length=cs.length/\CE o.length (m+1) q)/\FC cs q [key]:=by
 obtain⟨q,d,g⟩:=XG ho key v b f cs h;refine⟨q,d,g,λc i j=>?_⟩
 cases cs with
 | nil=>cases i
 | cons a r =>
   obtain rfl:a=c:=by grind
   obtain⟨k,l⟩:=h a (by simp);unfold Cu at d;rw[dt (by omega),tJ,gw j (by omega),tc]at d
   cases e:Cu o key v b r with
   | none=>grind
   | some t =>
     rw[e,tc]at d;rw[<-sY d];obtain⟨n,p⟩:=cI a key v b;grind
theorem bM{j:Nat}(b:j<x.C.length):∀a:List Ac,CO s x j a=CO s (pb x.H x.C[j]) 0 a
 | []=>rfl
 | p :: r=>by unfold CO;rw[ZS b,bM b r]
theorem qf(b:DS s)(hx:GX s x){j:Nat}(c:j<x.C.length):∀a:List Ac,(∀p∈a,IC s p.B/\QT s p)->Ok (CO s x j a) λo=>o.length=a.length
 | [],_=>ur rfl
 | p :: r,h=>by
   obtain⟨⟨i,d,e,f,g⟩,⟨k,_,_,l,n,q⟩⟩:=h p (by simp);obtain rfl:i=k:=by omega
   unfold CO;rw[d];exact(pX b hx e f c n q λm=>by have:=m.kind;rw[g.kind]at this;cases this).bind λv _=>(qf b hx c r λp hp=>h p (by simp[hp])).bind λvs t=>ur (by simp[t])
def ZZ(s:Aa)(p:List Ac)(dims:List Ac)(m:Int):List (List Int)->List Ap->Option (List Ap)
 | [],cs=>some cs
 | r :: R,cs=>(CO s (pb p r) 0 dims).bind λo=>(Cu o (hd r) (bif decide (0<=m)then vl s p m r else 0) (decide (0<=m)) cs).bind λcs=>ZZ s p dims m R cs
theorem YD(e:DS s)(hx:GX s x){a:List Ac}{m:Int}(f:m=-1\/IM s m):∀(l:List Int),(∀v∈l,∃j:Nat,v=j/\j<x.C.length)->∀cs,DO s x a m l cs=ZZ s x.H a m (l.map (Hc x.C)) cs
 | [],_,cs=>rfl
 | v :: l,hv,cs=>by
   obtain⟨j,rfl,b⟩:=hv v (by simp)
   have c:FE s x m j=some (bif decide (0<=m)then vl s x.H m x.C[j]else 0):=by
    unfold FE;by_cases g:0<=m
    ·have d:IP x [(j:Int)]:=⟨by simp,λw i=>by rw[List.mem_singleton.1 i];exact⟨j,rfl,b⟩⟩;rw[ti g,tJ,tJ,fw e hx (f.resolve_left (by omega)) d,tc,tg,aa b];rfl
    ·grind
   unfold DO;rw[c,tc,bM b,DG b,tg,aa b];unfold ZZ;refine congrArg _ (funext λo=>?_);rw[tc,GM (hx.ne (ta b)),tc];refine congrArg _ (funext λq=>?_);exact YD e hx f l (λv h=>hv v (by simp[h])) q
theorem eQ(f:DS s)(hx:GX s x){a:List Ac}(hd:a.length<=3/\∀p∈a,IC s p.B/\QT s p)(m:Int):∀(R:List (List Int))(k:Nat)(cs:List Ap),(∀r∈R,r∈x.C)->CE a.length k cs->k+R.length<=1000->Ok (ZZ s x.H a m R cs) λq=>(q.length=cs.length/\CE a.length (k+R.length) q)/\FC cs q (R.map P.hd)
 | [],k,cs,_,h,_=>ur ⟨⟨rfl,h⟩,λc b _=>⟨c,b,by simp,rfl⟩⟩
 | r :: R,k,cs,hR,h,hl=>by
   obtain⟨j,g,d⟩:=List.mem_iff_getElem.1 (hR r (by simp));rw[tS]at hl;have ho:=qf f hx g a hd.2;rw[bM g,d]at ho;unfold ZZ;refine ho.bind λo ho=>(oB (by omega) _ _ _ (m:=k) (by omega) (by rw[ho];exact h)).bind λq hq=>(eQ f hx hd m R (k+1) q (λr hr=>hR r (by simp[hr])) (by grind) (by omega)).mono λz e=>⟨⟨e.1.1.trans hq.1.1,by rw[tS,show k+(R.length+1)=k+1+R.length by omega];exact e.1.2⟩,λc b i=>?_⟩;obtain⟨l,n,t,u⟩:=hq.2 c b i;obtain⟨v,w,A,B⟩:=e.2 l n (by grind);grind
def ON(m:Int):List Int:=bif decide (m>=0)then[m]else[]
theorem oa{m:Int}(a:m=-1\/IM s m):(ON m).length<=10/\∀v∈ON m,IM s v:=by
 unfold ON;grind
theorem bC(g:DS s)(hx:GX s x){a:List Ac}{m:Int}(i:m=-1\/IM s m){c:Ah}(h:GC s c){d:Nat}(hd:50<=d)(l:a.length<=1000)(b:List Ap):Dv m d s x c a a b=(bif decide (a.length<=1000000/\b.length<=1000000/\0<b.length)&&b.all (λc=>c.C.isEmpty)then ZZ s x.H a m (x.C.filter (cp d s x.H c (ON m))) b else none).bind λk=>some ({ Y:=a,Ag:=m,Al:=k },0):=by
 have f:=Ud hx (cp d s x.H c (ON m))
 have e:Dv m d s x c a a b=Dw d s x c a m b a (ON m):=by
  unfold Dv ON;grind
 rw[e];unfold Dw Js;rw[Kh g hx h (by omega) (oa i),tc,YD g hx i _ f.2];have j:=SA id (cp d s x.H c (ON m)) x.C;rw[List.map_id]at j;rw[show(VG (cp d s x.H c (ON m)) x.C).map (Hc x.C)=_ from j];refine congrArg (λz:Bool=>Option.bind (bif z&&_ then _ else none) _) (decide_eq_decide.2 ⟨λh=>⟨h.2.1,h.2.2⟩,λh=>⟨by have:=f.1;omega,h⟩⟩)
theorem nY(b:DS s)(hx:GX s x){a:List Ac}(j:Q7 s a){m:Int}(f:m=-1\/IM s m){c:Ah}(h:GC s c){d:Nat}(hd:50<=d)(hy:NR s (cp d s x.H c (ON m)) x y):CJ d s y a m c=CJ d s x a m c:=by
 obtain⟨g,i,k⟩:=hy;have l:=j.len;have e:BZ a=some a:=Ok.val (Ok.rm (by omega) (ur rfl));unfold CJ;rw[hx.check b,g.check b,i,e];simp only[tc,bC b hx f h hd (by omega:a.length<=1000),bC b g f h hd (by omega:a.length<=1000),i,k]
theorem pE(j:DS s)(hx:GX s x){f:List Ac}(o:Q7 s f){m:Int}(u:m=-1\/IM s m){c:Ah}(h:GC s c){d:Nat}(hd:50<=d):Ok (CJ d s x f m c) λr=>r.2=0->(r.1.Y.length<=3/\r.1.Al.length<=2000/\CE f.length 200 r.1.Al)/\∃B,r.1.Al[0]?=some B/\B.C=ky (cp d s x.H c (ON m)) x:=by
 have D:=Ko (P:=cp d s x.H c (ON m)) hx;rw[sX]at D;have p:=o.len;have w:BZ f=some f:=Ok.val (Ok.rm (by omega) (ur rfl));unfold CJ;refine qr (hx.check j) (y3 rfl (qr (lF j o u h (by omega)) (y3 rfl ((LX j (.table m f c u o h) hd).bind λq hq=>qr (N9 j hx hq) (y5 (λ_=>ur λe=>by cases e) λ_=>((oS j o).bind λl E=>?_))))));refine y5 (λ_=>ur λe=>by cases e) λe=>?_;obtain⟨⟨H,I,J⟩,F⟩:=E (by grind);refine qr w (y9 l.1.length (λk b=>b.length=k/\CE f.length 0 b/\∀c,b[0]?=some c->∀v∈c.U,v=-1) ⟨rfl,(λc g=>by cases g),(λc g=>by cases g)⟩ (λrec b n=>Ok.f ?_) λrec k b hk n ih=>Ok.t (y4 hk ?_))
 ·show Ok (Dv m d s x c f f b) _;rw[bC j hx u h hd (by grind)];have G:=n.1;have t:(b.all λc=>c.C.isEmpty)=true:=List.all_eq_true.2 λc g=>List.isEmpty_iff.2 (tx (by have:=(n.2.1 c g).2;omega));rw[t,dt ⟨by omega,by omega,by omega⟩];refine(eQ j hx ⟨p,o.all⟩ m _ 0 b (λr hr=>(List.mem_filter.1 hr).1) n.2.1 (by omega)).bind λz A=>ur λ_=>⟨⟨p,by show z.length<=_;omega,λc g=>⟨(A.1.2 c g).1,by have:=(A.1.2 c g).2;omega⟩⟩,?_⟩;have C:=P3 (l:=b) (i:=0) (by omega);obtain⟨c',K,L,_⟩:=A.2 _ C (n.2.2 _ C);grind
 ·unfold XF;refine qr (C4 (by grind)) (ih _ _ CB ⟨by simp;exact n.1,λc g=>?_,λc g=>?_⟩)
  ·rcases List.mem_append.1 g with g|g
   ·exact n.2.1 c g
   ·grind
  ·cases b with
   | nil =>
     obtain rfl:k=0:=by grind
     have:=F _ (P3 hk);grind
   | cons a r=>grind
def iD:List (List Int)->List (List Int)->Option (List (List Int))
 | [],cs=>some cs
 | v :: r,cs=>bif v.length==cs.length then iD r (cs.zipWith (λl x=>l++[x]) v)else none
theorem Sz(a:DS s)(hx:GX s x)(P:List Int->Bool):∀(l:List Int),(∀v∈l,IM s v)->∀cs,Gv s x (VG P x.C) l cs=iD (l.map λc=>(x.C.filter P).map (vl s x.H c)) cs
 | [],_,_=>rfl
 | c :: l,h,cs=>by
   unfold Gv;rw[PY a hx (h c (by simp)),tc,Sz a hx P l (λv b=>h v (by simp[b]))];rfl
theorem dC{n:Nat}:∀(V:List (List Int))(k:Nat)(cs:List (List Int)),(∀v∈V,v.length=n/\SM v)->cs.length=n->RS k cs->Ok (iD V cs) (RS (k+V.length))
 | [],_,_,_,_,h=>ur h
 | v :: V,k,cs,hV,hc,h=>by
   obtain⟨g,b⟩:=hV v (by simp);unfold iD;refine y6 (by grind) ?_;rw[tS,show k+(V.length+1)=k+1+V.length by omega];refine dC V (k+1) _ (λv c=>hV v (by simp[c])) (by grind) λq hq=>?_;obtain⟨i,d,rfl⟩:=List.mem_iff_getElem.1 hq;rw[List.length_zipWith]at d;rw[List.getElem_zipWith];obtain⟨e,f⟩:=h _ (ta (l:=cs) (n:=i) (by omega));refine⟨by simp;exact e,λw a=>?_⟩;rcases List.mem_append.1 a with a|a
   ·exact f w a
   ·rw[List.mem_singleton.1 a];exact b _ (ta _)
theorem pZ{m:Int}(c:IM s m){cols:List Int}(b:Re s m cols):([m]++cols).length<=10/\∀v∈[m]++cols,IM s v:=⟨by have:=b.len;simp;omega,λv a=>by
 rcases List.mem_append.1 a with a|a
 ·grind
 ·exact(b.all v a).1⟩
theorem mS(b:DS s)(hx:GX s x){m:Int}(g:IM s m){cols:List Int}(i:Re s m cols){c:Ah}(h:GC s c){d:Nat}(hd:50<=d)(hy:NR s (cp d s x.H c ([m]++cols)) x y):Dk d s y m cols c=Dk d s x m cols c:=by
 obtain⟨a,j,k⟩:=hy;have e:=pZ g i
 have f:∀y,GX s y->Pg (VG (cp d s x.H c ([m]++cols)) y.C) ([m]++cols)=some (List.replicate (y.C.filter (cp d s x.H c ([m]++cols))).length []):=λy a=>by
  have:=Ko (P:=cp d s x.H c ([m]++cols)) a;rw[sX]at this;have:=e.1;unfold Pg;rw[NO,dt ⟨by omega,by omega⟩];rfl
 unfold Dk;rw[hx.check b,a.check b];simp only[Kh b hx h (by omega:40<=d) e,Kh b a h (by omega:40<=d) e,tc,j,f x hx,f y a,Sz b hx _ _ e.2,Sz b a _ _ e.2,OX hx,OX a,k]
theorem oW(a:DS s)(hx:GX s x){m:Int}(j:IM s m){cols:List Int}(b:Re s m cols){c:Ah}(h:GC s c){d:Nat}(hd:50<=d):Ok (Dk d s x m cols c) λr=>r.2.2=0->(r.1.An.length<=3/\r.1.A1.length<=5)/\r.2.1=ky (cp d s x.H c ([m]++cols)) x:=by
 have o:=b.len;have u:=b.pos;have l:ET s (eX 11 0 .empty m cols [] c C9 []):=.model m cols c j b h;have g:=pZ j b;have p:=Ko (P:=cp d s x.H c ([m]++cols)) hx;rw[sX]at p;unfold Dk;refine qr (hx.check a) (y3 rfl (qr (l.right' a hd).1 (y3 rfl ((LX a l hd).bind λq hq=>qr (N9 a hx hq) (y5 (λ_=>ur λe=>by cases e) λ_=>Ok.rm (by grind) (qr (Kh a hx h (by omega) g) ?_))))));refine qr (x:=List.replicate (VG (cp d s x.H c ([m]++cols)) x.C).length []) (C4 ⟨by rw[NO];omega,by have:=g.1;omega⟩) ?_;rw[Sz a hx _ _ g.2,NO];refine(dC (n:=(x.C.filter (cp d s x.H c ([m]++cols))).length) _ 0 _ (λv i=>?_) (by simp) λq hq=>⟨by rw[un hq];rfl,λv i=>by rw[un hq]at i;cases i⟩).bind λy hy=>?_
 ·obtain⟨k,hk,rfl⟩:=List.mem_map.1 i;exact⟨by rw[sX],qX a hx (g.2 k hk) hk⟩
 rw[sX]at hy;refine(mo hy (by simp) (by grind)).bind λf t=>y5 (λe=>ur λw=>?_) λ_=>qr (Qf (by omega)) (qr (OX hx _) (ur λ_=>⟨⟨o,t.1⟩,rfl⟩));grind
theorem pI(j:DS s)(hx:GX s x){e:Ar}(h:ET s e){d:Nat}(hd:51<=d):Ok (An d (Po s x []) e) (VI s x d e):=by
 obtain⟨d,rfl⟩:∃k,d=k+1:=⟨d-1,by omega⟩;have go:∀y,An (d+1) (Po s y []) e=AD d (An d) (AJ d) (Po s y []) e:=λy=>rfl;have n:∀{v:A9}{k:Int}{Q:Prop},(k != 0)=true->(v,k).2=0->Q:=λ{v k Q} h o=>absurd (show k=0 from o) (by grind)
 cases h with
 | table m l c g p h =>
   refine VI.leaf hx (P:=cp d s x.H c (ON m)) ?_ λy hy=>?_
   ·have a:=Ko (P:=cp d s x.H c (ON m)) hx;rw[go];unfold AD
    iterate 5 refine y3 rfl ?_
    refine y6 rfl ((pE j hx p g h (d:=d) (by omega)).bind λr hr=>y5 (λe=>?_) λe=>?_)
    ·obtain⟨⟨E,F,b⟩,J,G,u⟩:=hr (by grind);obtain⟨H,rfl⟩:=List.getElem?_eq_some_iff.1 G;refine qr (GN (ua _) (by show 0<_;omega)) (qr (Qf (by grind)) (y5 (λe=>ur λo=>?_) λ_=>ur λ_=>⟨⟨by show r.1.Y.length<=_;omega,by show r.1.Al.length<=_;omega,λc f=>⟨by rw[(b c f).1];have:=p.len;omega,by have:=(b c f).2;omega⟩,sZ _,sZ _,sZ _,sZ _,by show(r.1.Al[0]).C.length<=_;rw[u];omega⟩,u⟩));grind
    ·refine y6 (by grind) (ur λo=>?_);grind
   ·show(CJ d s y l m c).bind _=(CJ d s x l m c).bind _;rw[nY j hx p g h (d:=d) (by omega) hy]
 | model m cols c g f h =>
   refine VI.leaf hx (P:=cp d s x.H c ([m]++cols)) ?_ λy hy=>?_
   ·have a:=Ko (P:=cp d s x.H c ([m]++cols)) hx;rw[go];unfold AD
    iterate 6 refine y3 rfl ?_
    refine y6 rfl ((oW j hx g f h (d:=d) (by omega)).bind λr hr=>y5 (λe=>ur (n e)) λe=>ur λ_=>?_);obtain⟨⟨E,F⟩,b⟩:=hr (by grind);exact⟨⟨sZ _,sZ _,(λc f=>by cases f),by show r.1.An.length<=_;omega,by show r.1.A1.length<=_;omega,sZ _,sZ _,by show r.2.1.length<=_;rw[b];omega⟩,b⟩
   ·show(Dk d s y m cols c).bind _=(Dk d s x m cols c).bind _;rw[mS j hx g f h (d:=d) (by omega) hy]
 | curve m ev c g I z h =>
   refine VI.leaf hx (P:=cp d s x.H c [m]) ?_ λy hy=>?_
   ·have a:=Ko (P:=cp d s x.H c [m]) hx;rw[go];unfold AD
    iterate 7 refine y3 rfl ?_
    refine y6 rfl ((oG j hx g I z h (d:=d) (by omega)).bind λr hr=>y5 (λe=>ur (n e)) λe=>ur λ_=>?_);have b:=hr.2 (by grind);have:=hr.1;exact⟨⟨sZ _,sZ _,(λc f=>by cases f),sZ _,sZ _,by show r.1.length<=_;omega,sZ _,by show r.2.1.length<=_;rw[b];omega⟩,b⟩
   ·show(Dm d s y m ev c).bind _=(Dm d s x m ev c).bind _;rw[lN j hx g z h (d:=d) (by omega) hy]
 | hist m w c q h =>
   obtain⟨i,rfl,A,B,C,q⟩:=q;obtain⟨t,D,rfl⟩:=List.mem_iff_getElem.1 q;refine VI.leaf hx (P:=hq d s x.H i ((s.A[i].S.length:Int)-t) c) ?_ λy hy=>?_
   ·have a:=Ko (P:=hq d s x.H i ((s.A[i].S.length:Int)-t) c) hx;rw[go];unfold AD
    iterate 8 refine y3 rfl ?_
    refine y6 rfl ((qG j hx A B C D h (d:=d) (by omega)).bind λr hr=>y5 (λe=>ur (n e)) λe=>ur λ_=>?_);have b:=hr.2 (by grind);have:=hr.1;exact⟨⟨sZ _,sZ _,(λc f=>by cases f),sZ _,sZ _,sZ _,by show r.1.length<=_;omega,by show r.2.1.length<=_;rw[b];omega⟩,b⟩
   ·show(FS d s y i s.A[i].S[t] c).bind _=(FS d s x i s.A[i].S[t] c).bind _;rw[oN j hx A B C D h (d:=d) (by omega) hy]
 | box m c g h =>
   refine VI.leaf hx (P:=cp d s x.H c [m]) ?_ λy hy=>?_
   ·have a:=Ko (P:=cp d s x.H c [m]) hx;rw[go];unfold AD
    iterate 9 refine y3 rfl ?_
    refine y6 rfl ((rz j hx g h (d:=d) (by omega)).bind λr hr=>y5 (λe=>ur (n e)) λe=>ur λ_=>?_);have b:=hr (by grind);exact⟨⟨sZ _,sZ _,(λc f=>by cases f),sZ _,sZ _,sZ _,sZ _,by show r.2.1.length<=_;rw[b];omega⟩,b⟩
   ·show(H9 d s y m c).bind _=(H9 d s x m c).bind _;rw[q8 j hx g h (d:=d) (by omega) hy]
theorem kU(a:DS s)(hx:GX s x){e:Ar}(h:ES s [] e){d:Nat}(hd:50<=d):Ok (L9 d s x.H [] e) λ_=>True:=by
 have f:=hx.picks_len a;obtain⟨g,i⟩:=h.right a (λj c=>by cases c) hd;have hk:Ok (Hw d [] e) λ_=>True:=h.elim (λh=>⟨_,mD (ns:=[]) ⟨sZ _,(λj c=>by cases c),λb k=>by cases k⟩ 2 d h (by omega),trivial⟩) λh=>⟨_,qK [] h (by omega),trivial⟩;unfold L9;exact qr g (y3 rfl (qr (nw a hx.picks hx.order (by omega)) (y3 rfl (i.bind λr hr=>qr (N9 a hx hr) (y5 (λ_=>ur trivial) λ_=>hk.bind λ_ _=>ur trivial)))))
def VE(s:Aa)(x:Ao)(e:Ar)(r:A9×Int):Prop:=r.2=0->VB r.1/\LI x r.1.Lineage/\∀y,SB s x r.1.Lineage y->CH DD s y [] e=some r
theorem qD(a:DS s)(hx:GX s x){e:Ar}(h:ES s [] e):Ok (CH DD s x [] e) (VE s x e):=by
 have g:Ok (An DD (Po s x []) e) (VI s x DD e):=h.elim (λh=>(cm a hx (B:=200) (by omega) (by omega) 2 DD h (by omega) (by decide)).mono λ_ h=>h.2) λh=>pI a hx h (by decide);obtain⟨t,c,_⟩:=kU a hx h (d:=DD) (by decide);obtain⟨r,hr,i⟩:=g
 have go:∀y,GX s y->y.H=x.H->An DD (Po s y []) e=some r->(t.2 != 0)=false->CH DD s y [] e=some r:=λy j hp k b=>by
  refine Ok.val ?_;unfold CH;rw[hp];exact qr (j.check a) (y3 rfl (qr c (y3 b (qr k (ur rfl)))))
 cases b:t.2 != 0
 ·refine⟨r,go x hx rfl hr b,λf=>?_⟩;obtain⟨l,m,n⟩:=i f;exact⟨l,m,λy hy=>go y hy.1 hy.2.1 (n y hy) b⟩
 ·unfold CH;refine qr (hx.check a) (y3 rfl (qr c (y6 b (ur λf=>?_))));grind
theorem qE(hx:GX s x)(K:List Int):GX s { Ae:=x.Ae,Af:=x.Af,H:=x.H,C:=x.C.filter λr=>K.contains (hd r) }:=⟨hx.project,hx.version,hx.picks,hx.order,λr hr=>hx.rows r (List.mem_filter.1 hr).1,hx.asc.sublist vZ,tw (ug _ _) hx.len⟩
