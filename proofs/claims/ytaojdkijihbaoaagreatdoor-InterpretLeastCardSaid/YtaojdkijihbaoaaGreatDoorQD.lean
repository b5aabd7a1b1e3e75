/- QD -/
import Derived.Test.YtaojdkijihbaoaaGreatDoorQC
set_option linter.all false
namespace Go.Proofs.YtaojdkijihbaoaaGreatDoor.P
open Go Go.Abs Go.Proofs
set_option maxRecDepth 100000
section
variable {s:Aa} {x:Au} {n:Nat}
def tc(x:Au)(i j:Nat):Int:=(x.G.getD j []).getD i 0
def RW(x:Au)(cols r:List Int):Prop:=r.length<=x.G.length/\∀v∈r,∃j:Nat,v=(j:Int)/\j<x.G.length/\∀c∈cols,tc x c.toNat j≠C3
theorem oU{l:List Int}{p:Int->Option Bool}(q:Int->Bool)(hp:∀x∈l,p x=some (q x))(a:l.length<=1000000):D8 l p=some (l.filter λx=>!q x):=by
 unfold D8;rw[show(l.all λx=>(p x).isSome)=true from List.all_eq_true.2 λx hx=>by rw[hp x hx];rfl,Wz (by omega)];refine congrArg some (List.filter_congr λx hx=>?_);grind
def SM(l:List Int):Prop:=∀v∈l,-46<=v/\v<=46
theorem IX.rw{r:List Int}(h:IX x r):RW x [] r:=⟨h.1,λv a=>by
 obtain⟨j,b,d⟩:=h.2 v a;exact⟨j,b,d,λc e=>by cases e⟩⟩
theorem rC{m:Int}{d:Nat}(hd:0<d)(h:(WP m d).2=0):kU (WP m d).1=true:=by
 have ok:F.okR m d=true:=by
  change F.redE m d=0 at h;unfold F.redE at h;grind
 have j:0<Nat.gcd d m.natAbs:=w4 _ hd;have f:=ok;unfold F.okR at f;obtain⟨k,i⟩:=Bool.and_eq_true_iff.1 f;have k:=uf k;have i:=uf i
 have e:WP m d=({ S:=((m.natAbs/Nat.gcd d m.natAbs:Nat):Int)*m.sign,T:=((d/Nat.gcd d m.natAbs:Nat):Int) },0):=by
  unfold WP F.redF F.redE;rw[ok];rfl
 have l:1<=d/Nat.gcd d m.natAbs:=Nat.div_pos (Nat.gcd_le_left _ hd) j;have c:Nat.Coprime (d/Nat.gcd d m.natAbs) (m.natAbs/Nat.gcd d m.natAbs):=Nat.coprime_div_gcd_div_gcd j;rw[e];unfold kU;generalize m.natAbs/Nat.gcd d m.natAbs=a at *;generalize o:d/Nat.gcd d m.natAbs=b at *;refine un ⟨⟨by show(1:Int)<=(b:Int);omega,i⟩,?_⟩;show(-1152921504606846976<=(a:Int)*m.sign/\(a:Int)*m.sign<=1152921504606846976)/\Nat.gcd ((a:Int)*m.sign).natAbs (b:Int).natAbs=1;rcases Int.lt_trichotomy m 0 with g|g|g
 ·rw[vP g];refine⟨by omega,?_⟩;rw[show((a:Int) * -1).natAbs=a by omega,xk,wS];exact c
 ·subst g;have:b=1:=by rw[<-o];simp;exact Nat.div_self hd
  grind
 ·rw[wR g];refine⟨by omega,?_⟩;rw[show((a:Int)*1).natAbs=a by omega,xk,wS];exact c
def FR(r:AO×Int):Prop:=r.2=0->kU r.1=true
theorem sr{m k:Int}(a:jP m=true)(b:jP k=true):Ok (Mj m k) FR:=by
 unfold Mj;rw[a,b];refine y7 rfl (y6 (λ_=>y3 λh=>by cases h) λe=>y3 (rC ?_));grind
end
section
variable {s:Aa} {x:Au} {n:Nat} {ns:List ByteArray}
structure VB(v:AR):Prop where
 dims:v.Table.V.length<=1000000
 cells:v.Table.A1.length<=1000000
 cell:∀c∈v.Table.A1,c.Q.length<=1000000/\c.G.length<=1000000
 terms:v.Model.Ai.length<=1000000
 coefs:v.Model.A9.length<=1000000
 curve:v.Curve.length<=1000000
 hist:v.Hist.length<=1000000
 line:v.Lineage.length<=1000000
theorem dO{α:Type}{l:List α}{d:α->α->Bool}{K:Int->Option Bool}(e:l.length<=1000000)(c:∀a,d a a=false)(hK:∀v,K v=some true) :
 (bif((l.length:Int) != (l.length:Int))then some false else P.iter (λrec v=>bif decide (v<(l.length:Int))then(idx l v).bind λa=>(idx l v).bind λb=>bif d a b then some false else rec (IntKind.i64.wrap (v+1))else K v) A9 0)=some true :=
 Ok.val (y4 (by simp) (yc l.length (λrec=>Ok.f ⟨true,hK _,rfl⟩) λrec k hk ih=>Ok.t (y5 hk (y5 hk (y4 (c _) (ih _ C7))))))
theorem RG{l:List Int}(b:l.length<=1000000):Ix l l=some true:=dO b (λa=>by simp) λ_=>rfl
theorem gN{v:AR}(h:VB v):Hz v v=some true:=by
 refine Ok.val ?_;unfold Hz;refine y7 (by simp) (qr (x:=true) (Ok.val ?_) (y7 rfl (qr (x:=true) (Ok.val ?_) (y7 rfl (qr (x:=true) (dO h.curve (λa=>by simp) λ_=>rfl) (y7 rfl (qr (x:=true) (dO h.hist (λa=>by simp) λ_=>rfl) (y7 (by simp) (qr (RG h.line) (y3 rfl))))))))))
 ·unfold PY;refine qr (x:=true) (dO h.dims (λa=>by simp) λ_=>rfl) (y4 (by simp) (yc v.Table.A1.length (λrec=>Ok.f (y3 rfl)) (λrec k hk ih=>Ok.t (y5 hk (y5 hk (qr (x:=true) (Ok.val ?_) (y4 rfl (ih _ (C7 (by have:=h.cells;omega)))))))) (by have:=h.cells;omega)));obtain⟨b,c⟩:=h.cell _ (ud hk);unfold KH;exact qr (RG b) (y7 (by simp) (qr (RG c) (y3 rfl)))
 ·unfold PZ;exact y7 (by simp) (qr (RG h.terms) (y7 rfl (qr (x:=true) (dO h.coefs (λa=>by simp) λ_=>rfl) (y3 (by simp)))))
def zT:Ei:={ V:=[],Y:=0,A1:=[] }
def zM:Cw:={ Y:=0,Ai:=[],A9:=[],A4:={ S:=0,T:=0 },A5:={ S:=0,T:=0 },Af:=0,Bj:=0 }
def zB:WF:={ Af:=0,Bm:=0,Bn:=0,Bo:=0,Bp:=0,Bq:=0 }
def nv(k:Int)(f:AO)(l:List Int):AR:={ Kind:=k,Number:=f,Table:=zT,Model:=zM,Curve:=[],Hist:=[],Box:=zB,Lineage:=l }
def NV(B:Nat)(v:AR):Prop:=∃f l,v=nv 1 f l/\kU f=true/\l.length<=B
theorem NV.mono{B C:Nat}{v:AR}(h:NV B v)(c:B<=C):NV C v:=by
 obtain⟨f,l,a,b,d⟩:=h;exact⟨f,l,a,b,by omega⟩
theorem NV.vb{B:Nat}{v:AR}(h:NV B v)(b:B<=1000000):VB v:=by
 obtain⟨f,l,rfl,_,d⟩:=h;exact⟨by simp[nv,zT],by simp[nv,zT],(λc a=>by cases a),by simp[nv,zM],by simp[nv,zM],by simp[nv],by simp[nv],by show l.length<=_;omega⟩
theorem X2{l:List Int}(h:l.length<=1000000):Ba l=some l:=Ok.val (Ok.rm (by omega) (y3 rfl))
abbrev sG(s:Aa)(x:Au)(bs:List AF):A7:={ L:={ Ao:=s,X:=x },A3:=bs }
theorem i64_in{m:Int}(a:-1000000000<=m)(b:m<=1000000000):jP m=true:=un (by omega)
end
section
variable {s:Aa} {x:Au} {n:Nat}
theorem Xl(a:DS s){e:Av}(h:ET s e){d:Nat}(hd:50<=d):Ok (Gt d s e) (NA s):=by
 obtain⟨b,c⟩:=h.right' a hd;unfold Gt;exact qr a.check (y4 rfl (qr b (y4 rfl (c.bind λr hr=>y3 hr))))
theorem gK:(Sc.all λL=>(List.range (Gl L).toNat).all λl=>decide (((FT L (l:Int)).getD []).length<=20)&&(Bu L).all λv=>(DV L (Gl L-1) v l).isSome)=true:=by decide +kernel
theorem jQ{o c:List Int}(h:c.length<=o.length)(a:o.length<=1000):Ok (Cl o c) λ_=>True:=by
 unfold Cl;exact yc c.length (λrec=>Ok.f (y3 trivial)) λrec k hk ih=>Ok.t (y5 hk (y6 (λ_=>y5 (by omega) (y6 (λ_=>y3 trivial) λ_=>ih _ C7)) λ_=>ih _ C7))
def CE(k m:Nat)(cs:List An):Prop:=∀c∈cs,c.Q.length=k/\c.G.length<=m
theorem bJ(c:An)(key v:Int)(b:Bool):(BM c key v b).Q=c.Q/\(BM c key v b).G=c.G++[key]:=by
 unfold BM;grind
theorem bU{o:List Int}(ho:o.length<=1000)(key v:Int)(b:Bool){m:Nat}(g:m<=1000):∀cs,CE o.length m cs->Ok (Cb o key v b cs) λr=>r.length=cs.length/\CE o.length (m+1) r
 | [],_=>y3 ⟨rfl,λc d=>by cases d⟩
 | c :: r,h=>by
   obtain⟨i,j⟩:=h c (by simp);unfold Cb;refine Ok.t ((jQ (by omega) ho).bind λt _=>(bU ho key v b g r λc d=>h c (by simp[d])).bind λq f=>y3 ⟨by simp[f.1],λc' a=>?_⟩);rcases List.mem_cons.1 a with e|a
   ·rw[e];obtain⟨k,l⟩:=bJ c key v b;grind
   ·exact f.2 c' a
theorem jd(d:DS s){q:Ap}(h:OX s q.V)(f:q.Y=-1\/IM s q.Y)(g:q.Ai=[])(j:q.U=Gv):Gb s q=some 0:=by
 have v:=h.pos;have w:=h.len
 have a:Ok (bif(decide ((q.Ai.length:Int)>0))then some (11:Int)else(EE q.U).bind λb=>bif(!b)then some 11 else some 0) (·=0):=by
  rw[g,j];exact y4 rfl (qr (x:=true) rfl (y4 rfl (y3 rfl)))
 refine Ok.val ?_;unfold Gb;refine y4 (by grind) (yc q.V.length (λrec=>Ok.f ?_) λrec k hk ih=>Ok.t ?_)
 ·unfold Ip;refine y6 (λe=>?_) λ_=>a;obtain⟨i,c,_,l,m⟩:=f.resolve_left (λo=>by rw[o]at e;cases e);refine qr (x:=3) (Ok.val ?_) (y4 rfl a);unfold BK;rw[c];exact y4 (by grind) (y5 l (y3 m.kind))
 ·obtain⟨⟨i,r,y,t,u⟩,hp⟩:=h.all _ (ud hk);refine y5 hk (qr (x:=0) (Ok.val (qr d.check (y4 rfl (qr (nw d hp) (y3 rfl))))) (y4 rfl (qr (x:=2) (Ok.val ?_) (y4 rfl (Ok.t ?_)))))
  ·unfold BK;rw[r];exact y4 (by grind) (y5 t (y3 u.kind))
  ·rw[cu _ (by omega),WU (p:=λa0=>Gd a0 q.V[k]) (λp=>p.B==q.V[k].B) (λ_ _=>rfl) (by grind)];refine qr rfl (y4 (List.any_eq_false.2 λp hp=>?_) (ih _ C7));have:=ZW h.asc (k:=k) (by grind) p.B (by rw[<-List.map_take];exact wM hp);grind
theorem qO(b:DS s){a:List Ac}(h:OX s a){m:Int}(e:m=-1\/IM s m){c:Ad}(f:GC s c){d:Nat}(hd:40<=d):KV d s a m c=some 0:=by
 have g:Bz ({ data:=#[116] }:ByteArray)=some true:=by decide +kernel
 refine Ok.val ?_;unfold KV CB;refine qr (x:=0) (Ok.val (qr b.check (y4 rfl (qr g (y4 rfl (y4 rfl (qr (f.check b (by omega)) (y4 rfl (y7 rfl (qr (x:=0) ?_ (y3 rfl))))))))))) (y3 rfl);exact jd b h e rfl rfl
theorem Yc(z:Int):OW (oE z).D=true/\OW (oE z).C=true:=by
 refine⟨un ?_,un ?_⟩
 ·show 0<=z/18446744073709551616%18446744073709551616/\z/18446744073709551616%18446744073709551616<18446744073709551616;omega
 ·show 0<=z%18446744073709551616/\z%18446744073709551616<18446744073709551616;omega
theorem aS{z:Int}(h:z.natAbs<=10000000000000000000000000000000000):Qg (oE z)=z:=by
 unfold Qg;show(bif decide (z/18446744073709551616%18446744073709551616*18446744073709551616+z%18446744073709551616<170141183460469231731687303715884105728)then z/18446744073709551616%18446744073709551616*18446744073709551616+z%18446744073709551616 else z/18446744073709551616%18446744073709551616*18446744073709551616+z%18446744073709551616-2*170141183460469231731687303715884105728)=z;grind
theorem nG{a b:Int}(c:a.natAbs<=10000000000000000000000000000000000)(d:b.natAbs<=10000000000000000000000000000000000)(e:b≠0):Ok (GI (oE a) (oE b)) λ_=>True:=by
 unfold GI;rw[(Yc a).1,(Yc a).2,(Yc b).1,(Yc b).2,aS c,aS d,dt ⟨e,by show -(170141183460469231731687303715884105728:Int)<a;omega,by show -(170141183460469231731687303715884105728:Int)<b;omega⟩];exact y7 rfl (y3 trivial)
def MX(w:Nat)(m:List (List Int)):Prop:=m.length=w/\∀r∈m,r.length=w/\∀v∈r,v.natAbs<=1000000
theorem iW:∀r:List Int,(∀v∈r,v.natAbs<=1000000)->bd r<=1000000*r.length
 | [],_=>uh _
 | v :: r,h=>by
   have:=iW r λv a=>h v (by simp[a]);have:=h v (by simp);show v.natAbs+bd r<=1000000*(r.length+1);omega
theorem dF{K:Nat}:∀m:List (List Int),(∀r∈m,bd r<=K)->Yh m<=K ^ m.length
 | [],_=>uh _
 | r :: m,h=>by
   have a:=dF m λr hr=>h r (by simp[hr]);rw[vu,Nat.pow_succ,vA];exact wX (h r (by simp)) a
theorem MX.lenM{w:Nat}{m:List (List Int)}(h:MX w m):lenM m m.length=true:=List.all_eq_true.2 λr hr=>by rw[(h.2 r hr).1,h.1];exact wA _
theorem ac{w:Nat}{m:List (List Int)}(h:MX w m)(w0:1<=w)(a:w<=5):Dj m=some (oE (X7 m))/\(X7 m).natAbs<=10000000000000000000000000000000000:=by
 have b:=h.1;refine⟨?_,?_⟩
 ·unfold Dj;rw[dt ⟨by omega,by omega⟩,h.lenM,show(m.all λr=>r.all m7)=true from List.all_eq_true.2 λr hr=>List.all_eq_true.2 λv c=>un (by have:=(h.2 r hr).2 v c;omega)];rfl
 ·refine uK (oV m) (uK (dF (K:=5000000) m λr hr=>uK (iW r (h.2 r hr).2) (by rw[(h.2 r hr).1];omega)) ?_);rw[b];exact uK (vw (by decide) a) (by decide)
theorem mE{w:Nat}{m:List (List Int)}(h:MX w m)(y:w<=5):Ok (Km m) λ_=>True:=by
 have z:=h.1;have o:∀v:Int,OW (IntKind.u64.wrap v)=true:=λv=>un (VA v);have j:∀{a b:Int},OW a=true->OW b=true->Hs a b=some (a*b/18446744073709551616,a*b%18446744073709551616):=λg p=>by unfold Hs;rw[g,p];rfl
 unfold Km;refine qr (x:=oE 1) rfl (ya m.length (λ_ c=>OW c.D=true/\OW c.C=true) (Yc 1) (λrec c e=>Ok.f (y3 trivial)) λrec k c hk e ih=>Ok.t (y5 hk ?_));have hr:=(h.2 _ (ud hk)).1;refine y8 (λq=>q.2) m[k].length (λ_ _=>True) 0 (ug _) rfl trivial (by omega) (λd q i _=>?_) λd t q r i _ ih2=>?_
 ·simp only[Jo,i];refine Ok.f ?_;unfold Jp;have f:=o (if 1>q.1 then 1 else q.1);generalize IntKind.u64.wrap (if 1>q.1 then 1 else q.1)=v at f ⊢;refine qr (j e.2 f) (qr (j e.1 f) ?_);have l:=uf e.2;have u:=uf f
  have hd:OW (c.C*v/18446744073709551616)=true:=by
   have A:=Int.mul_nonneg l.1 u.1;have B:c.C*v<=c.C*18446744073709551616:=Int.mul_le_mul_of_nonneg_left (by omega) l.1;exact un ⟨by omega,by omega⟩
  have g:Jq (c.D*v%18446744073709551616) (c.C*v/18446744073709551616) 0=some ((c.D*v%18446744073709551616+c.C*v/18446744073709551616+0)%18446744073709551616,(c.D*v%18446744073709551616+c.C*v/18446744073709551616+0)/18446744073709551616):=by
   unfold Jq;rw[hd,show OW (c.D*v%18446744073709551616)=true from un (by omega)];rfl
  exact qr g (y6 (λ_=>y3 trivial) λ_=>ih _ _ C7 ⟨un (by grind),un (by show 0<=c.C*v%18446744073709551616/\c.C*v%18446744073709551616<_;omega)⟩)
 ·simp only[Jo,i];exact Ok.t (y5 r (ih2 _ C7 trivial))
theorem Ug{w:Nat}{m:List (List Int)}(h:MX w m)(c:w<=5):Ok (Gm m) λ_=>True:=by
 have e:=h.1;unfold Gm;refine y6 (λ_=>y3 trivial) λ_=>y9 (λ_=>y3 trivial) λ_=>yc m.length (λrec=>Ok.f ?_) λrec k hk ih=>Ok.t (y5 hk (y6 (λ_=>y3 trivial) λ_=>ih _ C7));refine yc m.length (λrec=>Ok.f ((mE h c).bind λb _=>y6 (λ_=>y3 trivial) λ_=>y3 trivial)) λrec k hk ih=>Ok.t (y5 hk ?_);have hr:=(h.2 _ (ud hk)).1;exact yc m[k].length (λa=>Ok.f (ih _ C7)) λa t d ih2=>Ok.t (y5 d (y6 (λ_=>y3 trivial) λ_=>ih2 _ C7))
theorem mP{w:Nat}{S:Nat->Nat->Int}(h:∀i j,(S i j).natAbs<=1000000):MX w (kf w S):=by
 unfold kf;refine⟨by simp,λr hr=>?_⟩;grind
theorem pa{l:List Int}{B:Nat}(h:∀v∈l,v.natAbs<=B)(i:Nat):(l.getD i 0).natAbs<=B:=by grind
theorem gP{m:List (List Int)}{B:Nat}(h:∀r∈m,∀v∈r,v.natAbs<=B)(i j:Nat):(Qh m i j).natAbs<=B:=by
 unfold Qh;refine pa ?_ j;grind
theorem iV{w:Nat}{m:List (List Int)}(h:MX w m){b:List Int}(c:b.length=w/\∀v∈b,v.natAbs<=1000000)(d:w<=5){k:Nat}(hk:k<w):∃q,Hr m k b=some q/\MX w q:=by
 have a:=h.1;refine⟨kf m.length (SV m k b),?_,?_⟩
 ·unfold Hr;rw[h.lenM,dt ⟨by omega,by omega,by omega,by omega⟩,uv];rfl
 ·rw[a];refine mP λi j=>?_;unfold SV;split
  ·grind
  ·exact gP (λr hr=>(h.2 r hr).2) i j
theorem iZ(z:Int)(h:z.natAbs<=10000000000000000000000000000000000):F6 (oE z)=some z.sign:=by
 unfold F6;rw[(Yc z).1,(Yc z).2,aS h];rfl
theorem iY{z:Int}(h:(z.sign==0)=false):z≠0:=by grind
theorem nZ{w:Nat}{m:List (List Int)}(h:MX w m){b:List Int}(f:b.length=w/\∀v∈b,v.natAbs<=1000000)(w0:1<=w)(a:w<=5):Ok (Kl m b) λr=>r.1.length<=5:=by
 have i:=h.1;have c:∀e:Int,Ok (some (([]:List AO),e)) λr=>r.1.length<=5:=λe=>y3 (ug _);unfold Kl;refine(Ug h a).bind λe _=>y6 (λ_=>c _) λ_=>y6 (λ_=>c _) λ_=>yc m.length (λrec=>Ok.f ?_) λrec k hk ih=>Ok.t ?_
 ·obtain⟨d1,d2⟩:=ac h w0 a;unfold M3;refine qr d1 (qr (iZ _ d2) (y6 (λ_=>c _) λe=>ya m.length (λk q=>q.length=k) rfl (λrec q g=>Ok.f (y3 (by grind))) λrec k q hk g ih=>Ok.t ?_));obtain⟨p,d,p2⟩:=iV h f a (k:=k) (by omega);obtain⟨f1,f2⟩:=ac p2 w0 a;exact qr d (qr f1 ((nG f2 d2 (iY e)).bind λr _=>y6 (λ_=>c _) λ_=>Ok.rm (by grind) (ih _ _ C7 (by simp;omega))))
 ·obtain⟨p,d,p2⟩:=iV h f a (k:=k) (by omega);exact qr d ((Ug p2 a).bind λe _=>y6 (λ_=>c _) λ_=>ih _ C7)
theorem nC{w v:Nat}{a b:List (List Int)}(c:MX w a)(d:MX v b)(w0:1<=w)(f:w<=5)(i:1<=v)(g:v<=5):Ok (Kk a b) λ_=>True:=by
 obtain⟨j,k⟩:=ac c w0 f;obtain⟨l,h⟩:=ac d i g;unfold Kk;exact(Ug c f).bind λ_ _=>y6 (λ_=>y3 trivial) λ_=>(Ug d g).bind λ_ _=>y6 (λ_=>y3 trivial) λ_=>qr l (qr (iZ _ h) (y6 (λ_=>y3 trivial) λe=>qr j ((nG k h (iY e)).bind λ_ _=>y3 trivial)))
def RS(w:Nat)(m:List (List Int)):Prop:=∀r∈m,r.length=w/\SM r
theorem nX{a b:Int}(c:-46<=a/\a<=46)(d:-46<=b/\b<=46):(a*b).natAbs<=2116:=by
 rw[Int.natAbs_mul];exact wX (show a.natAbs<=46 by omega) (show b.natAbs<=46 by omega)
theorem sW{z:Int}(h:z.natAbs<=1000000000):IntKind.i64.wrap z=z:=wr
theorem lY{w:Nat}{m:List (List Int)}(h:RS w m)(a b:Nat):∀k,k<=300->(Se m k a b).natAbs<=2116*k
 | 0,_=>ug _
 | k+1,hk=>by
   have ih:=lY h a b k (by omega);have d:=gP (m:=m) (B:=46) (λr hr v c=>by have:=(h r hr).2 v c;omega) k a;have e:=gP (m:=m) (B:=46) (λr hr v c=>by have:=(h r hr).2 v c;omega) k b;have:=nX (a:=Qh m k a) (b:=Qh m k b) (by omega) (by omega);unfold Se;rw[sW (z:=Qh m k a*Qh m k b) (by omega),sW (by omega)];omega
theorem jc{w:Nat}{m:List (List Int)}(h:RS w m)(b:1<=m.length/\m.length<=200)(w0:1<=w)(c:w<=5):∃q,KP m=some q/\MX w q:=by
 have a:(m.getD 0 []).length=w:=by
  rw[uj,P3 (by omega)];exact(h _ (ud _)).1
 refine⟨kf w (Se m m.length),?_,mP λi j=>uK (lY h i j _ (by omega)) (by omega)⟩;unfold KP;rw[a,dt ⟨by omega,by omega,by omega,by omega⟩,show lenM m w=true from List.all_eq_true.2 λr hr=>by rw[(h r hr).1];exact wA _];rfl
theorem m6(z:Int):jP (IntKind.i64.wrap z)=true:=by
 refine un ?_;unfold IntKind.wrap;simp only[IntKind.signed,IntKind.bits];grind
theorem oo{w:Nat}{m:List (List Int)}(h:RS w m)(w0:1<=w)(d:m.length<=200):Ok (Jh m) λ_=>True:=by
 unfold Jh;refine y8 (λq=>q.2.2) m.length (λ_ _=>True) 0 (ug _) rfl trivial (by omega) (λrec q a _=>?_) λrec k q hk a _ ih=>?_
 ·simp only[IK,a];exact Ok.f ((sr (m6 _) (i64_in (by omega) (by omega))).bind λ_ _=>y3 trivial)
 ·simp only[IK,a];have hr:=(h _ (ud hk)).1;have c:∃v,idx m[k] 0=some v:=⟨_,JE (uU _) (by grind)⟩;obtain⟨v,b⟩:=c;exact Ok.t (y5 hk (qr b (qr b (qr b (ih _ C7 trivial)))))
theorem cK{w:Nat}{m:List (List Int)}(h:RS w m)(d:w<=5):Ok (GP m) λb=>b=true->1<=m.length/\m.length<=200:=by
 unfold GP;refine y6 (λ_=>y3 λh=>by cases h) λe=>?_;have c:1<=m.length/\m.length<=200:=by grind
 have a:idx m 0=some m[0]:=JE (uU _) (by grind);refine qr a (y9 (λ_=>y3 λh=>by cases h) λ_=>qr a (y9 (λ_=>y3 λh=>by cases h) λ_=>yc m.length (λrec=>Ok.f (y3 λ_=>c)) λrec k hk ih=>Ok.t (y5 hk (qr a (y6 (λ_=>y3 λh=>by cases h) λe=>?_)))));rw[lL (p:=G7) (λv=>bif decide (v < -1000000)then true else decide (v>1000000)) (λ_ _=>rfl)]
 ·exact qr rfl (y6 (λ_=>y3 λh=>by cases h) λ_=>ih _ C7)
 ·grind
theorem RS.snoc{w:Nat}{m:List (List Int)}{r:List Int}(h:RS w m)(hr:r.length=w/\SM r):RS w (m++[r]):=λq a=>by
 rcases List.mem_append.1 a with a|a
 ·exact h q a
 ·grind
theorem qY{w:Nat}{m:List (List Int)}(h:RS w m)(w0:1<=w)(Y:w<=4):Ok (My m) λr=>r.1.A9.length<=5/\r.1.Ai=[]:=by
 have o:∀e:Int,Ok (some (zM,e)) λr=>r.1.A9.length<=5/\r.1.Ai=[]:=λe=>y3 ⟨ug _,rfl⟩;unfold My;refine(cK h (by omega)).bind λb S=>y6 (λ_=>o _) λe=>?_;have T:=S (by cases b with|true=>rfl|false=>cases e);have F:idx m 0=some m[0]:=JE (uU _) (by show 0<_;omega);have U:=(h _ (ud (l:=m) (n:=0) (by omega))).1;refine qr F (y9 (λ_=>o _) λ_=>qr F (y9 (λ_=>o _) λ_=>?_));unfold KL;refine qr F (ye (by rw[dt,Wz (by omega)];rfl) ?_);refine y8 (λq=>q.1) m.length (λk q=>q.2.1.length=k/\RS w q.2.1/\q.2.2.1.length=k/\RS (w+1) q.2.2.1/\q.2.2.2.length=w/\∀v∈q.2.2.2,v.natAbs<=2116*k) 0 (ug _) rfl ⟨rfl,(λr hr=>by cases hr),rfl,(λr hr=>by cases hr),by simp;omega,λv a=>?_⟩ (by omega) (λrec q G H=>?_) λrec k q hk G H ih=>?_
 ·rw[wd a];decide
 ·obtain⟨O,I,P,J,K,L⟩:=H;simp only[KI,G];refine Ok.f ?_;unfold KN;obtain⟨A,A1,A2⟩:=jc I (by omega) w0 (by omega);obtain⟨B,B1,B2⟩:=jc J (by omega) (by omega) (by omega);refine qr A1 ((nZ A2 ⟨K,λv a=>uK (L v a) (by omega)⟩ w0 (by omega)).bind λc Q=>y6 (λ_=>o _) λ_=>qr B1 ((nC B2 A2 (by omega) (by omega) w0 (by omega)).bind λt _=>y6 (λ_=>o _) λ_=>(oo h w0 T.2).bind λu _=>y6 (λ_=>o _) λ_=>y3 ⟨Q,rfl⟩))
 ·obtain⟨O,I,P,J,K,L⟩:=H;obtain⟨Z,R⟩:=h _ (ud hk);have p:idx m[k] 0=some m[k][0]:=JE (uU _) (by show 0<_;omega);have y:=R _ (ud (l:=m[k]) (n:=0) (by omega))
  have d:([1]++M1 m[k] 1 (m[k].length:Int)).length=w/\SM ([1]++M1 m[k] 1 (m[k].length:Int)):=by
   rw[rZ];refine⟨by simp;omega,λv a=>?_⟩;rcases List.mem_append.1 a with a|a
   ·rw[List.mem_singleton.1 a];decide
   ·exact R v (vL a)
  simp only[KI,G];refine Ok.t (y5 hk (Ok.t ?_));have Q:(M1 m[k] 1 (m[k].length:Int)).length<=4:=by have:=d.1;simp at this;omega
  refine Ok.rm (by simp;omega) (Ok.rm (by simp;omega) (qr (X2 (by have:=d.1;omega)) (qr p (Ok.rm (by have:=d.1;rw[this];simp;omega) (Ok.rm (by simp;omega) ?_)))));generalize g:[1]++M1 m[k] 1 (m[k].length:Int)=D at d;refine y8 (λt=>t.1) w (λi t=>t.2.length=w/\∀(j:Nat)(f:j<t.2.length),(t.2[j]).natAbs<=2116*k+if j<i then 2116 else 0) 0 (ug _) rfl ⟨K,λj f=>by rw[uo (by omega)];exact L _ (ud f)⟩ (by omega) (λC t M E=>?_) λC i t hi M E ih2=>?_
  ·simp only[KJ,M,g,d.1];refine Ok.f ?_;unfold KO;refine ih _ C7 ⟨by simp;exact O,I.snoc (by rw[g];exact d),by simp;exact P,J.snoc ⟨by simp;exact d.1,λv a=>?_⟩,E.1,λv a=>?_⟩
   ·rcases List.mem_append.1 a with a|a
    ·exact d.2 v a
    ·rw[List.mem_singleton.1 a];exact y
   ·obtain⟨j,f,rfl⟩:=List.mem_iff_getElem.1 a;have N:=E.2 j f;have V:=E.1;have:t.2.length=w:=V;rw[uk (by have:j<t.2.length:=f;omega)]at N;show(t.2[j]).natAbs<=_;omega
  ·obtain⟨t1,t2⟩:=E;simp only[KJ,M,g,d.1];have a:=d.2 _ (ud (l:=D) (n:=i) (by have:=d.1;omega));have hp:=nX a y;have N:=t2 i (by omega);rw[uo (by omega)]at N;refine Ok.t (y5 (by have:=d.1;omega) (y5 (by omega) (qr p (y5 (by omega) (ih2 _ C7 ⟨by simp;exact t1,λj f=>?_⟩)))));show((t.2.set (i:Int).toNat _)[j]'f).natAbs<=_;simp only[uv,List.getElem_set];have W:k<=200:=by omega
   by_cases e:i=j
   ·rw[uk e,uk (by omega),sW (z:=D[i]*m[k][0]) (by omega),sW (by omega)];omega
   ·have X:=t2 j (by rw[t1];simp at f;omega);rw[uo e];split<;>split at X<;>omega
end
end Go.Proofs.YtaojdkijihbaoaaGreatDoor.P
namespace Go.Proofs.YtaojdkijihbaoaaGreatDoor.P.F
open Go.Proofs
set_option maxRecDepth 10000
theorem kg{x:Int}{xs:List Int}:x∈FD xs↔x∈xs:=by simp[FD,List.mem_mergeSort]
theorem Tg(d:Array Int)(hd:∀i,i+1<d.size->d[i]!<=d[i+1]!):∀m,m<=d.size->(Go.Lib.compactUpTo d m).Pairwise (·<·)/\(∀x,x∈Go.Lib.compactUpTo d m↔∃j,j<m/\d[j]! = x)/\∀x∈Go.Lib.compactUpTo d m,x<=d[m-1]!:=by
 intro m
 induction m with
 | zero=>intro _;simp[Go.Lib.compactUpTo]
 | succ m ih =>
   intro r;obtain⟨l,n,g⟩:=ih (by omega);rw[Go.Lib.compactUpTo_succ];by_cases p:m=0
   ·subst p;have:Go.Lib.compactUpTo d 0=[]:=rfl;rw[this];have hk:Go.Lib.keeps d 0=true:=Go.Lib.keeps_lt_one d 0 (by omega);rw[uk hk];refine⟨by simp,λx=>?_,by simp⟩;constructor
    ·intro h;simp at h;exact⟨0,by omega,h.symm⟩
    ·rintro⟨j,c,rfl⟩;have:j=0:=by omega
     subst this;simp
   have k:=hd (m-1) (by omega);rw[show m-1+1=m by omega]at k;by_cases f:d[m]! = d[m-1]!
   ·rw[Go.Lib.keeps_neg (by omega) f];simp only[vI,if_false,wV];refine⟨l,λx=>?_,λx hx=>?_⟩
    ·rw[n];constructor
     ·rintro⟨j,c,rfl⟩;exact⟨j,by omega,rfl⟩
     ·rintro⟨j,c,rfl⟩;by_cases e:j=m
      ·subst e;exact⟨j-1,by omega,f.symm⟩
      ·exact⟨j,by omega,rfl⟩
    ·have:=g x hx;rw[show m+1-1=m by omega,f];exact this
   ·rw[Go.Lib.keeps_pos f,uk rfl];refine⟨List.pairwise_append.2 ⟨l,by simp,λa q b o=>?_⟩,λx=>?_,λx hx=>?_⟩
    ·simp at o;subst o;have:=g a q;omega
    ·rw[wg,n];constructor
     ·rintro(⟨j,c,rfl⟩|h)
      ·exact⟨j,by omega,rfl⟩
      ·simp at h;exact⟨m,by omega,h.symm⟩
     ·rintro⟨j,c,rfl⟩;by_cases e:j=m
      ·subst e;exact .inr (by simp)
      ·exact .inl ⟨j,by omega,rfl⟩
    ·rw[show m+1-1=m by omega];rcases List.mem_append.1 hx with hx|hx
     ·have:=g x hx;omega
     ·simp at hx;omega
theorem bn(xs:List Int):(FD xs).Pairwise (·<=·):=by
 have:=List.pairwise_mergeSort (le:=λx y:Int=>decide (x<=y)) (λa b c d e=>by simp at *;omega) (λa b=>by simp;omega) xs;exact this.imp (by simp)
theorem V3(xs:List Int):(setI xs).Pairwise (·<·)/\∀x,x∈setI xs↔x∈xs:=by
 have d:=bn xs;have e:∀x,x∈FD xs↔x∈xs:=λx=>kg;unfold setI;generalize FD xs=s at d e;have b:∀i (h:i<s.length),s.toArray[i]! = s[i]:=λi h=>by simp[h]
 obtain⟨f,g,_⟩:=Tg s.toArray (λi c=>by
  have c:i+1<s.length:=by simpa using c
  rw[b i (by omega),b (i+1) c];exact List.pairwise_iff_getElem.1 d i (i+1) (by omega) c (by omega)) s.length (by simp)
 refine⟨f,λx=>?_⟩;unfold Go.Lib.compact;rw[g,<-e];constructor
 ·rintro⟨j,a,rfl⟩;rw[b j a];exact ud a
 ·intro h;obtain⟨j,a,rfl⟩:=List.getElem_of_mem h;exact⟨j,a,b j a⟩
theorem oH{a b:List Int}(c:a.Pairwise (·<·))(d:b.Pairwise (·<·))(h:∀x,x∈a↔x∈b):a=b:=by
 have hp:a.Perm b:=(List.perm_ext_iff_of_nodup (c.imp λh=>by omega) (d.imp λh=>by omega)).2 h;exact List.Perm.eq_of_pairwise (le:=(·<·)) (λx y _ _ e f=>by omega) c d hp
theorem Z2(x:Int):∀(l:List Int),l.Pairwise (·<·)->(fH x l).Pairwise (·<·)/\∀y,y∈fH x l↔y=x\/y∈l
 | [],_=>by simp[fH]
 | z :: r,h=>by
   obtain⟨a,d⟩:=List.pairwise_cons.1 h;unfold fH;by_cases c:x<z
   ·rw[un c,uY];refine⟨List.pairwise_cons.2 ⟨λy hy=>?_,h⟩,λy=>by simp⟩;rcases List.mem_cons.1 hy with rfl|hy
    ·exact c
    ·have:=a y hy;omega
   ·rw[uB c,ux];by_cases e:x=z
    ·rw[show(x==z)=true by simp[e],uY];exact⟨h,λy=>by subst e;simp⟩
    ·rw[show(x==z)=false by simp[e],ux];obtain⟨f,b⟩:=Z2 x r d;refine⟨List.pairwise_cons.2 ⟨λy hy=>?_,f⟩,λy=>by simp only[w9,b];exact⟨λh=>by rcases h with h|h|h<;>simp[h],λh=>by rcases h with h|h|h<;>simp[h]⟩⟩
     rcases(b y).1 hy with rfl|hy
     ·omega
     ·exact a y hy
theorem V4:∀(xs:List Int),(setU xs).Pairwise (·<·)/\∀x,x∈setU xs↔x∈xs
 | []=>by simp[setU]
 | z :: r=>by
   obtain⟨a,b⟩:=V4 r;obtain⟨c,d⟩:=Z2 z (setU r) a;exact⟨c,λx=>by rw[show setU (z :: r)=fH z (setU r)from rfl,d,b];simp⟩
theorem setU_eq(xs:List Int):setU xs=setI xs :=
 oH (V4 xs).1 (V3 xs).1 λx=>((V4 xs).2 x).trans ((V3 xs).2 x).symm
end Go.Proofs.YtaojdkijihbaoaaGreatDoor.P.F
namespace Go.Proofs.YtaojdkijihbaoaaGreatDoor.P
open Go Go.Abs Go.Proofs
set_option maxRecDepth 100000
section
variable {s:Aa} {x:Au}
theorem oq:(Sc.all λL=>(List.range (Gl L).toNat).all λb=>(DV L 0 0 b).isSome&&(Bu L).all λv=>(List.range (Gl L).toNat).all λa=>(DV L a (cv L a v) b).isSome)=true:=by decide +kernel
def KQ(s:Aa)(i:Nat)(r:Int×Bool):Prop:=∀hi:i<s.A.length,Dl s.A[i]->r.2=true->r.1=C3\/(-46<=r.1/\r.1<=46)
theorem ZF(j:DS s){i:Nat}(q:1<=i)(d:i<s.A.length){a b u:Int}(a0:0<=a)(F:a<=fin s i)(G:0<=b)(H:b<=fin s i)(k:Dl s.A[i]->1<=b)(t:a=0/\u=0\/∃v,WG s s.A[i] v/\u=CV s s.A[i] a v):Ok (Dx s i a u b) (KQ s i):=by
 have I:=j.fin_ok q d;unfold Dx;refine qr (j.pfinest q d) (y4 (by grind) (y5 d ?_));rcases j.col q d with h|h
 ·obtain⟨L,A,c⟩:=j.clist h;have e:fin s i=Gl L-1:=by rw[EY d,GH h c]
  have y:∀r,KQ s i r:=λr _ m=>by have:=m.kind;rw[h.kind]at this;cases this
  obtain⟨f1,f2⟩:=Bool.and_eq_true_iff.1 (List.all_eq_true.1 (List.all_eq_true.1 oq L A) b.toNat (List.mem_range.2 (by omega)));rw[show((b.toNat:Nat):Int)=b by omega]at f1 f2
  have:Ok (DV L a u b) λ_=>True:=by
   rcases t with⟨rfl,rfl⟩|⟨v,o,rfl⟩
   ·obtain⟨r,hr⟩:=Option.isSome_iff_exists.1 f1;exact⟨r,hr,trivial⟩
   ·have:=List.all_eq_true.1 (List.all_eq_true.1 f2 _ (o.code h c)) a.toNat (List.mem_range.2 (by omega));rw[show((a.toNat:Nat):Int)=a by omega]at this;rw[On h c];obtain⟨r,hr⟩:=Option.isSome_iff_exists.1 this;exact⟨r,hr,trivial⟩
  exact y7 (by rw[h.kind];rfl) (qr c (this.bind λr _=>y6 (λ_=>y3 (y _)) λ_=>y3 (y _)))
 ·have B:fin s i=s.A[i].N.length:=by rw[EY d,DI h]
  have k:=k h;have C:C3=-1099511627776:=rfl;obtain⟨J,K⟩:=h.low;obtain⟨D,M⟩:=h.high;refine y4 (by rw[h.kind];rfl) (Ok.bind (P:=λr:Int×Bool=>r.2=true->r.1=C3\/(-46<=r.1/\r.1<=46)) ?_ λr hr=>y6 (λ_=>y3 λ_ _ h=>by cases h) λe=>y3 λ_ _ _=>hr (by grind));unfold FA;refine y6 (λe=>y4 (by grind) (y3 λ_=>.inl (by grind))) λe=>?_
  obtain⟨w,z,rfl⟩:∃w,(s.A[i].C<=w/\w<=s.A[i].D)/\u=mv s.A[i] a w:=by
   by_cases p:a=0
   ·refine⟨_,⟨uU _,D⟩,?_⟩;rcases t with⟨_,f⟩|⟨v,o,f⟩
    ·rw[f];unfold mv;rw[uk p]
    ·rw[f,P9 h];unfold mv;rw[uk p,uk p]
   ·obtain⟨v,o,f⟩:=t.resolve_left (by grind);rw[P9 h]at f;rcases o.meas h with E|⟨_,E⟩
    ·grind
    ·unfold mv at f;grind
  have g:=Fw h (l:=b) k (by omega);have N:=vO (YF s.A[i] a w) (by omega:Fa s.A[i] b≠0);have O:=vN (YF s.A[i] a w) (by omega:0<Fa s.A[i] b)
  have Q:(s.A[i].C<=YF s.A[i] a w/\YF s.A[i] a w<=s.A[i].D)/\s.A[i].C<=oJ s.A[i] a w/\oJ s.A[i] a w<=s.A[i].D:=by
   unfold YF oJ;by_cases p:a=0
   ·grind
   ·have:=Pr h (l:=a) (by omega) (by omega) z;grind
  refine qr (iQ h a0 (by omega) z) (y4 rfl (y4 (by grind) (y6 (λ_=>y3 λh=>by cases h) λ_=>qr (Yi h k (by omega)) ?_)));have hd:=LO (n:=YF s.A[i] a w) g.1 (by omega) (by omega) (by omega);refine qr hd (qr hd (qr (LO (n:=oJ s.A[i] a w) g.1 (by omega) (by omega) (by omega)) (y3 λ_=>.inr ⟨?_,?_⟩)))
  all_goals grind
def dE(p:List Ac)(r:List Int):Au:={ Ae:=.empty,Ag:=0,E:=p,G:=[r] }
def kv(s:Aa)(p:List Ac)(r:List Int)(i b:Int):Int×Bool:=(Bt s (dE p r) 0 i b).getD (0,false)
theorem qx(c:DS s)(hx:GX s x){i j:Nat}(d:1<=i)(e:i<s.A.length)(g:j<x.G.length){b:Int}(h:0<=b)(l:b<=fin s i)(m:Dl s.A[i]->1<=b):Ok (Bt s x j i b) (KQ s i):=by
 have B:=c.fin_ok d e;have o:=hx.picks_len c;have hr:=hx.rows _ (ud g);unfold Bt;refine qr (IB (q:=λp=>p.B==(i:Int)) (λ_ _=>rfl) (by omega)) ?_;unfold GT
 cases hff:x.E.findIdx? (λp=>p.B==(i:Int))with
 | none=>exact y7 rfl ((ZF c d e (uU _) (by omega) h l m (.inl ⟨rfl,rfl⟩)).bind λr hr=>y3 hr)
 | some k =>
   obtain⟨hk,f,_⟩:=List.findIdx?_eq_some_iff_getElem.1 hff;have f:x.E[k].B=(i:Int):=by grind
   obtain⟨n,_,_,C,t,u⟩:=hx.picks _ (ud hk);obtain rfl:n=i:=by omega
   have a:k+1<x.G[j].length:=by omega
   obtain⟨v,y,w,_,D,z,A⟩:=hr.2.2.2 k _ _ (P3 hk) (P3 a);obtain rfl:v=n:=by omega
   refine y4 (uB (by grind)) (y5 hk (y5 g ?_));rw[C7];exact y5 a ((ZF c d e t u h l m (.inr ⟨w,z,A⟩)).bind λr hr=>y3 hr)
theorem Z3{j:Nat}(a:j<x.G.length)(i b:Int):Bt s x j i b=Bt s (dE x.E x.G[j]) 0 i b:=by
 unfold Bt;rw[Cf a];rfl
theorem mB(c:DS s)(hx:GX s x){i j:Nat}(d:1<=i)(f:i<s.A.length)(a:j<x.G.length){b:Int}(g:0<=b)(k:b<=fin s i)(l:Dl s.A[i]->1<=b):Bt s x j i b=some (kv s x.E x.G[j] i b)/\KQ s i (kv s x.E x.G[j] i b):=by
 obtain⟨r,e,h⟩:=qx c hx d f a g k l;have:kv s x.E x.G[j] i b=r:=by unfold kv;rw[<-Z3 a,e];rfl
 grind
def hp(d:Nat)(s:Aa)(p:List Ac)(c:Ad)(r:List Int):Bool:=(((Bs d s c).bind λq=>B5 p q).getD false)&&(C8 d s c p (r.drop 1)).getD 0==1
def qo(s:Aa)(p:List Ac)(r:List Int)(c:Int):Bool:=bif !(kv s p r c (fin s c.toNat)).2 then true else(kv s p r c (fin s c.toNat)).1==-1099511627776
def cp(d:Nat)(s:Aa)(p:List Ac)(c:Ad)(cols:List Int)(r:List Int):Bool:=hp d s p c r&&!cols.any (qo s p r)
theorem fL{σ ρ:Type}{body:(Int×σ->Option ρ)->Int->σ->Option ρ}{z:Option ρ}(len:Nat)(f:Nat->σ)(d:∀rec (i:Nat),i<len->body rec (i:Int) (f i)=rec (((i+1:Nat):Int),f (i+1)))(b:∀rec,body rec (len:Int) (f len)=z)(e:len<=1000000000000:=by omega):P.iter (λrec a=>body rec a.1 a.2) A9 (0,f 0)=z:=by
 have key:∀(m i n:Nat),i+m=len->m<n->P.iter (λrec a=>body rec a.1 a.2) n ((i:Int),f i)=z:=by
  intro m
  induction m with
  | zero =>
    intro i n h c;obtain⟨n,rfl⟩:∃k,n=k+1:=⟨n-1,by omega⟩;obtain rfl:i=len:=by omega
    exact b _
  | succ m ih =>
    intro i n h c;obtain⟨n,rfl⟩:∃k,n=k+1:=⟨n-1,by omega⟩;rw[L2];grind
 exact key len 0 A9 (by omega) (by unfold A9;omega)
def WX(P:List Int->Bool)(R:List (List Int)):List Int:=((List.range R.length).filter λj=>P (R.getD j [])).map λj:Nat=>(j:Int)
abbrev MJ(R:List (List Int))(v:Int):List Int:=R.getD v.toNat []
theorem iX{R:List (List Int)}{j:Nat}(a:j<R.length):MJ R (j:Int)=R[j]:=by grind
theorem aG{P:List Int->Bool}{R:List (List Int)}{v:Int}(h:v∈WX P R):∃j:Nat,v=j/\∃a:j<R.length,P R[j]=true:=by
 obtain⟨j,b,rfl⟩:=List.mem_map.1 h;grind
theorem pd(P:List Int->Bool)(R:List (List Int)):(WX P R).length<=R.length:=by
 unfold WX;grind
theorem U5{β:Type}(f:List Int->β)(P:List Int->Bool)(R:List (List Int)):(WX P R).map (λv=>f (MJ R v))=(R.filter P).map f:=by
 have e:(List.range R.length).map (λj=>R.getD j [])=R:=List.ext_getElem (by simp) λi b a=>by simp[a]
 have h:=congrArg (λl=>(List.filter P l).map f) e;simp only[wG,wI]at h;rw[<-h];unfold WX;rw[wI];rfl
theorem fM(P Q:List Int->Bool)(R:List (List Int)):(WX P R).filter (λv=>Q (MJ R v))=WX (λr=>P r&&Q r) R:=by
 unfold WX;rw[wG,List.filter_filter];grind
theorem Z0(a:DS s)(hx:GX s x){c:Ad}(h:GC s c){d:Nat}(hd:40<=d):Do d s x c=some (WX (hp d s x.E c) x.G):=by
 have w:=hx.len;have l:=hx.picks_len a;obtain⟨q,m,f⟩:=h.needs a hd;have g:=UN x.E q (by omega) (by have:=f.2;omega)
 have y:∀r,hp d s x.E c r=(covers x.E q&&(C8 d s c x.E (r.drop 1)).getD 0==1):=λr=>by
  unfold hp;grind
 refine Ok.val ?_;unfold Do;refine qr (h.check a hd) (y4 rfl (qr m (qr g (y6 (λe=>y3 ?_) λe=>?_))))
 ·have:∀R,WX (hp d s x.E c) R=[]:=λR=>List.eq_nil_iff_forall_not_mem.2 λv n=>by
   obtain⟨j,_,z,A⟩:=aG n;grind
  rw[this]
 ·unfold G8;refine ya x.G.length (λk b=>b=((List.range k).filter λj=>hp d s x.E c (x.G.getD j [])).map λj:Nat=>(j:Int)) rfl (λrec b i=>Ok.f (y3 i)) λrec k b hk i ih=>Ok.t (y5 hk (Ok.t ?_ (by have:=(hx.rows _ (ud hk)).1;omega)));have o:b.length<=k:=by grind
  obtain⟨t,p,_⟩:=pX a hx (ud hk) h hd;have u:hp d s x.E c (x.G.getD k [])=(t==1):=by grind
  rw[rZ]
  refine qr p (y6 (λe=>Ok.rm (by grind) (ih _ _ C7 ?_)) λe=>ih _ _ C7 ?_) <;>
   ·rw[List.range_succ,xl,uI,<-i];grind
def IP(x:Au)(l:List Int):Prop:=l.length<=200/\∀v∈l,∃j:Nat,v=j/\j<x.G.length
theorem Vr(hx:GX s x)(P:List Int->Bool):IP x (WX P x.G):=⟨uK (pd _ _) hx.len,λv a=>by
 obtain⟨j,b,c,_⟩:=aG a;exact⟨j,b,c⟩⟩
theorem QC(b:DS s)(hx:GX s x){c:Ad}(h:GC s c){d:Nat}(hd:40<=d){a:List Int}(m:a.length<=10/\∀v∈a,IM s v):DZ d s x c a=some (WX (cp d s x.E c a) x.G):=by
 have e:=Vr hx (hp d s x.E c);refine Ok.val ?_;unfold DZ;refine qr (hx.check b) (y4 rfl (qr (Z0 b hx h hd) ?_))
 have f:∀v∈WX (hp d s x.E c) x.G,Es v a s x=some (a.any (qo s x.E (MJ x.G v))):=λv n=>by
  obtain⟨j,rfl,o⟩:=e.2 v n;unfold Es;rw[lL (p:=λa0=>Eh a0 s x (j:Int)) (qo s x.E (MJ x.G j)) (λc g=>Ok.val ?_) (by omega)]
  ·rfl
  ·obtain⟨i,rfl,k,l,t⟩:=m.2 c g;have q:=b.fin_ok k l;unfold Eh;refine qr (b.pFinest k l) (qr (mB b hx k l o (by omega) (uU _) (λ_=>q.1)).1 (y3 ?_));unfold qo;grind
 refine qr (oU (p:=λa0=>Es a0 a s x) _ f (by have:=e.1;omega)) (y3 ?_);exact fM _ (λr=>!a.any (qo s x.E r)) _
def vl(s:Aa)(p:List Ac)(m:Int)(r:List Int):Int:=(kv s p r m (fin s m.toNat)).1
theorem eA(c:DS s)(hx:GX s x){m:Int}(n:IM s m){l:List Int}(f:IP x l):Ck s x l m=some (l.map λv=>vl s x.E m (MJ x.G v)):=by
 obtain⟨i,rfl,d,e,q⟩:=n;have o:=c.fin_ok d e;have p:=f.1;refine Ok.val ?_;unfold Ck;refine ya l.length (λk b=>b=(l.take k).map λv=>vl s x.E i (MJ x.G v)) rfl (λrec b g=>Ok.f (y3 (by grind))) λrec k b hk g ih=>Ok.t (y5 hk (qr (c.pFinest d e) ?_));obtain⟨j,h,a⟩:=f.2 _ (ud hk);rw[h];refine qr (mB c hx d e a (by omega) (uU _) (λ_=>o.1)).1 (Ok.rm (by grind) (ih _ _ C7 ?_));rw[g,ui hk,uI,h];simp only[ul,uH,vl,iX a,uv]
theorem rf(hx:GX s x){l:List Int}(c:IP x l):Fo x l=some (l.map λv=>hd (MJ x.G v)):=by
 have f:=c.1;refine Ok.val ?_;unfold Fo;refine ya l.length (λk b=>b=(l.take k).map λv=>hd (MJ x.G v)) rfl (λrec b d=>Ok.f (y3 (by grind))) λrec k b hk d ih=>Ok.t (y5 hk ?_);obtain⟨j,e,a⟩:=c.2 _ (ud hk);rw[e];refine y5 a (qr (J7 (hx.ne (ud a))) (Ok.rm (by grind) (ih _ _ C7 ?_)));rw[d,ui hk,uI,e];simp only[ul,uH,iX a]
theorem e9(a:DS s)(hx:GX s x){m:Int}(b:IM s m)(P:List Int->Bool):Ck s x (WX P x.G) m=some ((x.G.filter P).map (vl s x.E m)):=by
 rw[eA a hx b (Vr hx P),U5]
theorem aK(hx:GX s x)(P:List Int->Bool):Fo x (WX P x.G)=some ((x.G.filter P).map hd):=by
 rw[rf hx (Vr hx P),U5]
theorem Tx(P:List Int->Bool)(R:List (List Int)):(WX P R).length=(R.filter P).length:=by
 have:=congrArg List.length (U5 (λ_=>()) P R);grind
end
section
variable {s:Aa} {x y:Au} {P:List Int->Bool}
abbrev ky(P:List Int->Bool)(x:Au):List Int:=(x.G.filter P).map hd
theorem Ty(hx:GX s x):(ky P x).length<=200:=by
 rw[ua];exact uK (vZ _ _) hx.len
theorem tB(f:DS s)(hx:GX s x){d:Nat}{c:Ad}{a:List Int}{m:Int}(h:IM s m)(u:m∈a):SM ((x.G.filter (cp d s x.E c a)).map (vl s x.E m)):=λv k=>by
 obtain⟨r,hr,rfl⟩:=List.mem_map.1 k;obtain⟨hr,l⟩:=List.mem_filter.1 hr;obtain⟨j,n,rfl⟩:=List.mem_iff_getElem.1 hr;obtain⟨i,rfl,g,e,o⟩:=h;have p:=f.fin_ok g e;have hk:=(mB f hx g e n (b:=fin s i) (by omega) (uU _) (λ_=>p.1)).2 e o;unfold cp at l;have q:qo s x.E x.G[j] i=false:=by grind
 have t:C3=-1099511627776:=rfl;unfold qo at q;unfold vl;grind
theorem Tk(a:DS s)(hx:GX s x){q:List Ac}(h:NA s q):B5 x.E q=some (covers x.E q):=UN _ _ (by have:=hx.picks_len a;omega) (by have:=h.2;omega)
def LB{α:Type}(x:Au)(P:List Int->Bool)(r:α×List Int×Int):Prop:=r.2.2=0->r.2.1=ky P x
end
section
variable {s:Aa} {x y:Au}
theorem Uk{l:List Int}(c:l.length<=1000000)(v:Int):Bj l v=some (decide (v∈l)):=by
 refine Ok.val ?_;unfold Bj CU;refine Ok.bind (P:=λr:Int=>decide (r>=0)=decide (v∈l)) (y8 (λq=>q) l.length (λk _=>v ∉ l.take k) 0 (ug _) rfl (by simp) (by omega) (λrec q a b=>?_) λrec k q hk a b ih=>?_) λr hr=>y3 hr
 ·rw[uS]at b;simp only[E1,a];exact Ok.f (y3 (by grind))
 ·simp only[E1,a];refine Ok.t (y5 hk (y6 (λe=>y3 ?_) λe=>ih _ C7 λh=>?_))
  ·grind
  ·rw[ui hk]at h;grind
theorem pc(P:List Int->Bool){R:List (List Int)}{j:Nat}(a:j<R.length):decide ((j:Int)∈WX P R)=P R[j]:=by
 cases e:P R[j]
 ·refine uB λh=>?_;obtain⟨i,b,c,d⟩:=aG h;grind
 ·refine un (List.mem_map.2 ⟨j,List.mem_filter.2 ⟨List.mem_range.2 a,?_⟩,rfl⟩);grind
theorem pN{α:Type}(A:List α)(a b:α)(B:List α):(A++a :: B).set A.length b=A++[b]++B:=by simp
def qS(V:List Int)(F:List Bool)(K:List Int):Option ((List Bb)×(List Int)×Int):=(OT V F).bind λa=>bif a.2 != 0 then some ([],[],a.2)else some (a.1,K,0)
theorem oY(hx:GX s x){l:List Int}(b:IP x l)(E:List Int->Bool)(K:Int->List Bool->Option ((List Bb)×(List Int)×Int)):iter (λm t=>FP l (WX E x.G) K m t.1 t.2) A9 (0,List.replicate l.length false)=K l.length (l.map λv=>E (MJ x.G v)):=by
 have c:=b.1;have f:(WX E x.G).length<=200:=(Vr hx E).1;have key:=fL (z:=K l.length (l.map λv=>E (MJ x.G v))) (body:=λm v t=>FP l (WX E x.G) K m v t) l.length (λk=>(l.take k).map (λv=>E (MJ x.G v))++List.replicate (l.length-k) false) (λrec k hk=>?_) (λrec=>?_)
 ·grind
 ·obtain⟨j,d,a⟩:=b.2 _ (ud hk);simp only[FP];rw[Cg,Cf hk,ue,Uk (by omega),ue,d,pc E a,Cf (by grind),ue,uv,show l.length-k=(l.length-(k+1))+1 by omega,List.replicate_succ];have g:IntKind.i64.wrap ((k:Int)+1)=((k+1:Nat):Int):=C7;have h:((l.take k).map λv=>E (MJ x.G v)).length=k:=by grind
  have e:=pN ((l.take k).map λv=>E (MJ x.G v)) false (E x.G[j]) (List.replicate (l.length-(k+1)) false);rw[h]at e;rw[g,e,ui hk,uI,d];grind
 ·grind
theorem Tl(b:DS s)(hx:GX s x){m:Int}{ev c:Ad}(e:IM s m)(g:GC s ev)(h:GC s c){d:Nat}(hd:50<=d):((DZ d s x c [m]).bind λr=>(Do d s x ev).bind λo=>bif decide (0<=(r.length:Int))&&rm ((r.length:Int):Int).toNat 0 then iter (λi t=>FP r o (MA s x r m) i t.1 t.2) A9 (0,List.replicate ((r.length:Int):Int).toNat false)else none)
 = qS ((x.G.filter (cp d s x.E c [m])).map (vl s x.E m)) ((x.G.filter (cp d s x.E c [m])).map (hp d s x.E ev)) (ky (cp d s x.E c [m]) x):=by
 have a:=Vr hx (cp d s x.E c [m]);have f:=a.1;rw[QC b hx h (by omega) ⟨by simp,λv j=>by rw[List.mem_singleton.1 j];exact e⟩,Z0 b hx g (by omega),ue,ue,uv,dt,Wz (by omega),Bool.and_self,uY,oY hx a,U5];unfold MA qS;rw[e9 b hx e,ue,aK hx];rfl
theorem oR(a:DS s)(hx:GX s x){m:Int}{ev c:Ad}(f:IM s m)(b:∀y,idx s.A m=some y->0<=y.C)(g:GC s ev)(h:GC s c){d:Nat}(hd:50<=d):Ok (E2 d s x m ev c) λr=>r.1.length<=200/\LB x (cp d s x.E c [m]) r:=by
 have i:ET s (eX 12 0 .empty m [] [] c ev []):=.curve m ev c f b g h;have k:=Ty (P:=cp d s x.E c [m]) hx;rw[ua]at k;have j:∀{e:Int},e≠0->Ok (some (([]:List Bb),([]:List Int),e)) λr=>r.1.length<=200/\LB x (cp d s x.E c [m]) r:=λh=>y3 ⟨ug _,λl=>absurd l h⟩;unfold E2;refine qr (hx.check a) (y4 rfl (qr (i.right' a hd).1 (y4 rfl ((Xl a i hd).bind λq n=>qr (Tk a hx n) (y6 (λ_=>j (by decide)) λ_=>?_)))));rw[Tl a hx f g h hd];unfold qS;refine qr (x:=gD _ _) (Cg (by grind)) (y6 (λe=>j (by grind)) λ_=>y3 ⟨gF _ _,λ_=>rfl⟩)
def F1(b:List (List Int)):Prop:=∀l,b[0]?=some l->∀v∈l,v=-1
theorem F1.snoc{b:List (List Int)}{l:List Int}(h:F1 b)(c:b=[]->∀v∈l,v=-1):F1 (b++[l]):=λm d=>by
 cases b with
 | nil=>grind
 | cons a r=>exact h m (by grind)
theorem pg(G:DS s){a:List Ac}(h:OX s a):Ok (I6 s a) λr=>r.2=true->(1<=r.1.length/\r.1.length<=2000/\∀y∈r.1,y.length=a.length)/\F1 r.1:=by
 have H:=h.len;unfold I6;refine qr (x:=[[]]) rfl (y8 (λq=>q.2) a.length (λk q=>(1<=q.1.length/\q.1.length<=2000/\∀y∈q.1,y.length=k)/\F1 q.1) 0 (ug _) rfl ⟨⟨uh _,by simp,λy hy=>by rw[List.mem_singleton.1 hy];rfl⟩,λl g v c=>by simp at g;subst g;cases c⟩ (by omega) (λrec q n o=>?_) λrec k q hk n o ih=>?_)
 ·simp only[Ig,n];exact Ok.f (y3 λ_=>o)
 ·obtain⟨⟨U,I,J⟩,K⟩:=o;obtain⟨⟨i,M,V,B,C⟩,⟨N,O,P,Q,W,X⟩⟩:=h.all _ (ud hk);obtain rfl:i=N:=by omega
  obtain⟨L,D,d⟩:=G.clist C;have Y:fin s i=Gl L-1:=by rw[EY B,GH C d]
  have f1:=List.all_eq_true.1 (List.all_eq_true.1 bM L D) (a[k].J).toNat (List.mem_range.2 (by omega));have f2:=uf (Bool.and_eq_true_iff.1 (List.all_eq_true.1 (List.all_eq_true.1 gK L D) (a[k].J).toNat (List.mem_range.2 (by omega)))).1;rw[show((a[k].J.toNat:Nat):Int)=a[k].J by omega]at f1 f2;obtain⟨A,E⟩:=Option.isSome_iff_exists.1 f1;rw[E]at f2;change A.length<=20 at f2;simp only[Ig,n];refine Ok.t (y5 hk ?_);rw[M];refine y5 B (qr d (qr E (Ok.rm (by grind) (y9 (λ_=>y3 λh=>by cases h) λp=>?_))));have f:([(-1:Int)]++A).length=A.length+1:=by simp
  have R:q.1.length*(A.length+1)<=2000*21:=wX I (by omega)
  have Z:q.1.length*(A.length+1)<=2000:=by
   rw[f,<-Int.natCast_mul,wr]at p;omega
  refine ya q.1.length (λj b=>(b.length=j*(A.length+1)/\∀y∈b,y.length=k+1)/\F1 b) ⟨⟨by simp,(λy hy=>by cases hy)⟩,λl g=>by cases g⟩ (λrec b m=>Ok.f (ih _ C7 ⟨⟨?_,?_,m.1.2⟩,m.2⟩)) λrec j b u m ih2=>Ok.t (y5 u ?_)
  ·grind
  ·grind
  ·have w:(j+1)*(A.length+1)<=q.1.length*(A.length+1):=vE _ (by omega);rw[Nat.succ_mul]at w;refine ya ([(-1:Int)]++A).length (λt r=>(r.length=j*(A.length+1)+t/\∀y∈r,y.length=k+1)/\F1 r) m (λrec r hr=>Ok.f (ih2 _ _ C7 ⟨⟨by rw[Nat.succ_mul];have:=hr.1.1;omega,hr.1.2⟩,hr.2⟩)) (λrec t r S hr ih3=>Ok.t (y5 S ?_)) (by omega);have hy:=J _ (ud u);refine qr (X2 (by omega)) (Ok.rm (by simp;omega) (Ok.rm (by have:=hr.1.1;grind) (ih3 _ _ C7 ⟨⟨by simp;have:=hr.1.1;omega,λy T=>?_⟩,hr.2.snoc λe v c=>?_⟩)))
   ·have:=hr.1.2;grind
   ·have F:=hr.1.1;rw[e]at F;have z:j*(A.length+1)=0/\t=0:=by constructor<;>simp at F<;>omega
    obtain⟨z,rfl⟩:=z;obtain rfl:j=0:=by rcases Nat.mul_eq_zero.1 z with h|h<;>omega
    rcases List.mem_append.1 c with c|c
    ·exact K _ (P3 u) v c
    ·simpa using c
theorem fI{o c:List Int}(h:∀v∈c,v=-1)(a:c.length<=1000):Cl o c=some true:=by
 refine Ok.val ?_;unfold Cl;exact yc c.length (λrec=>Ok.f (y3 rfl)) λrec k hk ih=>Ok.t (y5 hk (y4 (by rw[h _ (ud hk)];rfl) (ih _ C7)))
def FC(cs q:List An)(K:List Int):Prop:=∀c,cs[0]?=some c->(∀v∈c.Q,v=-1)->∃c',q[0]?=some c'/\c'.G=c.G++K/\c'.Q=c.Q
theorem oL{o:List Int}(ho:o.length<=1000)(key v:Int)(b:Bool){m:Nat}(f:m<=1000){cs:List An}(h:CE o.length m cs):Ok (Cb o key v b cs) λq=>(q.length=cs.length/\CE o.length (m+1) q)/\FC cs q [key]:=by
 obtain⟨q,d,g⟩:=bU ho key v b f cs h;refine⟨q,d,g,λc i j=>?_⟩
 cases cs with
 | nil=>cases i
 | cons a r =>
   obtain rfl:a=c:=by grind
   obtain⟨k,l⟩:=h a (by simp);unfold Cb at d;rw[dt (by omega),uY,fI j (by omega),ue]at d
   cases e:Cb o key v b r with
   | none=>grind
   | some t =>
     rw[e,ue]at d;rw[<-uc d];obtain⟨n,p⟩:=bJ a key v b;grind
theorem aX{j:Nat}(b:j<x.G.length):∀a:List Ac,C5 s x j a=C5 s (dE x.E x.G[j]) 0 a
 | []=>rfl
 | p :: r=>by unfold C5;rw[Z3 b,aX b r]
theorem qB(b:DS s)(hx:GX s x){j:Nat}(c:j<x.G.length):∀a:List Ac,(∀p∈a,IC s p.B/\MC s p)->Ok (C5 s x j a) λo=>o.length=a.length
 | [],_=>y3 rfl
 | p :: r,h=>by
   obtain⟨⟨i,d,e,f,g⟩,⟨k,_,_,l,n,q⟩⟩:=h p (by simp);obtain rfl:i=k:=by omega
   unfold C5;rw[d];exact(qx b hx e f c n q λm=>by have:=m.kind;rw[g.kind]at this;cases this).bind λv _=>(qB b hx c r λp hp=>h p (by simp[hp])).bind λvs t=>y3 (by simp[t])
def rowsF(s:Aa)(p:List Ac)(dims:List Ac)(m:Int):List (List Int)->List An->Option (List An)
 | [],cs=>some cs
 | r :: R,cs=>(C5 s (dE p r) 0 dims).bind λo=>(Cb o (hd r) (bif decide (0<=m)then vl s p m r else 0) (decide (0<=m)) cs).bind λcs=>rowsF s p dims m R cs
theorem Yt(e:DS s)(hx:GX s x){a:List Ac}{m:Int}(f:m=-1\/IM s m):∀(l:List Int),(∀v∈l,∃j:Nat,v=j/\j<x.G.length)->∀cs,GQ s x a m l cs=rowsF s x.E a m (l.map (MJ x.G)) cs
 | [],_,cs=>rfl
 | v :: l,hv,cs=>by
   obtain⟨j,rfl,b⟩:=hv v (by simp)
   have c:I7 s x m j=some (bif decide (0<=m)then vl s x.E m x.G[j]else 0):=by
    unfold I7;by_cases g:0<=m
    ·have d:IP x [(j:Int)]:=⟨by simp,λw i=>by rw[List.mem_singleton.1 i];exact⟨j,rfl,b⟩⟩;rw[un g,uY,uY,eA e hx (f.resolve_left (by omega)) d,ue,ul,iX b];rfl
    ·grind
   unfold GQ;rw[c,ue,aX b,Cf b,ul,iX b];unfold rowsF;refine congrArg _ (funext λo=>?_);rw[ue,J7 (hx.ne (ud b)),ue];refine congrArg _ (funext λq=>?_);exact Yt e hx f l (λv h=>hv v (by simp[h])) q
theorem dL(f:DS s)(hx:GX s x){a:List Ac}(hd:a.length<=3/\∀p∈a,IC s p.B/\MC s p)(m:Int):∀(R:List (List Int))(k:Nat)(cs:List An),(∀r∈R,r∈x.G)->CE a.length k cs->k+R.length<=1000->Ok (rowsF s x.E a m R cs) λq=>(q.length=cs.length/\CE a.length (k+R.length) q)/\FC cs q (R.map P.hd)
 | [],k,cs,_,h,_=>y3 ⟨⟨rfl,h⟩,λc b _=>⟨c,b,by simp,rfl⟩⟩
 | r :: R,k,cs,hR,h,hl=>by
   obtain⟨j,g,d⟩:=List.mem_iff_getElem.1 (hR r (by simp));rw[vu]at hl;have ho:=qB f hx g a hd.2;rw[aX g,d]at ho;unfold rowsF;refine ho.bind λo ho=>(oL (by omega) _ _ _ (m:=k) (by omega) (by rw[ho];exact h)).bind λq i=>(dL f hx hd m R (k+1) q (λr hr=>hR r (by simp[hr])) (by grind) (by omega)).mono λz e=>⟨⟨e.1.1.trans i.1.1,by rw[vu,show k+(R.length+1)=k+1+R.length by omega];exact e.1.2⟩,λc b l=>?_⟩;obtain⟨n,t,u,v⟩:=i.2 c b l;obtain⟨w,A,B,C⟩:=e.2 n t (by grind);grind
def KW(m:Int):List Int:=bif decide (m>=0)then[m]else[]
theorem oi{m:Int}(a:m=-1\/IM s m):(KW m).length<=10/\∀v∈KW m,IM s v:=by
 unfold KW;grind
theorem aH(g:DS s)(hx:GX s x){a:List Ac}{m:Int}(i:m=-1\/IM s m){c:Ad}(h:GC s c){d:Nat}(hd:50<=d)(l:a.length<=1000)(b:List An):Et m d s x c a a b=(bif decide (a.length<=1000000/\b.length<=1000000/\0<b.length)&&b.all (λc=>c.G.isEmpty)then rowsF s x.E a m (x.G.filter (cp d s x.E c (KW m))) b else none).bind λk=>some ({ V:=a,Y:=m,A1:=k },0):=by
 have f:=Vr hx (cp d s x.E c (KW m))
 have e:Et m d s x c a a b=Fv d s x c a m b a (KW m):=by
  unfold Et KW;grind
 rw[e];unfold Fv OU;rw[QC g hx h (by omega) (oi i),ue,Yt g hx i _ f.2];have j:=U5 id (cp d s x.E c (KW m)) x.G;rw[List.map_id]at j;rw[show(WX (cp d s x.E c (KW m)) x.G).map (MJ x.G)=_ from j];refine congrArg (λz:Bool=>Option.bind (bif z&&_ then _ else none) _) (decide_eq_decide.2 ⟨λh=>⟨h.2.1,h.2.2⟩,λh=>⟨by have:=f.1;omega,h⟩⟩)
theorem pW(j:DS s)(hx:GX s x){f:List Ac}(o:OX s f){m:Int}(u:m=-1\/IM s m){c:Ad}(h:GC s c){d:Nat}(hd:50<=d):Ok (Dy d s x f m c) λr=>r.2=0->(r.1.V.length<=3/\r.1.A1.length<=2000/\CE f.length 200 r.1.A1)/\∃B,r.1.A1[0]?=some B/\B.G=ky (cp d s x.E c (KW m)) x:=by
 have D:=Ty (P:=cp d s x.E c (KW m)) hx;rw[ua]at D;have p:=o.len;have w:BE f=some f:=Ok.val (Ok.rm (by omega) (y3 rfl));unfold Dy;refine qr (hx.check j) (y4 rfl (qr (qO j o u h (by omega)) (y4 rfl ((Xl j (.table m f c u o h) hd).bind λq E=>qr (Tk j hx E) (y6 (λ_=>y3 λe=>by cases e) λ_=>((pg j o).bind λl F=>?_))))));refine y6 (λ_=>y3 λe=>by cases e) λe=>?_;obtain⟨⟨I,J,K⟩,G⟩:=F (by grind);refine qr w (ya l.1.length (λk b=>b.length=k/\CE f.length 0 b/\∀c,b[0]?=some c->∀v∈c.Q,v=-1) ⟨rfl,(λc g=>by cases g),(λc g=>by cases g)⟩ (λrec b n=>Ok.f ?_) λrec k b hk n ih=>Ok.t (y5 hk ?_))
 ·show Ok (Et m d s x c f f b) _;rw[aH j hx u h hd (by grind)];have H:=n.1;have t:(b.all λc=>c.G.isEmpty)=true:=List.all_eq_true.2 λc g=>List.isEmpty_iff.2 (uJ (by have:=(n.2.1 c g).2;omega));rw[t,dt ⟨by omega,by omega,by omega⟩];refine(dL j hx ⟨p,o.all⟩ m _ 0 b (λr hr=>(List.mem_filter.1 hr).1) n.2.1 (by omega)).bind λz A=>y3 λ_=>⟨⟨p,by show z.length<=_;omega,λc g=>⟨(A.1.2 c g).1,by have:=(A.1.2 c g).2;omega⟩⟩,?_⟩;have C:=P3 (l:=b) (i:=0) (by omega);obtain⟨c',L,M,_⟩:=A.2 _ C (n.2.2 _ C);grind
 ·unfold bT;refine qr (Cg (by grind)) (ih _ _ C7 ⟨by simp;exact n.1,λc g=>?_,λc g=>?_⟩)
  ·rcases List.mem_append.1 g with g|g
   ·exact n.2.1 c g
   ·grind
  ·cases b with
   | nil =>
     obtain rfl:k=0:=by grind
     have:=G _ (P3 hk);grind
   | cons a r=>grind
def it:List (List Int)->List (List Int)->Option (List (List Int))
 | [],cs=>some cs
 | v :: r,cs=>bif v.length==cs.length then it r (cs.zipWith (λl x=>l++[x]) v)else none
theorem R9(a:DS s)(hx:GX s x)(P:List Int->Bool):∀(l:List Int),(∀v∈l,IM s v)->∀cs,IJ s x (WX P x.G) l cs=it (l.map λc=>(x.G.filter P).map (vl s x.E c)) cs
 | [],_,_=>rfl
 | c :: l,h,cs=>by
   unfold IJ;rw[e9 a hx (h c (by simp)),ue,R9 a hx P l (λv b=>h v (by simp[b]))];rfl
theorem cL{n:Nat}:∀(V:List (List Int))(k:Nat)(cs:List (List Int)),(∀v∈V,v.length=n/\SM v)->cs.length=n->RS k cs->Ok (it V cs) (RS (k+V.length))
 | [],_,_,_,_,h=>y3 h
 | v :: V,k,cs,hV,hc,h=>by
   obtain⟨j,b⟩:=hV v (by simp);unfold it;refine y7 (by grind) ?_;rw[vu,show k+(V.length+1)=k+1+V.length by omega];refine cL V (k+1) _ (λv c=>hV v (by simp[c])) (by grind) λq d=>?_;obtain⟨i,e,rfl⟩:=List.mem_iff_getElem.1 d;rw[List.length_zipWith]at e;rw[List.getElem_zipWith];obtain⟨f,g⟩:=h _ (ud (l:=cs) (n:=i) (by omega));refine⟨by simp;exact f,λw a=>?_⟩;rcases List.mem_append.1 a with a|a
   ·exact g w a
   ·rw[List.mem_singleton.1 a];exact b _ (ud _)
theorem qz{m:Int}(d:IM s m){a:List Int}(c:Ns s m a):([m]++a).length<=10/\∀v∈[m]++a,IM s v:=⟨by have:=c.len;simp;omega,λv b=>by
 rcases List.mem_append.1 b with b|b
 ·grind
 ·exact(c.all v b).1⟩
theorem pn(b:DS s)(hx:GX s x){m:Int}(o:IM s m){a:List Int}(g:Ns s m a){c:Ad}(h:GC s c){d:Nat}(hd:50<=d):Ok (E0 d s x m a c) λr=>r.2.2=0->(r.1.Ai.length<=3/\r.1.A9.length<=5)/\r.2.1=ky (cp d s x.E c ([m]++a)) x:=by
 have t:=g.len;have z:=g.pos;have p:ET s (eX 11 0 .empty m a [] c Gv []):=.model m a c o g h;have i:=qz o g;have u:=Ty (P:=cp d s x.E c ([m]++a)) hx;rw[ua]at u;unfold E0;refine qr (hx.check b) (y4 rfl (qr (p.right' b hd).1 (y4 rfl ((Xl b p hd).bind λq j=>qr (Tk b hx j) (y6 (λ_=>y3 λe=>by cases e) λ_=>Ok.rm (by grind) (qr (QC b hx h (by omega) i) ?_))))));refine qr (x:=List.replicate (WX (cp d s x.E c ([m]++a)) x.G).length []) (Cg ⟨by rw[Tx];omega,by have:=i.1;omega⟩) ?_;rw[R9 b hx _ _ i.2,Tx];refine(cL (n:=(x.G.filter (cp d s x.E c ([m]++a))).length) _ 0 _ (λv l=>?_) (by simp) λq j=>⟨by rw[wd j];rfl,λv l=>by rw[wd j]at l;cases l⟩).bind λy hy=>?_
 ·obtain⟨k,hk,rfl⟩:=List.mem_map.1 l;exact⟨by rw[ua],tB b hx (i.2 k hk) hk⟩
 rw[ua]at hy;refine(qY hy (by simp) (by grind)).bind λf w=>y6 (λe=>y3 λA=>?_) λ_=>qr (X2 (by omega)) (qr (aK hx _) (y3 λ_=>⟨⟨t,w.1⟩,rfl⟩));grind
theorem qc(j:DS s)(hx:GX s x)(n:List AF){e:Av}(h:ET s e){d:Nat}(hd:51<=d):Ok (B0 d (sG s x n) e) λr=>r.2=0->VB r.1:=by
 obtain⟨d,rfl⟩:∃k,d=k+1:=⟨d-1,by omega⟩;have o:∀{v:AR}{k:Int}{Q:Prop},(k != 0)=true->(v,k).2=0->Q:=λ{v k Q} h l=>absurd (show k=0 from l) (by grind);show Ok (Cu d (B0 d) (DJ d) (sG s x n) e) _;unfold Cu
 cases h with
 | table m p c g q h =>
   have a:=Ty (P:=cp d s x.E c (KW m)) hx
   iterate 5 refine y4 rfl ?_
   refine y7 rfl ((pW j hx q g h (d:=d) (by omega)).bind λr hr=>y6 (λe=>?_) λe=>?_)
   ·obtain⟨⟨t,u,f⟩,D,w,z⟩:=hr (by grind);obtain⟨A,rfl⟩:=List.getElem?_eq_some_iff.1 w;refine qr (JE (uU _) (by show 0<_;omega)) (qr (X2 (by grind)) (y6 (λe=>y3 λl=>?_) λ_=>y3 λ_=>⟨by show r.1.V.length<=_;omega,by show r.1.A1.length<=_;omega,λc b=>⟨by rw[(f c b).1];have:=q.len;omega,by have:=(f c b).2;omega⟩,ug _,ug _,ug _,ug _,by show(r.1.A1[0]).G.length<=_;rw[z];omega⟩));grind
   ·refine y7 (by grind) (y3 λl=>?_);grind
 | model m i c g b h =>
   have a:=Ty (P:=cp d s x.E c ([m]++i)) hx
   iterate 6 refine y4 rfl ?_
   refine y7 rfl ((pn j hx g b h (d:=d) (by omega)).bind λr hr=>y6 (λe=>y3 (o e)) λe=>y3 λ_=>?_);obtain⟨⟨t,u⟩,f⟩:=hr (by grind);exact⟨ug _,ug _,(λc b=>by cases b),by show r.1.Ai.length<=_;omega,by show r.1.A9.length<=_;omega,ug _,ug _,by show r.2.1.length<=_;rw[f];omega⟩
 | curve m ev c g B C h =>
   have a:=Ty (P:=cp d s x.E c [m]) hx
   iterate 7 refine y4 rfl ?_
   refine y7 rfl ((oR j hx g B C h (d:=d) (by omega)).bind λr hr=>y6 (λe=>y3 (o e)) λe=>y3 λ_=>?_);have f:=hr.2 (by grind);have:=hr.1;exact⟨ug _,ug _,(λc b=>by cases b),ug _,ug _,by show r.1.length<=_;omega,ug _,by show r.2.1.length<=_;rw[f];omega⟩
