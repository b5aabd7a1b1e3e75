/- QD -/
import Derived.Test.YthchnhoalhbkcaaGreatDoorQC
open Go.IntKind (i64 u64)
set_option linter.unusedVariables false
set_option linter.unusedSimpArgs false
namespace Go.Proofs.YthchnhoalhbkcaaGreatDoor.P
open Go Go.Abs Go.Proofs
set_option maxRecDepth 100000
variable {s:Aa} {x:As} {n:Nat}
def S4(x:As)(i j:Nat):Int:=(x.G.getD j []).getD i 0
theorem eO{i j:Nat}(hj:j<x.G.length)(hi:i<x.G[j].length):x.G[j][i]=S4 x i j:=by
 unfold S4;grind
theorem Zg(hx:R7 s x n){i j:Nat}(i0:1<=i)(hi:i<s.A.length)(hj:j<x.G.length):cD s s.A[i] (S4 x i j):=by
 have hr:=hx.rows _ (qa hj);have hl:=hr.1;exact hr.2.2.2 i _ _ i0 (P2 hi) (by rw[P2 (by omega),eO hj])
theorem bz(hs:DS s)(hx:R7 s x n){i j:Nat}(i0:1<=i)(hi:i<s.A.length)(hj:j<x.G.length)(b:Int):BC s x j i b=(E3 s i (Ef s i) (S4 x i j) b).bind λp=>some (p.1,p.2):=by
 have hcl:=hs.cols_length;obtain⟨k,rfl⟩:∃k,i=k+1:=⟨i-1,by omega⟩;have hk:k<(Fy s).length:=by rw[Fo];omega
 have hr:=(hx.rows _ (qa hj)).1;unfold BC;have h1:Bg x.X (λa0=>Im a0 ((k+1:Nat):Int))=some (Gi (λp=>p.B==((k+1:Nat):Int)) x.X):=Jp (λ_ _=>rfl) (by rw[hx.picks,Fo];omega)
 have h2:x.X.findIdx? (λp=>p.B==((k+1:Nat):Int))=some k:=by
  rw[hx.picks,rW];refine⟨hk,by rw[Cu];exact sk _,λj hj=>?_⟩;rw[Cu];grind
 have h3:Gi (λp=>p.B==((k+1:Nat):Int)) x.X=(k:Int):=by unfold Gi;rw[h2]
 rw[h1,h3,qd,Dz,hx.picks,FA hk,qd,Cu,FA hj,qd,show i64.wrap ((k:Int)+1)=((k+1:Nat):Int)from EE,FA (by omega),qd,eO hj]
theorem b7(hs:DS s)(hx:R7 s x n){i j:Nat}(i0:1<=i)(hi:i<s.A.length)(h:FQ s.A[i])(hj:j<x.G.length){b:Int}(hb:1<=b)(hb2:b<=Ef s i):BC s x j i b=some (mv s.A[i] b (S4 x i j),true)/\MV s.A[i] (S4 x i j):=by
 have hv:=Zg hx i0 hi hj;have hfe:Ef s i=s.A[i].T.length:=by rw[Gh hi,EC h]
 have hm:mv s.A[i] (Ef s i) (S4 x i j)=S4 x i j:=by rw[<-Wc (s:=s) h];exact cG hs i0 hi hv
 have:=il hs i0 hi h hb hb2 (by grind) (hv.meas h);rw[hm]at this;refine⟨?_,hv.meas h⟩;rw[bz hs hx i0 hi hj,this];rfl
theorem YA(hs:DS s)(hx:R7 s x n){i j:Nat}(i0:1<=i)(hi:i<s.A.length)(h:FQ s.A[i])(hj:j<x.G.length):BC s x j i (Ef s i)=some (S4 x i j,true)/\MV s.A[i] (S4 x i j):=by
 have hf:=hs.fin_ok i0 hi;have:=b7 hs hx i0 hi h hj hf.1 (rk _);rw[<-Wc (s:=s) h,cG hs i0 hi (Zg hx i0 hi hj)]at this;exact this
theorem dC{c:Ar}(h:FQ c){v:Int}(hv:MV c v)(hm:v≠Dg):-46<=v/\v<=46:=by
 obtain⟨a1,a2⟩:=h.low;obtain⟨a3,a4⟩:=h.high;rcases hv with hv|hv
 all_goals grind
def RW(x:As)(cols r:List Int):Prop:=r.length<=x.G.length/\∀v∈r,∃j:Nat,v=(j:Int)/\j<x.G.length/\∀c∈cols,S4 x c.toNat j≠Dg
theorem lQ{l:List Int}{p:Int->Option Bool}(q:Int->Bool)(hp:∀x∈l,p x=some (q x))(hl:l.length<=1000000):Di l p=some (l.filter λx=>!q x):=by
 unfold Di;rw[show(l.all λx=>(p x).isSome)=true from List.all_eq_true.2 λx hx=>by rw[hp x hx];rfl,VG (by omega)];refine congrArg some (List.filter_congr λx hx=>?_);grind
theorem Uk(hs:DS s)(hx:R7 s x n)(hn:n<=200){c:Aj}(h:GC s c){d:Nat}(hd:40<=d){cols:List Int}(hc:cols.length<=10/\∀v∈cols,IM s v):Ok (CH d s x c cols) (RW x cols):=by
 have hl:=hx.len;unfold CH;refine Ok.bindE ((hx.gx hs hn).check hs) (Ok.no rfl ((Ph hs hx hn h hd).bind λr hr=>?_))
 have hp:∀v∈r,DF v cols s x=some (cols.any λc=>S4 x c.toNat v.toNat==Dg):=λv hv=>by
  obtain⟨j,rfl,hj⟩:=hr.2 v hv;unfold DF;rw[Ze (p:=λa0=>D3 a0 s x (j:Int)) (λc=>S4 x c.toNat j==Dg) (λc hc'=>Ok.val ?_) (by omega)]
  ·rfl
  ·obtain⟨i,rfl,i0,hi,hM⟩:=hc.2 c hc';unfold D3;exact Ok.bindE (hs.pFinest i0 hi) (Ok.bindE (YA hs hx i0 hi hM hj).1 (Ok.some rfl))
 refine Ok.bindE (lQ (p:=λa0=>DF a0 cols s x) _ hp (by have:=hr.1;omega)) (Ok.some ⟨qt (rl _ _) hr.1,λv hv=>?_⟩);obtain⟨h1,h2⟩:=List.mem_filter.1 hv;obtain⟨j,rfl,hj⟩:=hr.2 v h1;grind
def SM(l:List Int):Prop:=∀v∈l,-46<=v/\v<=46
theorem OV(hs:DS s)(hx:R7 s x n){m:Int}(hm:IM s m){cols r:List Int}(hmc:m∈cols)(hr:RW x cols r)(hn:n<=200):Ok (BK s x r m) λl=>l.length=r.length/\SM l:=by
 have hl:=hx.len;have hr1:=hr.1;obtain⟨i,rfl,i0,hi,hM⟩:=hm;unfold BK;refine Ok.lp2 r.length (λk b=>b.length=k/\SM b) ⟨rfl,(λv hv=>by cases hv)⟩ (λrec b hb=>Ok.f (Ok.some hb)) λrec k b hk hb ih=>Ok.t (Ok.idxn hk (Ok.bindE (hs.pFinest i0 hi) ?_));obtain⟨j,hj,hj2,hj3⟩:=hr.2 _ (qa hk);rw[hj];obtain⟨e,hv⟩:=YA hs hx i0 hi hM hj2;refine Ok.bindE e (Ok.rm (by grind) (ih _ _ EE ⟨by simp;exact hb.1,λv hv'=>?_⟩));rcases List.mem_append.1 hv' with hv'|hv'
 ·exact hb.2 v hv'
 ·rw[List.mem_singleton.1 hv'];have:=hj3 _ hmc;rw[qu]at this;exact dC hM hv this
theorem Ro(hs:DS s)(hx:R7 s x n)(hn:n<=200){cols r:List Int}(hr:RW x cols r):Ok (Cs x r) λl=>l.length=r.length:=by
 have hl:=hx.len;have hr1:=hr.1;unfold Cs;refine Ok.lp2 r.length (λk b=>b.length=k) rfl (λrec b hb=>Ok.f (Ok.some hb)) λrec k b hk hb ih=>Ok.t (Ok.idxn hk ?_);obtain⟨j,hj,hj2,_⟩:=hr.2 _ (qa hk);rw[hj];exact Ok.idxn hj2 (Ok.bindE (Jl ((hx.rows _ (qa hj2)).ne hs)) (Ok.rm (by simp;omega) (ih _ _ EE (by grind))))
theorem IX.rw{r:List Int}(h:IX x r):RW x [] r:=⟨h.1,λv hv=>by
 obtain⟨j,h1,h2⟩:=h.2 v hv;exact⟨j,h1,h2,λc hc=>by cases hc⟩⟩
theorem Xq{m:Int}{d:Nat}(hd:0<d)(h:(VV m d).2=0):Wb (VV m d).1=true:=by
 have ok:F.okR m d=true:=by
  change F.redE m d=0 at h;unfold F.redE at h;grind
 have hg:0<Nat.gcd d m.natAbs:=rL _ hd;have ok':=ok;unfold F.okR at ok';obtain⟨h1,h2⟩:=Bool.and_eq_true_iff.1 ok';have h1:=pZ h1;have h2:=pZ h2
 have e:VV m d=({ L:=((m.natAbs/Nat.gcd d m.natAbs:Nat):Int)*m.sign,N:=((d/Nat.gcd d m.natAbs:Nat):Int) },0):=by
  unfold VV F.redF F.redE;rw[ok];rfl
 have hden:1<=d/Nat.gcd d m.natAbs:=Nat.div_pos (Nat.gcd_le_left _ hd) hg;have hcop:Nat.Coprime (d/Nat.gcd d m.natAbs) (m.natAbs/Nat.gcd d m.natAbs):=Nat.coprime_div_gcd_div_gcd hg;rw[e];unfold Wb;generalize m.natAbs/Nat.gcd d m.natAbs=a at *;generalize hb:d/Nat.gcd d m.natAbs=b at *;refine qh ⟨⟨by show(1:Int)<=(b:Int);omega,h2⟩,?_⟩;show(-1152921504606846976<=(a:Int)*m.sign/\(a:Int)*m.sign<=1152921504606846976)/\Nat.gcd ((a:Int)*m.sign).natAbs (b:Int).natAbs=1;rcases Int.lt_trichotomy m 0 with hm|hm|hm
 ·rw[rp hm];refine⟨by omega,?_⟩;rw[show((a:Int) * -1).natAbs=a by omega,sL,sq];exact hcop
 ·subst hm;have:b=1:=by rw[<-hb];simp;exact Nat.div_self hd
  grind
 ·rw[sp hm];refine⟨by omega,?_⟩;rw[show((a:Int)*1).natAbs=a by omega,sL,sq];exact hcop
def FR(r:AI×Int):Prop:=r.2=0->Wb r.1=true
theorem nj{m k:Int}(m0:du m=true)(k0:du k=true):Ok (Gv m k) FR:=by
 unfold Gv;rw[m0,k0];refine Ok.yes rfl (Ok.br (λ_=>Ok.some λh=>by cases h) λe=>Ok.some (Xq ?_));grind
theorem eo{p:AI}(h:Wb p=true):1<=p.N:=(pZ h).1.1
theorem Zj{p q:AI}(hp:Wb p=true)(hq:Wb q=true):0<(p.N*q.N).toNat:=by
 have:=Int.mul_pos (show 0<p.N by have:=eo hp;omega) (show 0<q.N by have:=eo hq;omega);omega
theorem nD{p q:AI}(hp:Wb p=true)(hq:Wb q=true):Ok (Mb p q) FR:=by
 unfold Mb;rw[hp,hq];exact Ok.yes rfl (Ok.some (Xq (Zj hp hq)))
theorem ov{p q:AI}(hp:Wb p=true)(hq:Wb q=true):Ok (Me p q) FR:=by
 unfold Me;rw[hp,hq];exact Ok.yes rfl (Ok.some (Xq (Zj hp hq)))
theorem oa{p q:AI}(hp:Wb p=true)(hq:Wb q=true):Ok (Md p q) FR:=by
 unfold Md;rw[hp,hq];exact Ok.yes rfl (Ok.some (Xq (Zj hp hq)))
theorem nL{p q:AI}(hp:Wb p=true)(hq:Wb q=true):Ok (Mc p q) FR:=by
 unfold Mc;rw[hp,hq];refine Ok.yes rfl (Ok.br (λ_=>Ok.some λh=>by cases h) λe=>Ok.some (Xq ?_));have h1:q.L≠0:=by grind
 have:=Int.mul_ne_zero h1 (show p.N≠0 by have:=eo hp;omega);omega
theorem bX:∀l:List Int,(F.setU l).length<=l.length
 | []=>qb _
 | x :: r=>by
   have h:∀(x:Int)(l:List Int),(F.insU x l).length<=l.length+1:=by
    intro x l
    induction l with
    | nil=>simp[F.insU]
    | cons y r ih =>
      unfold F.insU;grind
   have:=bX r;have:=h x (F.setU r);show(F.insU x (F.setU r)).length<=r.length+1;omega
theorem ln{a b:List Int}{k m:Nat}(ha:a.length<=k)(hb:b.length<=m)(hk:k<=100000)(hm:m<=100000):Ok (Ez a b) λr=>r.length<=k+m:=by
 unfold Ez;refine Ok.t (Ok.some (qt (bX _) ?_)) (by omega);grind
end Go.Proofs.YthchnhoalhbkcaaGreatDoor.P
namespace Go.Proofs.YthchnhoalhbkcaaGreatDoor.P
open Go Go.Abs Go.Proofs
set_option maxRecDepth 100000
variable {s:Aa} {x:As} {n:Nat} {ns:List ByteArray}
structure VB(v:AA):Prop where
 dims:v.Table.Ac.length<=1000000
 cells:v.Table.Av.length<=1000000
 cell:∀c∈v.Table.Av,c.Q.length<=1000000/\c.G.length<=1000000
 terms:v.Model.Aw.length<=1000000
 coefs:v.Model.A3.length<=1000000
 curve:v.Curve.length<=1000000
 hist:v.Hist.length<=1000000
 line:v.Lineage.length<=1000000
theorem bW{α:Type}{l:List α}{ne:α->α->Bool}{K:Int->Option Bool}(hl:l.length<=1000000)(hne:∀a,ne a a=false)(hK:∀v,K v=some true) :
 (bif((l.length:Int) != (l.length:Int))then some false else P.iter (λrec v=>bif decide (v<(l.length:Int))then(idx l v).bind λa=>(idx l v).bind λb=>bif ne a b then some false else rec (i64.wrap (v+1))else K v) AD 0)=some true :=
 Ok.val (Ok.no (by simp) (Ok.lp l.length (λrec=>Ok.f ⟨true,hK _,rfl⟩) λrec k hk ih=>Ok.t (Ok.idxn hk (Ok.idxn hk (Ok.no (hne _) (ih _ EE))))))
theorem Rm{l:List Int}(hl:l.length<=1000000):HQ l l=some true:=bW hl (λa=>by simp) λ_=>rfl
theorem en{v:AA}(h:VB v):GY v v=some true:=by
 refine Ok.val ?_;unfold GY;refine Ok.yes (by simp) (Ok.bindE (x:=true) (Ok.val ?_) (Ok.yes rfl (Ok.bindE (x:=true) (Ok.val ?_) (Ok.yes rfl (Ok.bindE (x:=true) (bW h.curve (λa=>by simp) λ_=>rfl) (Ok.yes rfl (Ok.bindE (x:=true) (bW h.hist (λa=>by simp) λ_=>rfl) (Ok.yes (by simp) (Ok.bindE (Rm h.line) (Ok.some rfl))))))))))
 ·unfold Py;refine Ok.bindE (x:=true) (bW h.dims (λa=>by simp) λ_=>rfl) (Ok.no (by simp) (Ok.lp v.Table.Av.length (λrec=>Ok.f (Ok.some rfl)) (λrec k hk ih=>Ok.t (Ok.idxn hk (Ok.idxn hk (Ok.bindE (x:=true) (Ok.val ?_) (Ok.no rfl (ih _ (EE (by have:=h.cells;omega)))))))) (by have:=h.cells;omega)));obtain⟨h1,h2⟩:=h.cell _ (qa hk);unfold Ki;exact Ok.bindE (Rm h1) (Ok.yes (by simp) (Ok.bindE (Rm h2) (Ok.some rfl)))
 ·unfold Pz;exact Ok.yes (by simp) (Ok.bindE (Rm h.terms) (Ok.yes rfl (Ok.bindE (x:=true) (bW h.coefs (λa=>by simp) λ_=>rfl) (Ok.some (by simp)))))
def zT:D5:={ Ac:=[],Ah:=0,Av:=[] }
def zM:Cf:={ Ah:=0,Aw:=[],A3:=[],A1:={ L:=0,N:=0 },A2:={ L:=0,N:=0 },Y:=0,Bb:=0 }
def zB:Oo:={ Y:=0,Bf:=0,Bg:=0,Bh:=0,Bi:=0,Bj:=0 }
def nv(k:Int)(f:AI)(l:List Int):AA:={ Kind:=k,Number:=f,Table:=zT,Model:=zM,Curve:=[],Hist:=[],Box:=zB,Lineage:=l }
def NV(B:Nat)(v:AA):Prop:=∃f l,v=nv 1 f l/\Wb f=true/\l.length<=B
theorem NV.mono{B C:Nat}{v:AA}(h:NV B v)(hB:B<=C):NV C v:=by
 obtain⟨f,l,h1,h2,h3⟩:=h;exact⟨f,l,h1,h2,by omega⟩
theorem NV.vb{B:Nat}{v:AA}(h:NV B v)(hB:B<=1000000):VB v:=by
 obtain⟨f,l,rfl,_,h3⟩:=h;exact⟨by simp[nv,zT],by simp[nv,zT],(λc hc=>by cases hc),by simp[nv,zM],by simp[nv,zM],by simp[nv],by simp[nv],by show l.length<=_;omega⟩
theorem U2{l:List Int}(h:l.length<=1000000):AC l=some l:=Ok.val (Ok.rm (by omega) (Ok.some rfl))
theorem lO{B:Nat}{v:AA}(h:NV B v)(hB:B<=1000000):Fu v=some v:=by
 obtain⟨f,l,rfl,_,h3⟩:=h;have e:Fu (nv 1 f l)=(AC l).bind λy=>some (nv 1 f y):=rfl;rw[e,U2 (by omega)];rfl
abbrev kK(s:Aa)(x:As)(bs:List A9):Ay:={ I:={ Ae:=s,K:=x },Ax:=bs }
def RN(B:Nat)(r:AA×Int):Prop:=r.2=0->NV B r.1
theorem RN.err{B:Nat}{v:AA}{e:Int}(h:(e != 0)=true):RN B (v,e):=λe0=>by change e=0 at e0;rw[e0]at h;cases h
theorem i64_in{m:Int}(h0:-1000000000<=m)(h1:m<=1000000000):du m=true:=qh (by omega)
theorem ls{m:Int}(h0:-1000000000<=m)(h1:m<=1000000000):Wb { L:=m,N:=1 }=true:=qh ⟨by show(1:Int)<=1/\(1:Int)<=1152921504606846976;decide,by show -1152921504606846976<=m/\m<=1152921504606846976;omega,Nat.gcd_one_right _⟩
theorem ow(hs:DS s)(hx:R7 s x n)(hn:n<=200){op m:Int}{c:Aj}(hm:IM s m)(h:GC s c)(bs:List A9){d:Nat}(hd:40<=d){B:Nat}(hB:200<=B):Ok (Cr d (kK s x bs) (eX op 0 .empty m [] [] c Gt [])) (RN B):=by
 have hl:=hx.len;unfold Cr;refine(Uk hs hx hn h hd (cols:=[m]) ⟨by simp,λv hv=>by rw[List.mem_singleton.1 hv];exact hm⟩).bind λr hr=>(OV hs hx hm (List.mem_singleton.2 rfl) hr hn).bind λV hV=>?_;have hr1:=hr.1;have hV1:=hV.1;refine Ok.for (λq=>q.2) V.length (λk q=>-(46*(k:Int))<=q.1/\q.1<=46*k) 0 (pY _) rfl ⟨by decide,by decide⟩ (by omega) (λrec q hq hI=>?_) λrec k q hk hq hI ih=>?_
 ·simp only[D2,hq];have hK:∀{k:Int},du k=true->Ok ((Gv q.1 k).bind λx52=>bif(x52.2 != 0)then some (nv 0 { L:=0,N:=0 } [],x52.2)else(Cs x r).bind λx64=>some (nv 1 x52.1 x64,0)) (RN B):=λhk=>(nj (i64_in (by omega) (by omega)) hk).bind λf hf=>Ok.br (λe=>Ok.some (RN.err e)) λe=>(Ro hs hx hn hr).bind λK hK=>Ok.some λ_=>⟨_,_,rfl,hf (by grind),by rw[hK];omega⟩;exact Ok.f (Ok.br (λ_=>hK (i64_in (by omega) (by omega))) λ_=>hK (by decide))
 ·simp only[D2,hq];have:=hV.2 _ (qa hk);refine Ok.t (Ok.idxn hk (ih _ EE ?_));show -(46*((k+1:Nat):Int))<=i64.wrap (q.1+V[k])/\i64.wrap (q.1+V[k])<=46*((k+1:Nat):Int);rw[wr];omega
theorem ZQ(hs:DS s)(hx:R7 s x n)(hn:n<=200){bs:List A9}{B:Nat}(hB:200<=B)(hB2:B<=20000)(hN:BD (NV B) ns bs):∀(m d:Nat){e:Ap},EN s ns m e->m<=2->40+2*m<d->Ok (AE d (kK s x bs) e) (RN (2 ^ m*B))
 | m,d+1,e,h,hm,hd=>by
   have hp:B<=2 ^ m*B:=sU _ (qW m);have hl:=hx.len;show Ok (B4 d (AE d) (BR d) (kK s x bs) e) _;unfold B4
   cases h with
   | int m k h =>
     exact Ok.yes rfl (Ok.some λ_=>⟨_,[],rfl,ls (m:=k) (by omega) (by omega),pY _⟩)
   | name m nm h =>
     refine Ok.no rfl (Ok.yes rfl ?_);refine Ok.bind (P:=NV B) (oK (hN.2.1 nm h) (λi hi he=>Ok.idxn hi ?_) (by have:=hN.1;show bs.length<=_;omega)) λv hv=>Ok.some λ_=>hv.mono hp;have hv:=hN.2.2 _ (qa hi) nm h he;exact Ok.bindE (lO hv (by omega)) (Ok.some hv)
   | count m c h =>
     exact Ok.no rfl (Ok.no rfl (Ok.yes rfl ((Ph hs hx hn h (by omega)).bind λr hr=>(Ro hs hx hn hr.rw).bind λK hK=>Ok.some λ_=>⟨_,_,rfl,ls (m:=(r.length:Int)) (by omega) (by have:=hr.1;omega),by rw[hK];have:=hr.1;omega⟩)))
   | sum m op k c ho hm h =>
     have:=ow hs hx hn (op:=op) hm h bs (d:=d) (by omega) (B:=2 ^ m*B) (by omega);rcases ho with rfl|rfl
     ·exact Ok.no rfl (Ok.no rfl (Ok.no rfl (Ok.yes rfl (this.bind λr hr=>Ok.some hr))))
     ·exact Ok.no rfl (Ok.no rfl (Ok.no rfl (Ok.no rfl (Ok.yes rfl (this.bind λr hr=>Ok.some hr)))))
   | pair m op a b ho ha hb =>
     obtain⟨d,rfl⟩:∃k,d=k+1:=⟨d-1,by omega⟩;have hm2:2 ^ m*B<=2*B:=qU _ (by rcases(by omega:m=0\/m=1)with rfl|rfl<;>decide)
     have hpair:Ok (BR (d+1) (kK s x bs) (eX op 0 .empty 0 [] [] Gt Gt [a,b])) (RN (2 ^ (m+1)*B)):=by
      show Ok (Cj d (AE d) (BR d) (kK s x bs) _) _;unfold Cj;refine Ok.bindE (x:=a) rfl ((ZQ hs hx hn hB hB2 hN m d ha (by omega) (by omega)).bind λp hp=>Ok.br (λe=>Ok.some (RN.err e)) λe=>Ok.bindE (x:=b) rfl ((ZQ hs hx hn hB hB2 hN m d hb (by omega) (by omega)).bind λq hq=>Ok.br (λe=>Ok.some (RN.err e)) λe'=>?_));obtain⟨f,l,h1,h2,h3⟩:=hp (by grind);obtain⟨g,k,k1,k2,k3⟩:=hq (by grind);rw[h1,k1];have Ef:∀{F:Option (AI×Int)},Ok F FR->Ok (F.bind λx51=>bif(x51.2 != 0)then some (nv 0 { L:=0,N:=0 } [],x51.2)else(Ez l k).bind λx63=>some (nv 1 x51.1 x63,0)) (RN (2 ^ (m+1)*B)):=λhF=>hF.bind λr hr=>Ok.br (λe=>Ok.some (RN.err e)) λe=>(ln h3 k3 (by omega) (by omega)).bind λu hu=>Ok.some λ_=>⟨_,_,rfl,hr (by grind),by rw[sS,qM (2 ^ m) 2,rr];omega⟩;rcases ho with rfl|rfl|rfl|rfl
      ·exact Ok.no rfl (Ok.no rfl (Ok.no rfl (Ef (nD h2 k2))))
      ·exact Ok.yes rfl (Ef (ov h2 k2))
      ·exact Ok.no rfl (Ok.yes rfl (Ef (oa h2 k2)))
      ·exact Ok.no rfl (Ok.no rfl (Ok.yes rfl (Ef (nL h2 k2))))
     rcases ho with rfl|rfl|rfl|rfl <;>
     ·iterate 10 refine Ok.no rfl ?_
      exact hpair.bind λr hr=>Ok.some hr
end Go.Proofs.YthchnhoalhbkcaaGreatDoor.P
namespace Go.Proofs.YthchnhoalhbkcaaGreatDoor.P
open Go Go.Abs Go.Proofs
set_option maxRecDepth 100000
variable {s:Aa} {x:As} {n:Nat}
theorem ET.right'(hs:DS s){e:Ap}(h:ET s e){d:Nat}(hd:50<=d):C7 d s e=some true/\Ok (C4 d s e) (NA s):=ES.right (ns:=[]) hs (λnm hm=>by cases hm) (.inr h) hd
theorem Ti(hs:DS s){e:Ap}(h:ET s e){d:Nat}(hd:50<=d):Ok (Gx d s e) (NA s):=by
 obtain⟨h1,h2⟩:=h.right' hs hd;unfold Gx;exact Ok.bindE hs.check (Ok.no rfl (Ok.bindE h1 (Ok.no rfl (h2.bind λr hr=>Ok.some hr))))
theorem YN(hs:DS s)(hx:R7 s x n)(hn:n<=200){e:Ap}(h:ET s e){d:Nat}(hd:50<=d):Jv d s x e=some 0:=by
 refine Ok.val ?_;unfold Jv;exact Ok.bindE ((hx.gx hs hn).check hs) (Ok.no rfl (Ok.bindE (h.right' hs hd).1 (Ok.no rfl ((Ti hs h hd).bind λr hr=>Ok.bindE (hx.covers hs hr) (Ok.no rfl (Ok.some rfl))))))
def L2{α β:Type}(r:α×List β×Int):Prop:=r.2.1.length<=200
theorem kv(hs:DS s)(hx:R7 s x n)(hn:n<=200){m w:Int}{c:Aj}(hw:WM s m w)(h:GC s c){d:Nat}(hd:50<=d):Ok (OB d s x m w c) λr=>r.1.length<=200/\r.2.1.length<=200:=by
 have hl:=hx.len;have hu:=YN hs hx hn (.hist m w c hw h) hd;obtain⟨i,rfl,i0,hi,hM,hw⟩:=hw;obtain⟨t,ht,rfl⟩:=List.mem_iff_getElem.1 hw;have hfe:Ef s i=s.A[i].T.length:=by rw[Gh hi,EC hM]
 have hwd:=lw hM ht;unfold OB;refine Ok.bindE hu (Ok.no rfl ((Ph hs hx hn h (by omega)).bind λr hr=>?_));have hr1:=hr.1;refine Ok.for (λq=>q.1) r.length (λk q=>q.2.1.length<=k/\q.2.2.length<=k/\(∀v∈q.2.1,v∈r)/\∀v∈q.2.2,-1000000<=v/\v<=1000000) 0 (pY _) rfl ⟨qb _,qb _,(λv hv=>by cases hv),(λv hv=>by cases hv)⟩ (by omega) (λrec q hq hI=>?_) λrec k q hk hq hI ih=>?_
 ·obtain⟨q1,q2,q3,q4⟩:=hI;simp only[Mm,hq];refine Ok.f ((lK (by omega) hwd.1 (by omega) q4).bind λb hb=>Ok.br (λe=>by rw[hb.1]at e;cases e) λ_=>?_);exact(Ro hs hx hn (cols:=[]) (r:=q.2.1) ⟨by omega,λv hv=>hr.rw.2 v (q3 v hv)⟩).bind λK hK=>Ok.some ⟨hb.2,by show K.length<=200;omega⟩
 ·obtain⟨q1,q2,q3,q4⟩:=hI;simp only[Mm,hq];obtain⟨j,hj,hj2⟩:=hr.2 _ (qa hk);refine Ok.t (Ok.idxn hk (Ok.bindE (bH hi hM ht) ?_));rw[hj];obtain⟨e,hv⟩:=b7 hs hx i0 hi hM hj2 (b:=(s.A[i].T.length:Int)-t) (by omega) (by omega);refine Ok.bindE e (Ok.br (λe1=>Ok.rm (by grind) (Ok.rm (by simp;omega) (ih _ EE ⟨by simp;exact q1,by simp;exact q2,λv hv'=>?_,λv hv'=>?_⟩))) λ_=>ih _ EE ⟨by show q.2.1.length<=k+1;omega,by show q.2.2.length<=k+1;omega,q3,q4⟩)
  ·grind
  ·rcases List.mem_append.1 hv' with hv'|hv'
   ·grind
   ·rw[List.mem_singleton.1 hv']
    have hne:S4 x i j≠Dg:=λe2=>by
     rw[(dF hM (by omega) (by omega) hv).2 e2]at e1
     cases e1
    have hb:=hv.resolve_right λh=>hne h.2;have:=L4 hM (l:=(s.A[i].T.length:Int)-t) (by omega) (by omega) hb;have hw2:=J9 hM (l:=(s.A[i].T.length:Int)-t) (by omega) (by omega);grind
theorem k9{l:List Int}(hl:l.length<=200)(hv:SM l):Ok (HA l) λ_=>True:=by
 have hsl:(Uq l).length=l.length:=rT _
 have hany:l.any (λv=>bif decide (v < -1000000)then true else decide (v>1000000))=false:=List.any_eq_false.2 λv h=>by
  have:=hv v h;grind
 unfold HA;rw[Ze (p:=Ni) (λv=>bif decide (v < -1000000)then true else decide (v>1000000)) (λ_ _=>rfl) (by omega),hany];refine Ok.f (Ok.bindE rfl (Ok.no rfl (Ok.br (λ_=>Ok.some trivial) λe=>?_)));have h0:l.length≠0:=λh=>by grind
 have hp:CR l=some (Uq l):=Ok.val (Ok.rm (by omega) (Ok.some rfl));have ht:∀k:Int,0<=k->k<l.length->∃v,idx (Uq l) k=some v:=λk k0 k1=>⟨_,He k0 (by omega)⟩;have t4:∀a b:Int,0<=a->0<=b->Int.tdiv a b=a/b:=λa b ha hb=>Int.tdiv_eq_ediv_of_nonneg ha;have w1:i64.wrap ((l.length:Int)-1)=(l.length:Int)-1:=wr;have w2:i64.wrap (3*((l.length:Int)-1))=3*((l.length:Int)-1):=wr;rw[w1,w2,t4 _ _ (by omega) (by decide),t4 _ _ (by omega) (by decide),t4 _ _ (by omega) (by decide)];refine Ok.bindE (U2 (by omega)) (Ok.bindE hp ?_);obtain⟨a,ha⟩:=ht 0 (by omega) (by omega);obtain⟨b,hb⟩:=ht (i64.wrap (((l.length:Int)-1)/4)) (by rw[wr];omega) (by rw[wr];omega);obtain⟨c,hc⟩:=ht (i64.wrap (((l.length:Int)-1)/2)) (by rw[wr];omega) (by rw[wr];omega);obtain⟨d,hd⟩:=ht (i64.wrap (3*((l.length:Int)-1)/4)) (by rw[wr];omega) (by rw[wr];omega);obtain⟨f,hf⟩:=ht ((l.length:Int)-1) (by omega) (by omega);exact Ok.bindE ha (Ok.bindE hb (Ok.bindE hc (Ok.bindE hd (Ok.bindE hf (Ok.some trivial)))))
theorem ml(hs:DS s)(hx:R7 s x n)(hn:n<=200){m:Int}{c:Aj}(hm:IM s m)(h:GC s c){d:Nat}(hd:50<=d):Ok (Q6 d s x m c) L2:=by
 have hl:=hx.len;unfold Q6;refine Ok.bindE (YN hs hx hn (.box m c hm h) hd) (Ok.no rfl ((Uk hs hx hn h (by omega) (cols:=[m]) ⟨by simp,λv hv=>by rw[List.mem_singleton.1 hv];exact hm⟩).bind λr hr=>(OV hs hx hm (List.mem_singleton.2 rfl) hr hn).bind λV hV=>?_));have hr1:=hr.1;have hV1:=hV.1;exact(k9 (by omega) hV.2).bind λq _=>Ok.br (λ_=>Ok.some (pY _)) λ_=>(Ro hs hx hn hr).bind λK hK=>Ok.some (by show K.length<=200;omega)
theorem W9{l:List Int}(hl:l.length<=1000000)(v:Int):Ok (AU l v) λ_=>True:=by
 unfold AU Ck;refine Ok.bind (P:=λ_=>True) (Ok.lp l.length (λrec=>Ok.f (Ok.some trivial)) λrec k hk ih=>Ok.t (Ok.idxn hk (Ok.br (λ_=>Ok.some trivial) λ_=>ih _ EE))) λr _=>Ok.some trivial
theorem jf(hs:DS s)(hx:R7 s x n)(hn:n<=200){m:Int}{ev c:Aj}(hm:IM s m)(hlow:∀y,idx s.A m=some y->0<=y.C)(he:GC s ev)(h:GC s c){d:Nat}(hd:50<=d):Ok (Kv d s x m ev c) λr=>r.1.length<=200/\r.2.1.length<=200:=by
 have hl:=hx.len;have hE:ET s (eX 12 0 .empty m [] [] c ev []):=.curve m ev c hm hlow he h;unfold Kv;refine Ok.bindE ((hx.gx hs hn).check hs) (Ok.no rfl (Ok.bindE (hE.right' hs hd).1 (Ok.no rfl ((Ti hs hE hd).bind λq hq=>Ok.bindE (hx.covers hs hq) (Ok.no rfl ((Uk hs hx hn h (by omega) (cols:=[m]) ⟨by simp,λv hv=>by rw[List.mem_singleton.1 hv];exact hm⟩).bind λr hr=>(Ph hs hx hn he (by omega)).bind λo ho=>?_))))));have hr1:=hr.1;have ho1:=ho.1;refine Ok.gd (by rw[dt,VG (by omega)];rfl) (Ok.lp2 r.length (λ_ b=>b.length=r.length) (by simp) (λrec b hb=>Ok.f ((OV hs hx hm (List.mem_singleton.2 rfl) hr hn).bind λV hV=>?_)) λrec k b hk hb ih=>Ok.t (Ok.idxn hk ((W9 (by omega) _).bind λt _=>Ok.idxn (by omega) (ih _ _ EE (by grind)))));refine Ok.bindE (x:=dW V b) (Co (by grind)) (Ok.br (λ_=>Ok.some ⟨pY _,pY _⟩) λ_=>(Ro hs hx hn hr).bind λK hK=>Ok.some ⟨dY _ _,by show K.length<=200;omega⟩)
theorem XD:(YR.all λL=>(List.range (Is L).toNat).all λl=>decide (((Hx L (l:Int)).getD []).length<=20)&&(Et L).all λv=>(Jb L (Is L-1) v l).isSome)=true:=by decide +kernel
theorem dy(hs:DS s)(hx:R7 s x n){i j:Nat}(i0:1<=i)(hi:i<s.A.length)(h:M5 s.A[i])(hj:j<x.G.length){l:Int}(l0:0<=l)(l1:l<=Ef s i):Ok (BC s x j i l) λ_=>True:=by
 obtain⟨L,hL,hL2⟩:=hs.clist h;have hv:=(Zg hx i0 hi hj).code h hL2;have hf:Ef s i=Is L-1:=by rw[Gh hi,Hd h hL2]
 have hfo:=hs.fin_ok i0 hi;have:=(Bool.and_eq_true_iff.1 (List.all_eq_true.1 (List.all_eq_true.1 XD L hL) l.toNat (List.mem_range.2 (by omega)))).2;have:=List.all_eq_true.1 this _ hv;rw[show((l.toNat:Nat):Int)=l by omega]at this;obtain⟨r,hr⟩:=Option.isSome_iff_exists.1 this;rw[bz hs hx i0 hi hj];refine Ok.bind (P:=λ_=>True) ?_ λp _=>Ok.some trivial;unfold E3;refine Ok.bindE (hs.pfinest i0 hi) (Ok.no (by grind) (Ok.idxn hi (Ok.yes (by rw[h.kind];rfl) (Ok.bindE hL2 ?_))));rw[hf];exact Ok.bindE hr (Ok.br (λ_=>Ok.some trivial) λ_=>Ok.some trivial)
theorem jP(hs:DS s){dims:List Ad}(h:Tf s dims):Ok (Ie s dims) λr=>r.2=true->1<=r.1.length/\r.1.length<=2000/\∀y∈r.1,y.length=dims.length:=by
 have hdl:=h.len;unfold Ie;refine Ok.bindE (x:=[[]]) rfl (Ok.for (λq=>q.2) dims.length (λk q=>1<=q.1.length/\q.1.length<=2000/\∀y∈q.1,y.length=k) 0 (pY _) rfl ⟨qb _,by simp,λy hy=>by rw[List.mem_singleton.1 hy];rfl⟩ (by omega) (λrec q hq hI=>?_) λrec k q hk hq hI ih=>?_)
 ·simp only[Hr,hq];exact Ok.f (Ok.some λ_=>hI)
 ·obtain⟨q1,q2,q3⟩:=hI;obtain⟨⟨i,hc,i0,hi,hC⟩,⟨i',i'0,i'1,hc',l0,l1⟩⟩:=h.all _ (qa hk);obtain rfl:i=i':=by omega
  obtain⟨L,hL,hL2⟩:=hs.clist hC;have hf:Ef s i=Is L-1:=by rw[Gh hi,Hd hC hL2]
  have f1:=List.all_eq_true.1 (List.all_eq_true.1 af L hL) (dims[k].S).toNat (List.mem_range.2 (by omega));have f2:=pZ (Bool.and_eq_true_iff.1 (List.all_eq_true.1 (List.all_eq_true.1 XD L hL) (dims[k].S).toNat (List.mem_range.2 (by omega)))).1;rw[show((dims[k].S.toNat:Nat):Int)=dims[k].S by omega]at f1 f2;obtain⟨A,hA⟩:=Option.isSome_iff_exists.1 f1;rw[hA]at f2;change A.length<=20 at f2;simp only[Hr,hq];refine Ok.t (Ok.idxn hk ?_);rw[hc];refine Ok.idxn hi (Ok.bindE hL2 (Ok.bindE hA (Ok.rm (by grind) (Ok.brd (λ_=>Ok.some λh=>by cases h) λhle=>?_))));have hlen:([(-1:Int)]++A).length=A.length+1:=by simp
  have hm0:q.1.length*(A.length+1)<=2000*21:=sy q2 (by omega)
  have hm:q.1.length*(A.length+1)<=2000:=by
   rw[hlen,<-Int.natCast_mul,wr]at hle;omega
  refine Ok.lp2 q.1.length (λj b=>b.length=j*(A.length+1)/\∀y∈b,y.length=k+1) ⟨by simp,(λy hy=>by cases hy)⟩ (λrec b hb=>Ok.f (ih _ EE ⟨?_,?_,hb.2⟩)) λrec j b hj hb ih2=>Ok.t (Ok.idxn hj ?_)
  ·grind
  ·grind
  ·have hj2:(j+1)*(A.length+1)<=q.1.length*(A.length+1):=qU _ (by omega);rw[Nat.succ_mul]at hj2;refine Ok.lp2 ([(-1:Int)]++A).length (λt r=>r.length=j*(A.length+1)+t/\∀y∈r,y.length=k+1) ⟨hb.1,hb.2⟩ (λrec r hr=>Ok.f (ih2 _ _ EE ⟨by rw[Nat.succ_mul];have:=hr.1;omega,hr.2⟩)) (λrec t r ht hr ih3=>Ok.t (Ok.idxn ht ?_)) (by omega);have hy:=q3 _ (qa hj);refine Ok.bindE (U2 (by omega)) (Ok.rm (by simp;omega) (Ok.rm (by grind) (ih3 _ _ EE ⟨by simp;have:=hr.1;omega,λy hy'=>?_⟩)));grind
theorem gT{o c:List Int}(h:c.length<=o.length)(hl:o.length<=1000):Ok (Ct o c) λ_=>True:=by
 unfold Ct;exact Ok.lp c.length (λrec=>Ok.f (Ok.some trivial)) λrec k hk ih=>Ok.t (Ok.idxn hk (Ok.br (λ_=>Ok.idxn (by omega) (Ok.br (λ_=>Ok.some trivial) λ_=>ih _ EE)) λ_=>ih _ EE))
def CE(k m:Nat)(cs:List Aq):Prop:=∀c∈cs,c.Q.length=k/\c.G.length<=m
theorem iV(c:Aq)(key v:Int)(b:Bool):(B9 c key v b).Q=c.Q/\(B9 c key v b).G=c.G++[key]:=by
 unfold B9;grind
theorem ar{o:List Int}(ho:o.length<=1000)(key v:Int)(b:Bool){m:Nat}(hm:m<=1000):∀cs,CE o.length m cs->Ok (Eb o key v b cs) λr=>r.length=cs.length/\CE o.length (m+1) r
 | [],_=>Ok.some ⟨rfl,λc hc=>by cases hc⟩
 | c :: r,h=>by
   obtain⟨h1,h2⟩:=h c (by simp);unfold Eb;refine Ok.t ((gT (by omega) ho).bind λt _=>(ar ho key v b hm r λc hc=>h c (by simp[hc])).bind λq hq=>Ok.some ⟨by simp[hq.1],λc' hc'=>?_⟩);rcases List.mem_cons.1 hc' with e|hc'
   ·rw[e];obtain⟨a1,a2⟩:=iV c key v b;grind
   ·exact hq.2 c' hc'
theorem bN(hs:DS s)(hx:R7 s x n){j:Nat}(hj:j<x.G.length):∀dims:List Ad,(∀p∈dims,IC s p.B/\Ut s p)->Ok (GH s x j dims) λo=>o.length=dims.length
 | [],_=>Ok.some rfl
 | p :: r,h=>by
   obtain⟨⟨i,hc,i0,hi,hC⟩,⟨i',_,_,hc',l0,l1⟩⟩:=h p (by simp);obtain rfl:i=i':=by omega
   unfold GH;rw[hc];exact(dy hs hx i0 hi hC hj l0 l1).bind λv _=>(bN hs hx hj r λp hp=>h p (by simp[hp])).bind λvs hv=>Ok.some (by simp[hv])
theorem bT(hs:DS s)(hx:R7 s x n)(hn:n<=200){dims:List Ad}(hd:dims.length<=3/\∀p∈dims,IC s p.B/\Ut s p){m:Int}(hm:m=-1\/IM s m){cols:List Int}(hc:0<=m->m∈cols):∀(l:List Int)(k:Nat)(cs:List Aq),(∀v∈l,∃j:Nat,v=(j:Int)/\j<x.G.length/\∀c∈cols,S4 x c.toNat j≠Dg)->CE dims.length k cs->k+l.length<=1000 ->
 Ok (Fe s x dims m l cs) λr=>r.length=cs.length/\CE dims.length (k+l.length) r
 | [],k,cs,_,h,_=>Ok.some ⟨rfl,h⟩
 | v :: l,k,cs,hv,h,hl=>by
   obtain⟨j,rfl,hj,hcol⟩:=hv v (by simp)
   have hval:Ok (If s x m j) λ_=>True:=by
    unfold If;refine Ok.brd (λh0=>?_) λ_=>Ok.some trivial;have hxl:1<=x.G.length:=by omega
    refine(OV hs hx (hm.resolve_left (by omega)) (hc h0) (r:=[(j:Int)]) ⟨hxl,λw hw=>by rw[List.mem_singleton.1 hw];exact⟨j,rfl,hj,hcol⟩⟩ hn).bind λV hV=>?_;exact⟨_,He (rk _) (by grind),trivial⟩
   unfold Fe;rw[qP]at hl;refine hval.bind λw _=>(bN hs hx hj dims hd.2).bind λo ho=>Ok.idxn hj (Ok.bindE (Jl ((hx.rows _ (qa hj)).ne hs)) ((ar (by omega) _ w _ (m:=k) (by omega) cs (by rw[ho];exact h)).bind λq hq=>(bT hs hx hn hd hm hc l (k+1) q (λv hv'=>hv v (by simp[hv'])) (by grind) (by omega)).mono λr hr=>⟨hr.1.trans hq.1,by rw[qP,show k+(l.length+1)=k+1+l.length by omega];exact hr.2⟩))
theorem mG(hs:DS s){q:BA}(h:Tf s q.Ac)(hm:q.Ah=-1\/IM s q.Ah)(ht:q.Aw=[])(he:q.U=Gt):F4 s q=some 0:=by
 have h0:=h.pos;have h1:=h.len
 have hend:Ok (bif(decide ((q.Aw.length:Int)>0))then some (11:Int)else(F3 q.U).bind λx61=>bif(!x61)then some 11 else some 0) (·=0):=by
  rw[ht,he];exact Ok.no rfl (Ok.bindE (x:=true) rfl (Ok.no rfl (Ok.some rfl)))
 refine Ok.val ?_;unfold F4;refine Ok.no (by grind) (Ok.lp q.Ac.length (λrec=>Ok.f ?_) λrec k hk ih=>Ok.t ?_)
 ·unfold H3;refine Ok.br (λe=>?_) λ_=>hend;obtain⟨i,hi',_,hi,hM⟩:=hm.resolve_left (λe2=>by rw[e2]at e;cases e);refine Ok.bindE (x:=3) (Ok.val ?_) (Ok.no rfl hend);unfold D7;rw[hi'];exact Ok.no (by grind) (Ok.idxn hi (Ok.some hM.kind))
 ·obtain⟨⟨i,hc,i0,i1,hC⟩,hp⟩:=h.all _ (qa hk);refine Ok.idxn hk (Ok.bindE (x:=0) (Ok.val (Ok.bindE hs.check (Ok.no rfl (Ok.bindE (kx hs hp) (Ok.some rfl))))) (Ok.no rfl (Ok.bindE (x:=2) (Ok.val ?_) (Ok.no rfl (Ok.t ?_)))))
  ·unfold D7;rw[hc];exact Ok.no (by grind) (Ok.idxn i1 (Ok.some hC.kind))
  ·rw[aK _ (by omega),Wd (p:=λa0=>F5 a0 q.Ac[k]) (λp=>p.B==q.Ac[k].B) (λ_ _=>rfl) (by grind)];refine Ok.bindE rfl (Ok.no (List.any_eq_false.2 λp hp=>?_) (ih _ EE));have:=Zb h.asc (k:=k) (by grind) p.B (by rw[<-List.map_take];exact sF hp);grind
theorem nH(hs:DS s){dims:List Ad}(h:Tf s dims){m:Int}(hm:m=-1\/IM s m){c:Aj}(hc:GC s c){d:Nat}(hd:40<=d):Kw d s dims m c=some 0:=by
 have hT:CN ({ data:=#[116] }:ByteArray)=some true:=by decide +kernel
 refine Ok.val ?_;unfold Kw F2;refine Ok.bindE (x:=0) (Ok.val (Ok.bindE hs.check (Ok.no rfl (Ok.bindE hT (Ok.no rfl (Ok.no rfl (Ok.bindE (hc.check hs (by omega)) (Ok.no rfl (Ok.yes rfl (Ok.bindE (x:=0) ?_ (Ok.some rfl))))))))))) (Ok.some rfl);exact mG hs h hm rfl rfl
theorem lh(hs:DS s)(hx:R7 s x n)(hn:n<=200){dims:List Ad}(hD:Tf s dims){m:Int}(hm:m=-1\/IM s m){c:Aj}(h:GC s c){d:Nat}(hd:50<=d):Ok (II d s x dims m c) λr=>r.1.Ac.length<=3/\r.1.Av.length<=2000/\CE dims.length 200 r.1.Av/\(r.2=0->1<=r.1.Av.length):=by
 have hl:=hx.len;have hdl:=hD.len;have err:∀e:Int,e≠0->Ok (some (zT,e)) λr=>r.1.Ac.length<=3/\r.1.Av.length<=2000/\CE dims.length 200 r.1.Av/\(r.2=0->1<=r.1.Av.length):=λe he=>Ok.some ⟨pY _,pY _,(λc hc=>by cases hc),λh=>absurd h he⟩;unfold II;refine Ok.bindE ((hx.gx hs hn).check hs) (Ok.no rfl (Ok.bindE (nH hs hD hm h (by omega)) (Ok.no rfl ((Ti hs (.table m dims c hm hD h) hd).bind λq hq=>Ok.bindE (hx.covers hs hq) (Ok.no rfl ((jP hs hD).bind λl hL=>?_))))));refine Ok.br (λ_=>err 1 (by decide)) λe=>?_;obtain⟨l1,l2,l3⟩:=hL (by grind);refine Ok.bindE (x:=dims) (Ok.val (Ok.rm (by omega) (Ok.some rfl))) (Ok.lp2 l.1.length (λk b=>b.length=k/\CE dims.length 0 b) ⟨rfl,(λc hc=>by cases hc)⟩ (λrec b hb=>Ok.f ?_) λrec k b hk hb ih=>Ok.t (Ok.idxn hk ?_))
 ·have Ef:∀{cols:List Int},(cols.length<=10/\∀v∈cols,IM s v)->(0<=m->m∈cols)->Ok (ED d s x c dims m b dims cols) λr=>r.1.Ac.length<=3/\r.1.Av.length<=2000/\CE dims.length 200 r.1.Av/\(r.2=0->1<=r.1.Av.length):=λ{cols} hc hmc=>by
   unfold ED;refine(Uk hs hx hn h (by omega) hc).bind λr hr=>?_;have hr1:=hr.1;have hb1:=hb.1;have hall:(b.all λc=>c.G.isEmpty)=true:=List.all_eq_true.2 λc hc=>List.isEmpty_iff.2 (qq (by have:=(hb.2 c hc).2;omega))
   have hrow:Lj s x dims m r b=Fe s x dims m r b:=by
    unfold Lj;grind
   rw[hrow];exact(bT hs hx hn ⟨hdl,hD.all⟩ hm hmc r 0 b hr.2 hb.2 (by omega)).bind λz hz=>Ok.some ⟨hdl,by show z.length<=_;omega,λc hc=>⟨(hz.2 c hc).1,by have:=(hz.2 c hc).2;omega⟩,λ_=>by show 1<=z.length;omega⟩
  unfold Iz;grind
 ·unfold ao;refine Ok.bindE (Co (by grind)) (ih _ _ EE ⟨by simp;exact hb.1,λc hc=>?_⟩);rcases List.mem_append.1 hc with hc|hc
  ·exact hb.2 c hc
  ·grind
theorem Xh(z:Int):On (lE z).D=true/\On (lE z).C=true:=by
 refine⟨qh ?_,qh ?_⟩
 ·show 0<=z/18446744073709551616%18446744073709551616/\z/18446744073709551616%18446744073709551616<18446744073709551616;omega
 ·show 0<=z%18446744073709551616/\z%18446744073709551616<18446744073709551616;omega
theorem Z9{z:Int}(h:z.natAbs<=10000000000000000000000000000000000):P9 (lE z)=z:=by
 unfold P9;show(bif decide (z/18446744073709551616%18446744073709551616*18446744073709551616+z%18446744073709551616<170141183460469231731687303715884105728)then z/18446744073709551616%18446744073709551616*18446744073709551616+z%18446744073709551616 else z/18446744073709551616%18446744073709551616*18446744073709551616+z%18446744073709551616-2*170141183460469231731687303715884105728)=z;grind
theorem kE{a b:Int}(ha:a.natAbs<=10000000000000000000000000000000000)(hb:b.natAbs<=10000000000000000000000000000000000)(h0:b≠0):Ok (Gj (lE a) (lE b)) λ_=>True:=by
 unfold Gj;rw[(Xh a).1,(Xh a).2,(Xh b).1,(Xh b).2,Z9 ha,Z9 hb,dt ⟨h0,by show -(170141183460469231731687303715884105728:Int)<a;omega,by show -(170141183460469231731687303715884105728:Int)<b;omega⟩];exact Ok.yes rfl (Ok.some trivial)
def MX(w:Nat)(m:List (List Int)):Prop:=m.length=w/\∀r∈m,r.length=w/\∀v∈r,v.natAbs<=1000000
theorem fI:∀r:List Int,(∀v∈r,v.natAbs<=1000000)->ZF r<=1000000*r.length
 | [],_=>qb _
 | v :: r,h=>by
   have:=fI r λv hv=>h v (by simp[hv]);have:=h v (by simp);show v.natAbs+ZF r<=1000000*(r.length+1);omega
theorem bO{K:Nat}:∀m:List (List Int),(∀r∈m,ZF r<=K)->Xn m<=K ^ m.length
 | [],_=>qb _
 | r :: m,h=>by
   have h1:=bO m λr hr=>h r (by simp[hr]);rw[qP,sS,qM];exact sy (h r (by simp)) h1
theorem MX.lenM{w:Nat}{m:List (List Int)}(h:MX w m):lenM m m.length=true:=List.all_eq_true.2 λr hr=>by rw[(h.2 r hr).1,h.1];exact sk _
theorem Zk{w:Nat}{m:List (List Int)}(h:MX w m)(w0:1<=w)(w1:w<=5):CO m=some (lE (WC m))/\(WC m).natAbs<=10000000000000000000000000000000000:=by
 have hl:=h.1;refine⟨?_,?_⟩
 ·unfold CO;rw[dt ⟨by omega,by omega⟩,h.lenM,show(m.all λr=>r.all jF)=true from List.all_eq_true.2 λr hr=>List.all_eq_true.2 λv hv=>qh (by have:=(h.2 r hr).2 v hv;omega)];rfl
 ·refine qt (lR m) (qt (bO (K:=5000000) m λr hr=>qt (fI r (h.2 r hr).2) (by rw[(h.2 r hr).1];omega)) ?_);rw[hl];exact qt (qF (by decide) w1) (by decide)
theorem jK{w:Nat}{m:List (List Int)}(h:MX w m)(w1:w<=5):Ok (JN m) λ_=>True:=by
 have hl:=h.1;have u0:∀v:Int,On (u64.wrap v)=true:=λv=>qh (UT v);have um:∀{a b:Int},On a=true->On b=true->GP a b=some (a*b/18446744073709551616,a*b%18446744073709551616):=λha hb=>by unfold GP;rw[ha,hb];rfl
 unfold JN;refine Ok.bindE (x:=lE 1) rfl (Ok.lp2 m.length (λ_ c=>On c.D=true/\On c.C=true) (Xh 1) (λrec c hc=>Ok.f (Ok.some trivial)) λrec k c hk hc ih=>Ok.t (Ok.idxn hk ?_));have hr:=(h.2 _ (qa hk)).1;refine Ok.for (λq=>q.2) m[k].length (λ_ _=>True) 0 (pY _) rfl trivial (by omega) (λrec2 q hq _=>?_) λrec2 t q ht hq _ ih2=>?_
 ·simp only[IQ,hq];refine Ok.f ?_;unfold IR;have hv:=u0 (if 1>q.1 then 1 else q.1);generalize u64.wrap (if 1>q.1 then 1 else q.1)=v at hv ⊢;refine Ok.bindE (um hc.2 hv) (Ok.bindE (um hc.1 hv) ?_);have r1:=pZ hc.2;have r2:=pZ hv
  have hd:On (c.C*v/18446744073709551616)=true:=by
   have p0:=Int.mul_nonneg r1.1 r2.1;have p1:c.C*v<=c.C*18446744073709551616:=Int.mul_le_mul_of_nonneg_left (by omega) r1.1;exact qh ⟨by omega,by omega⟩
  have ha:IS (c.D*v%18446744073709551616) (c.C*v/18446744073709551616) 0=some ((c.D*v%18446744073709551616+c.C*v/18446744073709551616+0)%18446744073709551616,(c.D*v%18446744073709551616+c.C*v/18446744073709551616+0)/18446744073709551616):=by
   unfold IS;rw[hd,show On (c.D*v%18446744073709551616)=true from qh (by omega)];rfl
  exact Ok.bindE ha (Ok.br (λ_=>Ok.some trivial) λ_=>ih _ _ EE ⟨qh (by grind),qh (by show 0<=c.C*v%18446744073709551616/\c.C*v%18446744073709551616<_;omega)⟩)
 ·simp only[IQ,hq];exact Ok.t (Ok.idxn ht (ih2 _ EE trivial))
theorem Tx{w:Nat}{m:List (List Int)}(h:MX w m)(w1:w<=5):Ok (FC m) λ_=>True:=by
 have hl:=h.1;unfold FC;refine Ok.br (λ_=>Ok.some trivial) λ_=>Ok.brd (λ_=>Ok.some trivial) λ_=>Ok.lp m.length (λrec=>Ok.f ?_) λrec k hk ih=>Ok.t (Ok.idxn hk (Ok.br (λ_=>Ok.some trivial) λ_=>ih _ EE));refine Ok.lp m.length (λrec=>Ok.f ((jK h w1).bind λb _=>Ok.br (λ_=>Ok.some trivial) λ_=>Ok.some trivial)) λrec k hk ih=>Ok.t (Ok.idxn hk ?_);have hr:=(h.2 _ (qa hk)).1;exact Ok.lp m[k].length (λrec2=>Ok.f (ih _ EE)) λrec2 t ht ih2=>Ok.t (Ok.idxn ht (Ok.br (λ_=>Ok.some trivial) λ_=>ih2 _ EE))
theorem jT{w:Nat}{S:Nat->Nat->Int}(h:∀i j,(S i j).natAbs<=1000000):MX w (ia w S):=by
 unfold ia;refine⟨by simp,λr hr=>?_⟩;grind
theorem lU{l:List Int}{B:Nat}(h:∀v∈l,v.natAbs<=B)(i:Nat):(l.getD i 0).natAbs<=B:=by grind
theorem ez{m:List (List Int)}{B:Nat}(h:∀r∈m,∀v∈r,v.natAbs<=B)(i j:Nat):(PC m i j).natAbs<=B:=by
 unfold PC;refine lU ?_ j;grind
theorem fH{w:Nat}{m:List (List Int)}(h:MX w m){b:List Int}(hb:b.length=w/\∀v∈b,v.natAbs<=1000000)(w1:w<=5){k:Nat}(hk:k<w):∃q,GO m k b=some q/\MX w q:=by
 have hl:=h.1;refine⟨ia m.length (Sq m k b),?_,?_⟩
 ·unfold GO;rw[h.lenM,dt ⟨by omega,by omega,by omega,by omega⟩,qu];rfl
 ·rw[hl];refine jT λi j=>?_;unfold Sq;split
  ·grind
  ·exact ez (λr hr=>(h.2 r hr).2) i j
theorem fL(z:Int)(h:z.natAbs<=10000000000000000000000000000000000):EM (lE z)=some z.sign:=by
 unfold EM;rw[(Xh z).1,(Xh z).2,Z9 h];rfl
theorem fK{z:Int}(h:(z.sign==0)=false):z≠0:=by grind
theorem kX{w:Nat}{m:List (List Int)}(h:MX w m){b:List Int}(hb:b.length=w/\∀v∈b,v.natAbs<=1000000)(w0:1<=w)(w1:w<=5):Ok (JM m b) λr=>r.1.length<=5:=by
 have hl:=h.1;have er:∀e:Int,Ok (some (([]:List AI),e)) λr=>r.1.length<=5:=λe=>Ok.some (pY _);unfold JM;refine(Tx h w1).bind λe _=>Ok.br (λ_=>er _) λ_=>Ok.br (λ_=>er _) λ_=>Ok.lp m.length (λrec=>Ok.f ?_) λrec k hk ih=>Ok.t ?_
 ·obtain⟨d1,d2⟩:=Zk h w0 w1;unfold LF;refine Ok.bindE d1 (Ok.bindE (fL _ d2) (Ok.br (λ_=>er _) λe=>Ok.lp2 m.length (λk q=>q.length=k) rfl (λrec q hq=>Ok.f (Ok.some (by grind))) λrec k q hk hq ih=>Ok.t ?_));obtain⟨p,p1,p2⟩:=fH h hb w1 (k:=k) (by omega);obtain⟨f1,f2⟩:=Zk p2 w0 w1;exact Ok.bindE p1 (Ok.bindE f1 ((kE f2 d2 (fK e)).bind λr _=>Ok.br (λ_=>er _) λ_=>Ok.rm (by grind) (ih _ _ EE (by simp;omega))))
 ·obtain⟨p,p1,p2⟩:=fH h hb w1 (k:=k) (by omega);exact Ok.bindE p1 ((Tx p2 w1).bind λe _=>Ok.br (λ_=>er _) λ_=>ih _ EE)
theorem kB{w v:Nat}{a b:List (List Int)}(ha:MX w a)(hb:MX v b)(w0:1<=w)(w1:w<=5)(v0:1<=v)(v1:v<=5):Ok (JL a b) λ_=>True:=by
 obtain⟨a1,a2⟩:=Zk ha w0 w1;obtain⟨b1,b2⟩:=Zk hb v0 v1;unfold JL;exact(Tx ha w1).bind λ_ _=>Ok.br (λ_=>Ok.some trivial) λ_=>(Tx hb v1).bind λ_ _=>Ok.br (λ_=>Ok.some trivial) λ_=>Ok.bindE b1 (Ok.bindE (fL _ b2) (Ok.br (λ_=>Ok.some trivial) λe=>Ok.bindE a1 ((kE a2 b2 (fK e)).bind λ_ _=>Ok.some trivial)))
def RS(w:Nat)(m:List (List Int)):Prop:=∀r∈m,r.length=w/\SM r
theorem kU{a b:Int}(ha:-46<=a/\a<=46)(hb:-46<=b/\b<=46):(a*b).natAbs<=2116:=by
 rw[Int.natAbs_mul];exact sy (show a.natAbs<=46 by omega) (show b.natAbs<=46 by omega)
theorem pp{z:Int}(h:z.natAbs<=1000000000):i64.wrap z=z:=wr
theorem jr{w:Nat}{m:List (List Int)}(h:RS w m)(a b:Nat):∀k,k<=300->(R2 m k a b).natAbs<=2116*k
 | 0,_=>pY _
 | k+1,hk=>by
   have ih:=jr h a b k (by omega);have h1:=ez (m:=m) (B:=46) (λr hr v hv=>by have:=(h r hr).2 v hv;omega) k a;have h2:=ez (m:=m) (B:=46) (λr hr v hv=>by have:=(h r hr).2 v hv;omega) k b;have:=kU (a:=PC m k a) (b:=PC m k b) (by omega) (by omega);unfold R2;rw[pp (z:=PC m k a*PC m k b) (by omega),pp (by omega)];omega
theorem fP{w:Nat}{m:List (List Int)}(h:RS w m)(hl:1<=m.length/\m.length<=200)(w0:1<=w)(w1:w<=5):∃q,Kq m=some q/\MX w q:=by
 have h0:(m.getD 0 []).length=w:=by
  rw[qc,P2 (by omega)];exact(h _ (qa _)).1
 refine⟨ia w (R2 m m.length),?_,jT λi j=>qt (jr h i j _ (by omega)) (by omega)⟩;unfold Kq;rw[h0,dt ⟨by omega,by omega,by omega,by omega⟩,show lenM m w=true from List.all_eq_true.2 λr hr=>by rw[(h r hr).1];exact sk _];rfl
theorem jE(z:Int):du (i64.wrap z)=true:=by
 refine qh ?_;unfold IntKind.wrap;simp only[IntKind.signed,IntKind.bits];grind
theorem lj{w:Nat}{m:List (List Int)}(h:RS w m)(w0:1<=w)(hl:m.length<=200):Ok (IG m) λ_=>True:=by
 unfold IG;refine Ok.for (λq=>q.2.2) m.length (λ_ _=>True) 0 (pY _) rfl trivial (by omega) (λrec q hq _=>?_) λrec k q hk hq _ ih=>?_
 ·simp only[Iw,hq];exact Ok.f ((nj (jE _) (i64_in (by omega) (by omega))).bind λ_ _=>Ok.some trivial)
 ·simp only[Iw,hq];have hr:=(h _ (qa hk)).1;have h0:∃v,idx m[k] 0=some v:=⟨_,He (rk _) (by grind)⟩;obtain⟨v,hv⟩:=h0;exact Ok.t (Ok.idxn hk (Ok.bindE hv (Ok.bindE hv (Ok.bindE hv (ih _ EE trivial)))))
theorem aX{w:Nat}{m:List (List Int)}(h:RS w m)(w1:w<=5):Ok (Gq m) λb=>b=true->1<=m.length/\m.length<=200:=by
 unfold Gq;refine Ok.br (λ_=>Ok.some λh=>by cases h) λe=>?_;have hl:1<=m.length/\m.length<=200:=by grind
 have h0:idx m 0=some m[0]:=He (rk _) (by grind);refine Ok.bindE h0 (Ok.brd (λ_=>Ok.some λh=>by cases h) λ_=>Ok.bindE h0 (Ok.brd (λ_=>Ok.some λh=>by cases h) λ_=>Ok.lp m.length (λrec=>Ok.f (Ok.some λ_=>hl)) λrec k hk ih=>Ok.t (Ok.idxn hk (Ok.bindE h0 (Ok.br (λ_=>Ok.some λh=>by cases h) λe=>?_)))));rw[Ze (p:=FU) (λv=>bif decide (v < -1000000)then true else decide (v>1000000)) (λ_ _=>rfl)]
 ·exact Ok.bindE rfl (Ok.br (λ_=>Ok.some λh=>by cases h) λ_=>ih _ EE)
 ·grind
theorem RS.snoc{w:Nat}{m:List (List Int)}{r:List Int}(h:RS w m)(hr:r.length=w/\SM r):RS w (m++[r]):=λq hq=>by
 rcases List.mem_append.1 hq with hq|hq
 ·exact h q hq
 ·grind
theorem nO{w:Nat}{m:List (List Int)}(h:RS w m)(w0:1<=w)(w1:w<=4):Ok (LB m) λr=>r.1.A3.length<=5/\r.1.Aw=[]:=by
 have er:∀e:Int,Ok (some (zM,e)) λr=>r.1.A3.length<=5/\r.1.Aw=[]:=λe=>Ok.some ⟨pY _,rfl⟩;unfold LB;refine(aX h (by omega)).bind λb hb=>Ok.br (λ_=>er _) λe=>?_;have hl:=hb (by cases b with|true=>rfl|false=>cases e);have h0:idx m 0=some m[0]:=He (rk _) (by show 0<_;omega);have hm0:=(h _ (qa (l:=m) (n:=0) (by omega))).1;refine Ok.bindE h0 (Ok.brd (λ_=>er _) λ_=>Ok.bindE h0 (Ok.brd (λ_=>er _) λ_=>?_));unfold Kl;refine Ok.bindE h0 (Ok.gd (by rw[dt,VG (by omega)];rfl) ?_);refine Ok.for (λq=>q.1) m.length (λk q=>q.2.1.length=k/\RS w q.2.1/\q.2.2.1.length=k/\RS (w+1) q.2.2.1/\q.2.2.2.length=w/\∀v∈q.2.2.2,v.natAbs<=2116*k) 0 (pY _) rfl ⟨rfl,(λr hr=>by cases hr),rfl,(λr hr=>by cases hr),by simp;omega,λv hv=>?_⟩ (by omega) (λrec q hq hI=>?_) λrec k q hk hq hI ih=>?_
 ·rw[rA hv];decide
 ·obtain⟨a1,a2,a3,a4,a5,a6⟩:=hI;simp only[Kj,hq];refine Ok.f ?_;unfold Km;obtain⟨A,A1,A2⟩:=fP a2 (by omega) w0 (by omega);obtain⟨B,B1,B2⟩:=fP a4 (by omega) (by omega) (by omega);refine Ok.bindE A1 ((kX A2 ⟨a5,λv hv=>qt (a6 v hv) (by omega)⟩ w0 (by omega)).bind λc hc=>Ok.br (λ_=>er _) λ_=>Ok.bindE B1 ((kB B2 A2 (by omega) (by omega) w0 (by omega)).bind λt _=>Ok.br (λ_=>er _) λ_=>(lj h w0 hl.2).bind λu _=>Ok.br (λ_=>er _) λ_=>Ok.some ⟨hc,rfl⟩))
 ·obtain⟨a1,a2,a3,a4,a5,a6⟩:=hI;obtain⟨r1,r2⟩:=h _ (qa hk);have hr0:idx m[k] 0=some m[k][0]:=He (rk _) (by show 0<_;omega);have hs0:=r2 _ (qa (l:=m[k]) (n:=0) (by omega))
  have hD:([1]++LZ m[k] 1 (m[k].length:Int)).length=w/\SM ([1]++LZ m[k] 1 (m[k].length:Int)):=by
   rw[oJ];refine⟨by simp;omega,λv hv=>?_⟩;rcases List.mem_append.1 hv with hv|hv
   ·rw[List.mem_singleton.1 hv];decide
   ·exact r2 v (ri hv)
  simp only[Kj,hq];refine Ok.t (Ok.idxn hk (Ok.t ?_));have hc:(LZ m[k] 1 (m[k].length:Int)).length<=4:=by have:=hD.1;simp at this;omega
  refine Ok.rm (by simp;omega) (Ok.rm (by simp;omega) (Ok.bindE (U2 (by have:=hD.1;omega)) (Ok.bindE hr0 (Ok.rm (by have:=hD.1;rw[this];simp;omega) (Ok.rm (by simp;omega) ?_)))));generalize hDe:[1]++LZ m[k] 1 (m[k].length:Int)=D at hD;refine Ok.for (λt=>t.1) w (λi t=>t.2.length=w/\∀(j:Nat)(hj:j<t.2.length),(t.2[j]).natAbs<=2116*k+if j<i then 2116 else 0) 0 (pY _) rfl ⟨a5,λj hj=>by rw[qi (by omega)];exact a6 _ (qa hj)⟩ (by omega) (λrec2 t ht hT=>?_) λrec2 i t hi ht hT ih2=>?_
  ·simp only[Kk,ht,hDe,hD.1];refine Ok.f ?_;unfold Kn;refine ih _ EE ⟨by simp;exact a1,a2.snoc (by rw[hDe];exact hD),by simp;exact a3,a4.snoc ⟨by simp;exact hD.1,λv hv=>?_⟩,hT.1,λv hv=>?_⟩
   ·rcases List.mem_append.1 hv with hv|hv
    ·exact hD.2 v hv
    ·rw[List.mem_singleton.1 hv];exact hs0
   ·obtain⟨j,hj,rfl⟩:=List.mem_iff_getElem.1 hv;have h2:=hT.2 j hj;have h1:=hT.1;have:t.2.length=w:=h1;rw[qf (by have:j<t.2.length:=hj;omega)]at h2;show(t.2[j]).natAbs<=_;omega
  ·obtain⟨t1,t2⟩:=hT;simp only[Kk,ht,hDe,hD.1];have hv:=hD.2 _ (qa (l:=D) (n:=i) (by have:=hD.1;omega));have hp:=kU hv hs0;have h2:=t2 i (by omega);rw[qi (by omega)]at h2;refine Ok.t (Ok.idxn (by have:=hD.1;omega) (Ok.idxn (by omega) (Ok.bindE hr0 (Ok.idxn (by omega) (ih2 _ EE ⟨by simp;exact t1,λj hj=>?_⟩)))));show((t.2.set (i:Int).toNat _)[j]'hj).natAbs<=_;simp only[qu,List.getElem_set];have hkl:k<=200:=by omega
   by_cases e:i=j
   ·rw[qf e,qf (by omega),pp (z:=D[i]*m[k][0]) (by omega),pp (by omega)];omega
   ·have h3:=t2 j (by rw[t1];simp at hj;omega);rw[qi e];split<;>split at h3<;>omega
theorem eZ(hs:DS s)(hx:R7 s x n)(hn:n<=200){cols r:List Int}(hr:RW x cols r):∀(l:List Int)(k:Nat)(cs:List (List Int)),(∀v∈l,IM s v/\v∈cols)->cs.length=r.length->RS k cs->Ok (Iv s x r l cs) (RS (k+l.length))
 | [],k,cs,_,_,h=>Ok.some h
 | c :: l,k,cs,hl,hc,h=>by
   obtain⟨h1,h2⟩:=hl c (by simp);unfold Iv;refine(OV hs hx h1 h2 hr hn).bind λV hV=>Ok.yes (by grind) ?_;rw[qP,show k+(l.length+1)=k+1+l.length by omega];refine eZ hs hx hn hr l (k+1) _ (λv hv=>hl v (by simp[hv])) (by grind) λq hq=>?_;obtain⟨i,hi,rfl⟩:=List.mem_iff_getElem.1 hq;rw[List.length_zipWith]at hi;rw[List.getElem_zipWith];obtain⟨q1,q2⟩:=h _ (qa (l:=cs) (n:=i) (by omega));refine⟨by simp;exact q1,λv hv=>?_⟩;rcases List.mem_append.1 hv with hv|hv
   ·exact q2 v hv
   ·rw[List.mem_singleton.1 hv];exact hV.2 _ (qa _)
theorem jY(hs:DS s)(hx:R7 s x n)(hn:n<=200){m:Int}(hm:IM s m){cols:List Int}(hT:Wo s m cols){c:Aj}(h:GC s c){d:Nat}(hd:50<=d):Ok (Ko d s x m cols c) λr=>r.1.Aw.length<=3/\r.1.A3.length<=5/\r.2.1.length<=200:=by
 have hl:=hx.len;have h1:=hT.len;have h0:=hT.pos;have er:∀e:Int,Ok (some (zM,([]:List Int),e)) λr=>r.1.Aw.length<=3/\r.1.A3.length<=5/\r.2.1.length<=200:=λe=>Ok.some ⟨pY _,pY _,pY _⟩;have hE:ET s (eX 11 0 .empty m cols [] c Gt []):=.model m cols c hm hT h
 have hc:∀v∈[m]++cols,IM s v:=λv hv=>by
  rcases List.mem_append.1 hv with hv|hv
  ·grind
  ·exact(hT.all v hv).1
 unfold Ko;refine Ok.bindE ((hx.gx hs hn).check hs) (Ok.no rfl (Ok.bindE (hE.right' hs hd).1 (Ok.no rfl ((Ti hs hE hd).bind λq hq=>Ok.bindE (hx.covers hs hq) (Ok.no rfl (Ok.rm (by grind) ((Uk hs hx hn h (by omega) (cols:=[m]++cols) ⟨by simp;omega,hc⟩).bind λr hr=>?_)))))));have hr1:=hr.1;refine Ok.bindE (x:=List.replicate r.length []) (Co ⟨by omega,by simp;omega⟩) ((eZ hs hx hn hr ([m]++cols) 0 _ (λv hv=>⟨hc v hv,hv⟩) (by simp) λq hq=>⟨by rw[rA hq];rfl,λv hv=>by rw[rA hq]at hv;cases hv⟩).bind λy hy=>?_);refine(nO hy (by simp) (by grind)).bind λf hf=>Ok.br (λ_=>er _) λ_=>Ok.bindE (U2 (by omega)) ((Ro hs hx hn hr).bind λK hK=>Ok.some ⟨h1,hf.1,by show K.length<=200;omega⟩)
end Go.Proofs.YthchnhoalhbkcaaGreatDoor.P
namespace Go.Proofs.YthchnhoalhbkcaaGreatDoor.P
open Go Go.Abs Go.Proofs
set_option maxRecDepth 100000
variable {s:Aa} {x:As} {n:Nat} {ns:List ByteArray}
def VL(e:Ap)(B:Nat)(r:AA×Int):Prop:=r.2=0->r.1.Kind=kd e/\VB r.1/\(e.Op<10->NV B r.1)
theorem VL.err{e:Ap}{B:Nat}{v:AA}{k:Int}(h:(k != 0)=true):VL e B (v,k):=λe0=>by change k=0 at e0;rw[e0]at h;cases h
theorem ET.op{e:Ap}(h:ET s e):¬e.Op<10:=by cases h<;>simp[eX]
theorem mK(hs:DS s)(hx:R7 s x n)(hn:n<=200)(bs:List A9){e:Ap}(h:ET s e){d:Nat}(hd:51<=d)(B:Nat):Ok (AE d (kK s x bs) e) (VL e B):=by
 obtain⟨d,rfl⟩:∃k,d=k+1:=⟨d-1,by omega⟩;show Ok (B4 d (AE d) (BR d) (kK s x bs) e) _;unfold B4;have h10:=h.op
 cases h with
 | table m dims c hm hD h =>
   iterate 5 refine Ok.no rfl ?_
   refine Ok.yes rfl ((lh hs hx hn hD hm h (d:=d) (by omega)).bind λr ⟨r1,r2,r3,r4⟩=>Ok.br (λe=>?_) λe=>?_)
   ·have h1:=r4 (by grind);have h0:=r3 _ (qa (l:=r.1.Av) (n:=0) (by omega));refine Ok.bindE (He (rk _) (by show 0<_;omega)) (Ok.bindE (U2 (by grind)) (Ok.br (λe=>Ok.some (VL.err e)) λ_=>Ok.some λ_=>⟨rfl,⟨by show r.1.Ac.length<=_;omega,by show r.1.Av.length<=_;omega,λc hc=>⟨by rw[(r3 c hc).1];have:=hD.len;omega,by have:=(r3 c hc).2;omega⟩,pY _,pY _,pY _,pY _,by show(r.1.Av[0]).G.length<=_;omega⟩,λh=>absurd h h10⟩))
   ·refine Ok.yes (by simpa using e) (Ok.some (VL.err (by grind)))
 | model m cols c hm hc h =>
   iterate 6 refine Ok.no rfl ?_
   refine Ok.yes rfl ((jY hs hx hn hm hc h (d:=d) (by omega)).bind λr ⟨r1,r2,r3⟩=>Ok.br (λe=>Ok.some (VL.err e)) λ_=>Ok.some λ_=>⟨rfl,⟨pY _,pY _,(λc hc=>by cases hc),by show r.1.Aw.length<=_;omega,by show r.1.A3.length<=_;omega,pY _,pY _,by show r.2.1.length<=_;omega⟩,λh=>absurd h h10⟩)
 | curve m ev c hm hl he h =>
   iterate 7 refine Ok.no rfl ?_
   refine Ok.yes rfl ((jf hs hx hn hm hl he h (d:=d) (by omega)).bind λr ⟨r1,r2⟩=>Ok.br (λe=>Ok.some (VL.err e)) λ_=>Ok.some λ_=>⟨rfl,⟨pY _,pY _,(λc hc=>by cases hc),pY _,pY _,by show r.1.length<=_;omega,pY _,by show r.2.1.length<=_;omega⟩,λh=>absurd h h10⟩)
 | hist m w c hw h =>
   iterate 8 refine Ok.no rfl ?_
   refine Ok.yes rfl ((kv hs hx hn hw h (d:=d) (by omega)).bind λr ⟨r1,r2⟩=>Ok.br (λe=>Ok.some (VL.err e)) λ_=>Ok.some λ_=>⟨rfl,⟨pY _,pY _,(λc hc=>by cases hc),pY _,pY _,pY _,by show r.1.length<=_;omega,by show r.2.1.length<=_;omega⟩,λh=>absurd h h10⟩)
 | box m c hm h =>
   iterate 9 refine Ok.no rfl ?_
   refine Ok.yes rfl ((ml hs hx hn hm h (d:=d) (by omega)).bind λr r1=>Ok.br (λe=>Ok.some (VL.err e)) λ_=>Ok.some λ_=>⟨rfl,⟨pY _,pY _,(λc hc=>by cases hc),pY _,pY _,pY _,pY _,by have h:r.2.1.length<=200:=r1;show r.2.1.length<=_;omega⟩,λh=>absurd h h10⟩)
theorem ES.value(hs:DS s)(hx:R7 s x n)(hn:n<=200){bs:List A9}{B:Nat}(hB:200<=B)(hB2:B<=20000)(hN:BD (NV B) ns bs){e:Ap}(h:ES s ns e){d:Nat}(hd:51<=d):Ok (AE d (kK s x bs) e) (VL e (4*B)):=by
 rcases h with h|h
 ·refine(ZQ hs hx hn hB hB2 hN 2 d h (by omega) (by omega)).mono λr hr h0=>?_;have hv:=hr h0;have hop:=h.op.2;refine⟨?_,hv.vb (by omega),λ_=>hv⟩;obtain⟨f,l,h1,_⟩:=hv;rw[h1];unfold kd;rw[qf hop];rfl
 ·exact mK hs hx hn bs h (by omega) _
def wvv(s:Aa)(x:As)(b:List A9)(st:Au):AA×Int:=(AE DD (kK s x b) st.An).getD (nv 0 { L:=0,N:=0 } [],0)
def oG(s:Aa)(x:As)(b:List A9)(st:Au):A9:={ H:=st.H,A0:=st.A0,At:=(wvv s x b st).1 }
def GR(s:Aa)(x:As)(l:List Au):List A9:=l.foldl (λb st=>b++[oG s x b st]) []
theorem M0{l:List Au}{k:Nat}(hk:k<l.length):GR s x (l.take (k+1))=GR s x (l.take k)++[oG s x (GR s x (l.take k)) l[k]]:=by
 unfold GR;rw[qo hk,List.foldl_append];rfl
def lV(s:Aa)(x:As)(l:List Au)(k:Nat):Prop:=∀(j:Nat)(hj:j<l.length),j<k->(wvv s x (GR s x (l.take j)) l[j]).2=0
theorem fA(hs:DS s)(hx:R7 s x n)(hn:n<=200){l:List Au}(h:PR s l):∀k,k<=l.length->lV s x l k->(GR s x (l.take k)).map (·.H)=(l.take k).map (·.H)/\BD (NV (200*4 ^ k)) (N1 (l.take k)) (GR s x (l.take k)) /\
 (∀hk:k<l.length,AE DD (kK s x (GR s x (l.take k))) l[k].An=some (wvv s x (GR s x (l.take k)) l[k])/\VL l[k].An (200*4 ^ (k+1)) (wvv s x (GR s x (l.take k)) l[k])):=by
 intro k;have hl:=h.len
 have last:∀k,BD (NV (200*4 ^ k)) (N1 (l.take k)) (GR s x (l.take k))->∀hk:k<l.length,AE DD (kK s x (GR s x (l.take k))) l[k].An=some (wvv s x (GR s x (l.take k)) l[k])/\VL l[k].An (200*4 ^ (k+1)) (wvv s x (GR s x (l.take k)) l[k]):=λk hB hk=>by
  have h1:1<=4 ^ k:=Nat.pow_pos (by decide);have h2:4 ^ k<=4 ^ 3:=qF (by decide) (by omega);obtain⟨r,e,hr⟩:=ES.value hs hx hn (B:=200*4 ^ k) (by omega) (by omega) hB (h.all k hk).2 (d:=DD) (by decide);have:wvv s x (GR s x (l.take k)) l[k]=r:=by unfold wvv;rw[e];rfl
  grind
 induction k with
 | zero =>
   intro _ _;have hB:BD (NV (200*4 ^ 0)) (N1 (l.take 0)) (GR s x (l.take 0)):=⟨pY _,(λnm hm=>by cases hm),(λb hb=>by cases hb)⟩;exact⟨rfl,hB,last 0 hB⟩
 | succ k ih =>
   intro hk hg;obtain⟨i1,i2,i3⟩:=ih (by omega) λj hj hj2=>hg j hj (by omega);obtain⟨v1,v2⟩:=i3 (by omega)
   have hB:BD (NV (200*4 ^ (k+1))) (N1 (l.take (k+1))) (GR s x (l.take (k+1))):=by
    rw[M0 (by omega)];refine BD.snoc h (by omega) ⟨i2.1,i2.2.1,λb hb nm hm he=>(i2.2.2 b hb nm hm he).mono (rP _ (qF (by decide) (by omega)))⟩ i1 λe=>(v2 (hg k (by omega) (by omega))).2.2 e
   refine⟨?_,hB,last (k+1) hB⟩;rw[M0 (by omega),qx,i1,qo (by omega),qx];rfl
theorem L5{l:List Au}:∀k,k<=l.length->(GR s x (l.take k)).length=k
 | 0,_=>rfl
 | k+1,hk=>by rw[M0 (by omega),qz,L5 k (by omega)];rfl
theorem UC{l:List Au}:∀k,k<=l.length->∀i,i<=k->(GR s x (l.take k)).take i=GR s x (l.take i)
 | 0,_,i,hi=>by
   obtain rfl:i=0:=by omega
   rfl
 | k+1,hk,i,hi=>by
   by_cases e:i=k+1
   ·subst e;exact qS (by rw[L5 (k+1) hk];exact qb _)
   ·rw[M0 (by omega),so (by rw[L5 k (by omega)];omega)];exact UC k (by omega) i (by omega)
theorem kk{l:List Au}{i:Nat}(hi:i<l.length)(h2:i<(GR s x l).length):(GR s x l)[i]=oG s x (GR s x (l.take i)) l[i]:=by
 have h1:=UC (s:=s) (x:=x) (l:=l) l.length (qb _) (i+1) (by omega);rw[rF,M0 hi]at h1
 have h3:((GR s x l).take (i+1))[i]?=some (oG s x (GR s x (l.take i)) l[i]):=by
  rw[h1,qg (by rw[L5 i (by omega)];exact qb _),L5 i (by omega),Nat.sub_self];rfl
 grind
theorem kQ(hs:DS s)(hx:R7 s x n)(hn:n<=200){l:List Au}(h:PR s l):Ok (Ey DD s x l) λr=>(∃(i:Nat)(hi:i<l.length)(e:Int),lV s x l i/\e≠0/\(wvv s x (GR s x (l.take i)) l[i]).2=e/\r=([],(i:Int),e))\/(lV s x l l.length/\r=(GR s x l,(l.length:Int),0)):=by
 have hl:=h.len;unfold Ey;refine Ok.bindE ((hx.gx hs hn).check hs) (Ok.no rfl (Ok.bindE (h.check hs (by decide)) (Ok.no rfl ((h.types hs hx hn (d:=DD) (by decide)).bind λt ht=>Ok.no (by grind) ?_))));refine Ok.for (λq=>q.1) l.length (λk q=>q.2=GR s x (l.take k)/\lV s x l k) 0 (pY _) rfl ⟨rfl,λj hj h=>absurd h (by omega)⟩ (by omega) (λrec q hq hI=>?_) λrec k q hk hq hI ih=>?_
 ·simp only[Io,hq,hI.1];rw[rF];exact Ok.f (Ok.some (.inr ⟨hI.2,rfl⟩))
 ·obtain⟨h1,h2⟩:=hI;simp only[Io,hq,h1];obtain⟨v1,v2⟩:=(fA hs hx hn h k (by omega) h2).2.2 hk;refine Ok.t (Ok.idxn hk (Ok.bindE v1 (Ok.br (λe=>Ok.some (.inl ⟨k,hk,_,h2,by simpa using e,rfl,rfl⟩)) λe=>Ok.rm (by rw[L5 k (by omega)];simp;omega) (ih _ EE ⟨(M0 hk).symm,λj hj hj2=>?_⟩))));by_cases ej:j=k
  ·grind
  ·exact h2 j hj (by omega)
end Go.Proofs.YthchnhoalhbkcaaGreatDoor.P
namespace Go.Proofs.YthchnhoalhbkcaaGreatDoor.P
open Go Go.Abs Go.Proofs
set_option maxRecDepth 100000
variable {s:Aa}
theorem Ok.and{α:Type}{m:Option α}{P Q:α->Prop}(h1:Ok m P)(h2:Ok m Q):Ok m λx=>P x/\Q x:=by
 obtain⟨x,h1,h3⟩:=h1;obtain⟨y,h2,h4⟩:=h2;rw[h1]at h2;obtain rfl:=P3 h2;exact⟨x,h1,h3,h4⟩
theorem aD(hs:DS s)(k:Int):Ok (Cm s k) λl=>l.Pairwise (·<·):=by
 have hc:=hs.cols_length;unfold Cm;refine Ok.for (λq=>q.1) s.A.length (λn q=>q.2.Pairwise (·<·)/\(∀v∈q.2,v<(n:Int))/\q.2.length<=n) 0 (pY _) rfl ⟨List.Pairwise.nil,(λv hv=>by cases hv),qb _⟩ (by omega) (λrec q hq hI=>?_) λrec n q hn hq hI ih=>?_
 ·simp only[Dn,hq];rw[Dz];exact Ok.some hI.1
 ·obtain⟨h1,h2,h3⟩:=hI;simp only[Dn,hq];rw[Co];refine Ok.idxn hn (Ok.br (λe=>Ok.rm (by grind) (ih _ EE ⟨?_,λv hv=>?_,by simp;omega⟩)) λe=>ih _ EE ⟨h1,λv hv=>?_,by show q.2.length<=n+1;omega⟩)
  all_goals grind
theorem iY{l:List Int}(h:l.Pairwise (·<·)){a:Int}(hb:∀v∈l,a<=v):∀(i:Nat)(hi:i<l.length),a+(i:Int)<=l[i]
 | 0,hi=>by have:=hb _ (qa hi);omega
 | i+1,hi=>by
   have h1:=iY h hb i (by omega);have h2:l[i]<l[i+1]:=List.pairwise_iff_getElem.1 h i (i+1) (by omega) hi (by omega);omega
theorem eK{l:List Int}(h:l.Pairwise (·<·)){a:Int}{n:Nat}(hb:∀v∈l,a<=v/\v<a+n):l.length<=n:=by
 by_cases e:l.length=0
 ·omega
 ·have h1:=iY h (λv hv=>(hb v hv).1) (l.length-1) (by omega);have h2:=(hb _ (qa (by omega:l.length-1<l.length))).2;omega
theorem nS:∀j:Bool,∀i:Fin (FO j).length,(FO j)[i].Kind≠3/\((FO j)[i].Kind=2->1<=i.val):=by decide
theorem oQ(j:Bool){i:Nat}(hn:i<(FO j).length):(FO j)[i].Kind≠3/\((FO j)[i].Kind=2->1<=i):=nS j ⟨i,hn⟩
theorem DS.from_(hs:DS s):∃n:Nat,2<=n/\n<=3/\s.A.length<=n+3/\∀(i:Nat)(hi:i<s.A.length),(FQ s.A[i]->n<=i)/\(M5 s.A[i]->1<=i/\i<n):=by
 obtain⟨j,ms,e,h1,h2,h3⟩:=hs.cols;have hc:=LY j;refine⟨(FO j).length,hc.1,hc.2,by rw[e,qz];omega,λi hi=>?_⟩;have hlen:s.A.length=(FO j).length+ms.length:=by grind
 by_cases hn:i<(FO j).length
 ·have e2:s.A[i]?=(FO j)[i]?:=by rw[e,qj hn]
  rw[P2 hi,P2 hn]at e2;rw[P3 e2];have hk:=oQ j hn;exact⟨λh=>absurd h.kind hk.1,λh=>⟨hk.2 h.kind,hn⟩⟩
 ·have e2:s.A[i]?=ms[i-(FO j).length]?:=by rw[e,qg (by omega)]
  rw[P2 hi,P2 (by grind)]at e2;rw[P3 e2];have hm:=(h3 (i-(FO j).length) (by omega)).1;exact⟨λ_=>by omega,λh=>by have:=h.kind;rw[hm.kind]at this;cases this⟩
theorem Z8(hs:DS s):Ok (Cm s 3) λl=>l≠[]/\l.length<=3/\l.Pairwise (·<·)/\∀v∈l,IM s v:=by
 obtain⟨n,h1,h2,h3,h4⟩:=hs.from_;refine((W8 hs).and (aD hs 3)).mono λl hl=>⟨hl.1.1,eK hl.2 (a:=n) λv hv=>?_,hl.2,hl.1.2.2⟩;grind
theorem gw(hs:DS s):Ok (Cm s 2) λl=>l≠[]/\l.length<=3/\l.Pairwise (·<·)/\∀v∈l,IC s v:=by
 obtain⟨n,h1,h2,h3,h4⟩:=hs.from_;refine((W7 hs).and (aD hs 2)).mono λl hl=>⟨hl.1.1,eK hl.2 (a:=1) λv hv=>?_,hl.2,hl.1.2.2⟩;grind
theorem Yv(hs:DS s){m:List Int}(h1:1<=m.length)(h2:m.length<=3)(ha:m.Pairwise (·<·))(hm:∀v∈m,IC s v){c:Ab}(hc:Ht c):Ok (P.iter (λrec2 st=>EJ m s (λ_ w b=>some (b,w)) rec2 st.1 st.2.1 st.2.2) AD (0,c,[])) λr=>Ht r.2/\Tf s r.1:=by
 refine Ok.for (λq=>q.1) m.length (λk q=>Ht q.2.1/\q.2.2.map (·.B)=m.take k/\∀p∈q.2.2,IC s p.B/\Ut s p) 0 (pY _) rfl ⟨hc,rfl,λp hp=>by cases hp⟩ (by omega) (λrec q hq hI=>?_) λrec k q hk hq hI ih=>?_
 ·simp only[EJ,hq];have e:=hI.2.1;rw[rF]at e;have hl:q.2.2.length=m.length:=by grind
  exact Ok.f (Ok.some ⟨hI.1,by show 1<=q.2.2.length;omega,by show q.2.2.length<=3;omega,hI.2.2,by show(q.2.2.map (·.B)).Pairwise _;rw[e];exact ha⟩)
 ·have hlen:q.2.2.length<=10:=by have:=congrArg List.length hI.2.1;rw[pX,qL]at this;omega
  simp only[EJ,hq];refine Ok.t (Ok.idxn hk (Ok.idxn hk ?_));have hv:=hm _ (qa hk);obtain⟨i,e,i0,i1,hC⟩:=id hv;have hf:=hs.fin_ok i0 i1;have ew:i64.wrap (Ef s i+1)=Ef s i+1:=wr;rw[e];refine Ok.bindE (hs.rfinest i0 i1) ?_;rw[ew];refine(Dy hI.1 (by omega) (by omega)).bind λz hz=>Ok.rm (by grind) (ih _ EE ⟨hz.1,?_,λp hp=>?_⟩)
  ·show(q.2.2++[_]).map _=_;rw[qx,hI.2.1,qo hk,e];rfl
  ·rcases List.mem_append.1 hp with hp|hp
   ·grind
   ·rw[List.mem_singleton.1 hp];exact⟨⟨i,rfl,i0,i1,hC⟩,i,i0,i1,rfl,hz.2.1,by show z.1<=_;omega⟩
theorem cP{c:Ab}(hc:Ht c)(hs:DS s):Ok (Ee c s) λr=>Ht r.2/\Tf s r.1:=by
 unfold Ee;refine(gw hs).bind λl ⟨hne,hl,ha,hm⟩=>(Pp hc (by omega) (by omega)).bind λy hy=>?_;have hpos:=List.length_pos_iff.2 hne;refine Ok.br (λ_=>(Dy hy (by omega) (by omega)).bind λz hz=>Ok.gdd (by omega) ?_) λ_=>Yv hs hpos hl ha hm hy;exact Yv hs (m:=LZ l z.1 (l.length:Int)) (by unfold LZ;rw[qL,rj];omega) (by unfold LZ;rw[qL,rj];omega) (ha.sublist ((List.take_sublist _ _).trans (List.drop_sublist _ _))) (λv hv=>hm v (ri (qV hv))) hz.1
theorem cu{c:Ab}(hc:Ht c)(hs:DS s)(m:Int):Ok (Gb c s m) λr=>Ht r.2/\(1<=r.1.length->Wo s m r.1):=by
 unfold Gb;refine Ok.bind (Z8 hs) λl hl=>?_;obtain⟨_,hl,ha,hm⟩:=hl;refine Ok.for (λq=>q.1) l.length (λk q=>Ht q.2.1/\List.Sublist q.2.2 (l.take k)/\∀v∈q.2.2,v≠m) 0 (pY _) rfl ⟨hc,List.nil_sublist _,λv hv=>by cases hv⟩ (by omega) (λrec q hq hI=>?_) λrec k q hk hq hI ih=>?_
 ·simp only[FT,hq];rw[Dz];obtain⟨h1,h2,h3⟩:=hI;rw[rF]at h2;exact Ok.some ⟨h1,λhp=>⟨hp,qt h2.length_le hl,λv hv=>⟨hm v (h2.subset hv),h3 v hv⟩,ha.sublist h2⟩⟩
 ·obtain⟨h1,h2,h3⟩:=hI;have hlen:=h2.length_le;rw[qL]at hlen;have hlen2:q.2.2.length<=3:=by omega
  have hskip:List.Sublist q.2.2 (l.take (k+1)):=by grind
  have hadd:List.Sublist (q.2.2++[l[k]]) (l.take (k+1)):=by
   rw[qo hk];exact h2.append (List.Sublist.refl _)
  have hne:∀e:(l[k] != m)=true,∀v∈q.2.2++[l[k]],v≠m:=by grind
  simp only[FT,hq];rw[Co];refine Ok.idxn hk (Ok.br (λe=>Ok.br (λ_=>Ok.idxn hk (Ok.rm (by grind) (ih _ EE ⟨h1,hadd,hne e⟩))) λ_=>Ok.bind (Pp h1 (by omega) (by omega)) λz hz=>Ok.br (λ_=>Ok.idxn hk (Ok.rm (by simp;omega) (ih _ EE ⟨hz,hadd,hne e⟩))) λ_=>ih _ EE ⟨hz,hskip,h3⟩) λ_=>ih _ EE ⟨h1,hskip,h3⟩)
theorem TF(hs:DS s){c:Ab}(hc:Ht c)(k:Nat)(hk:k<=3){d:Nat}(hd:3<d):Ok (AP d c s k) λr=>Ht r.2/\GC s r.1:=(eR hs k d hc (by omega) (by omega)).mono λr hr=>⟨hr.1,GC.drawn hr.2 hk⟩
theorem UA(hs:DS s){ns:List ByteArray}(hn:ns.length<=100):∀(m d:Nat){c:Ab},Ht c->m+4<d->m<=5->Ok (Cl d c s ns m) λr=>Ht r.2/\EN s ns m r.1
 | m,d+1,c,hc,hd,hm=>by
   have hcnt:∀{c:Ab},Ht c->Ok ((AP d c s 2).bind λx71=>some (eX 3 0 .empty 0 [] [] x71.1 Gt [],x71.2)) λr=>Ht r.2/\EN s ns m r.1:=λhc=>(TF hs hc 2 (by omega) (by omega)).bind λz hz=>Ok.some ⟨hz.1,.count m _ hz.2⟩
   have leaf:∀{c:Ab},Ht c->Ok (DR ns d s c) λr=>Ht r.2/\EN s ns m r.1:=λhc=>by
    unfold DR;refine(Dy hc (by omega) (by omega)).bind λx hx=>Ok.br (λ_=>(IB hx.1 (by omega) (by omega) (by omega) (by omega)).bind λz hz=>Ok.some ⟨hz.1,.int m _ hz.2⟩) λ_=>Ok.br (λ_=>Ok.brd (λh0=>(Dy hx.1 (by omega) (by omega)).bind λz hz=>Ok.idx hz.2.1 (by omega) (Ok.some ⟨hz.1,.name m _ (qa _)⟩)) λ_=>hcnt hx.1) λ_=>Ok.br (λ_=>(L3 hx.1 hs).bind λv hv=>(TF hs hv.1 1 (by omega) (by omega)).bind λz hz=>Ok.some ⟨hz.1,.sum m 4 _ _ (.inl rfl) hv.2 hz.2⟩) λ_=>Ok.br (λ_=>(L3 hx.1 hs).bind λv hv=>(TF hs hv.1 0 (by omega) (by omega)).bind λz hz=>Ok.some ⟨hz.1,.sum m 5 _ _ (.inr rfl) hv.2 hz.2⟩) λ_=>hcnt hx.1
   show Ok (Ej d (Cl d) c s ns m) _;unfold Ej;refine Ok.brd (λh0=>(Pp hc (by omega) (by omega)).bind λy hy=>Ok.br (λ_=>(IB hy (by omega) (by omega) (by omega) (by omega)).bind λo ho=>?_) λ_=>leaf hy) λ_=>leaf hc;obtain⟨k,rfl⟩:∃k,m=k+1:=⟨m-1,by omega⟩;have ew:i64.wrap (((k+1:Nat):Int)-1)=(k:Int):=by rw[wr];omega
   rw[ew];exact(UA hs hn k d ho.1 (by omega) (by omega)).bind λp hp=>(UA hs hn k d hp.1 (by omega) (by omega)).bind λq hq=>Ok.some ⟨hq.1,.pair k _ _ _ (by omega) hp.2 hq.2⟩
theorem gJ(hs:DS s){ns:List ByteArray}(hn:ns.length<=100){c:Ab}(hc:Ht c):Ok (GM DD c s ns) λr=>Ht r.2/\ES s ns r.1:=by
 unfold GM;refine(L3 hc hs).bind λm hm=>(Dy hm.1 (by omega) (by omega)).bind λy hy=>?_;have num:∀{c:Ab},Ht c->Ok ((Cl DD c s ns 2).bind λx93=>some (x93.1,x93.2)) λr=>Ht r.2/\ES s ns r.1:=λhc=>(UA hs hn 2 DD hc (by decide) (by omega)).bind λz hz=>Ok.some ⟨hz.1,.inl hz.2⟩
 have tab:Ok ((Ee y.2 s).bind λx21=>(AP DD x21.2 s 1).bind λx24=>(BL x24.2 2).bind λx27=>bif x27.1 then some (eX 10 0 .empty m.1 [] x21.1 x24.1 Gt [],x27.2)else some (eX 10 0 .empty (-1) [] x21.1 x24.1 Gt [],x27.2)) λr=>Ht r.2/\ES s ns r.1 :=
  (cP hy.1 hs).bind λa ha=>(TF hs ha.1 1 (by omega) (by decide)).bind λb hb=>(Pp hb.1 (by omega) (by omega)).bind λo ho=>Ok.br (λ_=>Ok.some ⟨ho,.inr (.table _ _ _ (.inr hm.2) ha.2 hb.2)⟩) λ_=>Ok.some ⟨ho,.inr (.table _ _ _ (.inl rfl) ha.2 hb.2)⟩
 refine Ok.br (λ_=>tab) λ_=>Ok.br (λ_=>tab) λ_=>Ok.br (λ_=>?_) λ_=>Ok.br (λ_=>?_) λ_=>Ok.br (λ_=>?_) λ_=>Ok.br (λ_=>(TF hs hy.1 0 (by omega) (by decide)).bind λz hz=>Ok.some ⟨hz.1,.inr (.box _ _ hm.2 hz.2)⟩) λ_=>num hy.1
 ·exact(cu hy.1 hs m.1).bind λt ht=>Ok.brd (λh0=>(TF hs ht.1 1 (by omega) (by decide)).bind λz hz=>Ok.some ⟨hz.1,.inr (.model _ _ _ hm.2 (ht.2 (by omega)) hz.2)⟩) λ_=>num ht.1
 ·obtain⟨i,e,_,hi,hM⟩:=id hm.2;rw[e];exact Ok.idxn hi (Ok.brd (λh0=>(TF hs hy.1 0 (by omega) (by decide)).bind λz hz=>(TF hs hz.1 0 (by omega) (by decide)).bind λw hw=>Ok.some ⟨hw.1,.inr (.curve _ _ _ ⟨i,rfl,by assumption,hi,hM⟩ (λy hy=>by rw[FA hi]at hy;rw[<-P3 hy];exact h0) hz.2 hw.2)⟩) λ_=>num hy.1)
 ·obtain⟨i,e,i0,hi,hM⟩:=id hm.2;have hw:=E8 hM;rw[e];exact Ok.idxn hi ((Dy hy.1 (by omega) (by omega)).bind λz hz=>Ok.idx hz.2.1 (by omega) ((TF hs hz.1 1 (by omega) (by decide)).bind λw hw=>Ok.some ⟨hw.1,.inr (.hist _ _ _ ⟨i,rfl,i0,hi,hM,qa _⟩ hw.2)⟩))
theorem PR.snoc{b:List Au}(h:PR s b)(hl:b.length<=3){e:Ap}(he:ES s (N1 b) e)(o:Bool):PR s (b++[{ H:=vn b.length,A0:=o,An:=e }]):=by
 refine⟨by simp;omega,λk hk=>?_⟩;simp at hk;by_cases e1:k<b.length
 ·rw[List.getElem_append_left e1,so (by omega)];exact h.all k e1
 ·grind
theorem YE(b:List Au)(st:Au):N1 (b++[st])=N1 b++if st.An.Op<10 then[st.H]else[]:=by
 unfold N1;grind
theorem ZD(hs:DS s){c:Ab}(hc:Ht c):Ok (EK DD c s 4) λr=>PR s r.1:=by
 unfold EK;refine(Dy hc (n:=i64.wrap (4+1)) (by decide) (by decide)).bind λy hy=>?_;have hy5:y.1<5:=hy.2.2;refine Ok.loop (λq=>0<=q.1/\(q.2.2.1.length:Int)+q.1<=4/\Ht q.2.1/\PR s q.2.2.1/\q.2.2.2=N1 q.2.2.1) (λq=>q.1.toNat) ⟨hy.2.1,by show((0:Nat):Int)+y.1<=4;omega,hy.1,⟨pY _,λk hk=>absurd hk (rZ _)⟩,rfl⟩ (by unfold AD;show y.1.toNat<_;omega) λrec q ⟨q1,q2,q3,q4,q5⟩ ih=>?_;simp only[Hj,q5];refine Ok.brd (λh0=>?_) λ_=>Ok.some q4;have hl:=q4.len;have hnl:(N1 q.2.2.1).length<=4:=by unfold N1;rw[pX];exact qt (rl _ _) hl
 have hit:=lY (q.2.2.1.length:Int) (by omega) (by omega);rw[qu]at hit;have ew:i64.wrap (q.1-1)=q.1-1:=wr;rw[ew];refine Ok.bindE hit (Ok.gdd (by show 1+1<=9223372036854775807;decide) ((Pp q3 (by omega) (by omega)).bind λo ho=>(gJ hs (by omega) ho).bind λe he=>?_));have hP:∀o,PR s (q.2.2.1++[{ H:=vn q.2.2.1.length,A0:=o,An:=e.1 }]):=λo=>q4.snoc (by omega) he.2 o;refine Ok.brd (λh1=>Ok.rm (by simp;omega) (Ok.rm (by simp;omega) (ih _ ⟨by show 0<=q.1-1;omega,by simp;omega,he.1,hP _,?_⟩ (by show(q.1-1).toNat<_;omega)))) λh1=>Ok.rm (by simp;omega) (ih _ ⟨by show 0<=q.1-1;omega,by simp;omega,he.1,hP _,?_⟩ (by grind))
 ·show _=N1 (q.2.2.1++[_]);rw[YE,qf h1]
 ·show _=N1 (q.2.2.1++[_]);rw[YE,qi h1,rY]
theorem iZ:Js DD=some true:=by decide +kernel
theorem BD.kinds{B:Nat}{ns:List ByteArray}{bs:List A9}(h:BD (NV B) ns bs):BD (λv=>v.Kind=1) ns bs:=⟨h.1,h.2.1,λb hb nm hm he=>by
 obtain⟨f,l,e,_⟩:=h.2.2 b hb nm hm he;rw[e];rfl⟩
theorem ik(codes:List Int)(h:∀v∈codes,0<=v/\v<=255)(hl:codes.length<=9223372036854775807):Fh DD codes=some true:=by
 refine Ok.val ?_;unfold Fh;refine(od codes h hl).bind λc hc=>(lu hc (n:=6) (by decide)).bind λw ⟨w1,w2,w3⟩=>?_;have hs:=w1.schema;refine(ZD hs w3).bind λp hp=>?_;have hlen:=hp.len;have aw:Ok ((Js DD).bind λx=>some x) (·=true):=Ok.bindE iZ (Ok.some rfl);refine(kQ hs w2 (by decide) hp).bind λr hr=>?_;rcases hr with⟨i,hi,e,hg,he,hv,rfl⟩|⟨hg,rfl⟩
 ·refine Ok.yes (by simpa using he) (Ok.no ?_ (Ok.gdd (by grind) ?_))
  ·grind
  ·show Ok ((Ey DD w.1.Ao w.2.1 (LZ p.1 0 (i:Int))).bind _) _;rw[aK _ (by omega)];have htl:(p.1.take i).length=i:=by grind
   refine(kQ hs w2 (by decide) (hp.take i)).bind λr hr=>?_;rcases hr with⟨j,hj,e',_,he',hv',rfl⟩|⟨_,rfl⟩
   ·rw[htl]at hj;have:=hg j (by omega) hj;grind
   ·refine Ok.yes ?_ aw;show(bif bif(((0:Int))==0)then(((p.1.take i).length:Int)==(i:Int))else false then(((GR w.1.Ao w.2.1 (p.1.take i)).length:Int)==(i:Int))else false)=true;rw[htl,L5 i (by omega)];simp
 ·have hol:(GR w.1.Ao w.2.1 p.1).length=p.1.length:=by have:=L5 (s:=w.1.Ao) (x:=w.2.1) (l:=p.1) p.1.length (qb _);rwa [rF]at this
  refine Ok.no rfl (Ok.no ?_ (Ok.lp p.1.length (λrec=>Ok.f aw) λrec i hi ih=>Ok.t (Ok.gdd (by grind) (Ok.idxn hi ?_))))
  ·grind
  ·show Ok ((Gk DD w.1.Ao w.2.1 (LZ (GR w.1.Ao w.2.1 p.1) 0 (i:Int)) p.1[i].An).bind _) _;have hti:(GR w.1.Ao w.2.1 p.1).take i=GR w.1.Ao w.2.1 (p.1.take i):=by have:=UC (s:=w.1.Ao) (x:=w.2.1) (l:=p.1) p.1.length (qb _) i (by omega);rwa [rF]at this
   rw[aK _ (by omega),hti];obtain⟨o1,o2,o3⟩:=fA hs w2 (by decide) hp i (by omega) λj hj _=>hg j hj hj;obtain⟨v1,v2⟩:=o3 hi;have v0:=hg i hi hi;have hb:(GR w.1.Ao w.2.1 p.1)[i]'(by omega)=oG w.1.Ao w.2.1 (GR w.1.Ao w.2.1 (p.1.take i)) p.1[i]:=kk hi (by omega)
   have hev:Gk DD w.1.Ao w.2.1 (GR w.1.Ao w.2.1 (p.1.take i)) p.1[i].An=some (wvv w.1.Ao w.2.1 (GR w.1.Ao w.2.1 (p.1.take i)) p.1[i]):=by
    refine Ok.val ?_;unfold Gk;exact Ok.bindE ((w2.gx hs (by decide)).check hs) (Ok.no rfl (Ok.bindE (eY hs w2 (by decide) (hp.nmok (by omega)) o2.kinds (hp.all i hi).2 (by decide)) (Ok.no rfl (Ok.bindE v1 (Ok.some rfl)))))
   refine Ok.bindE hev (Ok.no (by grind) ?_);have hio:i<(GR w.1.Ao w.2.1 p.1).length:=by omega
   refine Ok.idxn hio (Ok.idxn hi (Ok.no (by rw[hb];show(!(p.1[i].H.toList==p.1[i].H.toList))=false;rw[sk];rfl) (Ok.idxn hio (Ok.idxn hi (Ok.no (by rw[hb];show(!(p.1[i].A0==p.1[i].A0))=false;rw[sk];rfl) (Ok.idxn hio ?_))))));rw[hb];exact Ok.bindE (en (v2 v0).2.1) (Ok.no rfl (ih _ EE))
end Go.Proofs.YthchnhoalhbkcaaGreatDoor.P
