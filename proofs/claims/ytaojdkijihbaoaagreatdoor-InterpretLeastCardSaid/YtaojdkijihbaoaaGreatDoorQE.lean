/- QE -/
import Derived.Test.YtaojdkijihbaoaaGreatDoorQD
open Go.IntKind (i64)
set_option linter.all false
namespace Go.Proofs.YtaojdkijihbaoaaGreatDoor.P
open Go Go.Abs Go.Proofs
set_option maxRecDepth 100000
variable {s:Aa}
theorem ep:(Sc.all λL=>(Bu L).all λv=>(List.range L.Q.length).all λk=>(Mr L v (k:Int)).isSome)=true:=by decide +kernel
def RL(s:Aa)(a:Ad):Prop:=∃i:Nat,a.B=i/\1<=i/\∃hi:i<s.A.length,(∀v,WG s s.A[i] v->Ok (EM s a v) λ_=>True)/\∀l,0<=l->l<=fin s i->Ok (Cd s a l) λb=>l=fin s i->b=true
theorem sF(r:DS s){m:Nat}{c:Ad}(h:RC s m c)(ho:c.Op=2\/c.Op=3\/c.Op=4):RL s c:=by
 cases h with
 | under n i a d h L u f k P Q =>
   have z:∀v,WG s s.A[i] v->Ok (EM s { Op:=2,B:=i,Z:=k,C:=0,D:=0,H:=[] } v) λ_=>True:=λv g=>by
    have J:=List.all_eq_true.1 (List.all_eq_true.1 (List.all_eq_true.1 ep L u) v (g.code h f)) k.toNat (List.mem_range.2 (by omega));rw[show((k.toNat:Nat):Int)=k by omega]at J;obtain⟨b,N⟩:=Option.isSome_iff_exists.1 J;unfold EM;exact y7 rfl (y5 d (qr f (qr N (y6 (λ_=>y3 trivial) λ_=>y3 trivial))))
   refine⟨i,rfl,a,d,z,λl w y=>?_⟩;have K:(Bu L).length<=10:=by have:=List.all_eq_true.1 U8 L u;simpa using this
   have g:∀v∈Bu L,WG s s.A[i] v:=λv g=>.inr (.inl ⟨h.kind,L,u,f,g⟩);unfold Cd;refine y5 d (y7 rfl (qr (Z4 (Cf d) f u) (yc (Bu L).length (λrec=>Ok.f (y3 λ_=>rfl)) λrec p hp ih=>Ok.t (yc p (λrec=>Ok.f (ih _ C7)) λrec q R ih2=>?_))));have o:q<(Bu L).length:=by omega
   have A:=g _ (ud hp);have E:=g _ (ud o);obtain⟨t1,O,_⟩:=z _ A;obtain⟨t2,F,_⟩:=z _ E;refine Ok.t (y5 hp (qr (UQ r a d w y A) (y5 o (qr (UQ r a d w y E) (y6 (λe=>y5 hp (qr O (y5 o (qr F (y6 (λS=>y3 λG=>?_) λ_=>ih2 _ C7))))) λ_=>ih2 _ C7)))));rw[G,ZN r a d A,ZN r a d E]at e;grind
 | between n i a d h lo T a0 U V =>
   have G:fin s i=s.A[i].N.length:=by rw[EY d,DI h]
   have I:=r.fin_ok a d;refine⟨i,rfl,a,d,λv g=>?_,λl w y=>?_⟩
   ·unfold EM;exact y4 rfl (y7 rfl (y6 (λ_=>y3 trivial) λ_=>y6 (λ_=>y3 trivial) λ_=>y3 trivial))
   ·unfold Cd;refine y5 d (y4 rfl (y4 rfl (y6 (λe=>y3 λt=>?_) λe=>?_)))
    ·grind
    ·have t:l≠0:=λF=>by rw[F]at e;cases e
     have W:=Fw h (l:=l) (by omega) (by omega);have j:∀x:Int,l=fin s i->((Int.tmod x (Fa s.A[i] l))==0)=true:=λx t=>by rw[t,G,Xf h];simp
     refine qr (gp h (by omega) (by omega)) (y6 (λ_=>y6 (λ_=>y3 λ_=>rfl) λ_=>yb (by omega) (y3 (j _))) λ_=>yb (by omega) (y6 (λ_=>y6 (λ_=>y3 λ_=>rfl) λ_=>yb (by omega) (y3 (j _))) λX=>y3 λt=>?_));grind
 | miss n i a d h M =>
   have I:=r.fin_ok a d;refine⟨i,rfl,a,d,λv g=>?_,λl w y=>?_⟩
   ·unfold EM;exact y4 rfl (y4 rfl (y7 rfl (y6 (λ_=>y3 trivial) λ_=>y3 trivial)))
   ·unfold Cd;exact y5 d (y4 rfl (y7 rfl (y3 λt=>un (by omega))))
 | all=>rcases ho with h|h|h<;>cases h
 | and=>grind
 | or=>grind
 | not=>grind
theorem fF{l:List Int}{x:Int}(d:l.length<=10000000):Ok (Nl l x) λb=>(b=true↔x∈l):=by
 unfold Nl;refine y8 (λq=>q) l.length (λk _=>x ∉ l.take k) 0 (ug _) rfl (by simp) (by omega) (λrec q a c=>?_) λrec k q hk a c ih=>?_
 ·rw[uS]at c;simp only[MY,a];exact Ok.f (y3 ⟨(λh=>by cases h),λh=>absurd h c⟩)
 ·simp only[MY,a];refine Ok.t (y5 hk (y6 (λe=>y3 ⟨λ_=>?_,λ_=>rfl⟩) λe=>ih _ C7 λh=>?_))
  ·grind
  ·rw[ui hk]at h;grind
theorem aF(s:Aa)(m k:Int):Ok (Jg s m k) λb=>b=true->∃i:Nat,m=(i:Int)/\i<s.A.length:=by
 unfold Jg;refine y6 (λe=>?_) λ_=>y3 λh=>by cases h
 obtain⟨i,rfl⟩:∃i:Nat,m=i:=⟨m.toNat,by grind⟩;have a:i<s.A.length:=by grind
 exact y5 a (y3 λ_=>⟨i,rfl,a⟩)
theorem p8(a:DS s)(p:Ac):Ok (Hj s p) λe=>e=0->MC s p:=by
 have c:=a.cols_length;unfold Hj;refine qr a.rcheck (y4 rfl (y6 (λ_=>y3 λh=>by cases h) λh=>?_));have d:1<=p.B/\p.B<s.A.length:=by grind
 obtain⟨i,b⟩:∃i:Nat,p.B=i:=⟨p.B.toNat,by omega⟩;rw[b];refine qr (a.rfinest (i:=i) (by omega) (by omega)) ?_;rw[MF,ue];exact y6 (λ_=>y3 λh=>by cases h) λe=>y3 λ_=>⟨i,by omega,by omega,b,by grind,by grind⟩
structure tG(s:Aa)(q:Ap):Prop where
 name:Ok (BU q.I) λ_=>True
 filter:GC s q.Ay
 event:(q.Kind≠3/\q.U=Gv)\/GC s q.U
 dims:q.V.length<=10/\∀p∈q.V,MC s p
 terms:q.Ai.length<=10
theorem fc(c:DS s){l:List Ac}(d:l.length<=10):Ok (JB s l) λ_=>True:=by
 unfold JB;exact y6 (λ_=>y3 trivial) λ_=>yc l.length (λrec=>Ok.f (y3 trivial)) λrec i a ih=>Ok.t (y5 a ((p8 c _).bind λe _=>y6 (λ_=>y3 trivial) λ_=>y5 a ((aF s _ _).bind λb _=>y6 (λ_=>y3 trivial) λ_=>yc i (λrec=>Ok.f (ih _ C7)) λrec k hk ih2=>Ok.t (y5 (by omega) (y5 a (y6 (λ_=>y3 trivial) λ_=>ih2 _ C7))))))
theorem en(s:Aa){l:List Int}(c:l.length<=10)(m:Int):Ok (I4 s m l) λ_=>True:=by
 unfold I4;refine y6 (λ_=>y3 trivial) λ_=>yc l.length (λrec=>Ok.f (y3 trivial)) λrec i a ih=>Ok.t (y5 a ((aF s _ _).bind λb _=>y6 (λ_=>y3 trivial) λ_=>y5 a (y6 (λ_=>y3 trivial) λ_=>yb (by omega) (y5 a ((fF ?_).bind λb _=>y6 (λ_=>y3 trivial) λ_=>ih _ C7)))));unfold M1;grind
theorem Yk(c:DS s){q:Ap}(h:tG s q):Ok (CH DD s q) λ_=>True:=by
 unfold CH;refine qr c.rcheck (y4 rfl (h.name.bind λb _=>y6 (λ_=>y3 trivial) λ_=>y6 (λ_=>y3 trivial) λ_=>qr (h.filter.rcheck c (by decide)) (y4 rfl (Ok.bind (P:=λ_=>True) ?_ λe _=>y6 (λ_=>y3 trivial) λ_=>y6 (λ_=>y3 trivial) λ_=>y6 (λhk=>?_) λ_=>y3 trivial))))
 ·unfold Mt;refine(aF s _ _).bind λb f=>y6 (λ_=>(fc c h.dims.1).bind λe _=>y6 (λ_=>y3 trivial) λ_=>y6 (λ_=>y3 trivial) λ_=>y3 trivial) λk=>y6 (λ_=>y6 (λ_=>y3 trivial) λ_=>(en s h.terms _).bind λe _=>y3 trivial) λl=>y6 (λ_=>y3 trivial) λg=>?_;obtain⟨i,e,j⟩:=f (by grind);rw[e];refine y5 j (y6 (λ_=>y3 trivial) λ_=>Ok.bind (P:=λ_=>True) ?_ λe _=>y3 trivial);rcases h.event with⟨_,a⟩|a
  ·grind
  ·exact⟨_,a.rcheck c (by decide),trivial⟩
 ·have hk:q.Kind≠3:=by simpa using hk
  rcases h.event with⟨_,a⟩|a
  ·rw[a];exact qr (x:=true) rfl (y4 rfl (y3 trivial))
  ·refine Ok.bind (P:=λ_=>True) ?_ λb _=>y6 (λ_=>y3 trivial) λ_=>y3 trivial;unfold NX;refine Ok.bind (P:=λ_=>True) ?_ λb _=>y3 trivial;show Ok (K3 59 (NT 59) q.U Gv) _;unfold K3;have d:(q.U.Op != 0)=true:=a.op;refine y7 ?_ (y3 trivial);rw[show(q.U.Op != Gv.Op)=true from d];rfl
structure lh(s:Aa)(d:Ar):Prop where
 project:BU d.Ae=some true/\Bz d.Ae=some true
 source:Ok (BU d.Bl) λ_=>True
 cohort:GC s d.Be
 questions:d.Am.length<=3/\∀q∈d.Am,tG s q
theorem Uo(a:DS s){d:Ar}(h:lh s d):Ok (Gs DD s d) λ_=>True:=by
 have f:=h.questions.1;unfold Gs;refine qr a.rcheck (y4 rfl (qr h.project.1 (y4 rfl (h.source.bind λb _=>y6 (λ_=>y3 trivial) λ_=>?_))));unfold K9;exact qr (h.cohort.rcheck a (by decide)) (y4 rfl (y6 (λ_=>y3 trivial) λ_=>y6 (λ_=>y3 trivial) λ_=>yc d.Am.length (λrec=>Ok.f (y3 trivial)) λrec i c ih=>Ok.t (y5 c ((Yk a (h.questions.2 _ (ud c))).bind λe _=>y6 (λ_=>y3 trivial) λ_=>yc i (λrec=>Ok.f (ih _ C7)) λrec k hk ih2=>Ok.t (y5 (by omega) (y5 c (y6 (λ_=>y3 trivial) λ_=>ih2 _ C7)))))))
theorem XF(u:DS s){r:List Int}(hr:Sn s r):∀(n d:Nat){c:Ad},RC s n c->n<d->Ok (LE d s c r) λ_=>True
 | n,d+1,c,h,hd=>by
   show Ok (K5 d (LE d) s c r) _;unfold K5;refine y6 (λe=>?_) λe=>?_
   ·obtain⟨i,e,C,v,w,_⟩:=sF u h (WW e);have g:i<r.length:=by rw[hr.1];exact v
    rw[e];exact y5 g ((w _ (hr.2 i _ _ (P3 v) (P3 g))).bind λt _=>y3 trivial)
   ·have hk:=h.kids
    have a:∀b:List Int,b.length=c.H.length->Ok ((NW c.Op b).bind λp=>some p) λ_=>True:=λb j=>by
     refine Ok.bind (P:=λ_=>True) ?_ λ_ _=>y3 trivial;unfold NW;have l:b.length=2->∀{f:Int->Int->Int},Ok ((idx b 0).bind λx=>(idx b 1).bind λy=>some (f x y)) λ_=>True:=λj _=>y5 (i:=0) (by omega) (y5 (i:=1) (by omega) (y3 trivial))
     cases h with
     | all=>exact y4 rfl (y4 rfl (y4 rfl (y3 trivial)))
     | and n x y _ _=>exact y4 rfl (y7 rfl (l j))
     | or n x y _ _=>exact y4 rfl (y4 rfl (y7 rfl (l j)))
     | not n x _ =>
       have j:b.length=1:=j;exact y7 rfl (y5 (i:=0) (by omega) (y3 trivial))
     | under=>cases e
     | between=>cases e
     | miss=>cases e
    refine ya c.H.length (λk q=>q.length=k) rfl (λrec q z=>Ok.f (a _ z)) (λrec k q o A ih=>?_) (by omega);obtain⟨m,D,B⟩:=hk.2 _ (ud o);exact Ok.t (y5 o ((XF u hr m d B (by omega)).bind λt _=>Ok.rm (by grind) (ih _ _ C7 (by simp[A]))))
theorem eL(a:DS s){r:List Int}(hr:Sn s r){c:Ad}(h:GC s c):Ok (NP DD s c r) λ_=>True:=by
 have b:=h;obtain⟨n,d,e⟩:=h;unfold NP;exact qr (b.rcheck a (by decide)) (y4 rfl (qr (sI a hr) (y4 rfl ((XF a hr n DD d (by grind)).bind λt _=>y3 trivial))))
theorem m8(x:HA)(id:Int):Ok (Rq x id) λ_=>True:=by
 have h:Ok (Mv x) λe=>e=0->x.Of≠0:=by
  unfold Mv;refine y6 (λ_=>y3 λh=>by cases h) λc=>y3 λ_ d=>?_;grind
 obtain⟨v,a⟩:∃v,PX x.Bi id=some v:=⟨_,rfl⟩;unfold Rq;exact h.bind λe b=>y6 (λf=>qr a (yb (b (by grind)) (y3 trivial))) λ_=>y3 trivial
theorem aY{x:Cn}{n:Nat}(h:bG x n)(j:n<=100){d:Ar}(hd:lh x.Aw d):Ok (KG DD x d) λr=>r.length<=n/\∀v∈r,∃(i:Nat)(a:i<x.G.length),v=P.hd x.G[i]:=by
 have l:=h.len;unfold KG;refine qr (nT h j) (y4 rfl ((Uo h.schema hd).bind λe _=>y6 (λ_=>y3 ⟨by simp,λv g=>by cases g⟩) λ_=>?_));unfold M6;refine ya x.G.length (λi q=>q.length<=i/\∀v∈q,∃(i:Nat)(a:i<x.G.length),v=P.hd x.G[i]) ⟨uh _,λv g=>by cases g⟩ (λrec q c=>Ok.f (y3 ⟨by have:=c.1;omega,c.2⟩)) λrec i q a c ih=>?_;have k:=c.1;have hr:=h.rows _ (ud a);have f:=hr.ne h.schema;have skip:∀{v:Int},v=((i+1:Nat):Int)->Ok (rec (v,q)) λr=>r.length<=n/\∀v∈r,∃(i:Nat)(a:i<x.G.length),v=P.hd x.G[i]:=λe=>ih _ _ e ⟨by omega,c.2⟩;refine Ok.t (y5 a ((eL h.schema hr hd.cohort).bind λt _=>y6 (λ_=>y5 a (qr (J7 f) ((m8 _ _).bind λb _=>y6 (λ_=>y5 a (qr (J7 f) (Ok.rm (by grind) (ih _ _ C7 ⟨by simp;omega,λv g=>?_⟩)))) λ_=>skip C7))) λ_=>skip C7));grind
theorem Ok.and{α:Type}{m:Option α}{P Q:α->Prop}(a:Ok m P)(b:Ok m Q):Ok m λx=>P x/\Q x:=by
 obtain⟨x,a,c⟩:=a;obtain⟨y,b,d⟩:=b;rw[a]at b;obtain rfl:=uc b;exact⟨x,a,c,d⟩
theorem ce(d:DS s)(k:Int):Ok (C0 s k) λl=>l.Pairwise (·<·):=by
 have h:=d.cols_length;unfold C0;refine y8 (λq=>q.1) s.A.length (λn q=>q.2.Pairwise (·<·)/\(∀v∈q.2,v<(n:Int))/\q.2.length<=n) 0 (ug _) rfl ⟨List.Pairwise.nil,(λv a=>by cases a),uh _⟩ (by omega) (λrec q b c=>?_) λrec n q f b c ih=>?_
 ·simp only[DL,b];rw[CW];exact y3 c.1
 ·obtain⟨g,i,j⟩:=c;simp only[DL,b];rw[Cg];refine y5 f (y6 (λe=>Ok.rm (by grind) (ih _ C7 ⟨?_,λv a=>?_,by simp;omega⟩)) λe=>ih _ C7 ⟨g,λv a=>?_,by show q.2.length<=n+1;omega⟩)
  all_goals grind
theorem lB{l:List Int}(h:l.Pairwise (·<·)){a:Int}(c:∀v∈l,a<=v):∀(i:Nat)(b:i<l.length),a+(i:Int)<=l[i]
 | 0,b=>by have:=c _ (ud b);omega
 | i+1,b=>by
   have d:=lB h c i (by omega);have e:l[i]<l[i+1]:=List.pairwise_iff_getElem.1 h i (i+1) (by omega) b (by omega);omega
theorem gY{l:List Int}(h:l.Pairwise (·<·)){a:Int}{n:Nat}(b:∀v∈l,a<=v/\v<a+n):l.length<=n:=by
 by_cases e:l.length=0
 ·omega
 ·have d:=lB h (λv c=>(b v c).1) (l.length-1) (by omega);have f:=(b _ (ud (by omega:l.length-1<l.length))).2;omega
theorem rh:∀j:Bool,∀i:Fin (G3 j).length,(G3 j)[i].Kind≠3/\((G3 j)[i].Kind=2->1<=i.val):=by decide
theorem sk(j:Bool){i:Nat}(a:i<(G3 j).length):(G3 j)[i].Kind≠3/\((G3 j)[i].Kind=2->1<=i):=rh j ⟨i,a⟩
theorem DS.from_(k:DS s):∃n:Nat,2<=n/\n<=3/\s.A.length<=n+3/\∀(i:Nat)(c:i<s.A.length),(Dl s.A[i]->n<=i)/\(IR s.A[i]->1<=i/\i<n):=by
 obtain⟨j,d,e,o,p,l⟩:=k.cols;have f:=MN j;refine⟨(G3 j).length,f.1,f.2,by rw[e,uV];omega,λi c=>?_⟩;have g:s.A.length=(G3 j).length+d.length:=by grind
 by_cases b:i<(G3 j).length
 ·have a:s.A[i]?=(G3 j)[i]?:=by rw[e,ut b]
  rw[P3 c,P3 b]at a;rw[uc a];have hk:=sk j b;exact⟨λh=>absurd h.kind hk.1,λh=>⟨hk.2 h.kind,b⟩⟩
 ·have a:s.A[i]?=d[i-(G3 j).length]?:=by rw[e,uq (by omega)]
  rw[P3 c,P3 (by grind)]at a;rw[uc a];have m:=(l (i-(G3 j).length) (by omega)).1;exact⟨λ_=>by omega,λh=>by have:=h.kind;rw[m.kind]at this;cases this⟩
theorem aR(c:DS s):Ok (C0 s 3) λl=>l≠[]/\l.length<=3/\l.Pairwise (·<·)/\∀v∈l,IM s v:=by
 obtain⟨n,d,e,f,g⟩:=c.from_;refine((X4 c).and (ce c 3)).mono λl b=>⟨b.1.1,gY b.2 (a:=n) λv h=>?_,b.2,b.1.2.2⟩;grind
theorem jx(c:DS s):Ok (C0 s 2) λl=>l≠[]/\l.length<=3/\l.Pairwise (·<·)/\∀v∈l,IC s v:=by
 obtain⟨n,d,e,f,g⟩:=c.from_;refine((X3 c).and (ce c 2)).mono λl b=>⟨b.1.1,gY b.2 (a:=1) λv h=>?_,b.2,b.1.2.2⟩;grind
theorem Zn(l:DS s){m:List Int}(C:1<=m.length)(D:m.length<=3)(t:m.Pairwise (·<·))(u:∀v∈m,IC s v){c:Ab}(x:IT c):Ok (P.iter (λd h=>F4 m s (λ_ w b=>some (b,w)) d h.1 h.2.1 h.2.2) A9 (0,c,[])) λr=>IT r.2/\OX s r.1:=by
 refine y8 (λq=>q.1) m.length (λk q=>IT q.2.1/\q.2.2.map (·.B)=m.take k/\∀p∈q.2.2,IC s p.B/\MC s p) 0 (ug _) rfl ⟨x,rfl,λp hp=>by cases hp⟩ (by omega) (λrec q j a=>?_) λrec k q hk j a ih=>?_
 ·simp only[F4,j];have e:=a.2.1;rw[uS]at e;have E:q.2.2.length=m.length:=by grind
  exact Ok.f (y3 ⟨a.1,by show 1<=q.2.2.length;omega,by show q.2.2.length<=3;omega,a.2.2,by show(q.2.2.map (·.B)).Pairwise _;rw[e];exact t⟩)
 ·have n:q.2.2.length<=10:=by have:=congrArg List.length a.2.1;rw[ua,uO]at this;omega
  simp only[F4,j];refine Ok.t (y5 hk (y5 hk ?_));have y:=u _ (ud hk);obtain⟨i,e,f,g,A⟩:=id y;have F:=l.fin_ok f g;have B:i64.wrap (fin s i+1)=fin s i+1:=wr;rw[e];refine qr (l.rfinest f g) ?_;rw[B];refine(Ey a.1 (by omega) (by omega)).bind λz o=>Ok.rm (by grind) (ih _ C7 ⟨o.1,?_,λp hp=>?_⟩)
  ·show(q.2.2++[_]).map _=_;rw[uI,a.2.1,ui hk,e];rfl
  ·rcases List.mem_append.1 hp with hp|hp
   ·grind
   ·rw[List.mem_singleton.1 hp];exact⟨⟨i,rfl,f,g,A⟩,i,f,g,rfl,o.2.1,by show z.1<=_;omega⟩
theorem fb{c:Ab}(g:IT c)(b:DS s):Ok (De c s) λr=>IT r.2/\OX s r.1:=by
 unfold De;refine(jx b).bind λl ⟨d,h,e,f⟩=>(QZ g (by omega) (by omega)).bind λy hy=>?_;have a:=List.length_pos_iff.2 d;refine y6 (λ_=>(Ey hy (by omega) (by omega)).bind λz i=>yb (by omega) ?_) λ_=>Zn b a h e f hy;exact Zn b (m:=M1 l z.1 (l.length:Int)) (by unfold M1;rw[uO,vS];omega) (by unfold M1;rw[uO,vS];omega) (e.sublist ((List.take_sublist _ _).trans (List.drop_sublist _ _))) (λv j=>f v (vL (vz j))) i.1
theorem eh{c:Ab}(w:IT c)(x:DS s)(m:Int):Ok (GD c s m) λr=>IT r.2/\(1<=r.1.length->Ns s m r.1):=by
 unfold GD;refine Ok.bind (aR x) λl n=>?_;obtain⟨_,n,y,A⟩:=n;refine y8 (λq=>q.1) l.length (λk q=>IT q.2.1/\List.Sublist q.2.2 (l.take k)/\∀v∈q.2.2,v≠m) 0 (ug _) rfl ⟨w,List.nil_sublist _,λv i=>by cases i⟩ (by omega) (λrec q o p=>?_) λrec k q hk o p ih=>?_
 ·simp only[G6,o];rw[CW];obtain⟨f,d,j⟩:=p;rw[uS]at d;exact y3 ⟨f,λhp=>⟨hp,uK d.length_le n,λv i=>⟨A v (d.subset i),j v i⟩,y.sublist d⟩⟩
 ·obtain⟨f,d,j⟩:=p;have g:=d.length_le;rw[uO]at g;have t:q.2.2.length<=3:=by omega
  have a:List.Sublist q.2.2 (l.take (k+1)):=by grind
  have b:List.Sublist (q.2.2++[l[k]]) (l.take (k+1)):=by
   rw[ui hk];exact d.append (List.Sublist.refl _)
  have h:∀e:(l[k] != m)=true,∀v∈q.2.2++[l[k]],v≠m:=by grind
  simp only[G6,o];rw[Cg];refine y5 hk (y6 (λe=>y6 (λ_=>y5 hk (Ok.rm (by grind) (ih _ C7 ⟨f,b,h e⟩))) λ_=>Ok.bind (QZ f (by omega) (by omega)) λz u=>y6 (λ_=>y5 hk (Ok.rm (by simp;omega) (ih _ C7 ⟨u,b,h e⟩))) λ_=>ih _ C7 ⟨u,a,j⟩) λ_=>ih _ C7 ⟨f,a,j⟩)
theorem mq(a:DS s){c:Ab}(b:IT c)(k:Nat)(hk:k<=3){d:Nat}(hd:3<d):Ok (CI d c s k) λr=>IT r.2/\GC s r.1:=(io a k d b (by omega) (by omega)).mono λr hr=>⟨hr.1,GC.drawn hr.2 hk⟩
theorem L1{α β:Type}{l:List α}{i:Int}{f g:α->Option β}(h:∀x∈l,f x=g x):(idx l i).bind f=(idx l i).bind g:=by
 cases e:idx l i with
 | none=>rfl
 | some x =>
   have:x∈l:=by
    unfold idx at e;grind
   grind
def aU(i:Nat)(k:Int):Ad:={ Op:=2,B:=i,Z:=k,C:=0,D:=0,H:=[] }
def Xw(L:Aj)(k v:Int):Option Int:=(Fb L v k).bind λx=>(Cy x).bind λy=>some y
def lD(L:Aj)(k v:Int):Option Int:=(Mr L v k).bind λx=>bif x then some 1 else some (-1)
def tC(L:Aj)(k v:Int):Int:=(Xw L k v).getD 0
def sB(L:Aj)(l k:Int)(rec1:(Int×List (Int×Int))->Option Bool)(v:Int)(b:List (Int×Int)):Option Bool :=
 bif(decide (v<((Bu L).length:Int)))then
  (idx (Bu L) v).bind λx43=>(Hp L x43 l).bind λx48=>(Xw L k x43).bind λx52 =>
  bif(bif((JY x48 b).isSome)then(((JY x48 b).getD 0) != x52)else false)then some false else rec1 ((i64.wrap (v+1)),(VD x48 x52 b))
 else some true
def Oh(L:Aj)(k l:Int):Option Bool:=iter (λrec1 s=>sB L l k rec1 s.1 s.2) A9 (0,[])
def tJ(L:Aj)(l k v9:Int)(kont:Int->Option Bool)(rec2:Int->Option Bool)(v10:Int):Option Bool :=
 bif(decide (v10<v9))then
  (idx (Bu L) v9).bind λx44=>(some (cv L l x44)).bind λx46=>(idx (Bu L) v10).bind λx53=>(some (cv L l x53)).bind λx55 =>
  bif(x46==x55)then
   (idx (Bu L) v9).bind λx62=>(lD L k x62).bind λx64=>(idx (Bu L) v10).bind λx69=>(lD L k x69).bind λx71 =>
   bif(x64 != x71)then some false else rec2 (i64.wrap (v10+1))
  else rec2 (i64.wrap (v10+1))
 else kont v10
def oT(L:Aj)(k l:Int):Option Bool:=iter (λrec1 v9=>bif(decide (v9<((Bu L).length:Int)))then iter (λrec2 s=>tJ L l k v9 (λ_=>rec1 (i64.wrap (v9+1))) rec2 s) A9 0 else some true) A9 0
def rD(L:Aj)(l v:Int):Int:=((ZD L l (cv L l v)).getD (0,false)).1
def jY(L:Aj):List Int:=(List.range (Gl L).toNat).map λl:Nat=>(l:Int)
def tY(L:Aj):List Int:=(List.range L.Q.length).map λl:Nat=>(l:Int)
def dD(L:Aj)(k l:Int):Bool :=
 (Oh L k l==oT L k l)&&(Oh L k l).isSome&&(bif Oh L k l==some true then
  ((Bu L).all λv=>Xw L k v==some (tC L k v)&&Xw L k (rD L l v)==some (tC L k v)) &&
  ((jY L).all λl'=>decide (l'<l)||Oh L k l'==some true)else true)
theorem Tf:(Sc.all λL=>((Bu L).all λv=>cv L 0 v==0)&&(tY L).all λk=>(Oh L k (Gl L-1)==some true)&&(jY L).all λl=>dD L k l)=true:=by decide +kernel
theorem nj{i:Nat}(b:i<s.A.length){L:Aj}(a:idx s.K s.A[i].Ak=some L)(k v:Int):Bl s (aU i k) v=Xw L k v:=by
 unfold Bl;show(idx s.A (i:Int)).bind _=_;rw[Cf b,ue,a];rfl
theorem s7{i:Nat}(b:i<s.A.length){L:Aj}(a:idx s.K s.A[i].Ak=some L)(k v:Int):EM s (aU i k) v=lD L k v:=by
 unfold EM;show(idx s.A (i:Int)).bind _=_;rw[Cf b,ue,a];rfl
theorem sx{i:Nat}(c:i<s.A.length){L:Aj}(e:L∈Sc)(b:idx s.K s.A[i].Ak=some L)(k l:Int):AB s (aU i k) l=Oh L k l:=by
 have a:=Kd e;have f:=a.lev2;have g:=a.lev3;unfold AB;show(idx s.A (i:Int)).bind _=_;rw[Cf c,ue];show(idx s.K s.A[i].Ak).bind _=_;rw[b,ue,a.lev,ue,wr,a.leaves,ue];unfold Oh;congr 1;funext d h;unfold FF sB;simp only[nj c b]
theorem rleaves{i:Nat}(c:i<s.A.length){L:Aj}(d:L∈Sc)(b:idx s.K s.A[i].Ak=some L):D6 s i=some (Bu L):=by
 have a:=Kd d;have e:=a.lev2;have f:=a.lev3;unfold D6;rw[Cf c,ue,b,ue,a.rlev,ue,wr,a.rleaves];rfl
theorem mH{i:Nat}{d:i<s.A.length}(h:IR s.A[i]){L:Aj}(b:L∈Sc)(a:idx s.K s.A[i].Ak=some L){v:Int}(c:v∈Bu L):WG s s.A[i] v:=.inr (.inl ⟨h.kind,L,b,a,c⟩)
theorem Nk(d:DS s){i:Nat}(e:1<=i)(f:i<s.A.length)(h:IR s.A[i]){L:Aj}(g:L∈Sc)(a:idx s.K s.A[i].Ak=some L){l v:Int}(b:0<=l)(c:l<=fin s i)(j:v∈Bu L):BL s i l v=some (cv L l v):=by
 rw[UQ d e f b c (mH h g a j),On h a]
theorem t7(f:DS s){i:Nat}(g:1<=i)(b:i<s.A.length)(h:IR s.A[i]){L:Aj}(e:L∈Sc)(a:idx s.K s.A[i].Ak=some L)(k:Int){l:Int}(c:0<=l)(d:l<=fin s i):Cd s (aU i k) l=oT L k l:=by
 unfold Cd;show(idx s.A (i:Int)).bind _=_;rw[Cf b,ue];show(D6 s (i:Int)).bind _=_;rw[rleaves b e a,ue];unfold oT;congr 1;funext j o;unfold LC;congr 2;funext m n;unfold LD tJ;congr 1;refine L1 λx hx=>?_;show(BL s (i:Int) l x).bind _=_;rw[Nk f g b h e a c d hx];simp only[ue];refine L1 λy hy=>?_;show(BL s (i:Int) l y).bind _=_;rw[Nk f g b h e a c d hy];simp only[ue,s7 b a]
theorem cM{i:Nat}(b:i<s.A.length)(h:IR s.A[i]){L:Aj}(a:idx s.K s.A[i].Ak=some L):fin s i=Gl L-1:=by rw[EY b,GH h a]
structure CF(L:Aj)(k l:Int):Prop where
 same:Oh L k l=oT L k l
 ex:∃b,Oh L k l=some b
 val:Oh L k l=some true->∀v∈Bu L,Xw L k v=some (tC L k v)/\Xw L k (rD L l v)=some (tC L k v)
 up:Oh L k l=some true->∀l',l<=l'->l'<Gl L->Oh L k l'=some true
theorem cf{L:Aj}(d:L∈Sc){k l:Int}(m:0<=k)(n:k<L.Q.length)(f:0<=l)(g:l<Gl L):CF L k l:=by
 have h:=List.all_eq_true.1 Tf L d;rw[vi]at h;have h:=List.all_eq_true.1 h.2 k (List.mem_map.2 ⟨k.toNat,List.mem_range.2 (by omega),by omega⟩);rw[vi]at h;have c:∀{l:Int},0<=l->l<Gl L->l∈jY L:=λa b=>List.mem_map.2 ⟨_,List.mem_range.2 (by omega),wt a⟩;have h:=List.all_eq_true.1 h.2 l (c f g);unfold dD at h;simp only[vi,wU]at h;obtain⟨⟨i,j⟩,o⟩:=h;refine⟨i,Option.isSome_iff_exists.1 j,λe v p=>?_,λe q a b=>?_⟩
 all_goals grind
theorem qR{L:Aj}(a:L∈Sc){k:Int}(b:0<=k)(c:k<L.Q.length):Oh L k (Gl L-1)=some true:=by
 have h:=List.all_eq_true.1 Tf L a;rw[vi]at h;have h:=List.all_eq_true.1 h.2 k (List.mem_map.2 ⟨k.toNat,List.mem_range.2 (by omega),by omega⟩);grind
theorem oS{L:Aj}(a:L∈Sc){v:Int}(b:v∈Bu L):cv L 0 v=0:=by
 have h:=List.all_eq_true.1 Tf L a;grind
def aB(i:Nat)(lo hi:Int):Ad:={ Op:=3,B:=i,Z:=0,C:=lo,D:=hi,H:=[] }
def aM(i:Nat):Ad:={ Op:=4,B:=i,Z:=0,C:=0,D:=0,H:=[] }
def SF(c:As)(lo hi l:Int):Prop :=
 (l=0->c.Al=false)/\(lo<=c.D->c.C<=hi->(l=0->lo<=c.C/\c.D<=hi)/\(l≠0->(lo<=c.C\/lo%Fa c l=0)/\(c.D<=hi\/(hi+1)%Fa c l=0)))
theorem bS{n w:Int}(b:1<=w)(a:w<=1000000)(c:-100000000<=n)(d:n<=100000000):C9 n w=some (n-n%w):=LO b a c d
theorem qT{c:As}(h:Dl c){l:Int}(a:1<=l)(b:l<=c.N.length):EJ c l=some (Fa c l):=by unfold EJ;rw[Xg h a b];rfl
theorem rA{i:Nat}(u:i<s.A.length)(h:Dl s.A[i]){lo a l:Int}(a0:-1000000<=lo)(B:lo<=a)(C:a<=1000000)(D:0<=l)(p:l<=s.A[i].N.length):Ok (AB s (aB i lo a) l) λb=>(b=true↔SF s.A[i] lo a l):=by
 obtain⟨E,F⟩:=h.low;obtain⟨G,H⟩:=h.high;unfold AB;refine y5 u (y4 rfl (y6 (λe=>y3 ?_) λe=>y4 rfl ?_))
 ·have k:l=0/\s.A[i].Al=true:=by
   by_cases d:l=0
   ·subst d;exact⟨rfl,e⟩
   ·have:(l==0)=false:=by simpa using d
    rw[this]at e;cases e
  refine⟨(λx=>by cases x),λx=>?_⟩;have:=x.1 k.1;rw[k.2]at this
  cases this
 have k:l=0->s.A[i].Al=false:=by
  intro d;subst d;exact e
 show Ok (bif decide ((if s.A[i].C>lo then s.A[i].C else lo)>(if s.A[i].D<a then s.A[i].D else a))then some true else bif(l==0)then some (bif((if s.A[i].C>lo then s.A[i].C else lo)==s.A[i].C)then((if s.A[i].D<a then s.A[i].D else a)==s.A[i].D)else false)else _) _;have hx:(if s.A[i].C>lo then s.A[i].C else lo)=max s.A[i].C lo:=by split<;>omega
 have o:(if s.A[i].D<a then s.A[i].D else a)=min s.A[i].D a:=by split<;>omega
 simp only[show(aB i lo a).C=lo from rfl,show(aB i lo a).D=a from rfl,hx,o];generalize s.A[i]=c at *;refine y9 (λv=>y3 ⟨λ_=>⟨k,λ_ _=>by omega⟩,λ_=>rfl⟩) λv=>y6 (λd=>y3 ?_) λd=>?_
 ·have d:l=0:=by simpa using d
  constructor
  ·intro m;refine⟨k,λ_ _=>⟨λ_=>?_,λo=>absurd d o⟩⟩;by_cases g:max c.C lo=c.C
   ·rw[g,wA,uY]at m;have:=(beq_iff_eq.1 m);omega
   ·have:(max c.C lo==c.C)=false:=by simpa using g
    rw[this]at m;cases m
  ·intro n;have:=(n.2 (by omega) (by omega)).1 d;rw[show max c.C lo=c.C by omega,show min c.D a=c.D by omega,wA,wA];rfl
 ·have d:l≠0:=by simpa using d
  have r:=Fw h (l:=l) (by omega) p
  have key:∀b:Bool,(b=true↔(lo<=c.C\/lo%Fa c l=0)/\(c.D<=a\/(a+1)%Fa c l=0))->(b=true↔SF c lo a l):=by
   intro b m;rw[m];exact⟨λn=>⟨k,λ_ _=>⟨λt=>absurd t d,λ_=>n⟩⟩,λn=>(n.2 (by omega) (by omega)).2 d⟩
  have w:c.D<=a->(min c.D a==c.D)=true:=λt=>by rw[show min c.D a=c.D by omega,wA]
  refine qr (qT h (by omega) p) ?_;have y:i64.wrap (min c.D a+1)=min c.D a+1:=wr;have z:C9 (min c.D a+1) (Fa c l)=some (min c.D a+1-(min c.D a+1)%Fa c l):=bS r.1 (by omega) (by omega) (by omega);have A:C9 (max c.C lo) (Fa c l)=some (max c.C lo-max c.C lo%Fa c l):=bS r.1 (by omega) (by omega) (by omega);rw[y,z,A];refine y6 (λg=>?_) λg=>?_
  ·have g:max c.C lo=c.C:=by simpa using g
   refine y6 (λf=>y3 (key _ ?_)) λf=>qr rfl (y3 (key _ ?_))
   ·have f:min c.D a=c.D:=by simpa using f
    exact⟨λ_=>⟨.inl (by omega),.inl (by omega)⟩,λ_=>rfl⟩
   ·have f:min c.D a≠c.D:=by simpa using f
    rw[show min c.D a=a by omega,wU];constructor
    ·intro q;exact⟨.inl (by omega),.inr (by omega)⟩
    ·rintro⟨_,q|q⟩<;>omega
  ·have g:max c.C lo≠c.C:=by simpa using g
   rw[show max c.C lo=lo by omega];refine qr rfl (y6 (λj=>y6 (λf=>y3 (key _ ?_)) λf=>qr rfl (y3 (key _ ?_))) λj=>y3 (key _ ?_))
   ·have f:min c.D a=c.D:=by simpa using f
    have j:=beq_iff_eq.1 j;exact⟨λ_=>⟨.inr (by omega),.inl (by omega)⟩,λ_=>rfl⟩
   ·have f:min c.D a≠c.D:=by simpa using f
    have j:=beq_iff_eq.1 j;rw[show min c.D a=a by omega,wU];constructor
    ·intro q;exact⟨.inr (by omega),.inr (by omega)⟩
    ·rintro⟨_,q|q⟩<;>omega
   ·have j:¬(lo-lo%Fa c l=lo):=by simpa using j
    constructor
    ·intro q;cases q
    ·rintro⟨q|q,_⟩<;>omega
theorem sA{i:Nat}(u:i<s.A.length)(h:Dl s.A[i]){lo a l:Int}(a0:-1000000<=lo)(A:lo<=a)(B:a<=1000000)(C:0<=l)(t:l<=s.A[i].N.length):Ok (Cd s (aB i lo a) l) λb=>(b=true↔SF s.A[i] lo a l):=by
 obtain⟨D,E⟩:=h.low;obtain⟨H,I⟩:=h.high;unfold Cd;refine y5 u (y4 rfl (y4 rfl ?_));simp only[show(aB i lo a).C=lo from rfl,show(aB i lo a).D=a from rfl];generalize s.A[i]=c at *;have v:∀b:Bool,(bif decide (lo>c.C)then decide (lo<=c.D)else false)=b->(b=true↔lo>c.C/\lo<=c.D):=by grind
 have w:∀b:Bool,(bif decide (a>=c.C)then decide (a<c.D)else false)=b->(b=true↔a>=c.C/\a<c.D):=by grind
 generalize j:(bif decide (lo>c.C)then decide (lo<=c.D)else false)=F at *;generalize k:(bif decide (a>=c.C)then decide (a<c.D)else false)=G at *;have j:=v F rfl;have k:=w G rfl;refine y6 (λd=>y3 ?_) λd=>?_
 ·have d:l=0:=by simpa using d
  subst d
  cases ho:c.Al<;>cases F<;>cases G<;>simp at j k ⊢
  all_goals first
   | (intro e;exact absurd (ho.symm.trans (e.1 rfl)) (by decide))
   | (intro e;have:=(e.2 (by omega) (by omega)).1 rfl;omega)
   | exact⟨λ_=>ho,λ_ _=>⟨λ_=>by omega,λx=>absurd rfl x⟩⟩
 ·have d:l≠0:=by simpa using d
  have y:=Fw h (l:=l) (by omega) t
  have key:∀b:Bool,(b=true↔(lo<=c.D->c.C<=a->(lo<=c.C\/lo%Fa c l=0)/\(c.D<=a\/(a+1)%Fa c l=0)))->(b=true↔SF c lo a l):=by
   intro b z;rw[z];exact⟨λe=>⟨λm=>absurd m d,λp q=>⟨λm=>absurd m d,λ_=>e p q⟩⟩,λe p q=>(e.2 p q).2 d⟩
  have tm:∀n:Int,(Int.tmod n (Fa c l)==0)=true↔n%Fa c l=0:=by
   intro n;have:=TJ n y.1;have J:=vO n (by omega:Fa c l≠0);have K:=vN n (by omega:0<Fa c l);rw[wU];exact⟨λq=>by omega,λq=>Int.tmod_eq_zero_of_dvd (Int.dvd_of_emod_eq_zero q)⟩
  refine qr (gp h (by omega) t) ?_;rw[wr (n:=a+1) (by omega) (by omega)];have f:Fa c l≠0:=by omega
  refine y6 (λo=>y6 (λg=>y3 (key _ ?_)) λg=>yb f (y3 (key _ ?_))) λo=>yb f (y6 (λr=>y6 (λg=>y3 (key _ ?_)) λg=>yb f (y3 (key _ ?_))) λr=>y3 (key _ ?_))
  ·grind
  ·cases F<;>cases G<;>simp at j k o g
   rw[tm];grind
  ·grind
  ·have r:=(tm lo).1 r
   cases F<;>cases G<;>simp at j k o g
   rw[tm];grind
  ·grind
theorem rB{i:Nat}(a:i<s.A.length)(h:Dl s.A[i])(ho:s.A[i].Al=true){l:Int}(b:0<=l):AB s (aM i) l=some (decide (l>0)):=by
 refine Ok.val ?_;unfold AB;refine y5 a (y4 rfl (y6 (λe=>y3 ?_) λe=>y7 rfl (y3 ?_)))
 all_goals grind
theorem sD{i:Nat}(a:i<s.A.length)(l:Int):Cd s (aM i) l=some (decide (l>0)):=by
 refine Ok.val ?_;unfold Cd;exact y5 a (y4 rfl (y7 rfl (y3 rfl)))
theorem SF.up{c:As}(h:Dl c){lo g l d:Int}(k:SF c lo g l)(t:0<=l)(f:l<=d)(m:d<=c.N.length):SF c lo g d:=by
 obtain⟨o,r⟩:=k;refine⟨λi=>o (by omega),λp q=>?_⟩;obtain⟨t1,t2⟩:=r p q;refine⟨λi=>t1 (by omega),λi=>?_⟩;by_cases e:l=0
 ·grind
 ·obtain⟨u,v⟩:=t2 e;have j:=Xh h (a:=d) (b:=l) (by omega) f m;generalize Fa c d=x at *;generalize Fa c l=y at *;simp only[w9,wQ,or_false,Prod.mk.injEq]at j
  have dv:∀n:Int,n%y=0->n%x=0:=by
   intro n w;rcases j with⟨rfl,rfl⟩|⟨rfl,rfl⟩|⟨rfl,rfl⟩|⟨rfl,rfl⟩|⟨rfl,rfl⟩|⟨rfl,rfl⟩|⟨rfl,rfl⟩|⟨rfl,rfl⟩|⟨rfl,rfl⟩|⟨rfl,rfl⟩|⟨rfl,rfl⟩|⟨rfl,rfl⟩|⟨rfl,rfl⟩|⟨rfl,rfl⟩|⟨rfl,rfl⟩<;>omega
  grind
theorem SF.fin{c:As}(h:Dl c)(lo a:Int):SF c lo a c.N.length:=by
 have:=Dc h;refine⟨λb=>by omega,λ_ _=>⟨λb=>by omega,λ_=>?_⟩⟩;rw[Xf h];grind
theorem SF.sem{c:As}(h:Dl c){lo d l v:Int}(i:SF c lo d l)(j:lo<=d)(n:0<=l)(f:l<=c.N.length)(o:c.C<=v/\v<=c.D):(lo<=YF c l v/\YF c l v<=d)↔(lo<=v/\v<=d):=by
 obtain⟨r,t⟩:=h.low;obtain⟨u,w⟩:=h.high;obtain⟨y,g⟩:=i;unfold YF;by_cases e:l=0
 ·rw[uk e];by_cases p:lo<=c.D
  ·by_cases q:c.C<=d
   ·have:=(g p q).1 e;omega
   ·omega
  ·omega
 ·rw[uo e];have k:=Xh h (a:=l) (b:=l) (by omega) (uU _) f;by_cases p:lo<=c.D
  ·by_cases q:c.C<=d
   ·have:=(g p q).2 e;generalize Fa c l=x at *;simp only[w9,wQ,or_false,Prod.mk.injEq,and_self]at k;rcases(by omega:x=1\/x=2\/x=4\/x=5\/x=12\/x=20)with rfl|rfl|rfl|rfl|rfl|rfl<;>omega
   ·have:=Fw h (l:=l) (by omega) f;have m:=vO v (by omega:Fa c l≠0);omega
  ·have:=Fw h (l:=l) (by omega) f;have m:=vO v (by omega:Fa c l≠0);have z:=vN v (by omega:0<Fa c l);omega
structure AT(s:Aa)(a:Ad)(i:Nat)(S:Int->Prop):Prop where
 col:a.B=(i:Int)
 i0:1<=i
 i1:i<s.A.length
 op:a.Op=2\/a.Op=3\/a.Op=4
 p:∀l,0<=l->l<=fin s i->Ok (AB s a l) λb=>(b=true↔S l)
 r:∀l,0<=l->l<=fin s i->Ok (Cd s a l) λb=>(b=true↔S l)
 up:∀l l',0<=l->S l->l<=l'->l'<=fin s i->S l'
 last:S (fin s i)
 sem:∀(hi:i<s.A.length)(l:Int),0<=l->l<=fin s i->S l->∀v,WG s s.A[i] v->∃u,B3 s i l (CV s s.A[i] l v)=some (u,true)/\Bl s a u=Bl s a v
theorem lC(z:DS s){i:Nat}(x:1<=i)(f:i<s.A.length)(h:IR s.A[i]){L:Aj}(c:L∈Sc)(a:idx s.K s.A[i].Ak=some L){k:Int}(g:0<=k)(j:k<L.Q.length):AT s (aU i k) i λl=>Oh L k l=some true:=by
 have A:=cM f h a;have o:=Kd c;have E:=o.lev2;refine⟨rfl,x,f,.inl rfl,λl d p=>?_,λl d p=>?_,λl B d q r C=>?_,?_,λ_ l d p q v n=>?_⟩
 ·rw[sx f c a];obtain⟨b,m⟩:=(cf c g j d (by omega)).ex;exact⟨b,m,by rw[m];exact⟨λe=>by rw[e],λe=>uc e⟩⟩
 ·rw[t7 z x f h c a k d p,<-(cf c g j d (by omega)).same];obtain⟨b,m⟩:=(cf c g j d (by omega)).ex;exact⟨b,m,by rw[m];exact⟨λe=>by rw[e],λe=>uc e⟩⟩
 ·exact(cf c g j d (by omega)).up q B r (by omega)
 ·show Oh L k (fin s i)=some true;rw[A];exact qR c g j
 ·have n:=n.code h a;obtain⟨D,t⟩:=(cf c g j d (by omega)).val q v n;obtain⟨_,w⟩:=PF c d (by omega);obtain⟨_,_,_,u,y⟩:=w v n;unfold rD at t;rw[y]at t;exact⟨u,by rw[On h a,V9 f h c a];exact y,by rw[nj f a,nj f a,D];exact t⟩
theorem pA{i:Nat}(c:i<s.A.length)(h:Dl s.A[i]){l v:Int}(d:0<=l)(a:l<=s.A[i].N.length)(b:s.A[i].C<=v/\v<=s.A[i].D):B3 s i l (mv s.A[i] l v)=some (YF s.A[i] l v,true):=by
 refine Ok.val ?_;unfold B3;refine y5 c (y7 (by rw[h.kind];rfl) (y4 ?_ (qr (iQ h d a b) (y3 rfl))));by_cases e:0<l
 ·rw[dt,uY,xg];exact(Pr h (by omega) a b).2.2.2.1
 ·grind
theorem pB{i:Nat}(a:i<s.A.length)(h:Dl s.A[i]){l:Int}(b:1<=l):B3 s i l C3=some (C3,s.A[i].Al):=by
 refine Ok.val ?_;unfold B3;exact y5 a (y7 (by rw[h.kind];rfl) (y7 (by rw[dt];rfl) (y3 rfl)))
theorem Ze{c:As}(h:Dl c){l v:Int}(b:0<=l)(a:l<=c.N.length)(d:c.C<=v/\v<=c.D):-4<=YF c l v/\YF c l v<=46:=by
 obtain⟨f,g⟩:=h.low;obtain⟨i,j⟩:=h.high;unfold YF;by_cases e:l=0
 ·grind
 ·rw[uo e];have:=Fw h (l:=l) (by omega) a;have k:=vO v (by omega:Fa c l≠0);omega
theorem mW(c:As){l:Int}(a:1<=l):mv c l C3=C3:=by unfold mv;rw[uo (by omega),uk rfl]
theorem po(c:As)(v:Int):mv c 0 v=0:=by unfold mv;rw[uk rfl]
theorem hX{i:Nat}(o:1<=i)(j:i<s.A.length)(h:Dl s.A[i]){a:Ad}{S:Int->Prop}(p:a.B=(i:Int))(ho:a.Op=2\/a.Op=3\/a.Op=4)
 (hp:∀l:Int,0<=l->l<=s.A[i].N.length->Ok (AB s a l) λb=>(b=true↔S l)) (hr:∀l:Int,0<=l->l<=s.A[i].N.length->Ok (Cd s a l) λb=>(b=true↔S l))
 (k:∀l f:Int,0<=l->S l->l<=f->f<=s.A[i].N.length->S f) (q:S s.A[i].N.length) (r:S 0->s.A[i].Al=false)
 (t:∀l:Int,0<=l->l<=s.A[i].N.length->S l->∀v,s.A[i].C<=v/\v<=s.A[i].D->Bl s a (YF s.A[i] l v)=Bl s a v):AT s a i S:=by
 have u:fin s i=s.A[i].N.length:=by rw[EY j,DI h]
 refine⟨p,o,j,ho,λl a b=>hp l a (by omega),λl a b=>hr l a (by omega),λl f a b c d=>k l f a b c (by omega),by rw[u];exact q,λ_ l n x w v m=>?_⟩;rw[P9 h];rcases m.meas h with e|⟨e,rfl⟩
 ·exact⟨_,pA j h n (by omega) e,t l n (by omega) w v e⟩
 ·have g:1<=l:=by
   grind
  exact⟨_,by rw[mW _ g,pB j h g,e],rfl⟩
theorem hZ(i:Nat)(lo a u:Int):Bl s (aB i lo a) u=some (if u=C3 then 0 else if lo<=u/\u<=a then 1 else -1):=by
 refine Ok.val ?_;unfold Bl;refine y4 rfl (y4 rfl (y6 (λe=>y3 ?_) λe=>?_))
 ·rw[uk (by rw[J8];simpa using e)]
 ·rw[uo (by rw[J8];simpa using e)];unfold Cy;by_cases q:lo<=u/\u<=a
  ·rw[uk q];refine qr (x:=1) ?_ (y3 rfl);show(bif(bif decide (u>=lo)then decide (u<=a)else false)then some 1 else some (-1))=some (1:Int);grind
  ·rw[uo q];refine qr (x:=-1) ?_ (y3 rfl);show(bif(bif decide (u>=lo)then decide (u<=a)else false)then some 1 else some (-1))=some (-1:Int);grind
theorem ia(i:Nat)(u:Int):Bl s (aM i) u=some (if u=C3 then 1 else -1):=by
 refine Ok.val ?_;unfold Bl;refine y4 rfl (y7 rfl ?_);unfold Cy;by_cases q:u=C3
 ·subst q;exact qr (x:=1) rfl (y3 rfl)
 ·rw[uo q];refine qr (x:=-1) ?_ (y3 rfl);have:(u==-1099511627776)=false:=by rw[xg];exact q
  grind
theorem eT{i:Nat}(n:1<=i)(f:i<s.A.length)(h:Dl s.A[i]){lo a:Int}(a0:-1000000<=lo)(g:lo<=a)(k:a<=1000000):AT s (aB i lo a) i (SF s.A[i] lo a):=by
 refine hX n f h rfl (.inr (.inl rfl)) (λl b c=>rA f h a0 g k b c) (λl b c=>sA f h a0 g k b c) (λl q b c d e=>c.up h b d e) (SF.fin h lo a) (λj=>j.1 rfl) λl b c j v m=>?_;have r:=Ze h b c m;obtain⟨t,u⟩:=h.low;obtain⟨w,x⟩:=h.high;have o:YF s.A[i] l v≠C3:=by rw[J8];omega
 have p:v≠C3:=by rw[J8];omega
 rw[hZ,hZ,uo o,uo p];simp only[j.sem h g b c m]
theorem oI{i:Nat}(g:1<=i)(a:i<s.A.length)(h:Dl s.A[i])(ho:s.A[i].Al=true):AT s (aM i) i λl=>l>0:=by
 have j:=Dc h;refine hX g a h rfl (.inr (.inr rfl)) (λl b c=>⟨_,rB a h ho b,decide_eq_true_iff⟩) (λl b c=>⟨_,sD a l,decide_eq_true_iff⟩) (λl o b c d e=>by omega) (by omega) (λf=>absurd f (by decide)) λl b c f v k=>?_;have p:=Ze h b c k;obtain⟨q,r⟩:=h.low;obtain⟨t,u⟩:=h.high;have m:YF s.A[i] l v≠C3:=by rw[J8];omega
 have n:v≠C3:=by rw[J8];omega
 rw[ia,ia,uo m,uo n]
theorem RC.at_(m:DS s){n:Nat}{c:Ad}(h:RC s n c)(ho:c.Op=2\/c.Op=3\/c.Op=4):∃i S,AT s c i S:=by
 cases h with
 | all=>rcases ho with e|e|e<;>cases e
 | and=>grind
 | or=>grind
 | not=>grind
 | under n i a b h L o d k f g=>exact⟨i,_,lC m a b h o d f g⟩
 | between n i a b h l u f g p=>exact⟨i,_,eT a b h f g p⟩
 | miss n i a b h j=>exact⟨i,_,oI a b h j⟩
def fJ(c:Ad):Bool:=(bif(bif(c.Op==2)then true else(c.Op==3))then true else(c.Op==4))
def Lm:Nat->Ad->List Ad
 | 0,_=>[]
 | d+1,c=>bif fJ c then[c]else c.H.flatMap (Lm d)
theorem Vm{α β:Type}{l:List α}{f:α->List β}{k:Nat}(hk:k<l.length):(l.take (k+1)).flatMap f=(l.take k).flatMap f++f l[k]:=by
 rw[ui hk,wO];simp
theorem cR{α β:Type}{l:List α}{f:α->List β}{b:Nat}(h:∀x∈l,(f x).length<=b):(l.flatMap f).length<=l.length*b:=by
 induction l with
 | nil=>simp
 | cons x r ih =>
   have a:=h x (by simp);have c:=ih λy hy=>h y (by simp[hy]);rw[vG,uV,vu,vD];omega
theorem TY:∀(n d:Nat){c:Ad},RC s n c->(Lm d c).length<=n+1
 | n,0,c,_=>by simp[Lm]
 | n,d+1,c,h=>by
   unfold Lm
   cases e:fJ c with
   | true=>simp
   | false =>
     obtain⟨ns,g,b,hk,a⟩:=h.sizes
     have:∀k,k<=c.H.length->((c.H.take k).flatMap (Lm d)).length<=sm (ns.take k):=by
      intro k
      induction k with
      | zero=>simp
      | succ k ih =>
        intro f;rw[Vm (by omega),Y3 (by omega),uV];have:=ih (by omega);have:=TY ns[k] d (hk k (by omega) (by omega));omega
     have:=this c.H.length (uh _);grind
theorem Xu(g:DS s):∀(n d:Nat){c:Ad},RC s n c->∀a∈Lm d c,∃i S,AT s a i S
 | n,0,c,_,a,b=>by simp[Lm]at b
 | n,d+1,c,h,a,b=>by
   unfold Lm at b
   cases e:fJ c with
   | true =>
     rw[e]at b;have b:a=c:=by grind
     subst b;exact h.at_ g (WW e)
   | false =>
     rw[e]at b;obtain⟨k,hk,f⟩:=List.mem_flatMap.1 b;obtain⟨m,_,hr⟩:=h.kids.2 k hk;exact Xu g m d hr a f
theorem nl:∀(n d:Nat){c:Ad},RC s n c->n<d->n<=39->Dd d c=some (Lm d c)
 | n,d+1,c,h,hd,hn=>by
   obtain⟨j,a⟩:=h.kids;refine Ok.val ?_;show Ok (D1 d (Dd d) c) _;unfold D1
   cases e:fJ c with
   | true=>exact y7 e (y3 (by unfold Lm;rw[e];rfl))
   | false =>
     have b:∀k∈c.H,(Lm d k).length<=40:=λk hk=>by
      obtain⟨m,l,hr⟩:=a k hk;have:=TY m d hr;omega
     refine y4 e ?_;refine y8 (λq=>q.1) c.H.length (λk q=>q.2=(c.H.take k).flatMap (Lm d)) 0 (ug _) rfl rfl (by omega) (λrec q g i=>?_) λrec k q hk g i ih=>?_
     ·simp only[GY,g,i,uS];rw[CW];exact y3 (by unfold Lm;rw[e];rfl)
     ·have hx:=ud hk;obtain⟨m,l,hr⟩:=a _ hx;have f:((c.H.take k).flatMap (Lm d)).length<=(c.H.take k).length*40:=cR λy hy=>b y (vz hy);rw[uO]at f;have:=b _ hx;simp only[GY,g,i];rw[Cg];exact y5 hk (qr (nl m d hr (by omega) (by omega)) (Ok.rm (by omega) (ih _ C7 (Vm hk).symm)))
theorem nD:∀(n d:Nat){c:Ad},RC s n c->n<d->n<=39->JM d c=some (Lm d c)
 | n,d+1,c,h,hd,hn=>by
   obtain⟨j,a⟩:=h.kids;refine Ok.val ?_;show Ok (Jd d (JM d) c) _;unfold Jd
   cases e:fJ c with
   | true=>exact y7 e (y3 (by unfold Lm;rw[e];rfl))
   | false =>
     have b:∀k∈c.H,(Lm d k).length<=40:=λk hk=>by
      obtain⟨m,l,hr⟩:=a k hk;have:=TY m d hr;omega
     refine y4 e ?_;refine y8 (λq=>q.1) c.H.length (λk q=>q.2=(c.H.take k).flatMap (Lm d)) 0 (ug _) rfl rfl (by omega) (λrec q g i=>?_) λrec k q hk g i ih=>?_
     ·simp only[Ky,g,i,uS];rw[CW];exact y3 (by unfold Lm;rw[e];rfl)
     ·have hx:=ud hk;obtain⟨m,l,hr⟩:=a _ hx;have f:((c.H.take k).flatMap (Lm d)).length<=(c.H.take k).length*40:=cR λy hy=>b y (vz hy);rw[uO]at f;have:=b _ hx;simp only[Ky,g,i];rw[Cg];exact y5 hk (qr (nD m d hr (by omega) (by omega)) (Ok.rm (by omega) (ih _ C7 (Vm hk).symm)))
theorem Xv:∀(n d a:Nat){c:Ad},RC s n c->n<d->n<a->Lm d c=Lm a c
 | n,d+1,a+1,c,h,hd,hd'=>by
   unfold Lm
   cases e:fJ c with
   | true=>rfl
   | false =>
     show c.H.flatMap (Lm d)=c.H.flatMap (Lm a);rw[List.flatMap_def,List.flatMap_def];congr 1;refine xh λk hk=>?_;obtain⟨m,b,hr⟩:=h.kids.2 k hk;exact Xv m d a hr (by omega) (by omega)
def S8(s:Aa)(a:Ad):Int:=(((List.range 6).find? λl:Nat=>AB s a (l:Int)==some true).getD 0:Nat)
theorem AT.least(j:DS s){a:Ad}{i:Nat}{S:Int->Prop}(h:AT s a i S):0<=S8 s a/\S8 s a<=fin s i/\S (S8 s a)/\∀l,0<=l->l<S8 s a->¬S l:=by
 have q:=j.fin_ok h.i0 h.i1
 have c:∀l:Nat,(l:Int)<=fin s i->((AB s a (l:Int)==some true)=true↔S l):=by
  intro l k;obtain⟨b,r,n⟩:=h.p l (by omega) k;grind
 unfold S8
 cases e:(List.range 6).find? λl:Nat=>AB s a (l:Int)==some true with
 | none =>
   have:=List.find?_eq_none.1 e (fin s i).toNat (List.mem_range.2 (by omega));exact absurd ((c _ (by omega)).2 (by rw[wt (by omega)];exact h.last)) this
 | some m =>
   obtain⟨o,t,d⟩:=List.find?_range_eq_some.1 e
   have f:(m:Int)<=fin s i:=by
    by_cases p:fin s i<m
    ·have:=d (fin s i).toNat (by omega);rw[(c _ (by omega)).2 (by rw[wt (by omega)];exact h.last)]at this
     cases this
    ·omega
   refine⟨wB m,f,(c m f).1 o,λl u g v=>?_⟩;have g:l<(m:Int):=g;have:=d l.toNat (by omega);grind
theorem AT.lvl_iff(c:DS s){a:Ad}{i:Nat}{S:Int->Prop}(h:AT s a i S){l:Int}(g:0<=l)(d:l<=fin s i):S l↔S8 s a<=l:=by
 obtain⟨e,j,f,k⟩:=h.least c;constructor
 ·grind
 ·intro b;exact h.up _ _ e f b d
def one(picks:List Ac)(i l:Int):Prop:=l<=0\/∃p∈picks,p.B=i/\l<=p.J
theorem Xb{picks:List Ac}{i a b:Int}:one picks i (if a>b then a else b)↔one picks i b/\one picks i a:=by
 unfold one;grind
theorem PG{picks r:List Ac}(h:∀p∈r,0<p.J):covers picks r=true↔∀p∈r,one picks p.B p.J:=by
 unfold covers;rw[w3];constructor
 ·intro b p hp;obtain⟨q,c,a⟩:=List.any_eq_true.1 (b p hp);by_cases e:q.B=p.B
  ·have:(q.B==p.B)=true:=by simpa using e
   rw[this,uY,decide_eq_true_eq]at a;exact .inr ⟨q,c,e,a⟩
  ·grind
 ·intro b p hp;rcases b p hp with d|⟨q,c,d,f⟩
  all_goals grind
structure NO(s:Aa)(l:List Ad)(r:List Ac):Prop where
 len:r.length<=100
 pos:∀p∈r,0<p.J
 iff:∀picks,(∀p∈r,one picks p.B p.J)↔∀a∈l,one picks a.B (S8 s a)
theorem NO.covers{l:List Ad}{r:List Ac}(h:NO s l r)(picks:List Ac):covers picks r=true↔∀a∈l,one picks a.B (S8 s a):=(PG h.pos).trans (h.iff picks)
theorem pneeds(x:DS s){n d:Nat}{c:Ad}(h:RC s n c)(hd:n<d)(H:n<=39/\DP 9 c):Ok (Bs d s c) (NO s (Lm d c)):=by
 have N:=x.cols_length;have O:=TY n d h;have A:=Xu x n d h;unfold Bs;refine qr (h.check x H hd) (y4 rfl (ye ?_ (qr (nl n d h hd H.1) ?_)))
 ·rw[dt,Wz (by omega)];rfl
 refine y8 (λq=>q.1) (Lm d c).length (λk q=>q.2.length=s.A.length/\∀picks,(∀(i:Nat)(r:i<q.2.length),one picks i q.2[i])↔∀a∈(Lm d c).take k,one picks a.B (S8 s a)) 0 (ug _) rfl ⟨by simp,λpicks=>?_⟩ (by omega) (λrec q u m=>?_) λrec k q hk u m ih=>?_
 ·refine⟨λ_ a l=>by simp at l,λ_ i r=>.inl ?_⟩;simp
 ·obtain⟨y,o⟩:=m;simp only[GZ,u];rw[CW];generalize q.2=lv at *;refine y8 (λq=>q.1) lv.length (λk q=>q.2.length<=k/\(∀p∈q.2,0<p.J)/\∀picks,(∀p∈q.2,one picks p.B p.J)↔∀(i:Nat)(r:i<lv.length),i<k->one picks i lv[i]) 0 (ug _) rfl ⟨uh _,(λp hp=>by cases hp),λpicks=>⟨λ_ i _ r=>by omega,λ_ p hp=>by cases hp⟩⟩ (by omega) (λrec q u m=>?_) λrec k q hk u m ih=>?_
  ·simp only[Ha,u];rw[CW];refine y3 ⟨by have:=m.1;omega,m.2.1,λpicks=>?_⟩;rw[m.2.2 picks];have:=o picks;grind
  ·obtain⟨U,P,C⟩:=m;simp only[Ha,u];rw[Cg];refine y5 hk (y9 (λhp=>Ok.rm (by grind) (ih _ C7 ⟨by simp;omega,λp g=>?_,λpicks=>?_⟩)) λhp=>ih _ C7 ⟨by show q.2.length<=k+1;omega,P,λpicks=>?_⟩)
   ·grind
   ·constructor
    ·intro f i r z;by_cases e:i=k
     ·subst e;exact f { B:=(i:Int),J:=lv[i] } (List.mem_append_right _ (List.mem_singleton.2 rfl))
     ·exact(C picks).1 (λp g=>f p (List.mem_append_left _ g)) i r (by omega)
    ·intro f p g;rcases List.mem_append.1 g with g|g
     ·exact(C picks).2 (λi r z=>f i r (by omega)) p g
     ·grind
   ·rw[C picks];constructor
    ·intro f i r z;by_cases e:i=k
     ·subst e;exact .inl (by omega)
     ·grind
    ·grind
 ·obtain⟨y,o⟩:=m;obtain⟨i,S,w⟩:=A _ (ud hk);obtain⟨Q,V,_,_⟩:=w.least x;have W:=x.fin_ok w.i0 w.i1;simp only[GZ,u];rw[Cg];refine y5 hk ?_;refine Ok.loop (λv=>0<=v/\v<=S8 s (Lm d c)[k]) (λv=>(S8 s (Lm d c)[k]-v).toNat) ⟨uU _,Q⟩ (by unfold A9;omega) λI v K ih2=>?_;simp only[J3];obtain⟨b,D,E⟩:=w.p v K.1 (by omega);have F:=w.lvl_iff x K.1 (by grind);refine qr D (y6 (λe=>?_) λe=>?_)
  ·have:¬S8 s (Lm d c)[k]<=v:=λG=>by
    grind
   have ev:i64.wrap (v+1)=v+1:=wr;grind
  ·have G:S8 s (Lm d c)[k]<=v:=F.1 (E.1 (by grind));have ev:v=S8 s (Lm d c)[k]:=by omega
   unfold Hb;have t:=w.col;have R:=w.i1;rw[t];refine y5 (by omega) (y5 (by omega) (ih _ C7 ⟨by show(q.2.set _ _).length=_;rw[w7];exact y,λpicks=>?_⟩));show(∀(j:Nat)(L:j<(q.2.set (i:Int).toNat _).length),one picks j (q.2.set (i:Int).toNat _)[j])↔_;rw[ui hk];simp only[uv];constructor
   ·intro f a l;rcases List.mem_append.1 l with l|l
    ·refine(o picks).1 (λj L=>?_) a l;have:=f j (by grind);rw[List.getElem_set]at this;by_cases T:i=j
     ·subst T;rw[uk rfl]at this;exact(Xb.1 this).1
     ·grind
    ·rw[vR]at l;subst l;have:=f i (by grind);rw[List.getElem_set,uk rfl]at this;rw[t,<-ev];exact(Xb.1 this).2
   ·intro f j L;have M:=(o picks).2 λa l=>f a (List.mem_append_left _ l);grind
def lk(picks:List Ac)(vals:List Int)(i:Int):Nat->Int×Int
 | 0=>(0,0)
 | k+1=>if(picks.getD k { B:=0,J:=0 }).B=i then((picks.getD k { B:=0,J:=0 }).J,vals.getD k 0)else lk picks vals i k
theorem i7{α:Type}{l:List α}{k:Nat}(hk:k<l.length)(z:α):l.getD k z=l[k]:=by grind
theorem iI{picks:List Ac}{vals:List Int}{i:Int}{k:Nat}(hk:k<picks.length)(a:k<vals.length):lk picks vals i (k+1)=if picks[k].B=i then(picks[k].J,vals[k])else lk picks vals i k:=by
 rw[lk,i7 hk,i7 a]
theorem dz{picks:List Ac}{vals:List Int}(a:picks.length<=vals.length)(i:Int):∀k,k<=picks.length->(lk picks vals i k=(0,0)/\∀(j:Nat)(b:j<picks.length),j<k->picks[j].B≠i)\/∃(j:Nat)(b:j<picks.length)(c:j<vals.length),picks[j].B=i/\lk picks vals i k=(picks[j].J,vals[j])
 | 0,_=>.inl ⟨rfl,λj _ h=>by omega⟩
 | k+1,hk=>by
   rw[iI (by omega) (by grind)];by_cases e:picks[k].B=i
   ·grind
   ·rw[uo e];rcases dz a i k (by omega)with⟨d,f⟩|d
    all_goals grind
def jm(s:Aa)(picks:List Ac)(vals row:List Int)(k:Nat):Prop:=row.length=s.A.length/\∀(i:Nat),1<=i->i<s.A.length->∃u ok,B3 s i (lk picks vals i k).1 (lk picks vals i k).2=some (u,ok)/\row[i]?=some u
theorem kO(G:DS s){x:Au}(hx:GX s x){r:List Int}(hr:r∈x.G)(c:Ad)(d:Nat):∃row,jm s x.E (r.drop 1) row x.E.length/\C8 d s c x.E (r.drop 1)=AE d c (λa0=>Ct a0 s row):=by
 have hc:=G.cols_length;have n:=(hx.rows _ hr).1;have W:=hx.picks_len G;have X:(r.drop 1).length=x.E.length:=by grind
 suffices H:Ok ((some ():Option Unit)) (λ_=>∃row,jm s x.E (r.drop 1) row x.E.length/\C8 d s c x.E (r.drop 1)=AE d c (λa0=>Ct a0 s row)) by
  obtain⟨_,_,h⟩:=H;exact h
 refine y3 ?_
 have w:∀m k (row:List Int),k+m=x.E.length->jm s x.E (r.drop 1) row k->∀g,m<g->∃b,jm s x.E (r.drop 1) b x.E.length /\
  iter (λy z=>FU x.E (r.drop 1) s (λK o=>(FI d s c o).bind λL=>some L) y z.1 z.2) g ((k:Int),row)=AE d c (λa0=>Ct a0 s b):=by
  intro m
  induction m with
  | zero =>
    intro k row hk a g p;obtain⟨g,rfl⟩:∃f,g=f+1:=⟨g-1,by omega⟩;refine⟨row,by rw[show x.E.length=k by omega];exact a,?_⟩;rw[L2];dsimp only;unfold FU;rw[CW];unfold FI;grind
  | succ m ih =>
    intro k row hk a g p;obtain⟨g,rfl⟩:∃f,g=f+1:=⟨g-1,by omega⟩;have l:k<x.E.length:=by omega
    have q:k<(r.drop 1).length:=by omega
    obtain⟨u,I⟩:=hx.valsP G hr k l q;obtain⟨i,q0,q1,M,_⟩:=hx.picks _ (ud l)
    have t:jm s x.E (r.drop 1) (row.set i u) (k+1):=by
     refine⟨by rw[w7];exact a.1,λj Y Z=>?_⟩;rw[iI l q];by_cases e:j=i
     ·subst e;rw[uk M];refine⟨u,true,by rw[<-M];exact I,?_⟩;rw[vk,uk rfl,uk (by rw[a.1];omega)]
     ·rw[uo (by grind)];obtain⟨S,A,T,U⟩:=a.2 j Y Z;grind
    obtain⟨b,N,O⟩:=ih (k+1) _ (by omega) t g (by omega);refine⟨b,N,?_⟩;rw[<-O];rw[L2];dsimp only;unfold FU;rw[Cg,Cf l,ue,Cf q,ue,I,ue,M];show(idx row (i:Int)).bind _=_;rw[Cf (by rw[a.1];omega),ue,C7,uv]
 have B:∀m k (row:List Int),1<=k->k+m=s.A.length->row.length=s.A.length->(∀i:Nat,1<=i->i<k->∃u ok,B3 s i 0 0=some (u,ok)/\row[i]?=some u)->∀g,m<g->∃b,jm s x.E (r.drop 1) b 0 /\
  iter (λC z=>ED s (λP v=>Ia x.E (r.drop 1) s d c v) C z.1 z.2) g ((k:Int),row)=Ia x.E (r.drop 1) s d c b:=by
  intro m
  induction m with
  | zero =>
    intro k row D hk n a g p;obtain⟨g,rfl⟩:∃f,g=f+1:=⟨g-1,by omega⟩;refine⟨row,⟨n,λi J V=>a i J (by omega)⟩,?_⟩;rw[L2];grind
  | succ m ih =>
    intro k row D hk n a g p;obtain⟨g,rfl⟩:∃f,g=f+1:=⟨g-1,by omega⟩;obtain⟨⟨u,ok⟩,I⟩:=ny G D (by grind)
    obtain⟨b,N,O⟩:=ih (k+1) (row.set k u) (by omega) (by omega) (by grind) (λi J V=>by
     by_cases e:i=k
     ·grind
     ·obtain⟨S,A,T,U⟩:=a i J (by omega);exact⟨S,A,T,by rw[vk,uo (λh=>e h.symm)];exact U⟩) g (by omega)
    refine⟨b,N,?_⟩;rw[<-O];rw[L2];dsimp only;unfold ED;rw[Cg,I,ue,Cf (by omega),ue,C7,uv]
 obtain⟨E,Q,he1⟩:=B (s.A.length-1) 1 (List.replicate s.A.length 0) (by omega) (by omega) (by simp) (λi J V=>by omega) A9 (by unfold A9;omega);obtain⟨F,R,he2⟩:=w x.E.length 0 E (by omega) Q A9 (by unfold A9;omega);refine⟨F,R,?_⟩;unfold C8;rw[dt,Wz (by omega)];grind
theorem gQ(b:DS s){i:Nat}(c:1<=i)(d:i<s.A.length){v:Int}(e:WG s s.A[i] v):CV s s.A[i] 0 v=0:=by
 rcases b.col c d with h|h
 ·obtain⟨L,f,a⟩:=b.clist h;rw[On h a];exact oS f (e.code h a)
 ·rw[P9 h];exact po _ _
theorem Y4{f g:Ad->Option Int}:∀(n d:Nat){c:Ad},RC s n c->n<d->(∀a∈Lm d c,f a=g a)->AE d c f=AE d c g
 | n,d+1,c,h,hd,ha=>by
   show Dm d (AE d) c f=Dm d (AE d) c g;unfold Dm
   cases e:fJ c with
   | true =>
     have ho:=WW e;have:=ha c (by unfold Lm;rw[e];simp);grind
   | false =>
     have ih:∀k∈c.H,AE d k f=AE d k g:=λk hk=>by
      obtain⟨m,j,hr⟩:=h.kids.2 k hk;exact Y4 m d hr (by omega) λa i=>ha a (by unfold Lm;rw[e];exact List.mem_flatMap.2 ⟨k,hk,i⟩)
     cases h with
     | all=>rfl
     | under=>cases e
     | between=>cases e
     | miss=>cases e
     | and n na nb hnn a b ha' hb' =>
       show(AE d a f).bind _=(AE d a g).bind _;rw[ih a (by simp)];refine congrArg _ (funext λx=>?_);show(AE d b f).bind _=(AE d b g).bind _;grind
     | or n na nb hnn a b ha' hb' =>
       show(AE d a f).bind _=(AE d a g).bind _;rw[ih a (by simp)];refine congrArg _ (funext λx=>?_);show(AE d b f).bind _=(AE d b g).bind _;grind
     | not n na hnn a ha' =>
       show(AE d a f).bind _=(AE d a g).bind _;grind
def AP(s:Aa)(p:List Ac)(w r:List Int):Prop:=r.length=p.length+1/\∀(k:Nat)(hk:k<p.length)(hk2:k+1<r.length),∃(i:Nat)(hi:i<s.A.length)(hi2:i<w.length),p[k].B=i/\r[k+1]=CV s s.A[i] p[k].J w[i]
theorem rq(o:DS s){p:List Ac}(hp:∀q∈p,MC s q)(ho:p.Pairwise λa b=>a.B<b.B){w r:List Int}(v:WH s w)(h:AP s p w r){i:Nat}(d:1<=i)(e:i<s.A.length)(f:i<w.length):∃l,0<=l/\l<=fin s i/\lk p (r.drop 1) i p.length=(l,CV s s.A[i] l w[i])/\∀b,one p i b->b<=l:=by
 have I:=o.fin_ok d e;have J:=h.1;have x:(r.drop 1).length=p.length:=by grind
 have y:WG s s.A[i] w[i]:=v.2.2.2 i _ _ d (P3 e) (P3 f);rcases dz (picks:=p) (vals:=r.drop 1) (by omega) (i:Int) p.length (uh _)with⟨t,z⟩|⟨j,g,A,t,z⟩
 ·refine⟨0,uU _,by omega,by rw[t,gQ o d e y],λb c=>?_⟩;rcases c with c|⟨q,m,n,_⟩
  ·exact c
  ·obtain⟨j,g,rfl⟩:=List.mem_iff_getElem.1 m;grind
 ·obtain⟨B,_,_,K,C,D⟩:=hp _ (ud g);obtain rfl:i=B:=by grind
  obtain⟨E,u,F,L,M⟩:=h.2 j g (by omega);obtain rfl:i=E:=by grind
  refine⟨p[j].J,C,D,?_,λb c=>?_⟩
  ·grind
  ·rcases c with c|⟨q,m,n,G⟩
   ·omega
   ·obtain⟨k,hk,rfl⟩:=List.mem_iff_getElem.1 m;have H:=List.pairwise_iff_getElem.1 ho;grind
theorem ol(m:DS s){x:Au}(hx:GX s x){r w:List Int}(hr:r∈x.G)(o:WH s w)(h:AP s x.E w r){n d:Nat}{c:Ad}(q:RC s n c)(hd:n<d)(g:∀a∈Lm d c,one x.E a.B (S8 s a)):C8 d s c x.E (r.drop 1)=AE d c (λa0=>Ct a0 s w):=by
 obtain⟨row,j,z⟩:=kO m hx hr c d;rw[z];refine Y4 n d q hd λa t=>?_;obtain⟨i,S,b⟩:=Xu m n d q a t;have k:=g a t;have e:=b.i1;rw[b.col]at k;have f:i<w.length:=by rw[o.1];exact b.i1
 obtain⟨l,v,y,A,p⟩:=rq m hx.picks hx.order o h b.i0 e f;obtain⟨u,B,C⟩:=b.sem e l v y ((b.lvl_iff m v y).2 (p _ k)) _ (o.2.2.2 i _ _ b.i0 (P3 e) (P3 f));obtain⟨D,ok,a1,a2⟩:=j.2 i b.i0 e;rw[A,B]at a1;have E:u=D:=(Prod.mk.inj (uc a1)).1;subst E;obtain⟨F,G⟩:=List.getElem?_eq_some_iff.1 a2;unfold Ct;rw[b.col,Cf F,Cf f,ue,ue,G,C]
def LsV(s:Aa)(i:Nat)(b L:Int):Prop:=∀(hi:i<s.A.length)(a:Int),0<=a->L<=a->a<=fin s i->∀v,WG s s.A[i] v->Dx s i a (CV s s.A[i] a v) b=some (CV s s.A[i] b v,true)
def j8(L:Aj)(o b:Int):Option Bool :=
 bif(bif(b==0)then true else(decide (o>=b)))then some true
 else iter (λrec1 v11=>bif(decide (v11<((Bu L).length:Int)))then
  iter (λrec2 v12=>bif(decide (v12<v11))then
   (idx (Bu L) v11).bind λx50=>(some (cv L b x50)).bind λx52=>(idx (Bu L) v12).bind λx58=>(some (cv L b x58)).bind λx60 =>
   bif(x52 != x60)then
    (idx (Bu L) v11).bind λx68=>(some (cv L o x68)).bind λx70=>(idx (Bu L) v12).bind λx76=>(some (cv L o x76)).bind λx78 =>
    bif(x70==x78)then some false else rec2 (i64.wrap (v12+1))
   else rec2 (i64.wrap (v12+1))
   else rec1 (i64.wrap (v11+1))) A9 0
  else some true) A9 0
def tb(L:Aj)(b:Int):Option Int:=iter (λrec1 st=>(j8 L st b).bind λx=>bif(!x)then rec1 (i64.wrap (st+1))else some st) A9 0
def ta(L:Aj)(b:Int):Option Int:=iter (λrec1 st=>bif(decide (st>0))then
    (FT L (i64.wrap (st-1))).bind λu=>(FT L st).bind λt=>bif((u.length:Int)==(t.length:Int))then rec1 (i64.wrap (st-1))else some st
 else some st) A9 b
def mF(L:Aj)(b:Int):Bool:=match ta L b,tb L b with
 | some r,some q=>(r==q)&&decide (0<=r)&&decide (r<=b)&&(jY L).all λa=>decide (a<r)||(Bu L).all λv=>DV L a (cv L a v) b==some (cv L b v,true)
 | _,_=>false
theorem mG:(Sc.all λL=>(jY L).all λb=>mF L b)=true:=by decide +kernel
theorem fZ(g:DS s){i:Nat}(j:1<=i)(c:i<s.A.length)(h:IR s.A[i]){L:Aj}(d:L∈Sc)(a:idx s.K s.A[i].Ak=some L){o b:Int}(k:0<=o)(l:0<=b)(m:b<=fin s i):Fg s i o b=j8 L o b:=by
 unfold Fg j8;rw[Cf c,ue];by_cases e:(bif(b==0)then true else(decide (o>=b)))=true
 ·grind
 ·have e:(bif(b==0)then true else(decide (o>=b)))=false:=by simpa using e
  have ho:o<=fin s i:=by grind
  rw[e,ux,ux,h.kind];show(D6 s (i:Int)).bind _=_;rw[rleaves c d a,ue];refine congrArg (λf=>iter f A9 0) (funext λn=>funext λv=>?_);unfold L8;refine congrArg (λz=>bif _ then z else _) ?_;refine congrArg (λf=>iter f A9 0) (funext λp=>funext λw=>?_);unfold L9;refine congrArg (λz=>bif _ then z else _) ?_;refine L1 λx hx=>?_;rw[Nk g j c h d a l m hx];simp only[ue];refine L1 λy hy=>?_;rw[Nk g j c h d a l m hy];simp only[ue];refine congrArg (λz=>bif _ then z else _) ?_;refine L1 λx hx=>?_;rw[Nk g j c h d a k ho hx];simp only[ue];refine L1 λy hy=>?_;rw[Nk g j c h d a k ho hy];grind
theorem fO(m:DS s){i:Nat}(t:1<=i)(k:i<s.A.length)(h:IR s.A[i]){b:Int}(z:0<=b)(B:b<=fin s i):∃r,BF s i b=some r/\DT s i b=some r/\0<=r/\r<=b/\LsV s i b r:=by
 obtain⟨L,w,g⟩:=m.clist h;have C:=cM k h g;have D:=Kd w;have E:=D.lev3;have j:∀{l:Int},0<=l->l<Gl L->l∈jY L:=λa b=>List.mem_map.2 ⟨_,List.mem_range.2 (by omega),wt a⟩;have o:=List.all_eq_true.1 (List.all_eq_true.1 mG L w) b (j z (by omega));unfold mF at o
 have F:BF s i b=ta L b:=by
  unfold BF ta;rw[m.pFinest t k,ue,df,df,ux,ux];refine congrArg (λf=>iter f A9 b) (funext λd=>funext λc=>?_)
  have Q:∀l,AX s i l=(FT L l).bind λu=>some (u.length:Int):=λl=>by
   unfold AX;rw[Cf k,ue,h.kind];grind
  grind
 have R:∀(n:Nat)(c:Int),0<=c->c<=b->iter (λd c=>GN s i b (λp=>some p) d c) n c=iter (λd c=>(j8 L c b).bind λx=>bif(!x)then d (i64.wrap (c+1))else some c) n c:=by
  intro n
  induction n with
  | zero=>intro c _ _;rfl
  | succ n ih =>
    intro c G S;rw[L2,L2];unfold GN;rw[fZ m t k h w g G z B];have H:i64.wrap (c+1)=c+1:=wr;rw[H]
    cases e:j8 L c b with
    | none=>rfl
    | some x =>
      cases x
      ·refine ih (c+1) (by omega) ?_;by_cases T:c=b
       ·unfold j8 at e;grind
       ·omega
      ·rfl
 have I:DT s i b=tb L b:=by
  unfold DT tb;rw[m.rfinest t k,ue,MF,ue,dt,Bool.not_true,ux];grind
 rw[F,I];split at o
 ·rename_i r q hr J
  simp only[vi,wU,decide_eq_true_eq]at o;obtain⟨⟨⟨rfl,K⟩,M⟩,N⟩:=o;refine⟨_,hr,J,K,M,λ_ a a0 U O v y=>?_⟩;rw[C]at O;have y:=y.code h g;have A:=List.all_eq_true.1 N a (j a0 (by omega));rw[uB (by omega),Bool.false_or]at A;have P:=beq_iff_eq.1 (List.all_eq_true.1 A v y);rw[On h g,On h g];refine Ok.val ?_;unfold Dx;exact qr (m.pfinest t k) (y4 (by grind) (y5 k (y7 (by rw[h.kind];rfl) (qr g (qr P (y4 rfl (y3 rfl)))))))
 ·cases o
theorem Zf{i:Nat}(m:i<s.A.length)(h:Dl s.A[i]){l:Int}(o:1<=l)(c:l<=s.A[i].N.length):∃n,AX s i l=some n/\n=(s.A[i].D-s.A[i].D%Fa s.A[i] l-(s.A[i].C-s.A[i].C%Fa s.A[i] l))/Fa s.A[i] l+1+(if s.A[i].Al=true then 1 else 0):=by
 have d:=Fw h o c;obtain⟨r,t⟩:=h.low;obtain⟨p,u⟩:=h.high;have v:=vO s.A[i].D (by omega:Fa s.A[i] l≠0);have w:=vN s.A[i].D (by omega:0<Fa s.A[i] l);have x:=vO s.A[i].C (by omega:Fa s.A[i] l≠0);have y:=vN s.A[i].C (by omega:0<Fa s.A[i] l)
 have a:0<=s.A[i].D-s.A[i].D%Fa s.A[i] l-(s.A[i].C-s.A[i].C%Fa s.A[i] l):=by
  have f:=Int.emod_add_mul_ediv s.A[i].D (Fa s.A[i] l);have g:=Int.emod_add_mul_ediv s.A[i].C (Fa s.A[i] l);have b:s.A[i].C/Fa s.A[i] l<=s.A[i].D/Fa s.A[i] l:=Int.ediv_le_ediv (by omega) p;have j:=Int.mul_le_mul_of_nonneg_left b (by omega:0<=Fa s.A[i] l);omega
 have q:0<=(s.A[i].D-s.A[i].D%Fa s.A[i] l-(s.A[i].C-s.A[i].C%Fa s.A[i] l))/Fa s.A[i] l/\(s.A[i].D-s.A[i].D%Fa s.A[i] l-(s.A[i].C-s.A[i].C%Fa s.A[i] l))/Fa s.A[i] l<=1000:=by
  constructor
  ·exact Int.ediv_nonneg a (by omega)
  ·exact Int.le_trans (Int.ediv_le_self _ a) (by omega)
 refine Exists.elim (?_:Ok (AX s i l) λn=>n=_) λn k=>⟨n,k.1,k.2⟩;unfold AX;refine y5 m (y4 (by rw[h.kind];rfl) (y4 (by grind) ?_));refine qr (Yi h (by omega) c) (qr (LO d.1 (by omega) (by omega) (by omega)) (qr (LO d.1 (by omega) (by omega) (by omega)) (yb (by omega) ?_)));have f:i64.wrap (s.A[i].D-s.A[i].D%Fa s.A[i] l-(s.A[i].C-s.A[i].C%Fa s.A[i] l))=s.A[i].D-s.A[i].D%Fa s.A[i] l-(s.A[i].C-s.A[i].C%Fa s.A[i] l):=by rw[wr]
 rw[f,Int.tdiv_eq_ediv_of_nonneg a];generalize (s.A[i].D-s.A[i].D%Fa s.A[i] l-(s.A[i].C-s.A[i].C%Fa s.A[i] l))/Fa s.A[i] l=z at q;have g:i64.wrap z=z:=wr;have b:i64.wrap (z+1)=z+1:=wr;have j:i64.wrap (z+1+1)=z+1+1:=wr;simp only[g,b,j];exact y6 (λe=>y3 (by rw[uk e])) λe=>y3 (by grind)
theorem VV{i:Nat}(a:i<s.A.length)(h:Dl s.A[i]):AX s i 0=some 1:=by
 refine Ok.val ?_;unfold AX;exact y5 a (y4 (by rw[h.kind];rfl) (y7 rfl (y3 rfl)))
theorem aN(g:DS s){i:Nat}(j:1<=i)(b:i<s.A.length)(h:Dl s.A[i]){l:Int}(k:0<=l)(c:l<=s.A[i].N.length):Ok (BF s i l) λr=>∀a,r<=a->a<=l->AX s i a=AX s i l:=by
 have m:=Dc h;have n:fin s i=s.A[i].N.length:=by rw[EY b,DI h]
 unfold BF;refine qr (g.pFinest j b) (y4 (by grind) ?_);refine Ok.loop (λq=>(0<=q/\q<=l)/\∀a,q<=a->a<=l->AX s i a=AX s i l) (λq=>q.toNat) ⟨⟨k,uU _⟩,λa c d=>by rw[Int.le_antisymm d c]⟩ (by unfold A9;omega) λrec q f ih=>?_;simp only[H3];refine y9 (λhp=>?_) λ_=>y3 f.2;have e:i64.wrap (q-1)=q-1:=wr;rw[e];obtain⟨x,hx,_⟩:=Vg b h (l:=q-1) (by omega) (by omega);obtain⟨y,hy,_⟩:=Vg b h (l:=q) (by omega) (by omega);refine qr hx (qr hy (y6 (λo=>ih _ ⟨by omega,λa d p=>?_⟩ (by omega)) λ_=>y3 f.2));grind
theorem gL(q:DS s){i:Nat}(r:1<=i)(d:i<s.A.length)(h:Dl s.A[i]){a:Int}(a0:0<=a)(j:a<=s.A[i].N.length)(f:AX s i a=AX s i s.A[i].N.length){v:Int}(k:MV s.A[i] v):Dx s i a (mv s.A[i] a v) s.A[i].N.length=some (v,true):=by
 have t:=Dc h;have F:fin s i=s.A[i].N.length:=by rw[EY d,DI h]
 have g:=Xf h;obtain⟨G,H⟩:=h.low;obtain⟨I,J⟩:=h.high;obtain⟨n,u,c⟩:=Zf d h (l:=s.A[i].N.length) (by omega) (uU _);rw[g]at c;rw[u]at f;refine Ok.val ?_;unfold Dx;refine qr (q.pfinest r d) (y4 (by grind) (y5 d (y4 (by rw[h.kind];rfl) (qr (x:=(v,true)) (Ok.val ?_) (y4 rfl (y3 rfl))))));unfold FA;have y:((s.A[i].N.length:Int)==0)=false:=by grind
 rw[y];rcases k with k|⟨ho,rfl⟩
 ·have o:YF s.A[i] a v=v/\oJ s.A[i] a v=v/\(a=0->s.A[i].Al=false):=by
   by_cases e:a=0
   ·subst e;rw[VV d h]at f;have:=uc f
    have ho:s.A[i].Al=false:=by
     cases e:s.A[i].Al
     ·rfl
     ·rw[e]at c;simp at c;omega
    rw[ho]at c;simp at c;unfold YF oJ;rw[uk rfl,uk rfl];exact⟨by omega,by omega,λ_=>ho⟩
   ·obtain⟨m,z,A⟩:=Zf d h (l:=a) (by omega) j;rw[z]at f;have B:=uc f;have p:=Xh h (a:=a) (b:=a) (by omega) (uU _) j;unfold YF oJ;rw[uo e,uo e];generalize Fa s.A[i] a=w at *;simp only[w9,wQ,or_false,Prod.mk.injEq]at p
    refine⟨?_,?_,λh=>absurd h e⟩ <;>
     (rcases p with⟨rfl,_⟩|⟨_,_⟩|⟨rfl,_⟩|⟨_,_⟩|⟨_,_⟩|⟨rfl,_⟩|⟨_,_⟩|⟨rfl,_⟩|⟨_,_⟩|⟨_,_⟩|⟨rfl,_⟩|⟨_,_⟩|⟨_,_⟩|⟨_,_⟩|⟨rfl,_⟩<;>omega)
  obtain⟨C,D,K⟩:=o;have hd:=LO (n:=v) (w:=1) (by omega) (by omega) (by omega) (by omega);rw[Int.emod_one,Int.sub_zero]at hd;refine y4 ?_ (qr (iQ h a0 j k) ?_)
  ·by_cases e:a=0
   ·rw[e];rfl
   ·rw[un (by omega:a>0),uY,xg];exact(Pr h (l:=a) (by omega) j k).2.2.2.1
  ·rw[C,D];refine y4 rfl (y4 rfl (y4 (by grind) (qr (Yi h (by omega) (uU _)) ?_)));rw[g];exact qr hd (qr hd (qr hd (y3 (by simp))))
 ·have E:1<=a:=by
   by_cases e:a=0
   ·subst e;rw[VV d h]at f;have:=uc f;rw[uk ho]at c;simp at c;omega
   ·omega
  rw[mW _ E];exact y7 (by rw[un (by omega:a>0)];rfl) (y4 rfl (y3 (by rw[ho])))
def mC(lo hi:Int)(w:List Int)(o:Bool):As:={ I:=YM,Kind:=3,Ak:=0,C:=lo,D:=hi,N:=w,Al:=o }
def mS(lo hi:Int)(w:List Int)(o:Bool):Aa:={ K:=[],A:=[oz,mC lo hi w o] }
def tq(lo hi:Int)(w:List Int)(o:Bool)(l:Int):Option Int:=iter (λrec1 st=>H3 (mS lo hi w o) 1 (λv2_1=>some v2_1) rec1 st) A9 l
def tr(lo hi:Int)(w:List Int)(o:Bool)(l:Int):Option Int:=iter (λrec1 st=>GN (mS lo hi w o) 1 l (λv7_1=>some v7_1) rec1 st) A9 0
def mD(lo hi:Int)(w:List Int)(o:Bool)(l:Int):Bool:=match tq lo hi w o l,tr lo hi w o l with
 | some a,some b=>(a==b)&&decide (0<=a)&&decide (a<=l)
 | _,_=>false
theorem dr:((List.range 7).all λa=>(List.range 45).all λb=>Nq.all λw=>[true,false].all λo=>mD ((a:Int)-4) ((a:Int)-4+b) w o w.length)=true:=by decide +kernel
theorem fP{c:As}(h:Dl c):mD c.C c.D c.N c.Al c.N.length=true:=by
 obtain⟨d,e⟩:=h.low;obtain⟨f,g⟩:=h.high;have a:=List.all_eq_true.1 dr (c.C+4).toNat (List.mem_range.2 (by omega));have b:=List.all_eq_true.1 a (c.D-c.C).toNat (List.mem_range.2 (by omega));have i:=List.all_eq_true.1 b c.N h.widths;grind
theorem bQ{i:Nat}(a:i<s.A.length)(h:Dl s.A[i])(l:Int):AX s i l=AX (mS s.A[i].C s.A[i].D s.A[i].N s.A[i].Al) 1 l:=by
 unfold AX;rw[Cf a];show _=(some _).bind _;rw[ue,ue,h.kind];rfl
theorem j9{i:Nat}(c:i<s.A.length)(h:Dl s.A[i])(a b:Int):Fg s i a b=Fg (mS s.A[i].C s.A[i].D s.A[i].N s.A[i].Al) 1 a b:=by
 have e:idx (mS s.A[i].C s.A[i].D s.A[i].N s.A[i].Al).A 1=some (mC s.A[i].C s.A[i].D s.A[i].N s.A[i].Al):=rfl;have k:(mC s.A[i].C s.A[i].D s.A[i].N s.A[i].Al).Kind=3:=rfl;have f:∀a,Dn s.A[i] a=Dn (mC s.A[i].C s.A[i].D s.A[i].N s.A[i].Al) a:=λ_=>rfl;have d:((3:Int)==2)=false:=rfl;unfold Fg;rw[Cf c,e,ue,ue,h.kind,k,d,ux,ux];have g:(mC s.A[i].C s.A[i].D s.A[i].N s.A[i].Al).C=s.A[i].C:=rfl;have p2:(mC s.A[i].C s.A[i].D s.A[i].N s.A[i].Al).D=s.A[i].D:=rfl;have p3:(mC s.A[i].C s.A[i].D s.A[i].N s.A[i].Al).Al=s.A[i].Al:=rfl;grind
theorem fQ(d:DS s){i:Nat}(e:1<=i)(c:i<s.A.length)(h:Dl s.A[i]):∃r,BF s i (fin s i)=some r/\DT s i (fin s i)=some r/\0<=r/\r<=fin s i/\LsV s i (fin s i) r:=by
 have q:=Dc h;have m:fin s i=s.A[i].N.length:=by rw[EY c,DI h]
 rw[m]
 have n:BF s i s.A[i].N.length=tq s.A[i].C s.A[i].D s.A[i].N s.A[i].Al s.A[i].N.length:=by
  unfold BF tq;rw[d.pFinest e c,ue,df,df,ux,ux];congr 1;funext rec t;unfold H3;rw[bQ c h,bQ c h]
 have u:DT s i s.A[i].N.length=tr s.A[i].C s.A[i].D s.A[i].N s.A[i].Al s.A[i].N.length:=by
  unfold DT tr;rw[d.rfinest e c,ue,MF,ue,dt,Bool.not_true,ux];congr 1;funext rec t;unfold GN;rw[j9 c h]
 have f:=fP h;unfold mD at f;obtain⟨B,g,j⟩:=aN d e c h (l:=s.A[i].N.length) (by omega) (uU _);have k:=n;rw[g]at k;rw[n,u];split at f
 ·rename_i a b o w
  rw[o]at k;obtain rfl:=uc k;simp only[vi,wU,decide_eq_true_eq]at f;obtain⟨⟨rfl,x⟩,y⟩:=f;refine⟨_,o,w,x,y,λ_ a a0 z C v p=>?_⟩;have A:CV s s.A[i] s.A[i].N.length v=v:=by rw[<-m];exact ZN d e c p
  rw[A,P9 h];exact gL d e c h a0 (by omega) (j a z (by omega)) (p.meas h)
 ·cases f
theorem rj(A:DS s){p:List Ac}(hp:∀q∈p,MC s q)(ho:p.Pairwise λa b=>a.B<b.B)(E:p.length<=6){w r:List Int}(F:WH s w)(h:AP s p w r){i:Nat}(n:1<=i)(d:i<s.A.length)(o:i<w.length){b L:Int}(B:LsV s i b L)(c:one p i L):Bt s (dE p r) 0 i b=some (CV s s.A[i] b w[i],true):=by
 have t:WG s s.A[i] w[i]:=F.2.2.2 i _ _ n (P3 d) (P3 o);have N:=A.fin_ok n d;have hr:=h.1;refine Ok.val ?_;unfold Bt;refine qr (IB (l:=p) (q:=λp=>p.B==(i:Int)) (λ_ _=>rfl) (by omega)) ?_;unfold GT
 cases hff:p.findIdx? (λp=>p.B==(i:Int))with
 | none =>
   have u:∀q∈p,q.B≠i:=λq g e=>by grind
   have v:L<=0:=c.resolve_right λ⟨q,g,j,_⟩=>u q g j;have j:=B d 0 (uU _) v (by omega) _ t;rw[gQ A n d t]at j;exact y7 rfl (qr j (y3 rfl))
 | some k =>
   obtain⟨hk,y,_⟩:=List.findIdx?_eq_some_iff_getElem.1 hff;have y:p[k].B=(i:Int):=by grind
   obtain⟨C,_,_,O,G,H⟩:=hp _ (ud hk);obtain rfl:C=i:=by omega
   have f:k+1<r.length:=by omega
   obtain⟨I,D,J,P,K⟩:=h.2 k hk f;obtain rfl:I=C:=by omega
   have z:L<=p[k].J:=by
    rcases c with Q|⟨q,g,R,S⟩
    ·omega
    ·obtain⟨m,T,rfl⟩:=List.mem_iff_getElem.1 g;have M:=List.pairwise_iff_getElem.1 ho;grind
   refine y4 (uB (by grind)) (y5 hk (qr (x:=r) rfl ?_));rw[C7];exact y5 f (qr (by rw[K];exact B d _ G z H _ t) (y3 rfl))
theorem Oq{picks b:List Ac}{x:Ac}:(∀p∈b++[x],one picks p.B p.J)↔(∀p∈b,one picks p.B p.J)/\one picks x.B x.J:=by grind
theorem PW{b:List Ac}{x:Ac}(h:∀p∈b,0<p.J)(hx:0<x.J):∀p∈b++[x],0<p.J:=by grind
theorem rF{l:List Ac}{c n:Int}(w:l.length<=1000)(i:∀p∈l,0<p.J):Ok (DU l c n) λr=>r.length<=l.length+1/\(∀p∈r,0<p.J)/\∀picks,(∀p∈r,one picks p.B p.J)↔(∀p∈l,one picks p.B p.J)/\one picks c n:=by
 unfold DU
 refine y8 (λq=>q.2.1) l.length (λk q=>q.2.2.length<=k+(if q.1 then 1 else 0)/\(q.1=false->0<n)/\(∀p∈q.2.2,0<p.J)/\∀picks,(∀p∈q.2.2,one picks p.B p.J)↔(∀p∈l.take k,one picks p.B p.J)/\(q.1=true->one picks c n)) 0 (ug _) rfl
  ⟨by simp,λh=>by have:¬n<=0:=vt h;omega,(λp hp=>by cases hp),λpicks=>⟨λ_=>⟨(λp hp=>by cases hp),λh=>.inl (uf h)⟩,λ_ p hp=>by cases hp⟩⟩ (by omega) (λrec q o t=>?_) λrec k q hk o t ih=>?_
 ·obtain⟨a,m,f,g⟩:=t;simp only[GO,o];rw[CW];unfold NS;refine y6 (λe=>Ok.rm (by simp;split at a<;>omega) (y3 ⟨?_,?_,λpicks=>?_⟩)) λe=>y3 ⟨?_,f,λpicks=>?_⟩
  ·have e:q.1=false:=by simpa using e
   rw[e]at a;simp at a ⊢;omega
  ·have e:q.1=false:=by simpa using e
   exact PW f (m e)
  ·have e:q.1=false:=by simpa using e
   have:=g picks;rw[uS]at this;rw[Oq,this];exact⟨λh=>⟨h.1.1,h.2⟩,λh=>⟨⟨h.1,λj=>by rw[e]at j;cases j⟩,h.2⟩⟩
  ·split at a<;>omega
  ·have e:q.1=true:=by simpa using e
   have:=g picks;rw[uS]at this;rw[this];exact⟨λh=>⟨h.1,h.2 e⟩,λh=>⟨h.1,λ_=>h.2⟩⟩
 ·obtain⟨a,m,f,g⟩:=t;have hx:=i _ (ud hk);have x:q.2.2.length<=k+1:=by split at a<;>omega
  have b:∀picks,(∀p∈l.take (k+1),one picks p.B p.J)↔(∀p∈l.take k,one picks p.B p.J)/\one picks l[k].B l[k].J:=by
   intro picks;rw[ui hk];exact Oq
  simp only[GO,o];rw[Cg];refine y5 hk (y6 (λe=>?_) λe=>?_)
  ·have u:q.1=false:=by
    by_cases h:l[k].B>c
    ·rw[un h]at e;simpa using e
    ·rw[uB h]at e;cases e
   have v:=m u;rw[u]at a;have a:q.2.2.length<=k:=by simpa using a
   refine Ok.rm (by simp;omega) (y6 (λd=>?_) λd=>?_)
   ·have d:l[k].B=c:=by simpa using d
    refine Ok.rm (by simp;omega) (ih _ C7 ⟨by simp;omega,(λh=>by cases h),PW (PW f v) (by show 0<(if n>l[k].J then n else l[k].J);split<;>omega),λpicks=>?_⟩);show(∀p∈(q.2.2++[_])++[_],one picks p.B p.J)↔_;rw[Oq,Oq,g picks,b picks,d];show(((_/\_)/\one picks c n)/\one picks c (if n>l[k].J then n else l[k].J))↔_;rw[Xb];exact⟨λh=>⟨⟨h.1.1.1,h.2.1⟩,λ_=>h.1.2⟩,λh=>⟨⟨⟨h.1.1,λj=>h.2 rfl⟩,h.2 rfl⟩,h.1.2,h.2 rfl⟩⟩
   ·refine Ok.rm (by simp;omega) (ih _ C7 ⟨by simp;omega,(λh=>by cases h),PW (PW f v) hx,λpicks=>?_⟩);show(∀p∈(q.2.2++[_])++[_],one picks p.B p.J)↔_;rw[Oq,Oq,g picks,b picks];exact⟨λh=>⟨⟨h.1.1.1,h.2⟩,λ_=>h.1.2⟩,λh=>⟨⟨⟨h.1.1,λj=>h.2 rfl⟩,h.2 rfl⟩,h.1.2⟩⟩
  ·refine y6 (λd=>?_) λd=>?_
   ·have d:l[k].B=c:=by simpa using d
    refine Ok.rm (by simp;omega) (ih _ C7 ⟨by simp;omega,(λh=>by cases h),PW f (by show 0<(if n>l[k].J then n else l[k].J);split<;>omega),λpicks=>?_⟩);show(∀p∈q.2.2++[_],one picks p.B p.J)↔_;rw[Oq,g picks,b picks,d];show((_/\_)/\one picks c (if n>l[k].J then n else l[k].J))↔_;rw[Xb];exact⟨λh=>⟨⟨h.1.1,h.2.1⟩,λ_=>h.2.2⟩,λh=>⟨⟨h.1.1,λj=>h.2 rfl⟩,h.1.2,h.2 rfl⟩⟩
   ·refine Ok.rm (by simp;omega) (ih _ C7 ⟨by simp;split<;>split at a<;>simp_all<;>omega,m,PW f hx,λpicks=>?_⟩);show(∀p∈q.2.2++[_],one picks p.B p.J)↔_;rw[Oq,g picks,b picks];exact⟨λh=>⟨⟨h.1.1,h.2⟩,h.1.2⟩,λh=>⟨⟨h.1.1,h.2⟩,h.1.2⟩⟩
theorem TW{b:List Ac}{x:Ac}(h:b.Pairwise λa b=>a.B<b.B)(hx:∀p∈b,p.B<x.B):(b++[x]).Pairwise λa b=>a.B<b.B:=by grind
theorem ku{l:List Ac}{i:Nat}{n:Int}(D:1<=i)(E:i<s.A.length)(I:n<=fin s i)(O:l.length<=1000)(K:l.Pairwise λa b=>a.B<b.B)(hp:∀p∈l,MC s p):Ok (DU l i n) λr=>(∀p∈r,MC s p)/\r.Pairwise λa b=>a.B<b.B:=by
 have u:=List.pairwise_iff_getElem.1 K;have one:0<n->MC s { B:=i,J:=n }:=λh=>⟨i,D,E,rfl,by show 0<=n;omega,I⟩;unfold DU
 refine y8 (λq=>q.2.1) l.length (λk q=>q.2.2.length<=2*k/\(q.1=false->0<n)/\(∀p∈q.2.2,MC s p)/\(q.2.2.Pairwise λa b=>a.B<b.B)/\(∀p∈q.2.2,∀(j:Nat)(d:j<l.length),k<=j->p.B<l[j].B)/\(q.1=false->∀p∈q.2.2,p.B<i)) 0 (ug _) rfl
  ⟨uh _,λh=>by have:¬n<=0:=vt h;omega,(λp hp=>by cases hp),List.Pairwise.nil,(λp hp=>by cases hp),λ_ p hp=>by cases hp⟩ (by omega) (λrec q v w=>?_) λrec k q hk v w ih=>?_
 ·obtain⟨L,x,m,o,y,F⟩:=w;simp only[GO,v];rw[CW];unfold NS;refine y6 (λe=>Ok.rm (by grind) (y3 ?_)) λe=>y3 ⟨m,o⟩;grind
 ·obtain⟨L,x,m,o,y,F⟩:=w;have hx:=hp _ (ud hk);have z:∀p∈q.2.2,p.B<l[k].B:=λp hp=>y p hp k hk (uh _);have A:∀p∈q.2.2,∀(j:Nat)(d:j<l.length),k+1<=j->p.B<l[j].B:=λp hp j d c=>y p hp j d (by omega);have f:∀(j:Nat)(d:j<l.length),k+1<=j->l[k].B<l[j].B:=λj d c=>u k j hk d (by omega)
  have t:l[k].B=i->MC s { B:=l[k].B,J:=if n>l[k].J then n else l[k].J }:=λe=>by
   obtain⟨G,_,_,M,P,z⟩:=hx;obtain rfl:G=i:=by omega
   exact⟨G,D,E,M,by show 0<=(if n>l[k].J then n else l[k].J);split<;>omega,by show(if n>l[k].J then n else l[k].J)<=_;split<;>omega⟩
  simp only[GO,v];rw[Cg];refine y5 hk (y6 (λe=>?_) λe=>?_)
  ·have C:l[k].B>i:=by
    grind
   have H:q.1=false:=by grind
   refine Ok.rm (by grind) (y6 (λg=>?_) λg=>?_)
   ·grind
   ·refine Ok.rm (by grind) (ih _ C7 ⟨by simp;omega,(λh=>by cases h),SY (SY m (one (x H))) hx,TW (TW o (F H)) (λp hp=>?_),(λp hp j d c=>?_),λh=>by cases h⟩)
    ·grind
    ·have:=f j d c;rcases List.mem_append.1 hp with hp|hp
     ·rcases List.mem_append.1 hp with hp|hp
      ·grind
      ·grind
     ·grind
  ·refine y6 (λg=>?_) λg=>?_
   ·have g:l[k].B=i:=by simpa using g
    refine Ok.rm (by grind) (ih _ C7 ⟨by simp;omega,(λh=>by cases h),SY m (t g),TW o z,(λp hp j d c=>?_),λh=>by cases h⟩);rcases List.mem_append.1 hp with hp|hp
    ·grind
    ·grind
   ·have g:l[k].B≠i:=by simpa using g
    refine Ok.rm (by grind) (ih _ C7 ⟨by simp;omega,x,SY m hx,TW o z,(λp hp j d c=>?_),λh p hp=>?_⟩)
    ·rcases List.mem_append.1 hp with hp|hp
     ·grind
     ·grind
    ·have h:q.1=false:=h;have N:¬l[k].B>i:=λC=>by grind
     grind
structure NQ(s:Aa)(r:List Ac)(P:List Ac->Prop):Prop where
 pok:∀p∈r,MC s p
 pos:∀p∈r,0<p.J
 asc:r.Pairwise λa b=>a.B<b.B
 iff:∀picks,(∀p∈r,one picks p.B p.J)↔P picks
theorem eR(c:DS s){r:List Ac}(hp:∀p∈r,MC s p)(d:r.Pairwise λa b=>a.B<b.B):r.length<=6 :=
 GX.picks_len (x:={ Ae:=lO.Ae,Ag:=0,E:=r,G:=[] }) c ⟨⟨show BU lO.Ae=some true by decide +kernel,show Bz lO.Ae=some true by decide +kernel⟩,⟨uU _,by show(0:Int)<=300;omega⟩,hp,d,(λr hr=>by cases hr),List.Pairwise.nil,ug _⟩
theorem NQ.congr{r:List Ac}{P Q:List Ac->Prop}(h:NQ s r P)(e:∀picks,P picks↔Q picks):NQ s r Q:=⟨h.pok,h.pos,h.asc,λpicks=>(h.iff picks).trans (e picks)⟩
theorem NQ.nil{P:List Ac->Prop}(h:∀picks,P picks):NQ s [] P:=⟨(λp hp=>by cases hp),(λp hp=>by cases hp),List.Pairwise.nil,λpicks=>⟨λ_=>h picks,λ_ p hp=>by cases hp⟩⟩
theorem NQ.raise(a:DS s){l:List Ac}{P:List Ac->Prop}(h:NQ s l P){i:Nat}(b:1<=i)(d:i<s.A.length){n:Int}(e:n<=fin s i):Ok (DU l i n) λr=>NQ s r λpicks=>P picks/\one picks i n:=by
 have f:=eR a h.pok h.asc;exact((rF (c:=i) (n:=n) (by omega) h.pos).and (ku b d e (by omega) h.asc h.pok)).mono λr hr=>⟨hr.2.1,hr.1.2.1,hr.2.2,λpicks=>(hr.1.2.2 picks).trans (by rw[h.iff picks])⟩
theorem rneeds_nq(j:DS s){n d:Nat}{c:Ad}(h:RC s n c)(hd:n<d)(x:n<=39/\DP 9 c):Ok (I0 d s c) λr=>NQ s r λpicks=>∀a∈Lm d c,one picks a.B (S8 s a):=by
 have A:=j.cols_length;have B:=TY n d h;have m:=Xu j n d h;unfold I0;refine qr (h.rcheck j x hd) (y4 rfl (qr (nD n d h hd x.1) ?_));refine y8 (λq=>q.2) (Lm d c).length (λk q=>NQ s q.1 λpicks=>∀a∈(Lm d c).take k,one picks a.B (S8 s a)) 0 (ug _) rfl (NQ.nil λpicks a C=>by simp at C) (by omega) (λrec q o l=>?_) λrec k q hk o l ih=>?_
 ·simp only[K2,o];rw[CW];rw[uS]at l;exact y3 l
 ·obtain⟨i,S,f⟩:=m _ (ud hk);obtain⟨D,E,_,_⟩:=f.least j;have F:=j.fin_ok f.i0 f.i1;simp only[K2,o];rw[Cg];refine Ok.loop (λv=>0<=v/\v<=S8 s (Lm d c)[k]) (λv=>(S8 s (Lm d c)[k]-v).toNat) ⟨uU _,D⟩ (by unfold A9;omega) λy v z ih2=>?_;simp only[NR];obtain⟨b,p,t⟩:=f.r v z.1 (by omega);have u:=f.lvl_iff j z.1 (by grind);refine y5 hk (qr p (y6 (λe=>?_) λe=>?_))
  ·have:¬S8 s (Lm d c)[k]<=v:=λw=>by
    grind
   have ev:i64.wrap (v+1)=v+1:=wr;grind
  ·have w:S8 s (Lm d c)[k]<=v:=u.1 (t.1 (by grind));have ev:v=S8 s (Lm d c)[k]:=by omega
   unfold Rk;have g:=f.col;refine y5 hk ?_;rw[g];refine(l.raise j f.i0 f.i1 (n:=v) (by omega)).bind λr hr=>ih _ C7 (hr.congr λpicks=>?_);rw[ui hk,ev,<-g];grind
theorem pE(picks a:List Ac)(r:picks.length<=1000000)(t:a.length<=1000000):Kz a picks=some (covers picks a):=by
 refine Ok.val ?_;unfold Kz;refine y8 (λq=>q) a.length (λk _=>covers picks (a.take k)=true) 0 (ug _) rfl rfl (by omega) (λrec q i d=>?_) λrec k q hk i d ih=>?_
 ·simp only[Ju,i];rw[CW];rw[uS]at d;exact y3 d.symm
 ·simp only[Ju,i];rw[Cg]
  have l:∀f:Ac->Bool,picks.any f=false->f=(λp=>bif p.B==a[k].B then decide (p.J>=a[k].J)else false)->covers picks a=false:=by
   intro f n e;subst e;unfold covers;rw[List.all_eq_false];exact⟨_,ud hk,by rw[n];decide⟩
  refine y8 (λq=>q.2) picks.length (λj q=>q.1=(picks.take j).any λp=>bif p.B==a[k].B then decide (p.J>=a[k].J)else false) 0 (ug _) rfl rfl (by omega) (λg m c b=>?_) λg j m h c b ih2=>?_
  ·simp only[Jv,c];rw[CW];rw[uS]at b;refine y6 (λe=>y3 ?_) λe=>ih _ C7 ?_
   ·grind
   ·have e:m.1=true:=by simpa using e
    unfold covers at d ⊢;rw[ui hk,List.all_append,d,Bool.true_and];grind
  ·simp only[Jv,c];rw[Cg];refine y6 (λe=>ih2 _ C7 ?_) λe=>y5 h (y5 hk (y6 (λo=>y5 h (y5 hk (ih2 _ C7 ?_))) λo=>ih2 _ C7 ?_))
   ·grind
   ·show decide _=_;rw[ui h,List.any_append,<-b,e];grind
   ·show false=_;rw[ui h,List.any_append,<-b,e];grind
theorem GC.rneeds_nq(b:DS s){c:Ad}(h:GC s c):Ok (I0 DD s c) λr=>NQ s r λpicks=>∀a∈Lm DD c,one picks a.B (S8 s a):=by
 obtain⟨n,d,e⟩:=h;exact P.rneeds_nq b d (by grind) e
theorem tK{i:Nat}(a:i<s.A.length)(k:Int):Jg s i k=some (s.A[i].Kind==k):=iC a k
theorem IM.is3{v:Int}(h:IM s v):Jg s v 3=some true:=by
 obtain⟨i,rfl,_,a,b⟩:=h;rw[tK a,b.kind];rfl
theorem IC.is2{v:Int}(h:IC s v):Jg s v 2=some true:=by
 obtain⟨i,rfl,_,a,b⟩:=h;rw[tK a,b.kind];rfl
theorem ZM(d:Nat):NX (d+1) Gv=some true:=rfl
theorem OX.rok(b:DS s){l:List Ac}(h:OX s l):JB s l=some 0:=by
 have hp:=h.pos;have c:=h.len;refine Ok.val ?_;unfold JB;refine y4 (by rw[df,df];rfl) (yc l.length (λrec=>Ok.f (y3 rfl)) λrec i a ih=>Ok.t (y5 a (qr (nQ b (h.all _ (ud a)).2) (y4 rfl (y5 a (qr (h.all _ (ud a)).1.is2 (y4 rfl (yc i (λrec=>Ok.f (ih _ C7)) λrec k hk ih2=>Ok.t (y5 (by grind) (y5 a (y4 ?_ (ih2 _ C7))))))))))));have:=List.pairwise_iff_getElem.1 h.asc k i (by grind) (by rw[ua];omega) hk;grind
theorem Ns.rok{m:Int}{l:List Int}(h:Ns s m l):I4 s m l=some 0:=by
 have hp:=h.pos;have k:=h.len;refine Ok.val ?_;unfold I4;refine y4 (by rw[df,df];rfl) (yc l.length (λrec=>Ok.f (y3 rfl)) λrec i a ih=>Ok.t (y5 a (qr (h.all _ (ud a)).1.is3 (y4 rfl (y5 a (y4 (beq_eq_false_iff_ne.2 (h.all _ (ud a)).2) (yb (by omega) (y5 a ((fF ?_).bind λb d=>y6 (λe=>?_) λ_=>ih _ C7)))))))))
 ·unfold M1;grind
 ·have c:=d.1 e;have c:l[i]∈l.take i:=by unfold M1 at c;simpa using c
  obtain⟨j,f,g⟩:=List.mem_iff_getElem.1 c;rw[wq]at g;rw[uO]at f;have:=List.pairwise_iff_getElem.1 h.asc j i (by omega) a (by omega);omega
def VR(s:Aa)(m:Int):Prop:=IM s m/\∀x,idx s.A m=some x->0<=x.C
structure QR(s:Aa)(q:Ap):Prop where
 filter:GC s q.Ay
 parts:(q.Kind=1/\OX s q.V/\(q.Y=-1\/IM s q.Y)/\q.Ai=[]/\q.U=Gv)\/(q.Kind=2/\q.V=[]/\IM s q.Y/\Ns s q.Y q.Ai/\q.U=Gv)\/(q.Kind=3/\q.V=[]/\q.Ai=[]/\VR s q.Y/\GC s q.U)
theorem Yj{c:Ab}(l:IT c)(b:DS s)(h:ByteArray):Ok (DF DD c s h) λr=>IT r.2/\r.1.I=h/\QR s r.1:=by
 unfold DF;refine Ok.bind (Ey l (by omega) (by omega)) λx hx=>?_;obtain⟨n,o⟩:∃n:Nat,x.1=n:=⟨x.1.toNat,by omega⟩;rw[o];refine Ok.bind (mq b hx.1 n (by omega) (by decide)) λf A=>Ok.bind (QX A.1 b) λm j=>Ok.bind (Ey j.1 (by omega) (by omega)) λy hy=>?_;have p:GC s f.1:=A.2
 have a:∀{c:Ab},IT c->∀k:Int,(k=-1\/IM s k)->Ok ((De c s).bind λg=>some (({ I:=h,Kind:=1,Ay:=f.1,V:=g.1,Y:=k,Ai:=[],U:=({ Op:=0,B:=0,Z:=0,C:=0,D:=0,H:=[] }:Ad) }:Ap),g.2)) λr=>IT r.2/\r.1.I=h/\QR s r.1:=λl k q =>
  Ok.bind (fb l b) λd hd=>y3 ⟨hd.1,rfl,p,.inl ⟨rfl,hd.2,q,rfl,rfl⟩⟩
 refine y6 (λ_=>a hy.1 _ (.inr j.2)) λ_=>y6 (λ_=>Ok.bind (eh hy.1 b _) λt u=>y9 (λhp=>y3 ⟨u.1,rfl,p,.inr (.inl ⟨rfl,rfl,j.2,u.2 (by omega),rfl⟩)⟩) λ_=>a u.1 _ (.inl rfl)) λ_=>y6 (λ_=>?_) λ_=>a hy.1 _ (.inl rfl);obtain⟨i,e,w,z,F⟩:=j.2;rw[e];refine y5 z (y9 (λG=>Ok.bind (mq b hy.1 1 (by omega) (by decide)) λv E=>y3 ⟨E.1,rfl,p,.inr (.inr ⟨rfl,rfl,rfl,⟨⟨i,rfl,w,z,F⟩,λx hx=>?_⟩,E.2⟩)⟩) λ_=>a hy.1 _ (.inl rfl));rw[Cf z]at hx;grind
theorem iD{n:Int}(a:0<=n)(b:n<100):Dh n=some ⟨(Go.Lib.decDigits n.toNat).toArray⟩:=by
 unfold Dh;grind
theorem qC:∀n:Nat,n<3->BU (({ data:=#[112] }:ByteArray)++(⟨(Go.Lib.decDigits n).toArray⟩:ByteArray))=some true/\Bz (({ data:=#[112] }:ByteArray)++(⟨(Go.Lib.decDigits n).toArray⟩:ByteArray))=some true/\(⟨(Go.Lib.decDigits n).toArray⟩:ByteArray).size=1:=by
 intro n a;rcases(by omega:n=0\/n=1\/n=2)with rfl|rfl|rfl<;>exact⟨by decide +kernel,by decide +kernel,by decide +kernel⟩
theorem iS:∀n:Nat,1<=n->n<4->BU (({ data:=#[113] }:ByteArray)++(⟨(Go.Lib.decDigits n).toArray⟩:ByteArray))=some true/\(⟨(Go.Lib.decDigits n).toArray⟩:ByteArray).size=1:=by
 intro n a b;rcases(by omega:n=1\/n=2\/n=3)with rfl|rfl|rfl<;>exact⟨by decide +kernel,by decide +kernel⟩
theorem od:Bz ({ data:=#[115,114,99] }:ByteArray)=some true:=by decide +kernel
theorem pS:BU ({ data:=#[115,114,99] }:ByteArray)=some true:=by decide +kernel
def qn(n:Nat):ByteArray:=({ data:=#[113] }:ByteArray)++(⟨(Go.Lib.decDigits n).toArray⟩:ByteArray)
theorem sy{a b:Nat}(c:1<=a)(d:a<4)(e:1<=b)(f:b<4)(h:a≠b):(qn a).toList≠(qn b).toList:=by
 rcases(by omega:a=1\/a=2\/a=3)with rfl|rfl|rfl<;>rcases(by omega:b=1\/b=2\/b=3)with rfl|rfl|rfl<;>first|exact absurd rfl h|decide +kernel
structure QS(s:Aa)(l:List Ap):Prop where
 pos:1<=l.length
 len:l.length<=3
 all:∀q∈l,QR s q/\∃k:Nat,1<=k/\k<4/\q.I=qn k
 ne:l.Pairwise λa b=>a.I.toList≠b.I.toList
structure DR(s:Aa)(d:Ar):Prop where
 project:BU d.Ae=some true/\Bz d.Ae=some true
 source:BU d.Bl=some true/\Bz d.Bl=some true
 cohort:GC s d.Be
 sample:1<=d.A2.Of/\d.A2.Of<=1000/\1<=d.A2.Bh/\d.A2.Bh<=d.A2.Of/\0<=d.A2.Bi/\d.A2.Bi<=1000
 questions:QS s d.Am
theorem Zm(p:DS s){u:Int×Ab}(A:1<=u.1)(j:u.1<=3)(r:IT u.2){K:Int->Ab->List Ap->Option (Ar×Ab)}{Q:Ar×Ab->Prop}(hK:∀v c b,IT c->QS s b->Ok (K v c b) Q):Ok (iter (λd f=>Ec DD s K d f.1 f.2.1 f.2.2) A9 (u.1,u.2,[])) Q:=by
 refine Ok.loop (λq=>0<=q.1/\IT q.2.1/\(q.2.2.length:Int)+q.1=u.1/\(∀x∈q.2.2,QR s x/\∃k:Nat,q.1<k/\k<4/\x.I=qn k)/\q.2.2.Pairwise λa b=>a.I.toList≠b.I.toList) (λq=>q.1.toNat) ⟨by show 0<=u.1;omega,r,by show((0:Nat):Int)+u.1=u.1;omega,(λx hx=>by cases hx),List.Pairwise.nil⟩ (by unfold A9;show u.1.toNat<_;omega) λrec q t ih=>?_;obtain⟨B,l,C,g,m⟩:=t;simp only[Ec];refine y9 (λhp=>qr (iD (by omega) (by omega)) ?_) λhp=>hK _ _ _ l ⟨by omega,by omega,λx hx=>⟨(g x hx).1,by obtain⟨k,j,h,i⟩:=(g x hx).2;exact⟨k,by omega,h,i⟩⟩,m⟩;obtain⟨n,D⟩:∃n:Nat,q.1=n:=⟨q.1.toNat,by omega⟩;have y:=iS q.1.toNat (by omega) (by omega);have E:i64.wrap (q.1-1)=q.1-1:=wr;refine yb (by rw[y.2];decide) (Ok.bind (Yj l p _) λw e=>Ok.rm (by grind) (ih _ ⟨?_,e.1,?_,λx hx=>?_,?_⟩ ?_))
 ·grind
 ·grind
 ·show QR s x/\∃k:Nat,i64.wrap (q.1-1)<k/\k<4/\x.I=qn k;rcases List.mem_append.1 hx with hx|hx
  ·grind
  ·rw[vR]at hx;subst hx;exact⟨e.2.2,q.1.toNat,by omega,by omega,e.2.1⟩
 ·refine List.pairwise_append.2 ⟨m,List.pairwise_singleton _ _,λa z b o=>?_⟩;rw[vR]at o;subst o;obtain⟨_,k,j,h,i⟩:=g a z;rw[i,e.2.1];exact sy (by omega) h (by omega) (by omega) (by omega)
 ·grind
theorem iq{c:Ab}(f:IT c)(l:DS s){n:Nat}(p:n<3){d:Int×Ab}(g:0<=d.1/\d.1<=1000){k:Ad}(hk:GC s k):Ok (Cs DD s ⟨(Go.Lib.decDigits n).toArray⟩ d c k.Op k.B k.Z k.C k.D k.H) λr=>IT r.2/\DR s r.1:=by
 have m:=qC n p;have o:Ad.mk k.Op k.B k.Z k.C k.D k.H=k:=by cases k;rfl
 have fin:∀(co:Ad)(_:co=k)(a:HA)(h:List Ap),(1<=a.Of/\a.Of<=1000/\1<=a.Bh/\a.Bh<=a.Of/\0<=a.Bi/\a.Bi<=1000)->QS s h->DR s ({ Ae:=(({ data:=#[112] }:ByteArray)++(⟨(Go.Lib.decDigits n).toArray⟩:ByteArray)),Bl:=({ data:=#[115,114,99] }:ByteArray),Be:=co,A2:=a,Am:=h }:Ar) :=
  λco i a h q t=>⟨⟨m.1,m.2.1⟩,⟨pS,od⟩,by rw[i];exact hk,q,t⟩
 unfold Cs;refine Ok.bind (QZ f (by omega) (by omega)) λx hx=>y6 (λ_=>Ok.bind (Hx hx (by omega) (by omega) (by omega) (by omega)) λy hy=>Ok.bind (Hx hy.1 (by omega) (by omega) (by omega) (by omega)) λz w=>Ok.bind (Hx w.1 (by omega) (by omega) (by omega) (by omega)) λu e=>?_) λ_=>Ok.bind (Hx hx (by omega) (by omega) (by omega) (by omega)) λu e=>?_
 ·refine Zm l e.2.1 e.2.2 e.1 λv c b f j=>?_;unfold Ed;exact y3 ⟨f,fin _ o _ _ ⟨by show 1<=y.1;omega,by show y.1<=1000;omega,by show 1<=z.1;omega,by show z.1<=y.1;omega,g⟩ j⟩
 ·refine Zm l e.2.1 e.2.2 e.1 λv c b f j=>?_;unfold Ee;exact y3 ⟨f,fin _ o _ _ ⟨by show(1:Int)<=1;omega,by show(1:Int)<=1000;omega,by show(1:Int)<=1;omega,by show(1:Int)<=1;omega,g⟩ j⟩
theorem Un{c:Ab}(e:IT c)(b:DS s):Ok (D4 DD c s) λr=>IT r.2/\DR s r.1:=by
 unfold D4;refine Ok.bind (Ey e (by omega) (by omega)) λx hx=>?_;obtain⟨n,f⟩:∃n:Nat,x.1=n:=⟨x.1.toNat,by omega⟩;rw[f];have a:n<3:=by omega
 refine qr (iD (by omega) (by omega)) (yb ?_ (Ok.bind (mq b hx.1 1 (by decide) (by decide)) λk hk=>Ok.bind (Ey hk.1 (by omega) (by omega)) λy hy=>Ok.bind (QZ hy.1 (by omega) (by omega)) λz d=>y6 (λ_=>?_) λ_=>?_))
 ·rw[uv,(qC n a).2.2];decide
 ·exact iq d b a ⟨hy.2.1,by omega⟩ (k:=eP) GC.all
 ·exact iq d b a ⟨hy.2.1,by omega⟩ hk.2
theorem QR.ok(g:DS s){q:Ap}(h:QR s q)(l:BU q.I=some true):CH DD s q=some 0:=by
 refine Ok.val ?_;unfold CH;refine qr g.rcheck (y4 rfl (qr l (y4 rfl (y4 ?_ (qr (h.filter.rcheck g (by decide)) (y4 rfl (qr (x:=0) ?_ (y4 rfl ?_))))))))
 ·rcases h.parts with⟨e,_⟩|⟨e,_⟩|⟨e,_⟩<;>rw[e]<;>rfl
 ·refine Ok.val ?_;unfold Mt;rcases h.parts with⟨e,c,a,d,f⟩|⟨e,c,a,d,f⟩|⟨e,c,a,d,f⟩
  ·rcases a with a|a
   ·refine Ok.bind (aF s q.Y 3) λb n=>y7 (by rw[e];rfl) (qr (c.rok g) (y4 rfl (y4 (by grind) (y3 rfl))))
   ·refine qr a.is3 (y7 (by grind) (qr (c.rok g) (y4 rfl (y4 ?_ (y3 rfl)))));grind
  ·exact qr a.is3 (y4 (by rw[e];rfl) (y7 (by grind) (y4 rfl (qr d.rok (y3 rfl)))))
  ·refine qr d.1.is3 (y4 (by grind) (y4 (by rw[e];rfl) (y4 rfl ?_)));obtain⟨⟨i,m,o,j,p⟩,k⟩:=d;rw[m]at k ⊢;have:=k _ (Cf j);refine y5 j ?_;rw[df];exact y4 rfl (qr (f.rcheck g (by decide)) (y3 rfl))
 ·rcases h.parts with⟨e,c,a,d,f⟩|⟨e,c,a,d,f⟩|⟨e,c,a,d,f⟩
  ·rw[e,d,f];exact y4 rfl (y7 rfl (qr (ZM 59) (y4 rfl (y3 rfl))))
  ·rw[e,c,f];exact y4 rfl (y7 rfl (qr (ZM 59) (y4 rfl (y3 rfl))))
  ·rw[e,c,a];exact y4 rfl (y4 rfl (y3 rfl))
theorem DR.ok(e:DS s){d:Ar}(h:DR s d):Gs DD s d=some 0:=by
 have hp:=h.questions.pos;have n:=h.questions.len;obtain⟨o,p,r,t,u,v⟩:=h.sample;refine Ok.val ?_;unfold Gs;refine qr e.rcheck (y4 rfl (qr h.project.1 (y4 rfl (qr h.source.1 (y4 rfl ?_)))));unfold K9;refine qr (h.cohort.rcheck e (by decide)) (y4 rfl (y4 ?_ (y4 (by grind) ?_)))
 ·grind
 refine y8 (λq=>q) d.Am.length (λ_ _=>True) 0 (ug _) rfl trivial (by omega) (λrec q f _=>?_) λrec i q c f _ ih=>?_
 ·simp only[K7,f];rw[CW];exact y3 rfl
 ·have hd:=h.questions.all _ (ud c);simp only[K7,f];rw[Cg];refine y5 c (qr (hd.1.ok e (by obtain⟨k,g,j,l⟩:=hd.2;rw[l];exact(iS k g j).1)) (y4 rfl ?_));refine y8 (λq=>q) i (λ_ _=>True) 0 (ug _) rfl trivial (by omega) (λb m a _=>?_) λb k m hk a _ ih2=>?_
  ·simp only[K8,a];rw[CW];exact ih _ C7 trivial
  ·simp only[K8,a];rw[Cg];exact y5 (by grind) (y5 c (y4 (beq_eq_false_iff_ne.2 (List.pairwise_iff_getElem.1 h.questions.ne k i (by omega) c hk)) (ih2 _ C7 trivial)))
def ls(s:Aa)(i l:Int):Int:=(BF s i l).getD 0
theorem WY(a:DS s){i:Nat}(c:1<=i)(d:i<s.A.length)(h:IR s.A[i]){b:Int}(e:0<=b)(f:b<=fin s i):BF s i b=some (ls s i b)/\DT s i b=some (ls s i b)/\0<=ls s i b/\ls s i b<=b/\LsV s i b (ls s i b):=by
 obtain⟨r,g,j⟩:=fO a c d h e f;have:ls s i b=r:=by unfold ls;rw[g];rfl
 grind
theorem WZ(a:DS s){i:Nat}(b:1<=i)(c:i<s.A.length)(h:Dl s.A[i]):BF s i (fin s i)=some (ls s i (fin s i))/\DT s i (fin s i)=some (ls s i (fin s i))/\0<=ls s i (fin s i)/\ls s i (fin s i)<=fin s i/\LsV s i (fin s i) (ls s i (fin s i)):=by
 obtain⟨r,d,e⟩:=fQ a b c h;have:ls s i (fin s i)=r:=by unfold ls;rw[d];rfl
 grind
def PQ(s:Aa)(q:Ap)(picks:List Ac):Prop:=((∀a∈Lm DD q.Ay,one picks a.B (S8 s a))/\(q.Kind=3->∀a∈Lm DD q.U,one picks a.B (S8 s a)))/\(∀p∈q.V,one picks p.B (ls s p.B p.J))/\∀k:Nat,1<=k->k<s.A.length->(q.Y=k\/(k:Int)∈q.Ai)->one picks k (ls s k (fin s k))
theorem QR.used{q:Ap}(h:QR s q){k:Nat}(hk:k<s.A.length)(a:q.Y=k\/(k:Int)∈q.Ai):Dl s.A[k]:=by
 have c:∀{v:Int},IM s v->v=k->Dl s.A[k]:=λ⟨i,e,_,f,g⟩ j=>by grind
 rcases h.parts with⟨_,_,d,b,_⟩|⟨_,_,d,b,_⟩|⟨_,_,d,b,_⟩
 ·grind
 ·rcases a with a|a
  ·grind
  ·exact c (b.all _ a).1 rfl
 ·rcases a with a|a
  ·exact c b.1 a
  ·grind
theorem QR.dims{q:Ap}(h:QR s q):q.V.length<=3/\∀p∈q.V,IC s p.B/\MC s p:=by
 rcases h.parts with⟨_,a,_⟩|⟨_,a,_⟩|⟨_,a,_⟩
 ·exact⟨a.len,a.all⟩
 all_goals grind
theorem QR.terms{q:Ap}(h:QR s q):q.Ai.length<=3:=by
 rcases h.parts with⟨_,_,_,a,_⟩|⟨_,_,_,a,_⟩|⟨_,_,a,_⟩
 ·grind
 ·exact a.len
 ·grind
theorem qb{q:Ap}(h:q.Ai.length<=3)(k:Int):Ok (NY q k) λb=>(b=true↔(q.Y=k\/k∈q.Ai)):=by
 unfold NY;refine y6 (λe=>y3 ⟨λ_=>.inl (by simpa using e),λ_=>rfl⟩) λe=>(fF (by omega)).bind λb a=>y3 (a.trans ⟨.inr,λh=>h.resolve_left (by grind)⟩)
theorem UX{α:Type}{l:List α}{k:Nat}(hk:k<l.length){Q:α->Prop}:(∀p∈l.take (k+1),Q p)↔(∀p∈l.take k,Q p)/\Q l[k]:=by
 rw[ui hk];grind
theorem mX(l:DS s){q:Ap}(h:QR s q)(o:CH DD s q=some 0):Ok (JO DD s q) λr=>NQ s r (PQ s q):=by
 have t:=l.cols_length;obtain⟨d1,d2⟩:=h.dims
 have C:∀(r:List Ac)(P:List Ac->Prop),NQ s r P->Ok (KD q s r) λz=>NQ s z λpicks=>P picks/\(∀p∈q.V,one picks p.B (ls s p.B p.J))/\∀k:Nat,1<=k->k<s.A.length->(q.Y=k\/(k:Int)∈q.Ai)->one picks k (ls s k (fin s k)):=λr P hr=>by
  refine y8 (λq=>q.2) q.V.length (λk f=>NQ s f.1 λpicks=>P picks/\∀p∈q.V.take k,one picks p.B (ls s p.B p.J)) 0 (ug _) rfl (hr.congr λpicks=>⟨λh=>⟨h,λp hp=>by simp at hp⟩,λh=>h.1⟩) (by omega) (λrec f g c=>?_) λrec k f hk g c ih=>?_
  ·simp only[KB,g];rw[uS]at c;refine Ok.f (y8 (λq=>q.2) s.A.length (λk f=>1<=k/\NQ s f.1 λpicks=>(P picks/\∀p∈q.V,one picks p.B (ls s p.B p.J))/\∀j:Nat,1<=j->j<k->(q.Y=j\/(j:Int)∈q.Ai)->one picks j (ls s j (fin s j))) 1 (by omega) rfl ⟨uh _,c.congr λpicks=>⟨λh=>⟨h,λj u v=>by omega⟩,λh=>h.1⟩⟩ (by omega) (λrec f g c=>?_) λrec k f hk g c ih=>?_)
   ·simp only[KC,g];exact Ok.f (y3 (c.2.congr λpicks=>and_assoc))
   ·obtain⟨m,c⟩:=c;simp only[KC,g];refine Ok.t ((qb h.terms k).bind λb D=>y6 (λe=>?_) λe=>ih _ C7 ⟨by omega,c.congr λpicks=>and_congr_right λ_=>⟨λh j u v F=>?_,λh j u v=>h j u (by omega)⟩⟩)
    ·have G:=h.used hk (D.1 e);obtain⟨_,H,Q,I,_⟩:=WZ l m hk G;refine qr (l.rfinest m hk) (qr H ((c.raise l m hk (n:=ls s k (fin s k)) I).bind λz o=>ih _ C7 ⟨by omega,o.congr λpicks=>and_assoc.trans (and_congr_right λ_=>⟨λh j u v F=>?_,λh=>⟨λj u v=>h j u (by omega),h k m (by omega) (D.1 e)⟩⟩)⟩));grind
    ·grind
  ·obtain⟨⟨i,t,w,A,J⟩,⟨K,_,_,L,E,B⟩⟩:=d2 _ (ud hk);obtain rfl:i=K:=by omega
   obtain⟨_,M,R,S,_⟩:=WY l w A J E B;simp only[KB,g];refine Ok.t (y5 hk (y5 hk (y5 hk ?_)));rw[t];refine qr M ((c.raise l w A (n:=ls s i q.V[k].J) (by omega)).bind λz o=>ih _ C7 (o.congr λpicks=>?_));rw[and_assoc,UX hk,t]
 unfold JO;refine qr o (y4 rfl ((h.filter.rneeds_nq l).bind λx hx=>y6 (λd=>?_) λd=>?_))
 ·have d:q.Kind=3:=by simpa using d
  have N:GC s q.U:=by
   rcases h.parts with⟨e,_⟩|⟨e,_⟩|⟨_,_,_,_,e⟩
   all_goals grind
  refine(N.rneeds_nq l).bind λy hy=>?_;have O:=eR l hy.pok hy.asc;refine y8 (λq=>q.2) y.length (λk f=>NQ s f.1 λpicks=>(∀a∈Lm DD q.Ay,one picks a.B (S8 s a))/\∀p∈y.take k,one picks p.B p.J) 0 (ug _) rfl (hx.congr λpicks=>⟨λh=>⟨h,λp hp=>by simp at hp⟩,λh=>h.1⟩) (by omega) (λrec f g c=>?_) λrec k f hk g c ih=>?_
  ·simp only[KA,g];rw[uS]at c;exact Ok.f ((C _ _ c).mono λr hr=>hr.congr λpicks=>and_congr_left λ_=>and_congr_right λ_=>(hy.iff picks).trans ⟨λh _=>h,λh=>h d⟩)
  ·obtain⟨i,w,A,t,E,B⟩:=hy.pok _ (ud hk);simp only[KA,g];refine Ok.t (y5 hk (y5 hk ?_));rw[t];refine(c.raise l w A B).bind λz o=>ih _ C7 (o.congr λpicks=>?_);rw[and_assoc,UX hk,t]
 ·have d:q.Kind≠3:=by simpa using d
  exact(C _ _ hx).mono λr hr=>hr.congr λpicks=>and_congr_left λ_=>⟨λh=>⟨h,λe=>absurd e d⟩,λh=>h.1⟩
theorem DR.question(b:DS s){d:Ar}(h:DR s d){q:Ap}(c:q∈d.Am):QR s q/\CH DD s q=some 0:=by
 obtain⟨a,k,e,f,g⟩:=h.questions.all q c;exact⟨a,a.ok b (by rw[g];exact(iS k e f).1)⟩
theorem r9(c:DS s){d:Ar}(h:DR s d):Ok (NZ DD s d) λr=>r.2=0/\NQ s r.1 λpicks=>∀q∈d.Am,PQ s q picks:=by
 have C:=h.questions.len;unfold NZ;refine qr (h.ok c) (y4 rfl (y8 (λq=>q.2) d.Am.length (λk e=>NQ s e.1 λpicks=>∀q∈d.Am.take k,PQ s q picks) 0 (ug _) rfl (NQ.nil λpicks q f=>by simp at f) (by omega) (λrec e f l=>?_) λrec k e hk f l ih=>?_))
 ·simp only[LY,f];rw[uS]at l;exact Ok.f (y3 ⟨rfl,l⟩)
 ·obtain⟨t,u⟩:=h.question c (ud hk);simp only[LY,f];refine Ok.t (y5 hk ((mX c t u).bind λx hx=>?_));have v:=eR c hx.pok hx.asc;refine y8 (λq=>q.2) x.length (λj e=>NQ s e.1 λpicks=>(∀q∈d.Am.take k,PQ s q picks)/\∀p∈x.take j,one picks p.B p.J) 0 (ug _) rfl (l.congr λpicks=>⟨λh=>⟨h,λp hp=>by simp at hp⟩,λh=>h.1⟩) (by omega) (λg n b a=>?_) λg j n m b a ih2=>?_
  ·simp only[LZ,b];rw[uS]at a;exact Ok.f (ih _ C7 (a.congr λpicks=>by rw[UX hk,hx.iff picks]))
  ·obtain⟨i,w,y,o,D,A⟩:=hx.pok _ (ud m);simp only[LZ,b];refine Ok.t (y5 m (y5 m ?_));rw[o];refine(a.raise c w y A).bind λz B=>ih2 _ C7 (B.congr λpicks=>?_);rw[and_assoc,UX m,o]
theorem oO(c:DS s){d:Ar}(h:DR s d){picks:List Ac}(hp:∀p∈picks,MC s p)(e:picks.Pairwise λa b=>a.B<b.B)(j:∀q∈d.Am,PQ s q picks):Mu DD s d picks=some 0:=by
 have n:=h.questions.len;have k:=eR c hp e;refine Ok.val ?_;unfold Mu;refine qr (h.ok c) (y4 rfl (qr (nR c hp e (by omega)) (y4 rfl (yc d.Am.length (λrec=>Ok.f (y3 rfl)) λrec i f ih=>Ok.t (y5 f (qr (x:=true) (Ok.val ?_) (y4 rfl (ih _ C7))))))));obtain⟨l,g⟩:=h.question c (ud f);unfold LX;refine qr g (y7 rfl (qr (nR c hp e (by omega)) (y7 rfl ((mX c l g).bind λr hr=>?_))));have m:=eR c hr.pok hr.asc;exact qr (pE picks r (by omega) (by omega)) (y3 ((PG hr.pos).2 ((hr.iff picks).2 (j _ (ud f)))))
theorem NQ.self{r:List Ac}{P:List Ac->Prop}(h:NQ s r P):P r:=(h.iff r).1 λp hp=>.inr ⟨p,hp,rfl,uU _⟩
