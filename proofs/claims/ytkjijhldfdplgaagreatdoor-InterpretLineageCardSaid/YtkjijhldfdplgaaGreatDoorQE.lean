/- QE -/
import Derived.Test.YtkjijhldfdplgaaGreatDoorQD
open Go.IntKind (i64)
set_option linter.all false
namespace Go.Proofs.YtkjijhldfdplgaaGreatDoor.P
open Go Go.Abs Go.Proofs
set_option maxRecDepth 100000
variable {s:Aa}
theorem ft:(YZ.all λL=>(Cr L).all λv=>(List.range L.U.length).all λk=>(OG L v (k:Int)).isSome)=true:=by decide +kernel
def RL(s:Aa)(a:Ah):Prop:=∃i:Nat,a.B=i/\1<=i/\∃hi:i<s.A.length,(∀v,Z1 s s.A[i] v->Ok (G2 s a v) λ_=>True)/\∀l,0<=l->l<=Da s i->Ok (G3 s a l) λb=>l=Da s i->b=true
theorem qh(r:DS s){m:Nat}{c:Ah}(h:RC s m c)(ho:c.Op=2\/c.Op=3\/c.Op=4):RL s c:=by
 cases h with
 | under n i a d h L u f k P Q =>
   have z:∀v,Z1 s s.A[i] v->Ok (G2 s { Op:=2,B:=i,Z:=k,D:=0,E:=0,G:=[] } v) λ_=>True:=λv g=>by
    have J:=List.all_eq_true.1 (List.all_eq_true.1 (List.all_eq_true.1 ft L u) v (g.code h f)) k.toNat (List.mem_range.2 (by omega));rw[show((k.toNat:Nat):Int)=k by omega]at J;obtain⟨b,N⟩:=Option.isSome_iff_exists.1 J;unfold G2;exact y6 rfl (y4 d (qr f (qr N (y5 (λ_=>ur trivial) λ_=>ur trivial))))
   refine⟨i,rfl,a,d,z,λl w y=>?_⟩;have K:(Cr L).length<=10:=by have:=List.all_eq_true.1 Qp L u;simpa using this
   have g:∀v∈Cr L,Z1 s s.A[i] v:=λv g=>.inr (.inl ⟨h.kind,L,u,f,g⟩);unfold G3;refine y4 d (y6 rfl (qr (VJ (DG d) f u) (ya (Cr L).length (λrec=>Ok.f (ur λ_=>rfl)) λrec p hp ih=>Ok.t (ya p (λrec=>Ok.f (ih _ CB)) λrec q hq ih2=>?_))));have o:q<(Cr L).length:=by omega
   have A:=g _ (ta hp);have C:=g _ (ta o);obtain⟨t1,O,_⟩:=z _ A;obtain⟨t2,F,_⟩:=z _ C;refine Ok.t (y4 hp (qr (Vg r a d w y A) (y4 o (qr (Vg r a d w y C) (y5 (λe=>y4 hp (qr O (y4 o (qr F (y5 (λR=>ur λH=>?_) λ_=>ih2 _ CB))))) λ_=>ih2 _ CB)))));rw[H,Xy r a d A,Xy r a d C]at e;grind
 | between n i a d h lo S a0 T U =>
   have H:Da s i=s.A[i].S.length:=by rw[Es d,Db h]
   have I:=r.fin_ok a d;refine⟨i,rfl,a,d,λv g=>?_,λl w y=>?_⟩
   ·unfold G2;exact y3 rfl (y6 rfl (y5 (λ_=>ur trivial) λ_=>y5 (λ_=>ur trivial) λ_=>ur trivial))
   ·unfold G3;refine y4 d (y3 rfl (y3 rfl (y5 (λe=>ur λt=>?_) λe=>?_)))
    ·grind
    ·have t:l≠0:=λF=>by rw[F]at e;cases e
     have V:=FV h (l:=l) (by omega) (by omega);have j:∀x:Int,l=Da s i->((Int.tmod x (Ld s.A[i] l))==0)=true:=λx t=>by rw[t,H,jw h];simp
     refine qr (bS h (by omega) (by omega)) (y5 (λ_=>y5 (λ_=>ur λ_=>rfl) λ_=>yb (by omega) (ur (j _))) λ_=>yb (by omega) (y5 (λ_=>y5 (λ_=>ur λ_=>rfl) λ_=>yb (by omega) (ur (j _))) λW=>ur λt=>?_));grind
 | miss n i a d h M =>
   have I:=r.fin_ok a d;refine⟨i,rfl,a,d,λv g=>?_,λl w y=>?_⟩
   ·unfold G2;exact y3 rfl (y3 rfl (y6 rfl (y5 (λ_=>ur trivial) λ_=>ur trivial)))
   ·unfold G3;exact y4 d (y3 rfl (y6 rfl (ur λt=>ti (by omega))))
 | all=>rcases ho with h|h|h<;>cases h
 | and=>grind
 | or=>grind
 | not=>grind
theorem cL:∀(d:Nat)(c:Ah),IF d c=CI d c
 | 0,_=>rfl
 | d+1,c=>by
   show LK d (IF d) c=EA d (CI d) c;rw[show IF d=CI d from funext (cL d)];rfl
theorem R6{r:List Ac}(d:r.length<=100000)(c l:Int):Ok (Gu r c l) λz=>z.length<=r.length+1:=by
 unfold Gu;refine y7 (λq=>q.2.1) r.length (λk q=>q.2.2.length<=k+1/\(q.1=false->q.2.2.length<=k)) 0 (sZ _) rfl ⟨sZ _,λ_=>td _⟩ (by omega) (λrec q hq a=>?_) λrec k q hk hq a ih=>?_
 ·simp only[K9,RJ,hq];exact Ok.f (y5 (λe=>Ok.rm (by have:=a.1;simp;omega) (ur (by have:=a.2 (by grind);simp;omega))) λ_=>ur a.1)
 ·obtain⟨f,b⟩:=a;simp only[K9,hq];refine Ok.t (y4 hk (y5 (λe=>?_) λ_=>y5 (λ_=>Ok.rm (by simp;omega) (ih _ CB ⟨by simp;omega,λe=>by cases e⟩)) λ_=>Ok.rm (by simp;omega) (ih _ CB ⟨by simp;omega,λe=>by have:=b e;simp;omega⟩)));have g:=b (by cases h:q.1<;>simp_all);exact Ok.rm (by simp;omega) (y5 (λ_=>Ok.rm (by simp;omega) (ih _ CB ⟨by simp;omega,λe=>by cases e⟩)) λ_=>Ok.rm (by simp;omega) (ih _ CB ⟨by simp;omega,λe=>by cases e⟩))
theorem GC.rneeds(e:DS s){c:Ah}(h:GC s c){d:Nat}(hd:40<=d):Ok (Ha d s c) λr=>r.length<=512:=by
 have g:=h;obtain⟨n,o,x,p⟩:=h;unfold Ha;rw[cL];refine qr (g.rcheck e hd) (y3 rfl ((aL (qh e) 9 d n o p (by omega) (by omega)).bind λl ⟨j,f⟩=>?_));have j:l.length<=512:=j;refine y7 (λq=>q.2) l.length (λk q=>q.1.length<=k) 0 (sZ _) rfl (sZ _) (by omega) (λrec q hq t=>?_) λrec k q hk hq t ih=>?_
 ·simp only[K8,hq];exact Ok.f (ur (by grind))
 ·obtain⟨i,g,u,w,_,a⟩:=f _ (ta hk);have y:=e.fin_ok u w;have hK:∀v,Ok (RH l k q.1 rec v) λr=>r.length<=512:=λv=>y4 hk ((R6 (by omega) _ _).bind λz A=>ih _ CB (by grind));simp only[K8,hq];refine Ok.t (ya (Da s i).toNat (λrec=>y4 hk ((a _ (by omega) (by omega)).bind λb m=>?_)) λrec v B ih2=>y4 hk ((a _ (by omega) (by omega)).bind λb m=>y5 (λ_=>ih2 _ CB) λ_=>hK _));rw[m (by omega)];exact y3 rfl (hK _)
theorem Zf(o:DS s){i:Nat}(d:1<=i)(f:i<s.A.length){a b:Int}(a0:0<=a)(u:0<=b)(v:b<=Da s i):Ok (Ij s i a b) λr=>b<=a->r=true:=by
 unfold Ij;refine y4 f (y5 (λ_=>ur λ_=>rfl) λD=>?_);have z:a<b/\b≠0:=by grind
 have no:∀{x:Bool},Ok (some x) λr=>b<=a->r=true:=ur λh=>absurd h (by omega);rcases o.col d f with h|h
 ·obtain⟨L,p,g⟩:=o.clist h;have w:(Cr L).length<=10:=by have:=List.all_eq_true.1 Qp L p;simpa using this
  have j:∀(k:Nat)(hk:k<(Cr L).length)(l:Int),0<=l->l<=Da s i->Cf s i l (Cr L)[k]=some (CV s s.A[i] l (Cr L)[k]):=λk hk l A y=>Vg o d f A y (.inr (.inl ⟨h.kind,L,p,g,ta hk⟩));refine y6 (by rw[h.kind];rfl) (qr (VJ (DG f) g p) (ya (Cr L).length (λrec=>Ok.f no) λrec k hk ih=>Ok.t (ya k (λrec=>Ok.f (ih _ CB)) λrec m E ih2=>Ok.t ?_)));have c:m<(Cr L).length:=by omega
  exact y4 hk (qr (j k hk b u v) (y4 c (qr (j m c b u v) (y5 (λ_=>y4 hk (qr (j k hk a a0 (by omega)) (y4 c (qr (j m c a a0 (by omega)) (y5 (λ_=>no) λ_=>ih2 _ CB))))) λ_=>ih2 _ CB))))
 ·have F:Da s i=s.A[i].S.length:=by rw[Es f,Db h]
  have t:=FV h (l:=b) (by omega) (by omega);obtain⟨y,G⟩:=h.low;obtain⟨q,hq,_⟩:=dJ (n:=s.A[i].D) t.1 (by omega) (by omega) (by omega);refine y3 (by rw[h.kind];rfl) (qr (bS h (by omega) (by omega)) (qr hq (y5 (λ_=>no) λe=>?_)));have H:a≠0:=by grind
  have B:=FV h (l:=a) (by omega) (by omega);refine Ok.loop (λq=>0<=q.2/\q.2<=2) (λq=>(2-q.2).toNat) ⟨ua _,by show(0:Int)<=2;decide⟩ (by unfold AC;show(2-(0:Int)).toNat<_;decide) λrec q hq ih=>y5 (λe=>qr (bS h (by omega) (by omega)) (yb (by omega) (y5 (λ_=>no) λ_=>?_))) λ_=>no;have C:q.2<2:=by grind
  have I:i64.wrap (q.2+1)=q.2+1:=wr;grind
theorem WL(b:DS s){i:Nat}(a:1<=i)(c:i<s.A.length){l:Int}(d:0<=l)(f:l<=Da s i):Ok (GZ s i l) λ_=>True:=by
 have h:=b.fin_ok a c;unfold GZ;refine qr (b.rfinest a c) ?_;rw[MA,tc,ti ⟨d,f⟩];refine y3 rfl (Ok.loop (λq=>0<=q/\q<=l) (λq=>(l-q).toNat) ⟨ua _,d⟩ (by unfold AC;omega) λrec q hq ih=>(Zf b a c hq.1 d f).bind λr hr=>y5 (λe=>?_) λ_=>ur trivial);have g:q<l:=by grind
 have j:i64.wrap (q+1)=q+1:=wr;grind
theorem bz{l:List Int}{x:Int}(c:l.length<=10000000):Ok (Ja l x) λb=>(b=true↔x∈l):=by
 unfold Ja;refine y7 (λq=>q) l.length (λk _=>x ∉ l.take k) 0 (sZ _) rfl (by simp) (by omega) (λrec q hq a=>?_) λrec k q hk hq a ih=>?_
 ·rw[vf]at a;simp only[Na,hq];exact Ok.f (ur ⟨(λh=>by cases h),λh=>absurd h a⟩)
 ·simp only[Na,hq];refine Ok.t (y4 hk (y5 (λe=>ur ⟨λ_=>?_,λ_=>rfl⟩) λe=>ih _ CB λh=>?_))
  ·grind
  ·rw[tp hk]at h;grind
theorem gA(s:Aa)(m k:Int):Ok (KE s m k) λb=>b=true->∃i:Nat,m=(i:Int)/\i<s.A.length:=by
 unfold KE;refine y5 (λe=>?_) λ_=>ur λh=>by cases h
 obtain⟨i,rfl⟩:∃i:Nat,m=i:=⟨m.toNat,by grind⟩;have a:i<s.A.length:=by grind
 exact y4 a (ur λ_=>⟨i,rfl,a⟩)
theorem jc(a:DS s)(p:Ac):Ok (IE s p) λe=>e=0->QT s p:=by
 have c:=a.cols_length;unfold IE;refine qr a.rcheck (y3 rfl (y5 (λ_=>ur λh=>by cases h) λh=>?_));have d:1<=p.B/\p.B<s.A.length:=by grind
 obtain⟨i,b⟩:∃i:Nat,p.B=i:=⟨p.B.toNat,by omega⟩;rw[b];refine qr (a.rfinest (i:=i) (by omega) (by omega)) ?_;rw[MA,tc];exact y5 (λ_=>ur λh=>by cases h) λe=>ur λ_=>⟨i,by omega,by omega,b,by grind,by grind⟩
theorem eH(f:DS s){l:List Ac}(t:l.length<=1000000):Ok (JS s l) λe=>e=0->(∀p∈l,QT s p)/\l.Pairwise λa b=>a.B<b.B:=by
 unfold JS;refine qr f.rcheck (y3 rfl (y7 (λq=>q) l.length (λk _=>(∀p∈l.take k,QT s p)/\(l.take k).Pairwise λa b=>a.B<b.B) 0 (sZ _) rfl ⟨λp hp=>by simp at hp,List.Pairwise.nil⟩ (by omega) (λrec q hq d=>?_) λrec k q hk hq d ih=>?_))
 ·simp only[K4,hq];rw[vf]at d;exact Ok.f (ur λ_=>d)
 ·simp only[K4,hq];refine Ok.t (y4 hk ((jc f l[k]).bind λe g=>y5 (λm=>ur λh=>?_) λm=>?_))
  ·grind
  ·have g:=g (by grind)
   have c:∀p∈l.take (k+1),QT s p:=λp hp=>by
    rw[tp hk]at hp;grind
   have go:(∀p∈l.take k,p.B<l[k].B)->(l.take (k+1)).Pairwise λa b=>a.B<b.B:=λh=>by
    rw[tp hk];grind
   refine y8 (λi=>?_) λu=>ih _ CB ⟨c,go λp hp=>by rw[show k=0 by omega]at hp;simp at hp⟩;have n:i64.wrap ((k:Int)-1)=((k-1:Nat):Int):=by rw[wr];omega
   rw[n];refine y4 hk (y4 (by grind) (y8 (λ_=>ur λh=>by cases h) λo=>ih _ CB ⟨c,go λp hp=>?_⟩));obtain⟨j,r,rfl⟩:=List.mem_iff_getElem.1 hp;rw[tP]at r;rw[vd];by_cases v:j=k-1
   ·grind
   ·have:=List.pairwise_iff_getElem.1 d.2 j (k-1) (by grind) (by rw[tP];omega) (by omega);grind
structure pP(s:Aa)(q:AE):Prop where
 name:Ok (C0 q.J) λ_=>True
 filter:GC s q.A3
 event:(q.Kind≠3/\q.V=C9)\/GC s q.V
 dims:q.Y.length<=10/\∀p∈q.Y,QT s p
 terms:q.An.length<=10
theorem fO(c:DS s){l:List Ac}(d:l.length<=10):Ok (JI s l) λ_=>True:=by
 unfold JI;exact y5 (λ_=>ur trivial) λ_=>ya l.length (λrec=>Ok.f (ur trivial)) λrec i a ih=>Ok.t (y4 a ((jc c _).bind λe _=>y5 (λ_=>ur trivial) λ_=>y4 a ((gA s _ _).bind λb _=>y5 (λ_=>ur trivial) λ_=>ya i (λrec=>Ok.f (ih _ CB)) λrec k hk ih2=>Ok.t (y4 (by omega) (y4 a (y5 (λ_=>ur trivial) λ_=>ih2 _ CB))))))
theorem fm(s:Aa){l:List Int}(c:l.length<=10)(m:Int):Ok (Mo s m l) λ_=>True:=by
 unfold Mo;refine y5 (λ_=>ur trivial) λ_=>ya l.length (λrec=>Ok.f (ur trivial)) λrec i a ih=>Ok.t (y4 a ((gA s _ _).bind λb _=>y5 (λ_=>ur trivial) λ_=>y4 a (y5 (λ_=>ur trivial) λ_=>yb (by omega) (y4 a ((bz ?_).bind λb _=>y5 (λ_=>ur trivial) λ_=>ih _ CB)))));unfold NB;grind
theorem NY(c:DS s){q:AE}(h:pP s q):Ok (DI DD s q) λ_=>True:=by
 unfold DI;refine qr c.rcheck (y3 rfl (h.name.bind λb _=>y5 (λ_=>ur trivial) λ_=>y5 (λ_=>ur trivial) λ_=>qr (h.filter.rcheck c (by decide)) (y3 rfl (Ok.bind (P:=λ_=>True) ?_ λe _=>y5 (λ_=>ur trivial) λ_=>y5 (λ_=>ur trivial) λ_=>y5 (λhk=>?_) λ_=>ur trivial))))
 ·unfold Mp;refine(gA s _ _).bind λb f=>y5 (λ_=>(fO c h.dims.1).bind λe _=>y5 (λ_=>ur trivial) λ_=>y5 (λ_=>ur trivial) λ_=>ur trivial) λk=>y5 (λ_=>y5 (λ_=>ur trivial) λ_=>(fm s h.terms _).bind λe _=>ur trivial) λl=>y5 (λ_=>ur trivial) λg=>?_;obtain⟨i,e,j⟩:=f (by grind);rw[e];refine y4 j (y5 (λ_=>ur trivial) λ_=>Ok.bind (P:=λ_=>True) ?_ λe _=>ur trivial);rcases h.event with⟨_,a⟩|a
  ·grind
  ·exact⟨_,a.rcheck c (by decide),trivial⟩
 ·have hk:q.Kind≠3:=by simpa using hk
  rcases h.event with⟨_,a⟩|a
  ·rw[a];exact qr (x:=true) rfl (y3 rfl (ur trivial))
  ·refine Ok.bind (P:=λ_=>True) ?_ λb _=>y5 (λ_=>ur trivial) λ_=>ur trivial;unfold Qu;refine Ok.bind (P:=λ_=>True) ?_ λb _=>ur trivial;show Ok (KA 59 (Og 59) q.V C9) _;unfold KA;have d:(q.V.Op != 0)=true:=a.op;refine y6 ?_ (ur trivial);rw[show(q.V.Op != C9.Op)=true from d];rfl
structure Wh(s:Aa)(d:Av):Prop where
 project:C0 d.Ae=some true/\Cz d.Ae=some true
 source:Ok (C0 d.Bs) λ_=>True
 cohort:GC s d.Bc
 questions:d.A8.length<=3/\∀q∈d.A8,pP s q
theorem Ki(a:DS s){d:Av}(h:Wh s d):Ok (II DD s d) λ_=>True:=by
 have f:=h.questions.1;unfold II;refine qr a.rcheck (y3 rfl (qr h.project.1 (y3 rfl (h.source.bind λb _=>y5 (λ_=>ur trivial) λ_=>?_))));unfold Oj;exact qr (h.cohort.rcheck a (by decide)) (y3 rfl (y5 (λ_=>ur trivial) λ_=>y5 (λ_=>ur trivial) λ_=>ya d.A8.length (λrec=>Ok.f (ur trivial)) λrec i c ih=>Ok.t (y4 c ((NY a (h.questions.2 _ (ta c))).bind λe _=>y5 (λ_=>ur trivial) λ_=>ya i (λrec=>Ok.f (ih _ CB)) λrec k hk ih2=>Ok.t (y4 (by omega) (y4 c (y5 (λ_=>ur trivial) λ_=>ih2 _ CB)))))))
theorem WR(a:DS s){q:AE}(h:pP s q):Ok (Hb DD s q) λr=>r.length<=1050:=by
 have v:=a.cols_length;have j:=h.dims.1
 have l:∀r:List Ac,r.length<=1024->Ok (IJ q s r) λr=>r.length<=1050:=λr hr=>by
  refine y7 (λq=>q.2) q.Y.length (λk q=>q.1.length<=1024+k) 0 (sZ _) rfl hr (by omega) (λrec c hq d=>?_) λrec k c hk hq d ih=>?_
  ·simp only[GR,hq];refine Ok.f (y7 (λq=>q.2) s.A.length (λk q=>1<=k/\q.1.length<=1034+k) 1 (by omega) rfl ⟨td _,by show c.1.length<=_;omega⟩ (by omega) (λrec c hq d=>?_) λrec k c hk hq d ih=>?_)
   ·simp only[GT,hq];exact Ok.f (ur (by grind))
   ·obtain⟨f,d⟩:=d;have w:=a.fin_ok f hk;simp only[GT,hq];refine Ok.t (Ok.bind (P:=λ_=>True) ?_ λb _=>y5 (λ_=>qr (a.rfinest f hk) ((WL a f hk (by omega) (ua _)).bind λL _=>(R6 (by omega) _ _).bind λz g=>ih _ CB ⟨by omega,by show z.length<=_;omega⟩)) λ_=>ih _ CB ⟨by omega,by show c.1.length<=_;omega⟩);unfold Om;exact y5 (λ_=>ur trivial) λ_=>(bz (by have:=h.terms;omega)).bind λb _=>ur trivial
  ·simp only[GR,hq];obtain⟨i,m,n,o,p,t⟩:=h.dims.2 _ (ta hk);refine Ok.t (y4 hk (y4 hk (y4 hk ?_)));rw[o];exact(WL a m n p t).bind λL _=>(R6 (by omega) _ _).bind λz g=>ih _ CB (by grind)
 unfold Hb;refine(NY a h).bind λe _=>y5 (λ_=>ur (sZ _)) λ_=>(h.filter.rneeds a (by decide)).bind λx hx=>y5 (λhk=>?_) λ_=>l _ (by omega);have u:GC s q.V:=h.event.resolve_left λh=>h.1 (by grind);refine(u.rneeds a (by decide)).bind λy hy=>y7 (λq=>q.2) y.length (λk q=>q.1.length<=512+k) 0 (sZ _) rfl hx (by omega) (λrec c hq d=>?_) λrec k c hk hq d ih=>?_
 ·grind
 ·simp only[Ol,hq];exact Ok.t (y4 hk (y4 hk ((R6 (by omega) _ _).bind λz g=>ih _ CB (by grind))))
theorem gL(g:DS s){d:Av}(h:Wh s d):Ok (On DD s d) λr=>r.1.length<=4000:=by
 have n:=h.questions.1;unfold On;refine(Ki g h).bind λe _=>y5 (λ_=>ur (sZ _)) λ_=>y7 (λq=>q.2) d.A8.length (λk q=>q.1.length<=1050*k) 0 (sZ _) rfl (sZ _) (by omega) (λrec m hq i=>?_) λrec k m hk hq i ih=>?_
 ·simp only[LO,hq];exact Ok.f (ur (by grind))
 ·simp only[LO,hq];refine Ok.t (y4 hk ((WR g (h.questions.2 _ (ta hk))).bind λx hx=>y7 (λq=>q.2) x.length (λj q=>q.1.length<=1050*k+j) 0 (sZ _) rfl i (by omega) (λb c a f=>?_) λb j c l a f ih2=>?_))
  ·simp only[LQ,a];exact Ok.f (ih _ CB (by grind))
  ·simp only[LQ,a];exact Ok.t (y4 l (y4 l ((R6 (by omega) _ _).bind λz o=>ih2 _ CB (by grind))))
theorem aR{a b:List Ac}(e:a.length<=100000)(f:b.length<=100000):Ok (K7 a b) λ_=>True:=by
 unfold K7;refine ya a.length (λrec=>Ok.f (ur trivial)) λrec k hk ih=>Ok.t (y7 (λq=>q.2) b.length (λ_ _=>True) 0 (sZ _) rfl trivial (by omega) (λc q hq _=>?_) λc j q d hq _ ih2=>?_)
 ·simp only[J4,hq];exact Ok.f (y5 (λ_=>ur trivial) λ_=>ih _ CB)
 ·simp only[J4,hq];exact Ok.t (y5 (λ_=>ih2 _ CB trivial) λ_=>y4 d (y4 hk (y5 (λ_=>y4 d (y4 hk (ih2 _ CB trivial))) λ_=>ih2 _ CB trivial)))
theorem cU(f:DS s){d:Av}(h:Wh s d){c:List Ac}(hp:c.length<=4000):Ok (Mq DD s d c) λe=>e=0->(∀p∈c,QT s p)/\c.Pairwise λa b=>a.B<b.B:=by
 have n:=h.questions.1;unfold Mq;refine(Ki f h).bind λe _=>y5 (λg=>ur λk=>?_) λ_=>(eH f (by omega)).bind λo j=>y5 (λg=>ur λk=>?_) λk=>ya d.A8.length (λrec=>Ok.f (ur λ_=>j (by grind))) λrec i l ih=>Ok.t (y4 l (Ok.bind (P:=λ_=>True) ?_ λb _=>y5 (λ_=>ur λh=>by cases h) λ_=>ih _ CB))
 ·grind
 ·grind
 ·have m:=h.questions.2 _ (ta l);unfold LN;exact(NY f m).bind λe _=>y5 (λ_=>(eH f (by omega)).bind λe _=>y5 (λ_=>(WR f m).bind λr hr=>(aR (by omega) (by omega)).bind λ_ _=>ur trivial) λ_=>ur trivial) λ_=>ur trivial
theorem XX(u:DS s){r:List Int}(hr:SY s r):∀(n d:Nat){c:Ah},RC s n c->n<d->Ok (L3 d s c r) λ_=>True
 | n,d+1,c,h,hd=>by
   show Ok (KC d (L3 d) s c r) _;unfold KC;refine y5 (λe=>?_) λe=>?_
   ·obtain⟨i,e,B,v,w,_⟩:=qh u h (iO e);have g:i<r.length:=by rw[hr.1];exact v
    rw[e];exact y4 g ((w _ (hr.2 i _ _ (P3 v) (P3 g))).bind λt _=>ur trivial)
   ·have hk:=h.kids
    have a:∀b:List Int,b.length=c.G.length->Ok ((Oi c.Op b).bind λp=>some p) λ_=>True:=λb j=>by
     refine Ok.bind (P:=λ_=>True) ?_ λ_ _=>ur trivial;unfold Oi;have l:b.length=2->∀{f:Int->Int->Int},Ok ((idx b 0).bind λx=>(idx b 1).bind λy=>some (f x y)) λ_=>True:=λj _=>y4 (i:=0) (by omega) (y4 (i:=1) (by omega) (ur trivial))
     cases h with
     | all=>exact y3 rfl (y3 rfl (y3 rfl (ur trivial)))
     | and n x y _ _=>exact y3 rfl (y6 rfl (l j))
     | or n x y _ _=>exact y3 rfl (y3 rfl (y6 rfl (l j)))
     | not n x _ =>
       have j:b.length=1:=j;exact y6 rfl (y4 (i:=0) (by omega) (ur trivial))
     | under=>cases e
     | between=>cases e
     | miss=>cases e
    refine y9 c.G.length (λk q=>q.length=k) rfl (λrec q hq=>Ok.f (a _ hq)) (λrec k q o z ih=>?_) (by omega);obtain⟨m,C,A⟩:=hk.2 _ (ta o);exact Ok.t (y4 o ((XX u hr m d A (by omega)).bind λt _=>Ok.rm (by grind) (ih _ _ CB (by simp[z]))))
theorem fE(a:DS s){r:List Int}(hr:SY s r){c:Ah}(h:GC s c):Ok (Oe DD s c r) λ_=>True:=by
 have b:=h;obtain⟨n,d,e⟩:=h;unfold Oe;exact qr (b.rcheck a (by decide)) (y3 rfl (qr (rW a hr) (y3 rfl ((XX a hr n DD d (by grind)).bind λt _=>ur trivial))))
theorem m9(x:Io)(id:Int):Ok (Sb x id) λ_=>True:=by
 have h:Ok (Mr x) λe=>e=0->x.Of≠0:=by
  unfold Mr;refine y5 (λ_=>ur λh=>by cases h) λc=>ur λ_ d=>?_;grind
 obtain⟨v,a⟩:∃v,Qv x.Bn id=some v:=⟨_,rfl⟩;unfold Sb;exact h.bind λe b=>y5 (λf=>qr a (yb (b (by grind)) (ur trivial))) λ_=>ur trivial
theorem bN{x:BQ}{n:Nat}(h:cF x n)(j:n<=100){d:Av}(hd:Wh x.At d):Ok (KI DD x d) λr=>r.length<=n/\∀v∈r,∃(i:Nat)(a:i<x.C.length),v=P.hd x.C[i]:=by
 have l:=h.len;unfold KI;refine qr (nN h j) (y3 rfl ((Ki h.schema hd).bind λe _=>y5 (λ_=>ur ⟨by simp,λv g=>by cases g⟩) λ_=>?_));unfold M3;refine y9 x.C.length (λi q=>q.length<=i/\∀v∈q,∃(i:Nat)(a:i<x.C.length),v=P.hd x.C[i]) ⟨td _,λv g=>by cases g⟩ (λrec q c=>Ok.f (ur ⟨by have:=c.1;omega,c.2⟩)) λrec i q a c ih=>?_;have k:=c.1;have hr:=h.rows _ (ta a);have f:=hr.ne h.schema;have skip:∀{v:Int},v=((i+1:Nat):Int)->Ok (rec (v,q)) λr=>r.length<=n/\∀v∈r,∃(i:Nat)(a:i<x.C.length),v=P.hd x.C[i]:=λe=>ih _ _ e ⟨by omega,c.2⟩;refine Ok.t (y4 a ((fE h.schema hr hd.cohort).bind λt _=>y5 (λ_=>y4 a (qr (GM f) ((m9 _ _).bind λb _=>y5 (λ_=>y4 a (qr (GM f) (Ok.rm (by grind) (ih _ _ CB ⟨by simp;omega,λv g=>?_⟩)))) λ_=>skip CB))) λ_=>skip CB));grind
def j0:Ao:={}
theorem Ok.and{α:Type}{m:Option α}{P Q:α->Prop}(a:Ok m P)(b:Ok m Q):Ok m λx=>P x/\Q x:=by
 obtain⟨x,a,c⟩:=a;obtain⟨y,b,d⟩:=b;rw[a]at b;obtain rfl:=sY b;exact⟨x,a,c,d⟩
theorem da(c:DS s)(k:Int):Ok (C6 s k) λl=>l.Pairwise (·<·):=by
 have g:=c.cols_length;unfold C6;refine y7 (λq=>q.1) s.A.length (λn q=>q.2.Pairwise (·<·)/\(∀v∈q.2,v<(n:Int))/\q.2.length<=n) 0 (sZ _) rfl ⟨List.Pairwise.nil,(λv a=>by cases a),td _⟩ (by omega) (λrec q hq b=>?_) λrec n q d hq b ih=>?_
 ·simp only[DX,hq];rw[EL];exact ur b.1
 ·obtain⟨f,h,i⟩:=b;simp only[DX,hq];rw[C4];refine y4 d (y5 (λe=>Ok.rm (by grind) (ih _ CB ⟨?_,λv a=>?_,by simp;omega⟩)) λe=>ih _ CB ⟨f,λv a=>?_,by show q.2.length<=n+1;omega⟩)
  all_goals grind
theorem lE{l:List Int}(h:l.Pairwise (·<·)){a:Int}(c:∀v∈l,a<=v):∀(i:Nat)(b:i<l.length),a+(i:Int)<=l[i]
 | 0,b=>by have:=c _ (ta b);omega
 | i+1,b=>by
   have d:=lE h c i (by omega);have e:l[i]<l[i+1]:=List.pairwise_iff_getElem.1 h i (i+1) (by omega) b (by omega);omega
theorem iq{l:List Int}(h:l.Pairwise (·<·)){a:Int}{n:Nat}(b:∀v∈l,a<=v/\v<a+n):l.length<=n:=by
 by_cases e:l.length=0
 ·omega
 ·have d:=lE h (λv c=>(b v c).1) (l.length-1) (by omega);have f:=(b _ (ta (by omega:l.length-1<l.length))).2;omega
theorem qJ:∀j:Bool,∀i:Fin (G5 j).length,(G5 j)[i].Kind≠3/\((G5 j)[i].Kind=2->1<=i.val):=by decide
theorem rJ(j:Bool){i:Nat}(a:i<(G5 j).length):(G5 j)[i].Kind≠3/\((G5 j)[i].Kind=2->1<=i):=qJ j ⟨i,a⟩
theorem DS.from_(k:DS s):∃n:Nat,2<=n/\n<=3/\s.A.length<=n+3/\∀(i:Nat)(c:i<s.A.length),(ER s.A[i]->n<=i)/\(Nt s.A[i]->1<=i/\i<n):=by
 obtain⟨j,d,e,o,p,l⟩:=k.cols;have f:=MI j;refine⟨(G5 j).length,f.1,f.2,by rw[e,tF];omega,λi c=>?_⟩;have g:s.A.length=(G5 j).length+d.length:=by grind
 by_cases b:i<(G5 j).length
 ·have a:s.A[i]?=(G5 j)[i]?:=by rw[e,tq b]
  rw[P3 c,P3 b]at a;rw[sY a];have hk:=rJ j b;exact⟨λh=>absurd h.kind hk.1,λh=>⟨hk.2 h.kind,b⟩⟩
 ·have a:s.A[i]?=d[i-(G5 j).length]?:=by rw[e,tj (by omega)]
  rw[P3 c,P3 (by grind)]at a;rw[sY a];have m:=(l (i-(G5 j).length) (by omega)).1;exact⟨λ_=>by omega,λh=>by have:=h.kind;rw[m.kind]at this;cases this⟩
theorem bH(c:DS s):Ok (C6 s 3) λl=>l≠[]/\l.length<=3/\l.Pairwise (·<·)/\∀v∈l,IM s v:=by
 obtain⟨n,d,e,f,g⟩:=c.from_;refine((XJ c).and (da c 3)).mono λl b=>⟨b.1.1,iq b.2 (a:=n) λv h=>?_,b.2,b.1.2.2⟩;grind
theorem jG(c:DS s):Ok (C6 s 2) λl=>l≠[]/\l.length<=3/\l.Pairwise (·<·)/\∀v∈l,IC s v:=by
 obtain⟨n,d,e,f,g⟩:=c.from_;refine((XI c).and (da c 2)).mono λl b=>⟨b.1.1,iq b.2 (a:=1) λv h=>?_,b.2,b.1.2.2⟩;grind
theorem ZB(j:DS s){m:List Int}(B:1<=m.length)(C:m.length<=3)(o:m.Pairwise (·<·))(t:∀v∈m,IC s v){c:Ab}(u:GW c):Ok (P.iter (λd h=>Fx m s (λ_ w b=>some (b,w)) d h.1 h.2.1 h.2.2) AC (0,c,[])) λr=>GW r.2/\Q7 s r.1:=by
 refine y7 (λq=>q.1) m.length (λk q=>GW q.2.1/\q.2.2.map (·.B)=m.take k/\∀p∈q.2.2,IC s p.B/\QT s p) 0 (sZ _) rfl ⟨u,rfl,λp hp=>by cases hp⟩ (by omega) (λrec q hq a=>?_) λrec k q hk hq a ih=>?_
 ·simp only[Fx,hq];have e:=a.2.1;rw[vf]at e;have D:q.2.2.length=m.length:=by grind
  exact Ok.f (ur ⟨a.1,by show 1<=q.2.2.length;omega,by show q.2.2.length<=3;omega,a.2.2,by show(q.2.2.map (·.B)).Pairwise _;rw[e];exact o⟩)
 ·have l:q.2.2.length<=10:=by have:=congrArg List.length a.2.1;rw[sX,tP]at this;omega
  simp only[Fx,hq];refine Ok.t (y4 hk (y4 hk ?_));have x:=t _ (ta hk);obtain⟨i,e,f,g,y⟩:=id x;have E:=j.fin_ok f g;have A:i64.wrap (Da s i+1)=Da s i+1:=wr;rw[e];refine qr (j.rfinest f g) ?_;rw[A];refine(Di a.1 (by omega) (by omega)).bind λz n=>Ok.rm (by grind) (ih _ CB ⟨n.1,?_,λp hp=>?_⟩)
  ·show(q.2.2++[_]).map _=_;rw[tA,a.2.1,tp hk,e];rfl
  ·rcases List.mem_append.1 hp with hp|hp
   ·grind
   ·rw[List.mem_singleton.1 hp];exact⟨⟨i,rfl,f,g,y⟩,i,f,g,rfl,n.2.1,by show z.1<=_;omega⟩
theorem XO{c:Ab}(g:GW c)(b:DS s):Ok (Ch c s) λr=>GW r.2/\Q7 s r.1:=by
 unfold Ch;refine(jG b).bind λl ⟨d,h,e,f⟩=>(NT g (by omega) (by omega)).bind λy hy=>?_;have a:=List.length_pos_iff.2 d;refine y5 (λ_=>(Di hy (by omega) (by omega)).bind λz i=>yb (by omega) ?_) λ_=>ZB b a h e f hy;exact ZB b (m:=NB l z.1 (l.length:Int)) (by unfold NB;rw[tP,uJ];omega) (by unfold NB;rw[tP,uJ];omega) (e.sublist ((List.take_sublist _ _).trans (List.drop_sublist _ _))) (λv j=>f v (uu (uf j))) i.1
theorem Xa{c:Ab}(u:GW c)(w:DS s)(m:Int):Ok (Fo c s m) λr=>GW r.2/\(1<=r.1.length->Re s m r.1):=by
 unfold Fo;refine Ok.bind (bH w) λl n=>?_;obtain⟨_,n,x,y⟩:=n;refine y7 (λq=>q.1) l.length (λk q=>GW q.2.1/\List.Sublist q.2.2 (l.take k)/\∀v∈q.2.2,v≠m) 0 (sZ _) rfl ⟨u,List.nil_sublist _,λv i=>by cases i⟩ (by omega) (λrec q hq o=>?_) λrec k q hk hq o ih=>?_
 ·simp only[G9,hq];rw[EL];obtain⟨f,d,j⟩:=o;rw[vf]at d;exact ur ⟨f,λhp=>⟨hp,tw d.length_le n,λv i=>⟨y v (d.subset i),j v i⟩,x.sublist d⟩⟩
 ·obtain⟨f,d,j⟩:=o;have g:=d.length_le;rw[tP]at g;have p:q.2.2.length<=3:=by omega
  have a:List.Sublist q.2.2 (l.take (k+1)):=by grind
  have b:List.Sublist (q.2.2++[l[k]]) (l.take (k+1)):=by
   rw[tp hk];exact d.append (List.Sublist.refl _)
  have h:∀e:(l[k] != m)=true,∀v∈q.2.2++[l[k]],v≠m:=by grind
  simp only[G9,hq];rw[C4];refine y4 hk (y5 (λe=>y5 (λ_=>y4 hk (Ok.rm (by grind) (ih _ CB ⟨f,b,h e⟩))) λ_=>Ok.bind (NT f (by omega) (by omega)) λz t=>y5 (λ_=>y4 hk (Ok.rm (by simp;omega) (ih _ CB ⟨t,b,h e⟩))) λ_=>ih _ CB ⟨t,a,j⟩) λ_=>ih _ CB ⟨f,a,j⟩)
theorem QB(a:DS s){c:Ab}(b:GW c)(k:Nat)(hk:k<=3){d:Nat}(hd:3<d):Ok (AN d c s k) λr=>GW r.2/\GC s r.1:=(i7 a k d b (by omega) (by omega)).mono λr hr=>⟨hr.1,GC.drawn hr.2 hk⟩
theorem VK(f:DS s){ns:List ByteArray}(j:ns.length<=100):∀(m d:Nat){c:Ab},GW c->m+4<d->m<=5->Ok (C5 d c s ns m) λr=>GW r.2/\EN s ns m r.1
 | m,d+1,c,g,hd,hm=>by
   have b:∀{c:Ab},GW c->Ok ((AN d c s 2).bind λh=>some (eX 3 0 .empty 0 [] [] h.1 C9 [],h.2)) λr=>GW r.2/\EN s ns m r.1:=λg=>(QB f g 2 (by omega) (by omega)).bind λz a=>ur ⟨a.1,.count m _ a.2⟩
   have e:∀{c:Ab},GW c->Ok (Dr ns d s c) λr=>GW r.2/\EN s ns m r.1:=λg=>by
    unfold Dr;refine(Di g (by omega) (by omega)).bind λx hx=>y5 (λ_=>(Gq hx.1 (by omega) (by omega) (by omega) (by omega)).bind λz a=>ur ⟨a.1,.int m _ a.2⟩) λ_=>y5 (λ_=>y8 (λl=>(Di hx.1 (by omega) (by omega)).bind λz a=>Ok.idx a.2.1 (by omega) (ur ⟨a.1,.name m _ (ta _)⟩)) λ_=>b hx.1) λ_=>y5 (λ_=>(JP hx.1 f).bind λv i=>(QB f i.1 1 (by omega) (by omega)).bind λz a=>ur ⟨a.1,.sum m 4 _ _ (.inl rfl) i.2 a.2⟩) λ_=>y5 (λ_=>(JP hx.1 f).bind λv i=>(QB f i.1 0 (by omega) (by omega)).bind λz a=>ur ⟨a.1,.sum m 5 _ _ (.inr rfl) i.2 a.2⟩) λ_=>b hx.1
   show Ok (EM d (C5 d) c s ns m) _;unfold EM;refine y8 (λl=>(NT g (by omega) (by omega)).bind λy hy=>y5 (λ_=>(Gq hy (by omega) (by omega) (by omega) (by omega)).bind λo ho=>?_) λ_=>e hy) λ_=>e g;obtain⟨k,rfl⟩:∃k,m=k+1:=⟨m-1,by omega⟩;have n:i64.wrap (((k+1:Nat):Int)-1)=(k:Int):=by rw[wr];omega
   rw[n];exact(VK f j k d ho.1 (by omega) (by omega)).bind λp hp=>(VK f j k d hp.1 (by omega) (by omega)).bind λq hq=>ur ⟨hq.1,.pair k _ _ _ (by omega) hp.2 hq.2⟩
theorem jR(f:DS s){ns:List ByteArray}(E:ns.length<=100){c:Ab}(x:GW c):Ok (H4 DD c s ns) λr=>GW r.2/\ES s ns r.1:=by
 unfold H4;refine(JP x f).bind λm l=>(Di l.1 (by omega) (by omega)).bind λy hy=>?_;have g:∀{c:Ab},GW c->Ok ((C5 DD c s ns 2).bind λq=>some (q.1,q.2)) λr=>GW r.2/\ES s ns r.1:=λx=>(VK f E 2 DD x (by decide) (by omega)).bind λz d=>ur ⟨d.1,.inl d.2⟩
 have u:Ok ((Ch y.2 s).bind λh=>(AN DD h.2 s 1).bind λj=>(B9 j.2 2).bind λk=>bif k.1 then some (eX 10 0 .empty m.1 [] h.1 j.1 C9 [],k.2)else some (eX 10 0 .empty (-1) [] h.1 j.1 C9 [],k.2)) λr=>GW r.2/\ES s ns r.1 :=
  (XO hy.1 f).bind λa A=>(QB f A.1 1 (by omega) (by decide)).bind λb B=>(NT B.1 (by omega) (by omega)).bind λo ho=>y5 (λ_=>ur ⟨ho,.inr (.table _ _ _ (.inr l.2) A.2 B.2)⟩) λ_=>ur ⟨ho,.inr (.table _ _ _ (.inl rfl) A.2 B.2)⟩
 refine y5 (λ_=>u) λ_=>y5 (λ_=>u) λ_=>y5 (λ_=>?_) λ_=>y5 (λ_=>?_) λ_=>y5 (λ_=>?_) λ_=>y5 (λ_=>(QB f hy.1 0 (by omega) (by decide)).bind λz d=>ur ⟨d.1,.inr (.box _ _ l.2 d.2)⟩) λ_=>g hy.1
 ·exact(Xa hy.1 f m.1).bind λt C=>y8 (λD=>(QB f C.1 1 (by omega) (by decide)).bind λz d=>ur ⟨d.1,.inr (.model _ _ _ l.2 (C.2 (by omega)) d.2)⟩) λ_=>g C.1
 ·obtain⟨i,e,_,n,v⟩:=id l.2;rw[e];exact y4 n (y8 (λD=>(QB f hy.1 0 (by omega) (by decide)).bind λz d=>(QB f d.1 0 (by omega) (by decide)).bind λw p=>ur ⟨p.1,.inr (.curve _ _ _ ⟨i,rfl,by assumption,n,v⟩ (λy hy=>by rw[DG n]at hy;rw[<-sY hy];exact D) d.2 p.2)⟩) λ_=>g hy.1)
 ·obtain⟨i,e,F,n,v⟩:=id l.2;have p:=Fj v;rw[e];exact y4 n ((Di hy.1 (by omega) (by omega)).bind λz d=>Ok.idx d.2.1 (by omega) ((QB f d.1 1 (by omega) (by decide)).bind λw p=>ur ⟨p.1,.inr (.hist _ _ _ ⟨i,rfl,F,n,v,ta _⟩ p.2)⟩))
theorem PR.snoc{b:List AB}(h:PR s b)(c:b.length<=3){e:Ar}(d:ES s (bK b) e)(o:Bool):PR s (b++[{ J:=vn b.length,Bl:=o,Az:=e }]):=by
 refine⟨by simp;omega,λk hk=>?_⟩;simp at hk;by_cases a:k<b.length
 ·rw[List.getElem_append_left a,List.take_append_of_le_length (by omega)];exact h.all k a
 ·grind
theorem Wt{x:BQ}{n:Nat}(h:cF x n)(G:n<=100){d:Av}(hd:Wh x.At d){c:List Ac}(hp:c.length<=4000)(g:Int):Ok (JW DD x d c g) λr=>GX x.At r.1\/r.1=j0:=by
 have E:=h.schema;have hc:=E.cols_length;unfold JW;refine qr (nN h G) (y3 rfl ((cU E hd hp).bind λe V=>y5 (λ_=>ur (.inr rfl)) λh0=>y5 (λ_=>ur (.inr rfl)) λL=>Ok.rm (by omega) ((bN h G hd).bind λown f=>?_)));obtain⟨M,W⟩:=V (by grind);have u:0<=g/\g<1152921504606846976:=by grind
 have X:=f.1;refine y7 (λq=>q.1) own.length (λi q=>(∀r∈q.2,r.length=c.length+1/\0<=P.hd r/\P.hd r<=1048575/\∀(k:Nat) p v,c[k]?=some p->r[k+1]?=some v->XV x.At p v)/\o7 q.2/\q.2.length<=i) 0 (sZ _) rfl ⟨(λr hr=>by cases hr),List.Pairwise.nil,sZ _⟩ (by omega) (λrec q hq w=>?_) λrec i q H hq w ih=>?_
 ·simp only[Oo,hq];refine Ok.f (ur (.inl ⟨hd.project,?_,M,W,w.1,w.2.1,by show q.2.length<=200;have:=w.2.2;omega⟩));show 0<=x.Af/\x.Af<=300;rw[h.version];grind
 ·obtain⟨h1,N,h3⟩:=w;simp only[Oo,hq];obtain⟨j,I,O⟩:=f.2 _ (ta H);have hr:=h.rows _ (ta I);have hh:=hr.hd E;refine Ok.t (y4 H ?_);rw[O];refine qr (rU h G I) (y4 I (y4 H ?_));rw[O];refine(qH u.1 u.2 (by omega) (by omega)).bind λkey Q=>?_;refine y7 (λq=>q.1) c.length (λk q=>q.2.length=k+1/\P.hd q.2=key/\∀(m:Nat) p v,m<k->c[m]?=some p->q.2[m+1]?=some v->XV x.At p v) 0 (sZ _) rfl ⟨rfl,rfl,λm p v hm=>by omega⟩ (by omega) (λy l o t=>?_) λy k l hk o t ih2=>?_
  ·simp only[KG,o];obtain⟨J,R,Y⟩:=t;have A:∀r∈q.2,r≠[]:=λr hr e=>by grind
   have B:l.2≠[]:=λe=>by grind
   refine Ok.f (qr (ny A B N (by omega)) (ih _ CB ⟨λr hr=>?_,eK N,?_⟩))
   ·rcases eL hr with rfl|hr
    all_goals grind
   ·have:=R5 q.2 l.2;grind
  ·obtain⟨J,R,Y⟩:=t;simp only[KG,o];obtain⟨m,S,F,T,Z,m5⟩:=M _ (ta hk);have C:m<x.C[j].length:=by rw[hr.1];exact F
   have U:=hr.2 m _ _ (P3 F) (P3 C);refine Ok.t (y4 hk (y4 hk (y4 hk ?_)));rw[T];refine y4 C (qr (Vg E S F Z m5 U) (Ok.rm (by grind) (ih2 _ CB ⟨by show(l.2++[_]).length=_;rw[tF,J];rfl,?_,λz p v hz D K=>?_⟩)))
   ·show P.hd (l.2++[_])=key;rw[<-R]
    cases e:l.2 with
    | nil=>grind
    | cons a b=>rfl
   ·change (l.2++[CV x.At x.At.A[m] c[k].T x.C[j][m]])[z+1]?=some v at K;by_cases e:z=k
    ·subst e;rw[P3 hk]at D;obtain rfl:=sY D;rw[tj (by omega),J,Nat.sub_self]at K;obtain rfl:=sY K;exact⟨m,F,_,S,T,U,rfl⟩
    ·grind
theorem Zm{c:Ab}(j:GW c)(b:DS s){k:ByteArray}(l:Ok (C0 k) λ_=>True):Ok (DR DD c s k) λr=>GW r.2/\pP s r.1:=by
 unfold DR;refine(Di j (by omega) (by omega)).bind λx hx=>?_;obtain⟨n,o⟩:∃n:Nat,x.1=n:=⟨x.1.toNat,by omega⟩;rw[o];refine(QB b hx.1 n (by omega) (by decide)).bind λf h=>(JP h.1 b).bind λm u=>(Di u.1 (by omega) (by omega)).bind λy hy=>?_
 have a:∀{c:Ab},GW c->∀w:Int,Ok ((Ch c s).bind λg=>some (({ J:=k,Kind:=1,A3:=f.1,Y:=g.1,Ag:=w }:AE),g.2)) λr=>GW r.2/\pP s r.1:=λj w =>
  (XO j b).bind λd hd=>ur ⟨hd.1,l,h.2,.inl ⟨by show(1:Int)≠3;decide,rfl⟩,⟨by have:=hd.2.len;show d.1.length<=10;omega,λp hp=>(hd.2.all p hp).2⟩,by simp⟩
 have d0:(([]:List Ac).length<=10/\∀p∈([]:List Ac),QT s p):=⟨by simp,(λp hp=>by cases hp)⟩;refine y5 (λ_=>a hy.1 _) λ_=>y5 (λ_=>(Xa hy.1 b _).bind λt q=>y5 (λe=>ur ⟨q.1,l,h.2,.inl ⟨by show(2:Int)≠3;decide,rfl⟩,d0,by have:=(q.2 (by grind)).len;show t.1.length<=10;omega⟩) λ_=>a q.1 _) λ_=>y5 (λ_=>?_) λ_=>a hy.1 _;obtain⟨i,e,A,B,C⟩:=u.2;rw[e];exact y4 B (y5 (λ_=>(QB b hy.1 1 (by omega) (by decide)).bind λv z=>ur ⟨z.1,l,h.2,.inr z.2,d0,by simp⟩) λ_=>a hy.1 _)
theorem iP{n:Int}(a:0<=n)(b:n<100):Dl n=some ⟨(Go.Lib.decDigits n.toNat).toArray⟩:=by
 unfold Dl;grind
theorem qg:∀n:Nat,n<3->C0 (({ data:=#[112] }:ByteArray)++(⟨(Go.Lib.decDigits n).toArray⟩:ByteArray))=some true/\Cz (({ data:=#[112] }:ByteArray)++(⟨(Go.Lib.decDigits n).toArray⟩:ByteArray))=some true/\(⟨(Go.Lib.decDigits n).toArray⟩:ByteArray).size=1:=by
 intro n a;rcases(by omega:n=0\/n=1\/n=2)with rfl|rfl|rfl<;>exact⟨by decide +kernel,by decide +kernel,by decide +kernel⟩
theorem rQ:∀n:Nat,1<=n->n<4->C0 (({ data:=#[113] }:ByteArray)++(⟨(Go.Lib.decDigits n).toArray⟩:ByteArray))=some true/\(⟨(Go.Lib.decDigits n).toArray⟩:ByteArray).size=1:=by
 intro n a b;rcases(by omega:n=1\/n=2\/n=3)with rfl|rfl|rfl<;>exact⟨by decide +kernel,by decide +kernel⟩
theorem p9:C0 ({ data:=#[115,114,99] }:ByteArray)=some true:=by decide +kernel
theorem ZA(f:DS s){K:Int->Ab->List AE->Option (Av×Ab)}{Q:Av×Ab->Prop}(hK:∀a c b,GW c->b.length<=3/\(∀q∈b,pP s q)->Ok (K a c b) Q){m:Int}{c:Ab}(g:GW c)(h:0<=m)(l:m<=3):Ok (iter (λp t=>Eh DD s K p t.1 t.2.1 t.2.2) AC (m,c,[])) Q:=by
 refine Ok.loop (λq=>0<=q.1/\GW q.2.1/\(∀x∈q.2.2,pP s x)/\(q.2.2.length:Int)+q.1<=3) (λq=>q.1.toNat) ⟨h,g,(λx hx=>by cases hx),by show((0:Nat):Int)+m<=3;omega⟩ (by unfold AC;show m.toNat<_;omega) λrec q ⟨n,d,i,o⟩ ih=>?_;simp only[Eh];refine y8 (λhp=>qr (iP (by omega) (by omega)) ?_) λhp=>hK _ _ _ d ⟨by omega,i⟩;have e:=rQ q.1.toNat (by omega) (by omega);have j:i64.wrap (q.1-1)=q.1-1:=wr;rw[j];refine yb (by rw[e.2];decide) ((Zm d f ⟨_,e.1,trivial⟩).bind λw k=>Ok.rm (by simp;omega) (ih _ ⟨by show 0<=q.1-1;omega,k.1,λx hx=>?_,by show((q.2.2++[w.1]).length:Int)+(q.1-1)<=3;simp;omega⟩ (by grind)));grind
theorem i9{c:Ab}(j:GW c)(g:DS s){n:Nat}(l:n<3){z:Int×Ab}{k:Ah}(hk:GC s k):Ok (Cq DD s ⟨(Go.Lib.decDigits n).toArray⟩ z c k.Op k.B k.Z k.D k.E k.G) λr=>GW r.2/\Wh s r.1:=by
 have h:=qg n l;have i:Ah.mk k.Op k.B k.Z k.D k.E k.G=k:=by cases k;rfl
 have Da:∀{co:Ah}(_:co=k)(d:Io)(c:Ab)(b:List AE),GW c->b.length<=3/\(∀q∈b,pP s q)->Ok (some (({ Ae:=(({ data:=#[112] }:ByteArray)++(⟨(Go.Lib.decDigits n).toArray⟩:ByteArray)),Bs:=({ data:=#[115,114,99] }:ByteArray),Bc:=co,Be:=d,A8:=b }:Av),c)) λr=>GW r.2/\Wh s r.1 :=
  λe d c b m o=>ur ⟨m,⟨h.1,h.2.1⟩,⟨_,p9,trivial⟩,by rw[e];exact hk,o⟩
 unfold Cq;exact(NT j (by omega) (by omega)).bind λx hx=>y5 (λ_=>(Gq hx (by omega) (by omega) (by omega) (by omega)).bind λy hy=>(Gq hy.1 (by omega) (by omega) (by omega) (by omega)).bind λz p=>(Gq p.1 (by omega) (by omega) (by omega) (by omega)).bind λu f=>ZA g (λa c b=>Da i _ c b) f.1 (by omega) (by omega)) λ_=>(Gq hx (by omega) (by omega) (by omega) (by omega)).bind λu f=>ZA g (λa c b=>Da i _ c b) f.1 (by omega) (by omega)
theorem V5{c:Ab}(e:GW c)(b:DS s):Ok (DF DD c s) λr=>GW r.2/\Wh s r.1:=by
 unfold DF;refine(Di e (by omega) (by omega)).bind λx hx=>?_;obtain⟨n,f⟩:∃n:Nat,x.1=n:=⟨x.1.toNat,by omega⟩;rw[f];have a:n<3:=by omega
 refine qr (iP (by omega) (by omega)) (yb ?_ ((QB b hx.1 1 (by decide) (by decide)).bind λk hk=>(Di hk.1 (by omega) (by omega)).bind λy hy=>(NT hy.1 (by omega) (by omega)).bind λz d=>y5 (λ_=>?_) λ_=>?_))
 ·rw[tu,(qg n a).2.2];decide
 ·exact i9 d b a (k:=aE) GC.all
 ·exact i9 d b a hk.2
theorem bi{c:Ab}(f:GW c){n:Nat}(g:n<=50):Ok (Fy DD c n) λr=>DS r.1.At/\GW r.2.2.2/\(GX r.1.At r.2.2.1\/r.2.2.1=j0):=by
 unfold Fy;refine(kR f g).bind λx hx=>?_;have a:=hx.2.schema;have h:=a.cols_length;exact(V5 hx.1 a).bind λd hd=>(gL a hd.2).bind λp hp=>(NT hd.1 (by omega) (by omega)).bind λo ho=>y5 (λ_=>qr (qu a) ((ac ho).bind λw b=>(Wt hx.2 (by omega) hd.2 (by rw[H1];omega) _).bind λz e=>ur ⟨a,b.1,e⟩)) λ_=>(ac ho).bind λw b=>(Wt hx.2 (by omega) hd.2 hp _).bind λz e=>ur ⟨a,b.1,e⟩
variable {s:Aa} {x:Ao}
theorem lH:JN DD=some true:=by decide +kernel
theorem k9(hx:GX s x){K:List Int}(hK:K.length<=10000000):KH x K=some { Ae:=x.Ae,Af:=x.Af,H:=x.H,C:=x.C.filter λr=>K.contains (hd r) }:=by
 have g:=hx.len;refine Ok.val ?_;unfold KH;refine y9 x.C.length (λk b=>b=(x.C.take k).filter λr=>K.contains (hd r)) rfl (λrec b c=>Ok.f (ur (by grind))) λrec k b hk c ih=>?_;have a:=hx.ne (ta hk);have d:=List.length_pos_iff.2 a;have f:b.length<=200:=by grind
 refine Ok.t (y4 hk (Ok.t (y4 hk (qr (GM a) ((bz hK).bind λh i=>y5 (λe=>y4 hk (Ok.rm (by grind) (ih _ _ CB ?_))) λe=>ih _ _ CB ?_)))))
 ·rw[c,tp hk,uS];grind
 ·rw[c,tp hk,uS];grind
theorem ki(hx:GX s x):Kq x=some (x.C.map hd):=by
 have c:=hx.len;refine Ok.val ?_;unfold Kq;refine y9 x.C.length (λk b=>b=(x.C.take k).map hd) rfl (λrec b a=>Ok.f (ur (by grind))) λrec k b hk a ih=>Ok.t (y4 hk (qr (GM (hx.ne (ta hk))) (Ok.rm (by rw[a];simp;omega) (ih _ _ CB ?_))));rw[a,tp hk,tA];rfl
theorem qw{l:List Int}(h:l.Pairwise (·<·))(a:l.length<=1000000):Mu l=some true:=by
 refine Ok.val ?_;unfold Mu;refine y7 (λq=>q) (max l.length 1) (λk _=>1<=k) 1 (by omega) rfl (td _) (by omega) (λrec q hq _=>?_) λrec k q hk hq b ih=>?_
 ·simp only[KJ,hq];exact Ok.f (ur rfl)
 ·have e:i64.wrap ((k:Int)-1)=((k-1:Nat):Int):=by rw[wr];omega
  simp only[KJ,hq,e];have:=List.pairwise_iff_getElem.1 h (k-1) k (by omega) (by omega) (by omega);exact Ok.t (y4 (by omega) (y4 (by omega) (Ok.f (ih _ CB (by omega)))))
theorem kZ{a b:List Int}(h:∀v∈a,v∈b)(f:a.length<=1000000)(d:b.length<=10000000):KL a b=some true:=by
 refine Ok.val ?_;unfold KL LR;refine qr (x:=[]) ?_ (ur rfl);refine Ok.val (qr (x:=[]) (Ok.val ?_) (ur rfl));unfold Qw;refine y7 (λq=>q.2) a.length (λ_ q=>q.1=[]) 0 (sZ _) rfl rfl (by omega) (λrec q hq c=>?_) λrec k q hk hq c ih=>?_
 ·simp only[LU,hq];exact Ok.f (ur c)
 ·simp only[LU,hq];refine Ok.t (y4 hk ((bz d).bind λj e=>?_));rw[e.2 (h _ (ta hk))];exact y3 rfl (ih _ CB c)
theorem lh(a:DS s)(e:Ar):Ok (CH DD s j0 [] e) λr=>r.2≠0:=by
 have b:Cz ByteArray.empty=some false:=by decide +kernel
 have c:Ok (Cv s j0) λu=>u≠0:=by
  unfold Cv;exact qr a.check (y3 rfl (qr b (y6 rfl (ur (by decide)))))
 unfold CH;exact c.bind λu d=>y6 (by grind) (ur d)
theorem gD(a:List Int)(h:∀v∈a,0<=v/\v<=255)(r:a.length<=9223372036854775807){k:Int}(hk:0<=k/\k<=4294967295):EY DD a k=some true:=by
 have g:Ok ((JN DD).bind λx=>some x) (·=true):=qr lH (ur rfl);refine Ok.val ?_;unfold EY;refine(qR a h r).bind λc t=>(bi t (n:=9) (by decide)).bind λw ⟨j,u,y⟩=>(jR j (ns:=[]) (by simp) u).bind λe z=>?_;rcases y with hx|A
 ·refine(qD j hx z.2).bind λb m=>y5 (λ_=>g) λB=>?_;obtain⟨o,⟨C,I⟩,D⟩:=m (by grind);have J:=o.line;have E:=hx.len;have l:∀v∈b.1.Lineage,v∈w.2.2.1.C.map hd:=λv p=>by grind
  have d:∀q:List Int,(∀v∈b.1.Lineage,v∈q)->q.length<=2000000->Ok (CP b w DD e q) (·=true):=λq hq F=>by
   unfold CP;refine ya [b.1.Lineage,q].length (λrec=>Ok.f (qr (qw C (by omega)) (y6 rfl (qr (ki hx) (qr (kZ l (by omega) (by grind)) (y6 rfl g)))))) (λrec i f ih=>Ok.t (y4 f ?_)) (by simp);have G:i<2:=f;have H:(∀v∈b.1.Lineage,v∈[b.1.Lineage,q][i])/\[b.1.Lineage,q][i].length<=2000000:=by grind
   exact qr (k9 hx (by omega)) (qr (D _ ⟨qE hx _,rfl,_,rfl,H.1⟩) (y3 B (qr (ia o) (y3 rfl (ih _ CB)))))
  refine Ok.rm (by omega) (y9 w.2.2.1.C.length (λi q=>(∀v∈b.1.Lineage,v∈q)/\q.length<=1000000+i) ⟨λv h=>h,by show b.1.Lineage.length<=_;omega⟩ (λrec q hq=>Ok.f (d q hq.1 (by grind))) λrec i q f hq ih=>?_);refine Ok.t (y4 f (Ok.t ?_ (SO _).1));exact y5 (λ_=>qr (GM (hx.ne (ta f))) (Ok.rm (by grind) (ih _ _ CB ⟨λv p=>List.mem_append_left _ (hq.1 v p),by simp;have:=hq.2;omega⟩))) λ_=>ih _ _ CB ⟨hq.1,by have:=hq.2;omega⟩
 ·rw[A];exact(lh j _).bind λb m=>y6 (by grind) g
