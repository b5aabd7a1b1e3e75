/- QF -/
import Derived.Test.YtaojdkijihbaoaaGreatDoorQE
set_option linter.all false
namespace Go.Proofs.YtaojdkijihbaoaaGreatDoor.P
open Go Go.Abs Go.Proofs
set_option maxRecDepth 100000
section
variable {s:Aa}
def Rv(s:Aa)(p:List Ac)(t:List Int):List Int:=hd t :: p.map λq=>CV s (s.A.getD q.B.toNat oz) q.J (t.getD q.B.toNat 0)
theorem gn{p:List Ac}(hp:∀q∈p,MC s q){t:List Int}(c:WH s t):AP s p t (Rv s p t):=by
 refine⟨by simp[Rv],λk hk d=>?_⟩;obtain⟨i,f,b,e,_⟩:=hp _ (ud hk);have a:i<t.length:=by rw[c.1];exact b
 refine⟨i,b,a,e,?_⟩;show(p.map _)[k]'(by grind)=_;grind
theorem n3{f:List Int->List Int}(a:∀t,hd (f t)=hd t)(l:List (List Int))(r:List Int):Si (l.map f) (f r)=(Si l r).map f:=by
 unfold Si;simp only[wG,uI,ul,a,Function.comp_def]
theorem gZ{f:List Int->List Int}(a:∀t,hd (f t)=hd t){l:List (List Int)}(h:eH l):eH (l.map f):=by
 unfold eH;rw[List.pairwise_map];simp only[a];exact h
theorem DR.dec(j:DS s){d:Ar}(h:DR s d):lh s d:=⟨h.project,⟨_,h.source.1,trivial⟩,h.cohort,h.questions.len,λq c=>by
 obtain⟨a,k,f,g,i⟩:=h.questions.all q c;obtain⟨d1,d2⟩:=a.dims;refine⟨by rw[i];exact⟨_,(iS k f g).1,trivial⟩,a.filter,?_,⟨by omega,λp hp=>(d2 p hp).2⟩,by have:=a.terms;omega⟩;rcases a.parts with⟨e,_,_,_,b⟩|⟨e,_,_,_,b⟩|⟨_,_,_,_,e⟩
 ·exact .inl ⟨by omega,b⟩
 ·exact .inl ⟨by omega,b⟩
 ·exact .inr e⟩
def kr(x:Cn)(sec o:Int):List Int:=(LF sec o).getD 0 :: (x.G.getD ((Iz x o).getD 0).toNat []).drop 1
def bp(x:Cn)(sec:Int)(own:List Int):List (List Int):=own.foldl (λT o=>Si T (kr x sec o)) []
theorem ju{x:Cn}{n:Nat}(h:bG x n)(M:n<=100){d:Ar}(hd:DR x.Aw d){f:Int}(s0:0<=f)(s1:f<1152921504606846976):∃T:List (List Int),(∀t∈T,WH x.Aw t)/\eH T/\T.length<=n/\∀picks,(∀p∈picks,MC x.Aw p)->(picks.Pairwise λa b=>a.B<b.B)->(∀q∈d.Am,PQ x.Aw q picks)->JP DD x d picks f=some ({ Ae:=d.Ae,Ag:=x.Ag,E:=picks,G:=T.map (Rv x.Aw picks) },0):=by
 have C:=h.schema;have hc:=C.cols_length;obtain⟨own,F,hol,Q⟩:=aY h M (hd.dec C)
 have H:∀v∈own,∃(j:Nat)(o:j<x.G.length)(key:Int),v=P.hd x.G[j]/\LF f v=some key/\(0<=key/\key<=1048575)/\kr x f v=key :: x.G[j].drop 1/\WH x.Aw (kr x f v):=λv hv=>by
  obtain⟨j,o,e⟩:=Q v hv;have hr:=h.rows _ (ud o);have R:=hr.hd C;obtain⟨key,w,y⟩:=re s0 s1 (id:=v) (by omega) (by omega)
  have N:kr x f v=key :: x.G[j].drop 1:=by
   unfold kr;rw[w,e,qD h M o];grind
  refine⟨j,o,key,e,w,y,N,?_⟩;rw[N];refine⟨by rw[vu,vS,hr.1];omega,y.1,y.2,λk c v w S I=>?_⟩;obtain⟨i,rfl⟩:∃i,k=i+1:=⟨k-1,by omega⟩;rw[vm,vh,Nat.add_comm]at I;exact hr.2 _ c v S I
 have V:∀i (u:i<own.length),bp x f (own.take (i+1))=Si (bp x f (own.take i)) (kr x f own[i]):=λi u=>by
  unfold bp;rw[ui u,List.foldl_append];rfl
 have W:∀i,i<=own.length->(∀t∈bp x f (own.take i),WH x.Aw t)/\eH (bp x f (own.take i))/\(bp x f (own.take i)).length<=i:=by
  intro i
  induction i with
  | zero=>exact λ_=>⟨(λt J=>by cases J),List.Pairwise.nil,uh _⟩
  | succ i ih =>
    intro u;obtain⟨h1,h2,h3⟩:=ih (by omega);rw[V i (by omega)];obtain⟨_,_,_,_,_,_,_,hx⟩:=H _ (ud (by omega:i<own.length));refine⟨λt J=>?_,dG h2,?_⟩
    ·rcases dH J with rfl|J
     ·exact hx
     ·exact h1 t J
    ·have:=Rb (bp x f (own.take i)) (kr x f own[i]);omega
 obtain⟨f1,f2,f3⟩:=W own.length (uh _);rw[uS]at f1 f2 f3;refine⟨bp x f own,f1,f2,by omega,λpicks hp X z=>?_⟩;have hpl:=eR C hp X;have R:∀t,P.hd (Rv x.Aw picks t)=P.hd t:=λt=>rfl;refine Ok.val ?_;unfold JP;refine qr (nT h M) (y4 rfl (qr (oO C hd hp X z) (y4 rfl (y4 (by rw[df,df];rfl) (Ok.rm (by omega) (qr F ?_))))));refine y8 (λq=>q.1) own.length (λi q=>q.2=(bp x f (own.take i)).map (Rv x.Aw picks)) 0 (ug _) rfl (by rw[List.take_zero];rfl) (by omega) (λrec q z g=>?_) λrec i q u z g ih=>?_
 ·simp only[Oa,z];exact Ok.f (y3 (by rw[g,uS]))
 ·obtain⟨j,o,key,e1,N,Y,e3,hx⟩:=H _ (ud u);obtain⟨g1,g2,g3⟩:=W i (by omega);have hr:=h.rows _ (ud o);simp only[Oa,z];refine Ok.t (y5 u (qr (by rw[e1];exact qD h M o) (y5 o (y5 u (qr N ?_)))));refine y8 (λq=>q.1) picks.length (λk q=>q.2=key :: (picks.take k).map λq=>CV x.Aw (x.Aw.A.getD q.B.toNat oz) q.J (x.G[j].getD q.B.toNat 0)) 0 (ug _) rfl rfl (by omega) (λK O A l=>?_) λK k O hk A l ih2=>?_
  ·simp only[KF,A]
   have Z:O.2=Rv x.Aw picks (kr x f own[i]):=by
    rw[l,uS,e3];show key :: _=key :: _;refine congrArg _ (xh λq z=>?_);obtain⟨m,m0,m1,D,_⟩:=hp q z;rw[D,uv];obtain⟨m',rfl⟩:∃m',m=m'+1:=⟨m-1,by omega⟩;simp[List.getD,Nat.add_comm]
   have U:∀r∈q.2,r≠[]:=λr hr e=>by
    rw[g]at hr;obtain⟨t,_,rfl⟩:=List.mem_map.1 hr
    cases e
   have L:eH q.2:=by rw[g];exact gZ R g2
   have hlen:q.2.length<=i:=by rw[g,ua];exact g3
   refine Ok.f (qr (nA U (by rw[Z];exact List.cons_ne_nil _ _) L (by omega)) (ih _ C7 ?_));show Si q.2 O.2=_;rw[g,Z,n3 R,V i u]
  ·obtain⟨m,m1,D,m3,m4,m5⟩:=hp _ (ud hk);have B:m<x.G[j].length:=by rw[hr.1];exact D
   have hV:=hr.2 m _ _ (P3 D) (P3 B);simp only[KF,A];refine Ok.t (y5 hk (y5 hk (y5 hk ?_)));rw[m3];refine y5 B (qr (UQ C m1 D m4 m5 hV) (Ok.rm (by rw[l];simp;omega) (ih2 _ C7 ?_)));show O.2++[_]=_;rw[l,ui hk,uI,xa,List.map_singleton,m3,uv];simp[List.getD,P3 D,P3 B]
theorem oa(C:DS s){T:List (List Int)}(n:∀t∈T,WH s t)(o:eH T)(q:T.length<=200){e:ByteArray}(g:BU e=some true/\Bz e=some true){picks:List Ac}(hp:∀p∈picks,MC s p)(ho:picks.Pairwise λa b=>a.B<b.B):GX s { Ae:=e,Ag:=0,E:=picks,G:=T.map (Rv s picks) }:=by
 have c:eH (T.map (Rv s picks)):=gZ (f:=Rv s picks) (λt=>rfl) o;refine⟨g,⟨uU _,by show(0:Int)<=300;omega⟩,hp,ho,λr hr=>?_,c,by show(T.map _).length<=_;rw[ua];exact q⟩;obtain⟨t,u,rfl⟩:=List.mem_map.1 hr;have hx:=n t u;obtain⟨w,x⟩:=gn hp hx;refine⟨w,hx.2.1,hx.2.2.1,λk p v hk y=>?_⟩;obtain⟨d,rfl⟩:=List.getElem?_eq_some_iff.1 (show picks[k]?=some p from hk);obtain⟨h,rfl⟩:=List.getElem?_eq_some_iff.1 y;obtain⟨i,l,j,z,A⟩:=x k d h;obtain⟨B,m,_,D,_⟩:=hp _ (ud d);obtain rfl:i=B:=by omega
 exact⟨i,l,t[i],m,z,hx.2.2.2 i _ _ m (P3 l) (P3 j),A⟩
end
section
variable {s:Aa} {picks:List Ac}
abbrev lf(s:Aa)(v:Int):Int:=ls s v (fin s v.toNat)
def CO(picks r:List Ac):Prop:=∀p∈r,one picks p.B p.J
theorem CO.nil:CO picks []:=λp hp=>by cases hp
theorem CO.snoc{r:List Ac}{p:Ac}(h:CO picks r)(hp:one picks p.B p.J):CO picks (r++[p]):=SY (P:=λp=>one picks p.B p.J) h hp
theorem ni(a:DS s){v:Int}(e:IM s v){b:List Ac}(g:b.length<=1000):Cv v b s=some (b++[{ B:=v,J:=lf s v }]):=by
 obtain⟨i,rfl,c,d,f⟩:=e;refine Ok.val ?_;unfold Cv;exact qr (a.pFinest c d) (qr (WZ a c d f).1 (Ok.rm (by grind) (y3 rfl)))
theorem pw(c:DS s){e:Av}(hd:e.V.length<=10/\∀p∈e.V,IC s p.B/\MC s p)(d:e.A.length<=10/\∀v∈e.A,IM s v)(h:0<e.B->IM s e.B)(ho:e.Op=10\/e.Op=11\/e.Op=12)(j:∀p∈e.V,one picks p.B (ls s p.B p.J))(l:0<e.B->one picks e.B (lf s e.B))(m:∀v∈e.A,one picks v (lf s v)):Ok (JV s e) (CO picks):=by
 have f:∀{b:List Ac},CO picks b/\b.length<=11->Ok (Bi e s b) (CO picks):=λa=>by
  unfold Bi;exact ya e.A.length (λk b=>CO picks b/\b.length<=11+k) a (λrec b a=>Ok.f (y3 a.1)) (λrec k b hk a ih=>Ok.t (y5 hk (qr (ni c (d.2 _ (ud hk)) (by grind)) (ih _ _ C7 ⟨a.1.snoc (m _ (ud hk)),by have:=a.2;simp;omega⟩)))) (by omega)
 have y:∀{b:List Ac},CO picks b/\b.length<=10->Ok (bif(decide (e.B>0))then(Cv e.B b s).bind λx47=>Bi e s x47 else Bi e s b) (CO picks):=λa=>y9 (λhp=>qr (ni c (h hp) (by grind)) (f ⟨a.1.snoc (l hp),by have:=a.2;simp;omega⟩)) λ_=>f ⟨a.1,by have:=a.2;omega⟩;unfold JV;refine ya e.V.length (λk b=>CO picks b/\b.length<=k) ⟨CO.nil,by simp⟩ (λrec b a=>Ok.f ?_) (λrec k b hk a ih=>Ok.t (y5 hk ?_)) (by omega)
 ·have n:CO picks b/\b.length<=10:=⟨a.1,by have:=a.2;omega⟩;unfold KY;grind
 ·obtain⟨⟨i,d,o,q,r⟩,⟨t,_,_,u,w,x⟩⟩:=hd.2 _ (ud hk);obtain rfl:i=t:=by omega
  have g:=j _ (ud hk);rw[d]at g ⊢;exact qr (WY c o q r w x).1 (Ok.rm (by grind) (ih _ _ C7 ⟨a.1.snoc g,by have:=a.2;simp;omega⟩))
theorem kh(m:DS s){a:List (List Ac)}(A:a.length<=1000)(h:∀l∈a,NA s l)(o:∀l∈a,CO picks l):Ok (EL a) λr=>(∀p∈r,0<p.J)/\CO picks r:=by
 have t:=m.cols_length;unfold EL;refine y8 (λq=>q.2.1) a.length (λ_ q=>(0<=q.1/\q.1<=10)/\∀c,one picks c (gl c q.2.2)) 0 (ug _) rfl ⟨⟨uU _,by decide⟩,λc=>.inl (uU _)⟩ (by omega) (λrec q b d=>?_) λrec k q hk b d ih=>?_
 ·obtain⟨⟨u,v⟩,f⟩:=d;obtain⟨n,w⟩:∃n:Nat,q.1=n:=⟨q.1.toNat,by omega⟩;have g:IntKind.i64.wrap (q.1+1)=((n+1:Nat):Int):=by rw[w];exact C7
  simp only[Em,b];refine Ok.f (ya (n+1) (λk r=>((∀p∈r,0<p.J)/\CO picks r)/\r.length<=k) ⟨⟨(λp hp=>by cases hp),CO.nil⟩,by simp⟩ (λrec r hr=>?_) λrec k r hk hr ih=>?_)
  ·simp only[Ep,g];exact Ok.f (y3 hr.1)
  ·simp only[Ep,g];exact Ok.t (y9 (λhp=>Ok.rm (by grind) (ih _ _ C7 ⟨⟨SY (P:=λp=>0<p.J) hr.1.1 hp,hr.1.2.snoc (f k)⟩,by simp;exact hr.2⟩)) λ_=>ih _ _ C7 ⟨hr.1,by have:=hr.2;omega⟩)
 ·obtain⟨x,B⟩:=h _ (ud hk);have y:=o _ (ud hk);simp only[Em,b];refine Ok.t (y5 hk (y8 (λq=>q.2.1) a[k].length (λ_ q=>(0<=q.1/\q.1<=10)/\∀c,one picks c (gl c q.2.2)) 0 (ug _) rfl d (by omega) (λrec q b d=>?_) λrec j q e b d ih=>?_))
  ·simp only[Eo,b];exact Ok.f (ih _ C7 d)
  ·obtain⟨i,C,D,z,E,F⟩:=x _ (ud e);have G:=y _ (ud e);obtain⟨⟨u,v⟩,f⟩:=d;simp only[Eo,b];refine Ok.t (y5 e (ih _ C7 ⟨⟨by show 0<=(if a[k][j].B>q.1 then a[k][j].B else q.1);split<;>omega,by show(if a[k][j].B>q.1 then a[k][j].B else q.1)<=10;split<;>omega⟩,λc=>?_⟩))
   have H:gl c (VD a[k][j].B (if a[k][j].J>((JY a[k][j].B q.2.2).getD 0)then a[k][j].J else((JY a[k][j].B q.2.2).getD 0)) q.2.2)=if c=a[k][j].B then(if a[k][j].J>gl a[k][j].B q.2.2 then a[k][j].J else gl a[k][j].B q.2.2)else gl c q.2.2:=by
    unfold gl;rw[Vn];split<;>rfl
   grind
def EC(s:Aa)(e:Av)(picks:List Ac):Prop:=((∀a∈Lm DD e.Ah,one picks a.B (S8 s a))/\(e.Op=12->∀a∈Lm DD e.U,one picks a.B (S8 s a)))/\(∀p∈e.V,one picks p.B (ls s p.B p.J))/\(0<e.B->one picks e.B (lf s e.B))/\∀v∈e.A,one picks v (lf s v)
theorem GC.cov(b:DS s){c:Ad}(h:GC s c){d:Nat}(hd:40<=d)(f:∀a∈Lm DD c,one picks a.B (S8 s a)):Ok (Bs d s c) λr=>NA s r/\CO picks r:=by
 have g:=h;obtain⟨n,e,i⟩:=h;refine(g.needs b hd).and ((P.pneeds b e (d:=d) (by omega) i).mono λr hr=>(hr.iff picks).2 ?_);rw[Xv n d DD e (by omega) (by grind)];exact f
theorem Ul{α:Type}{P Q:α->Prop}{m:Option α}(a:Ok m P)(b:Ok m Q):Ok m λx=>P x/\Q x:=a.and b
theorem kk(g:DS s){e:Av}(h:ET s e)(ho:e.Op=10\/e.Op=11\/e.Op=12)(C:EC s e picks){d:Nat}(hd:50<=d):Ok (CR d s e) λr=>(∀p∈r,0<p.J)/\CO picks r:=by
 obtain⟨d,rfl⟩:∃k,d=k+1:=⟨d-1,by omega⟩;obtain⟨⟨D,t⟩,E,F,G⟩:=C
 have i:(e.V.length<=10/\∀p∈e.V,IC s p.B/\MC s p)/\(e.A.length<=10/\∀v∈e.A,IM s v)/\(0<e.B->IM s e.B)/\GC s e.Ah/\(e.U=Gv\/e.Op=12/\GC s e.U):=by
  cases h with
  | table m j c n hd h=>exact⟨⟨by have:=hd.len;show j.length<=10;omega,hd.all⟩,⟨by simp[eX],λv f=>by simp[eX]at f⟩,λz=>n.resolve_left (by have z:0<m:=z;omega),h,.inl rfl⟩
  | model m o c n w h=>exact⟨⟨by simp[eX],λv f=>by simp[eX]at f⟩,⟨by have:=w.len;show o.length<=10;omega,λv f=>(w.all v f).1⟩,λ_=>n,h,.inl rfl⟩
  | curve m ev c n u H h=>exact⟨⟨by simp[eX],λv f=>by simp[eX]at f⟩,⟨by simp[eX],λv f=>by simp[eX]at f⟩,λ_=>n,h,.inr ⟨rfl,H⟩⟩
 obtain⟨x,A,B,I,q⟩:=i
 have y:Ok (Bs d s e.U) λr=>NA s r/\CO picks r:=by
  rcases q with q|⟨q,J⟩
  ·rw[q];obtain⟨k,rfl⟩:∃k,d=k+1:=⟨d-1,by omega⟩;exact⟨_,g.pneeds_zero k,NA.nil,CO.nil⟩
  ·exact J.cov g (by omega) (t q)
 have hk:=h.kids;show Ok (G2 d (CR d) s e) _;unfold G2;refine(Ul (aW g ⟨x.1,λp hp=>(x.2 p hp).2⟩ A B (λe=>by rcases ho with t|t|t<;>omega)) (pw g x A B ho E F G)).bind λa L=>(I.cov g (by omega) D).bind λb M=>y.bind λc w=>?_
 refine ya 0 (λ_ l=>l=[a,b,c]) rfl (λrec l u=>?_) (λrec k l K=>by omega) (by omega);rw[u];unfold Om;refine Ok.f ((kh g (by simp) (λl u=>?_) λl u=>?_).bind λr hr=>y3 hr) (by grind)
 all_goals grind
theorem cq(a:DS s){e:Av}(h:ET s e)(ho:e.Op=10\/e.Op=11\/e.Op=12)(b:EC s e picks)(hp:picks.length<=6){d:Nat}(hd:50<=d):Ok (CR d s e) λr=>B5 picks r=some true:=by
 refine(Ul (h.right' a hd).2 (kk a h ho b hd)).mono λr hr=>?_;rw[UN picks r (by omega) (by have:=hr.1.2;omega),(PG hr.2.1).2 hr.2.2]
theorem Pe(a:DS s){e:Av}(h:ET s e)(ho:e.Op=10\/e.Op=11\/e.Op=12)(b:EC s e picks)(hp:picks.length<=6){d:Nat}(hd:50<=d):Ok (Gt d s e) λr=>B5 picks r=some true:=by
 unfold Gt;exact qr a.check (y4 rfl (qr (h.right' a hd).1 (y4 rfl ((cq a h ho b hp hd).bind λr hr=>y3 hr))))
def qe(q:Ap):Av:=bif q.Kind==1 then eX 10 0 .empty q.Y [] q.V q.Ay Gv []else bif q.Kind==2 then eX 11 0 .empty q.Y q.Ai [] q.Ay Gv []else eX 12 0 .empty q.Y [] [] q.Ay q.U []
theorem QR.et{q:Ap}(h:QR s q):ET s (qe q)/\((qe q).Op=10\/(qe q).Op=11\/(qe q).Op=12):=by
 unfold qe;rcases h.parts with⟨e,a,b,_,_⟩|⟨e,_,a,b,_⟩|⟨e,_,_,a,b⟩<;>rw[e]
 ·exact⟨.table _ _ _ b a h.filter,.inl rfl⟩
 ·exact⟨.model _ _ _ a b h.filter,.inr (.inl rfl)⟩
 ·exact⟨.curve _ _ _ a.1 a.2 b h.filter,.inr (.inr rfl)⟩
theorem QR.ec{q:Ap}(h:QR s q)(hp:PQ s q picks):EC s (qe q) picks:=by
 obtain⟨⟨g,p2⟩,p3,j⟩:=hp;have b:∀v,IM s v->(q.Y=v\/v∈q.Ai)->one picks v (lf s v):=λv ⟨i,e,k,l,_⟩ a=>by grind
 unfold qe;rcases h.parts with⟨e,c,d,_,_⟩|⟨e,_,c,d,_⟩|⟨e,_,_,c,d⟩<;>rw[e]
 ·exact⟨⟨g,λe=>by cases e⟩,p3,λf=>b _ (d.resolve_left (by have f:0<q.Y:=f;omega)) (.inl rfl),λv a=>by cases a⟩
 ·exact⟨⟨g,λe=>by cases e⟩,(λp hp=>by cases hp),λf=>b _ c (.inl rfl),λv a=>b v (d.all v a).1 (.inr a)⟩
 ·exact⟨⟨g,λ_=>p2 e⟩,(λp hp=>by cases hp),λf=>b _ c.1 (.inl rfl),λv a=>by cases a⟩
end
section
variable {s:Aa} {x y:Au} {T:List (List Int)} {d:Nat}
structure TX(s:Aa)(T:List (List Int))(x:Au):Prop where
 gx:GX s x
 rows:x.G=T.map (Rv s x.E)
 ok:∀t∈T,WH s t
theorem TX.mem(h:TX s T x){t:List Int}(a:t∈T):Rv s x.E t∈x.G:=by rw[h.rows];exact wM a
abbrev CA(s:Aa)(c:Ad)(picks:List Ac):Prop:=∀a∈Lm DD c,one picks a.B (S8 s a)
abbrev CmV(s:Aa)(cols:List Int)(picks:List Ac):Prop:=∀v∈cols,IM s v/\one picks v (lf s v)
theorem TX.hp(f:DS s)(h:TX s T x){t:List Int}(g:t∈T){c:Ad}(p:GC s c)(hd:40<=d)(r:CA s c x.E):P.hp d s x.E c (Rv s x.E t)=((AE d c (λa0=>Ct a0 s t)).getD 0==1):=by
 have v:=h.gx.picks_len f;have i:=p;obtain⟨n,j,w⟩:=p
 have k:∀a∈Lm d c,one x.E a.B (S8 s a):=by
  rw[Xv n d DD j (by omega) (by grind)];exact r
 obtain⟨q,u,l,m⟩:=i.cov f hd r;obtain⟨z,b,o⟩:=P.pneeds f j (d:=d) (by omega) w;rw[u]at b;obtain rfl:=uc b;have e:=UN x.E q (by omega) (by have:=l.2;omega);rw[(PG o.pos).2 m]at e;unfold P.hp;rw[u,ue,e,ol f h.gx (h.mem g) (h.ok t g) (gn h.gx.picks (h.ok t g)) j (by omega) k];rfl
theorem TX.known(e:DS s)(h:TX s T x){t:List Int}(a:t∈T){i:Nat}(g:1<=i)(f:i<s.A.length){b L:Int}(j:LsV s i b L)(ho:one x.E i L):Bt s (dE x.E (Rv s x.E t)) 0 i b=some (CV s s.A[i] b (t.getD i 0),true):=by
 have c:i<t.length:=by rw[(h.ok t a).1];exact f
 rw[rj e h.gx.picks h.gx.order (h.gx.picks_len e) (h.ok t a) (gn h.gx.picks (h.ok t a)) g f c j ho];grind
theorem TX.kv(a:DS s)(h:TX s T x){t:List Int}(e:t∈T){v:Int}(f:IM s v)(ho:one x.E v (lf s v)):P.kv s x.E (Rv s x.E t) v (fin s v.toNat)=(CV s (s.A.getD v.toNat oz) (fin s v.toNat) (t.getD v.toNat 0),true):=by
 obtain⟨i,rfl,b,c,g⟩:=f;unfold P.kv;rw[uv,h.known a e b c (WZ a b c g).2.2.2.2 ho];grind
theorem jp{α:Type}{l:List α}{f g:α->Bool}(h:∀v∈l,f v=g v):l.any f=l.any g:=by grind
theorem TX.cp(b:DS s)(h:TX s T x)(g:TX s T y){t:List Int}(e:t∈T){c:Ad}(i:GC s c)(hd:40<=d)(hx:CA s c x.E)(hy:CA s c y.E){a:List Int}(j:CmV s a x.E)(k:CmV s a y.E):P.cp d s x.E c a (Rv s x.E t)=P.cp d s y.E c a (Rv s y.E t):=by
 unfold P.cp;rw[h.hp b e i hd hx,g.hp b e i hd hy];refine congrArg (λz=>_&&!z) (jp λv f=>?_);unfold qo;rw[h.kv b e (j v f).1 (j v f).2,g.kv b e (k v f).1 (k v f).2]
theorem pZ{α:Type}{f g:List Int->List Int}{P Q:List Int->Bool}{u v:List Int->α}(h:∀t∈T,P (f t)=Q (g t))(a:∀t∈T,u (f t)=v (g t)):((T.map f).filter P).map u=((T.map g).filter Q).map v:=by
 rw[wG,wG,wI,wI,List.filter_congr (p:=P ∘ f) (q:=Q ∘ g) h];exact xh λt b=>a t (List.mem_filter.1 b).1
theorem TX.map(b:DS s)(h:TX s T x)(g:TX s T y){c:Ad}(i:GC s c)(hd:40<=d)(hx:CA s c x.E)(hy:CA s c y.E){a:List Int}(j:CmV s a x.E)(k:CmV s a y.E){α:Type}{u v:List Int->α}(l:∀t∈T,u (Rv s x.E t)=v (Rv s y.E t)):(x.G.filter (P.cp d s x.E c a)).map u=(y.G.filter (P.cp d s y.E c a)).map v:=by
 have e:=pZ (f:=Rv s x.E) (g:=Rv s y.E) (λt m=>h.cp b g m i hd hx hy j k) l;rw[<-h.rows,<-g.rows]at e;exact e
theorem TX.vl(a:DS s)(h:TX s T x)(g:TX s T y){m:Int}(b:IM s m)(e:one x.E m (lf s m))(f:one y.E m (lf s m)):∀t∈T,P.vl s x.E m (Rv s x.E t)=P.vl s y.E m (Rv s y.E t):=λt c=>by
 unfold P.vl;rw[h.kv a c b e,g.kv a c b f]
theorem lG{α β:Type}{m:Option α}{f g:α->Option β}{P:α->Prop}(h:Ok m P)(b:∀a,P a->f a=g a):m.bind f=m.bind g:=by
 obtain⟨a,rfl,c⟩:=h;exact b a c
theorem jz(a:DS s)(h:TX s T x)(g:TX s T y){m:Int}{ev c:Ad}(A:ET s (eX 12 0 .empty m [] [] c ev []))(k:IM s m)(n:GC s ev)(l:GC s c)(f:EC s (eX 12 0 .empty m [] [] c ev []) x.E)(j:EC s (eX 12 0 .empty m [] [] c ev []) y.E)(hd:50<=d):E2 d s x m ev c=E2 d s y m ev c:=by
 have o:0<m:=by obtain⟨i,e,E,_⟩:=k;omega
 have p:CmV s [m] x.E:=λv q=>by rw[List.mem_singleton.1 q];exact⟨k,f.2.2.1 o⟩
 have w:CmV s [m] y.E:=λv q=>by rw[List.mem_singleton.1 q];exact⟨k,j.2.2.1 o⟩
 unfold E2;rw[h.gx.check a,g.gx.check a];refine congrArg (Option.bind _) (funext λe=>congrArg (λz=>bif _ then _ else z) (congrArg (Option.bind _) (funext λb=>congrArg (λz=>bif _ then _ else z) ?_)));refine lG (Ul (Pe a A (.inr (.inr rfl)) f (h.gx.picks_len a) hd) (Pe a A (.inr (.inr rfl)) j (g.gx.picks_len a) hd)) λr ⟨C,D⟩=>?_;rw[C,D,ue,ue];refine congrArg (λz=>bif _ then _ else z) ?_;rw[Tl a h.gx k n l hd,Tl a g.gx k n l hd,h.map a g l (by omega) f.1.1 j.1.1 p w (h.vl a g k (f.2.2.1 o) (j.2.2.1 o)),h.map a g l (by omega) f.1.1 j.1.1 p w (u:=P.hp d s x.E ev) (v:=P.hp d s y.E ev) λt B=>by rw[h.hp a B n (by omega) (f.1.2 rfl),g.hp a B n (by omega) (j.1.2 rfl)]];exact congrArg _ (h.map a g l (by omega) f.1.1 j.1.1 p w λt _=>rfl)
theorem TX.own(b:DS s)(h:TX s T x)(g:TX s T y){t:List Int}(c:t∈T):∀{a:List Ac},(∀p∈a,(IC s p.B/\MC s p)/\one x.E p.B (ls s p.B p.J)/\one y.E p.B (ls s p.B p.J))->C5 s (dE x.E (Rv s x.E t)) 0 a=C5 s (dE y.E (Rv s y.E t)) 0 a
 | [],_=>rfl
 | p :: r,hd=>by
   obtain⟨⟨⟨i,j,e,f,n⟩,⟨o,_,_,q,u,v⟩⟩,k,l⟩:=hd p (by simp);obtain rfl:i=o:=by omega
   have m:=(WY b e f n u v).2.2.2.2;rw[j]at k l;unfold C5;rw[j,h.known b c e f m k,g.known b c e f m l,TX.own b h g c λp hp=>hd p (by simp[hp])]
theorem TX.rowsF(c:DS s)(h:TX s T x)(g:TX s T y){a:List Ac}(hd:∀p∈a,(IC s p.B/\MC s p)/\one x.E p.B (ls s p.B p.J)/\one y.E p.B (ls s p.B p.J)){m:Int}(e:m=-1\/IM s m/\one x.E m (lf s m)/\one y.E m (lf s m)):∀(L:List (List Int)),(∀t∈L,t∈T)->∀cs,P.rowsF s x.E a m (L.map (Rv s x.E)) cs=P.rowsF s y.E a m (L.map (Rv s y.E)) cs
 | [],_,_=>rfl
 | t :: L,hL,cs=>by
   have b:=hL t (by simp)
   have f:(bif decide (0<=m)then P.vl s x.E m (Rv s x.E t)else 0)=(bif decide (0<=m)then P.vl s y.E m (Rv s y.E t)else 0):=by
    rcases e with e|⟨i,j,k⟩
    ·grind
    ·rw[h.vl c g i j k t b]
   rw[ul,ul];unfold P.rowsF;rw[h.own c g b hd,f];refine congrArg _ (funext λo=>?_);show(Cb o (P.hd t) _ _ _).bind _=(Cb o (P.hd t) _ _ _).bind _;refine congrArg _ (funext λq=>?_);exact TX.rowsF c h g hd e L (λt b=>hL t (by simp[b])) q
theorem kM(j:DS s)(h:TX s T x)(g:TX s T y){m:Int}{a:List Ac}{c:Ad}(B:ET s (eX 10 0 .empty m [] a c Gv []))(f:m=-1\/IM s m)(C:OX s a)(o:GC s c)(l:EC s (eX 10 0 .empty m [] a c Gv []) x.E)(n:EC s (eX 10 0 .empty m [] a c Gv []) y.E)(hd:50<=d):Dy d s x a m c=Dy d s y a m c:=by
 have E:=C.len;have q:BE a=some a:=Ok.val (Ok.rm (by omega) (y3 rfl));have pos:IM s m->0<m:=λ⟨i,e,J,_⟩=>by omega
 have D:∀z:Au,EC s (eX 10 0 .empty m [] a c Gv []) z.E->CmV s (KW m) z.E:=λz F v u=>by
  unfold KW at u;rcases f with f|f
  ·grind
  ·rw[dt (by grind)]at u;rw[List.mem_singleton.1 u];exact⟨f,F.2.2.1 (pos f)⟩
 have w:m=-1\/IM s m/\one x.E m (lf s m)/\one y.E m (lf s m):=f.imp id λf=>⟨f,l.2.2.1 (pos f),n.2.2.1 (pos f)⟩
 have k:∀b,P.rowsF s x.E a m (x.G.filter (P.cp d s x.E c (KW m))) b=P.rowsF s y.E a m (y.G.filter (P.cp d s y.E c (KW m))) b:=λb=>by
  have G:∀t∈T,(P.cp d s x.E c (KW m) ∘ Rv s x.E) t=(P.cp d s y.E c (KW m) ∘ Rv s y.E) t:=λt A=>h.cp j g A o (by omega) l.1.1 n.1.1 (D x l) (D y n);have:=h.rowsF j g (λp hp=>⟨C.all p hp,l.2.1 p hp,n.2.1 p hp⟩) w (T.filter (P.cp d s y.E c (KW m) ∘ Rv s y.E)) (λt A=>(List.mem_filter.1 A).1) b;rw[h.rows,g.rows,wG,wG,List.filter_congr G];exact this
 unfold Dy;rw[h.gx.check j,g.gx.check j,q];refine congrArg (Option.bind _) (funext λe=>congrArg (λz=>bif _ then _ else z) (congrArg (Option.bind _) (funext λb=>congrArg (λz=>bif _ then _ else z) ?_)));refine lG (Ul (Pe j B (.inl rfl) l (h.gx.picks_len j) hd) (Pe j B (.inl rfl) n (g.gx.picks_len j) hd)) λr ⟨H,I⟩=>?_;rw[H,I];simp only[ue,aH j h.gx f o hd (by omega:a.length<=1000),aH j g.gx f o hd (by omega:a.length<=1000),k]
theorem ki(j:DS s)(h:TX s T x)(g:TX s T y){m:Int}{a:List Int}{c:Ad}(B:ET s (eX 11 0 .empty m a [] c Gv []))(p:IM s m)(C:Ns s m a)(q:GC s c)(l:EC s (eX 11 0 .empty m a [] c Gv []) x.E)(o:EC s (eX 11 0 .empty m a [] c Gv []) y.E)(hd:50<=d):E0 d s x m a c=E0 d s y m a c:=by
 have F:0<m:=by obtain⟨i,e,I,_⟩:=p;omega
 have f:=qz p C
 have n:∀z:Au,EC s (eX 11 0 .empty m a [] c Gv []) z.E->CmV s ([m]++a) z.E:=λz D v k=>by
  rcases List.mem_append.1 k with k|k
  ·rw[List.mem_singleton.1 k];exact⟨p,D.2.2.1 F⟩
  ·exact⟨(C.all v k).1,D.2.2.2 v k⟩
 have E:∀y,GX s y->OP (WX (P.cp d s y.E c ([m]++a)) y.G) ([m]++a)=some (List.replicate (y.G.filter (P.cp d s y.E c ([m]++a))).length []):=λy G=>by
  have:=Ty (P:=P.cp d s y.E c ([m]++a)) G;rw[ua]at this;have:=f.1;unfold OP;rw[Tx,dt ⟨by omega,by omega⟩];rfl
 have w:∀{α:Type}{u v:List Int->α},(∀t∈T,u (Rv s x.E t)=v (Rv s y.E t))->(x.G.filter (P.cp d s x.E c ([m]++a))).map u=(y.G.filter (P.cp d s y.E c ([m]++a))).map v:=λA=>h.map j g q (by omega) l.1.1 o.1.1 (n x l) (n y o) A;have el:=congrArg List.length (w (u:=λ_=>()) (v:=λ_=>()) λ_ _=>rfl);rw[ua,ua]at el;have J:ky (P.cp d s x.E c ([m]++a)) x=ky (P.cp d s y.E c ([m]++a)) y:=w λ_ _=>rfl;have ev:(([m]++a).map λc'=>(x.G.filter (P.cp d s x.E c ([m]++a))).map (P.vl s x.E c'))=([m]++a).map λc'=>(y.G.filter (P.cp d s y.E c ([m]++a))).map (P.vl s y.E c'):=xh λv k=>w (h.vl j g (n x l v k).1 (n x l v k).2 (n y o v k).2);unfold E0;rw[h.gx.check j,g.gx.check j];refine congrArg (Option.bind _) (funext λe=>congrArg (λz=>bif _ then _ else z) (congrArg (Option.bind _) (funext λb=>congrArg (λz=>bif _ then _ else z) ?_)));refine lG (Ul (Pe j B (.inr (.inl rfl)) l (h.gx.picks_len j) hd) (Pe j B (.inr (.inl rfl)) o (g.gx.picks_len j) hd)) λr ⟨H,A⟩=>?_;rw[H,A];simp only[ue,QC j h.gx q (by omega:40<=d) f,QC j g.gx q (by omega:40<=d) f,E x h.gx,E y g.gx,R9 j h.gx _ _ f.2,R9 j g.gx _ _ f.2,aK h.gx,aK g.gx,el,ev];grind
theorem kT(l:DS s)(h:TX s T x)(g:TX s T y)(r n:List AF){e:Av}(q:ET s e)(ho:e.Op=10\/e.Op=11\/e.Op=12)(o:EC s e x.E)(p:EC s e y.E)(hd:51<=d):B0 d (sG s x r) e=B0 d (sG s y n) e:=by
 obtain⟨d,rfl⟩:∃k,d=k+1:=⟨d-1,by omega⟩;have f:=q
 cases q with
 | table m a c i t j =>
   show(Dy d s x a m c).bind _=(Dy d s y a m c).bind _;rw[kM l h g f i t j o p (d:=d) (by omega)]
 | model m b c i u j =>
   show(E0 d s x m b c).bind _=(E0 d s y m b c).bind _;rw[ki l h g f i u j o p (d:=d) (by omega)]
 | curve m ev c i w v j =>
   show(E2 d s x m ev c).bind _=(E2 d s y m ev c).bind _;rw[jz l h g f i v j o p (d:=d) (by omega)]
structure QP(s:Aa)(l:List Az):Prop where
 len:l.length<=3
 all:∀x∈l,ET s x.Aq/\(x.Aq.Op=10\/x.Aq.Op=11\/x.Aq.Op=12)
 names:∀x∈l,Bz x.I=some true
 ne:l.Pairwise λa b=>a.I.toList≠b.I.toList
theorem QP.check(c:DS s){l:List Az}(h:QP s l)(hd:50<=d):H7 d s l=some ((l.length:Int),0):=by
 have m:=h.len;refine Ok.val ?_;unfold H7;refine qr c.check (y4 rfl (Ok.f (yc l.length (λrec=>Ok.f (y3 rfl)) λrec k hk ih=>Ok.t (y5 hk (Ok.t ?_)))));have a:=ud hk;have b:(l.take k).length<=4:=by grind
 rw[cu _ (by omega)];refine qr (x:=0) (Ok.val ?_) (y4 rfl (ih _ C7));obtain⟨e,f,g⟩:=(h.all _ a).1.sizes (d:=d) (by omega) λa0=>CP a0 (l.take k);unfold IG;refine qr (h.names _ a) (y4 rfl ?_);rw[ry b];refine qr rfl (y4 (List.any_eq_false.2 λx hx=>?_) (e.bind λr hr=>Ok.f (f.bind λr hr=>Ok.f (qr ((h.all _ a).1.right' c hd).1 (y4 rfl (qr g (y4 rfl (y3 rfl))))))));obtain⟨j,i,rfl⟩:=List.mem_iff_getElem.1 hx;rw[uO]at i;rw[wq,beq_eq_false_iff_ne.2 (List.pairwise_iff_getElem.1 h.ne j k (by omega) hk (by omega))];decide
theorem qX(a:DS s)(b:GX s x){e:Av}(h:ET s e)(ho:e.Op=10\/e.Op=11\/e.Op=12)(g:EC s e x.E)(f:List AF)(hd:50<=d):Ol d s x.E f e=some (kd e,0):=by
 have c:=b.picks_len a;refine Ok.val ?_;unfold Ol;exact qr (h.right' a hd).1 (y4 rfl (qr (nx a b.picks b.order (by omega)) (y4 rfl ((cq a h ho g c hd).bind λr hr=>qr hr (y4 rfl (qr (ri f h (by omega)) (y3 rfl)))))))
theorem QP.types(e:DS s){l:List Az}(h:QP s l)(f:GX s x)(g:∀t∈l,EC s t.Aq x.E)(hd:50<=d):Ok (Jj d s x.E l) λr=>r.2=((l.length:Int),0):=by
 have i:=h.len;unfold Jj;refine qr (h.check e hd) (y4 rfl (y8 (λq=>q.1) l.length (λk q=>q.2.1.length=k/\q.2.2.length=k) 0 (ug _) rfl ⟨rfl,rfl⟩ (by omega) (λrec q b a=>?_) λrec k q hk b a ih=>?_))
 ·simp only[IQ,b];exact Ok.f (y3 rfl)
 ·have c:=ud hk;simp only[IQ,b];exact Ok.t (y5 hk (qr (qX e f (h.all _ c).1 (h.all _ c).2 (g _ c) _ hd) (y4 rfl (Ok.rm (by grind) (Ok.rm (by have:=a.2;simp;omega) (ih _ C7 ⟨by simp;exact a.1,by simp;exact a.2⟩))))))
theorem pK(c:DS s)(h:TX s T x)(g:TX s T y){l:List Az}(e:QP s l)(hx:∀t∈l,EC s t.Aq x.E)(hy:∀t∈l,EC s t.Aq y.E):Dw DD s x l=Dw DD s y l:=by
 obtain⟨a,n,j⟩:=e.types c h.gx hx (d:=DD) (by decide);obtain⟨b,o,k⟩:=e.types c g.gx hy (d:=DD) (by decide);have p:((0:Int) != 0)=false:=rfl;unfold Dw;simp only[h.gx.check c,g.gx.check c,e.check c (d:=DD) (by decide),n,o,j,k,ue,p,ux];refine congrArg (λf=>iter f A9 (0,[])) (funext λrec=>funext λm=>?_);unfold GJ;refine congrArg (λz=>bif _ then z else _) (L1 λt i=>?_);have:=kT c h g m.2 m.2 (e.all t i).1 (e.all t i).2 (hx t i) (hy t i) (d:=DD) (by decide);grind
theorem k9(c:DS s)(h:TX s T x){l:List Az}(f:QP s l)(hx:∀t∈l,EC s t.Aq x.E):Ok (Dw DD s x l) λr=>r.1.length<=3/\∀b∈r.1,VB b.At:=by
 have j:=f.len;unfold Dw;refine qr (h.gx.check c) (y4 rfl (qr (f.check c (by decide)) (y4 rfl ((f.types c h.gx hx (by decide)).bind λr hr=>y4 (by grind) ?_))));refine ya l.length (λk q=>q.length=k/\∀b∈q,VB b.At) ⟨rfl,λb a=>by cases a⟩ (λrec b a=>?_) λrec k b hk a ih=>?_
 ·unfold GJ;exact Ok.f (y3 ⟨by show b.length<=3;omega,a.2⟩)
 ·have m:=ud hk;have g:=qc c h.gx b (f.all _ m).1 (d:=DD) (by decide);unfold sG at g;unfold GJ;refine Ok.t (y5 hk (g.bind λv g=>y6 (λ_=>y3 ⟨ug _,λb a=>by cases a⟩) λe=>Ok.rm (by grind) (ih _ _ C7 ⟨by simp;exact a.1,λz i=>?_⟩)));rcases List.mem_append.1 i with i|i
  ·grind
  ·rw[List.mem_singleton.1 i];exact g (by grind)
end
section
variable {s:Aa}
theorem aL{v:Int}(h:IM s v):BK s v=some 3:=by
 obtain⟨i,rfl,_,a,b⟩:=h;refine Ok.val ?_;unfold BK;exact y4 (by grind) (y5 a (y3 b.kind))
theorem pm(g:DS s){q:Ap}(c:IM s q.Y)(a:Ns s q.Y q.Ai)(hd:q.V=[])(d:q.U=Gv):Ga s q=some 0:=by
 have h:=a.pos;have k:=a.len;refine Ok.val ?_;unfold Ga;refine qr (aL c) (y4 rfl (y4 (by rw[df,df];rfl) (yc q.Ai.length (λrec=>Ok.f ?_) λrec i b ih=>Ok.t (y5 b (qr (aL (a.all _ (ud b)).1) (y4 rfl (y4 (beq_eq_false_iff_ne.2 (a.all _ (ud b)).2) (yb (by omega) ?_))))))))
 ·unfold Mf;rw[hd,d];exact y4 rfl (qr (x:=true) rfl (y4 rfl (y3 rfl)))
 ·rw[cu _ (by omega),Uk (by rw[uO];omega)];refine qr rfl (y4 (uB λc=>?_) (ih _ C7));obtain⟨j,e,f⟩:=List.mem_iff_getElem.1 c;rw[wq]at f;rw[uO]at e;have:=List.pairwise_iff_getElem.1 a.asc j i (by omega) b (by omega);omega
theorem oQ(c:DS s){q:Ap}(a:VR s q.Y)(f:GC s q.U)(hd:q.V=[])(g:q.Ai=[]){d:Nat}(h:40<=d):FY d s q=some 0:=by
 obtain⟨i,e,j,b,k⟩:=a.1;have l:=a.2 s.A[i] (by rw[e];exact Cf b);refine Ok.val ?_;unfold FY;refine qr (aL a.1) (y4 rfl ?_);rw[e,hd,g];exact y5 b (Ok.f (qr (f.check c (by omega)) (y4 rfl (y4 rfl (y3 rfl)))))
theorem fY(a:DS s){q:Ap}(h:QR s q)(g:Bz q.I=some true):CB DD s q=some 0:=by
 refine Ok.val ?_;unfold CB;refine qr a.check (y4 rfl (qr g (y4 rfl ?_)));rcases h.parts with⟨e,b,c,d,f⟩|⟨e,b,c,d,f⟩|⟨e,b,c,d,f⟩<;>rw[e]
 ·exact y4 rfl (qr (h.filter.check a (by decide)) (y4 rfl (y7 rfl (qr (jd a b c d f) (y3 rfl)))))
 ·exact y4 rfl (qr (h.filter.check a (by decide)) (y4 rfl (y4 rfl (y7 rfl (qr (pm a c d b f) (y3 rfl))))))
 ·exact y4 rfl (qr (h.filter.check a (by decide)) (y4 rfl (y4 rfl (y4 rfl (qr (oQ a d f b c (by decide)) (y3 rfl))))))
theorem bW{l:List Ap}{p:Ap->Option Bool}(q:Ap->Bool)(hp:∀x∈l,p x=some (q x))(a:l.length<=1000000000):Be l p=some (l.any q):=by
 unfold Be;rw[show BC l p=some (GT q l)from IB hp a,ue,Lv]
theorem rY:∀k:Nat,1<=k->k<4->Bz (qn k)=some true:=by
 intro k a hk;rcases(by omega:k=1\/k=2\/k=3)with rfl|rfl|rfl<;>decide +kernel
theorem DR.name{d:Ar}(h:DR s d){q:Ap}(a:q∈d.Am):Bz q.I=some true:=by
 obtain⟨_,k,b,c,e⟩:=h.questions.all q a;rw[e];exact rY k b c
theorem qU(a:DS s){d:Ar}(h:DR s d):FW DD s d=some 0:=by
 have hp:=h.questions.pos;have e:=h.questions.len;obtain⟨f,g,k,l,m,n⟩:=h.sample;refine Ok.val ?_;unfold FW;refine qr a.check (y4 rfl (qr h.project.2 (y4 rfl (qr h.source.2 (y4 rfl ?_)))));unfold Io;refine qr (h.cohort.check a (by decide)) (y4 rfl (y4 ?_ (y4 (by grind) (yc d.Am.length (λrec=>Ok.f (y3 rfl)) λrec i b ih=>Ok.t (y5 b (qr (fY a (h.question a (ud b)).1 (h.name (ud b))) (y4 rfl (yb (by omega) ?_))))))))
 ·rw[df,df,df,df,df,df];rfl
 ·rw[cu _ (by omega),bW (p:=λa0=>FX a0 d.Am[i]) (λx=>x.I.toList==d.Am[i].I.toList) (λ_ _=>rfl) (by rw[uO];omega)];refine qr rfl (y4 (List.any_eq_false.2 λx hx=>?_) (ih _ C7));obtain⟨j,c,rfl⟩:=List.mem_iff_getElem.1 hx;rw[uO]at c;rw[wq,beq_eq_false_iff_ne.2 (List.pairwise_iff_getElem.1 h.questions.ne j i (by omega) b (by omega))];decide
theorem qv:∀(n d:Nat){c:Ad},RC s n c->n<d->D5 d c=some c
 | n,d+1,c,h,hd=>by
   obtain⟨g,e⟩:=h.kids;show GK d (D5 d) c=some c;refine Ok.val ?_;unfold GK;refine ya c.H.length (λk q=>q=c.H.take k) rfl (λrec b a=>Ok.f ?_) (λrec k b hk a ih=>Ok.t ?_) (by omega)
   ·rw[a,uS];exact y3 (by cases c;rfl)
   ·obtain⟨m,i,f⟩:=e _ (ud hk);refine y5 hk (qr (qv m d f (by omega)) (Ok.rm ?_ (ih _ _ C7 ?_)))
    ·rw[a,uO];simp;omega
    ·rw[a,ui hk]
def pT(q:Ap):Az:={ I:=q.I,Bc:=true,Aq:=qe q }
theorem dI(p:DS s){d:Ar}(h:DR s d):EP DD s d=some (d.Am.map pT,0):=by
 have u:=h.questions.len;refine Ok.val ?_;unfold EP;refine qr (qU p h) (y4 rfl (ya d.Am.length (λk q=>q=(d.Am.take k).map pT) rfl (λrec b g=>Ok.f (y3 (by rw[g,uS]))) λrec k b hk g ih=>Ok.t (y5 hk ?_)));have j:=(h.question p (ud hk)).1;have t:b.length<=3:=by rw[g,ua,uO];omega
 have r:∀{c:Ad},GC s c->D5 DD c=some c:=λ⟨n,f,l,_⟩=>qv n DD f (by show n<60;omega)
 have m:D5 DD d.Am[k].U=some d.Am[k].U:=by
  rcases j.parts with⟨_,_,_,_,e⟩|⟨_,_,_,_,e⟩|⟨_,_,_,_,e⟩
  ·rw[e];rfl
  ·rw[e];rfl
  ·exact r e
 have a:∀{x:Az},pT d.Am[k]=x->b++[x]=(d.Am.take (k+1)).map pT:=λhx=>by rw[g,ui hk,uI,List.map_singleton,hx]
 refine qr m (qr (r j.filter) ?_);rcases j.parts with⟨e,f,l,o,i⟩|⟨e,f,l,o,i⟩|⟨e,f,l,o,i⟩
 ·refine y7 (by rw[e];rfl) (qr (x:=d.Am[k].V) (Ok.val (Ok.rm (by have:=f.len;omega) (y3 rfl))) (Ok.rm (by simp;omega) (ih _ _ C7 (a ?_))));unfold pT qe;rw[e,i];rfl
 ·refine y4 (by rw[e];rfl) (y7 (by rw[e];rfl) (qr (X2 (by have:=o.len;omega)) (Ok.rm (by simp;omega) (ih _ _ C7 (a ?_)))));unfold pT qe;rw[e,i];rfl
 ·refine y4 (by rw[e];rfl) (y4 (by rw[e];rfl) (Ok.rm (by simp;omega) (ih _ _ C7 (a ?_))));unfold pT qe;rw[e];rfl
theorem DR.qp(b:DS s){d:Ar}(h:DR s d):QP s (d.Am.map pT):=by
 refine⟨by rw[ua];exact h.questions.len,λx hx=>?_,λx hx=>?_,List.pairwise_map.2 h.questions.ne⟩
 ·obtain⟨q,a,rfl⟩:=List.mem_map.1 hx;exact(h.question b a).1.et
 ·obtain⟨q,a,rfl⟩:=List.mem_map.1 hx;exact h.name a
theorem l9(b:DS s){d:Ar}(h:DR s d):∀q∈d.Am,PQ s q (EO s):=λq f=>by
 have f:=(h.question b f).1;have r:=b.cols_length
 have j:∀{i:Nat}{l:Int},1<=i->i<s.A.length->l<=fin s i->one (EO s) i l:=λ{i l} m o hl=>by
  have t:=Jl (s:=s);refine .inr ⟨(EO s)[i-1]'(by omega),ud _,?_⟩;rw[FS];exact⟨by show((i-1+1:Nat):Int)=i;omega,by show l<=fin s (i-1+1);rw[show i-1+1=i by omega];exact hl⟩
 have u:∀{c:Ad},GC s c->∀a∈Lm DD c,one (EO s) a.B (S8 s a):=λ⟨n,w,_⟩ a x=>by
  obtain⟨i,S,g⟩:=Xu b n DD w a x;rw[g.col];exact j g.i0 g.i1 (g.least b).2.1
 refine⟨⟨u f.filter,λe=>u ?_⟩,λp hp=>?_,λk v hk y=>j v hk (WZ b v hk (f.used hk y)).2.2.2.1⟩
 ·rcases f.parts with⟨z,_⟩|⟨z,_⟩|⟨_,_,_,_,h⟩
  ·omega
  ·omega
  ·exact h
 ·obtain⟨⟨i,r,m,o,A⟩,⟨B,_,_,C,D,E⟩⟩:=f.dims.2 p hp;obtain rfl:i=B:=by omega
  rw[r];exact j m o (by have:=(WY b m o A D E).2.2.2.1;omega)
theorem oF(c:DS s):(∀p∈EO s,MC s p)/\(EO s).Pairwise λa b=>a.B<b.B:=by
 have h:=c.cols_length;have d:=Jl (s:=s);constructor
 ·intro p hp;obtain⟨k,hk,rfl⟩:=List.mem_iff_getElem.1 hp;rw[FS hk];have j:=c.fin_ok (i:=k+1) (by omega) (by omega);exact⟨k+1,by omega,by omega,rfl,by show 0<=fin s (k+1);omega,uU _⟩
 ·rw[List.pairwise_iff_getElem];intro a b e f g;rw[FS e,FS f];show((a+1:Nat):Int)<((b+1:Nat):Int);omega
theorem lF:O4 DD=some true:=by decide +kernel
theorem fX{l:List Ac}(b:l.length<=1000):FN l l=some true:=by
 refine Ok.val ?_;unfold FN;exact y4 (by simp) (yc l.length (λrec=>Ok.f (y3 rfl)) λrec i a ih=>Ok.t (y5 a (y5 a (y4 (by simp) (ih _ C7)))))
theorem pL{l:List AF}(c:l.length<=3)(h:∀b∈l,VB b.At):Ob l l=some true:=by
 refine Ok.val ?_;unfold Ob;exact y4 (by simp) (yc l.length (λrec=>Ok.f (y3 rfl)) λrec i a ih=>Ok.t (y5 a (y5 a (y4 (by simp) (y5 a (y5 a (y4 (by simp) (y5 a (y5 a (qr (gN (h _ (ud a))) (y4 rfl (ih _ C7))))))))))))
theorem jU(a:List Int)(h:∀v∈a,0<=v/\v<=255)(A:a.length<=9223372036854775807):Gk DD a=some true:=by
 refine Ok.val ?_;unfold Gk;refine(rx a h A).bind λc B=>(kK B (n:=9) (by decide)).bind λw ⟨C,f⟩=>(Un C f.schema).bind λd ⟨d1,d2⟩=>?_;have b:=f.schema;refine(r9 b d2).bind λm ⟨D,p2⟩=>qr (qL b) ((kB d1).bind λk ⟨_,F,H⟩=>?_);obtain⟨T,t1,t2,t3,t4⟩:=ju f (by decide) d2 F H;obtain⟨g,i⟩:=oF b;have L:=eR b g i;have o:=t4 _ p2.pok p2.asc p2.self;have p:=t4 _ g i (l9 b d2);rw[f.version]at o p;have u:TX w.1.Aw T { Ae:=d.1.Ae,Ag:=0,E:=m.1,G:=T.map (Rv w.1.Aw m.1) }:=⟨oa b t1 t2 (by omega) d2.project p2.pok p2.asc,rfl,t1⟩;have I:TX w.1.Aw T { Ae:=d.1.Ae,Ag:=0,E:=EO w.1.Aw,G:=T.map (Rv w.1.Aw (EO w.1.Aw)) }:=⟨oa b t1 t2 (by omega) d2.project g i,rfl,t1⟩
 have x:∀picks,(∀q∈d.1.Am,PQ w.1.Aw q picks)->∀t∈d.1.Am.map pT,EC w.1.Aw t.Aq picks:=λpicks hp t J=>by
  obtain⟨q,y,rfl⟩:=List.mem_map.1 J;exact(d2.question b y).1.ec (hp q y)
 have z:=x _ p2.self;have K:=x _ (l9 b d2);refine qr o (qr p (qr (dI b d2) (y4 (by rw[D];rfl) (qr (fX (by show(EO _).length<=1000;omega)) (y4 rfl ?_)))));unfold EG;obtain⟨r,hr,j,l⟩:=k9 b u (d2.qp b) z;have e:=hr;rw[pK b u I (d2.qp b) z K]at e;exact qr hr (qr e (y7 (by simp) (qr (pL j l) (y7 rfl (qr lF (y3 rfl))))))
