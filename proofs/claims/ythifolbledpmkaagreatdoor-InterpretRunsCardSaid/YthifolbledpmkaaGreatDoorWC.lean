/- WC -/
import Derived.Test.YthifolbledpmkaaGreatDoorWA
import Derived.Test.YthifolbledpmkaaGreatDoorFD
import Derived.Test.YthifolbledpmkaaGreatDoorQA
import Derived.Deep.Draws
import Derived.Shelf.RegionOpenPlain
import Derived.Sort.WalkB12
import Derived.Test.YthifolbledpmkaaGreatDoorW0
open Option renaming some → θ, none → κ
open List renaming map → φ
open List renaming length → Ξ
set_option linter.all false
open Go.Proofs.Tryz
open Option renaming some → θ
namespace Go.Proofs.YthifolbledpmkaaGreatDoor.P
open Go Go.Deep Go.Abs Go.Proofs
set_option maxRecDepth 100000
set_option maxHeartbeats 4000000
instance fI:ja 30 (W1 ES):=⟨λf R h=>by
 refine Vp [1000000] Tryz.func30 (by kernel_rfl) ?_;unfold ES at h;refine E5 h (λ_=>vD.h _ _) λx8 h=>?_;refine E5 h (λ_=>Yba.h _ _) λd h=>?_
 conv=>whnf
 refine By h λy0 hy0 h=>?_;refine wN (C9 70 [(1,.ptr 1 1 0),(2,.ptr 2 1 0),(19,.sl 14 1),(20,.i (Ξ d:Int)),(21,.i 0)] [(1,.var [.i f.Kind,.i f.Number.K,.i f.Number.T,.l 2 Af x8,.i f.Table.Ah,.sl 14 1,.i f.Model.Ah,.l 1 D.z f.Model.A0,.l 2 De f.Model.A9,.i f.Model.A2.K,.i f.Model.A2.T,.i f.Model.A3.K,.i f.Model.A3.T,.i f.Model.Z,.i f.Model.Bf,.l 6 AO f.Curve,.l 2 C7 f.Hist,.i f.Box.Z,.i f.Box.Bo,.i f.Box.Bp,.i f.Box.Bq,.i f.Box.Br,.i f.Box.Bs,.l 1 D.z f.Lineage],1),(2,.var zAV,1),(14,.row 7 140 (φ A7 d),1)]) Unit (λ_=>C9 70 [(1,.ptr 1 1 0),(2,.ptr 2 1 0)] [(1,.var [.i f.Kind,.i f.Number.K,.i f.Number.T,.l 2 Af x8,.i f.Table.Ah,.sl 14 1,.i f.Model.Ah,.l 1 D.z f.Model.A0,.l 2 De f.Model.A9,.i f.Model.A2.K,.i f.Model.A2.T,.i f.Model.A3.K,.i f.Model.A3.T,.i f.Model.Z,.i f.Model.Bf,.l 6 AO f.Curve,.l 2 C7 f.Hist,.i f.Box.Z,.i f.Box.Bo,.i f.Box.Bp,.i f.Box.Bq,.i f.Box.Br,.i f.Box.Bs,.l 1 D.z f.Lineage],1),(2,.var zAV,1),(14,.row 7 140 (φ A7 y0),1)]) ?_ ?_ λ_=>?_
 ·exact CC
 ·intro X β a w m;obtain⟨tm,df⟩:=a;obtain⟨l0,rfl⟩:∃l:Γ Ψ,tm=l.toArray:=⟨tm.toList,zs⟩;have r:Ξ l0=70:=m.len;obtain rfl:df=[]:=m.df
  iterate 8 (replace r:=ax r;obtain⟨_,_,_,_,_,_,_,_,l0,rfl,r⟩:=r)
  iterate 6 (replace r:=FG r;obtain⟨_,l0,rfl,r⟩:=r)
  obtain rfl:=List.length_eq_zero_iff.1 r;clear r;refine ai λK k_=>?_;obtain⟨N,r⟩:=iN hy0;obtain rfl:=Zaf r;obtain⟨P,C⟩:=Bool.and_eq_true_iff.1 N;have P:=Zal P;have Q:Aside _:=C;obtain⟨t,v1,T1,e1,_,_,S⟩:=V4 m 1 rfl;obtain⟨sl,T,z⟩:=S 5 _ rfl;have z:sl=β 14:=z.2 rfl;obtain⟨_,r1,t1⟩:=V3 m 1 rfl rfl rfl;have r1:=e1.symm.trans r1;simp at r1;subst r1;have t19:=Aar m 19 rfl rfl rfl;have t20:=AP (eh m 20 rfl rfl);have t21:=AP (eh m 21 rfl rfl);have hbx:LZ β _ _ w 14 (.row 7 140 (φ A7 d)):=m.boxes 14;obtain⟨_,_,vals,p,hL⟩:=hbx;rw[Zac]at p;obtain⟨ga,gc,eu,hga,hvl⟩:=X8 p;have hM:=bT m 14 rfl;have n1:¬Ai (β 14)=θ t:=λh=>by have:=m.inj 1 14 t rfl rfl (by rw[e1];rfl) h;cases this
  have U:=World.block_lt_of_cell? _ _ T;have V:=CM.start m rfl p hL;rw[eu]at t19 z;subst t1;subst t19;subst t20;subst t21;subst z;have HS:Aside _:=m;have HM:Aside _:=hM;have HE:Aside _:=eu;clear m hM eu S e1 p hL N r hvl C
  go_wp2_with fail
  go_loopg [21] (Ξ d) (λg i wr=>∃k:Nat,k<=Ξ d/\g=Ξ d-k/\i=.int .i64 k/\Aside (CM w wr (β 14) (OS β X _) 140 7 (Ξ d) ((φ A7 d).flatMap D.cells)))
  case atStart=>exact⟨0,Zag _,rfl,rfl,V⟩
  case round=>
   clear V;obtain⟨k,hk,rfl,rfl,hA⟩:=hrel;have G:=hA.out;by_cases A:k<Ξ d
   ·have hkz:(k:Int)<(Ξ d:Int):=z0
    obtain⟨g,rfl,j⟩:=hga z0;have g1:wr.cell? ⟨t,5,κ⟩=θ (.slice (θ ⟨g,0,κ⟩) (Ξ d) gc):=by rw[Ft G.keep U n1];exact T
    obtain⟨a0,H,I,J,⟨f0,d0⟩,f1,f2,f3,f4,f5,⟨f6,d6⟩,fz⟩:=G.cell7 j A;have Y:Aside _:=G;have HD:Aside (_/\_):=⟨d0,d6⟩;have HFZ:Aside _:=fz;clear hA G d0 d6 fz;obtain⟨x,hx⟩:∃x,x=d[k]:=⟨_,rfl⟩;rw[<-hx]at f0 f1 f2 f3 f4 f5 f6 HD;have HX:Aside _:=hx;clear hx
    go_wp2_with fail
    obtain⟨W,L⟩:∃W,W=wr.alloc (.cells #[.slice a0 (Ξ x.X) H,.int .i64 x.Z,.int .i64 x.Bc,.int .i64 x.Be,.int .i64 x.A7,.int .i64 x.Ba,.slice I (Ξ x.G) J] 140):=⟨_,rfl⟩;rw[<-L];have s:RowKit.Below wr.heap.size wr W:=by rw[L];exact K5 _ _
    have hWs:W.heap.size=wr.heap.size+1:=by rw[L];simp
    have l1:t<wr.heap.size:=Zbc U Y.out.keep.size;have p1:∀u,RowKit.Below W.heap.size W u->u.cell? ⟨t,5,κ⟩=θ (.slice (θ ⟨g,0,κ⟩) (Ξ d) gc):=λu n=>by rw[IY n z0,IY s l1];exact g1
    have p2:∀u,RowKit.Below W.heap.size W u->u.cell? ⟨wr.heap.size,0,κ⟩=θ (.slice a0 (Ξ x.X) H):=λu n=>by rw[IY n z0,L];exact World.cell?_alloc_at _ _ _ _ rfl
    have p3:∀u,RowKit.Below W.heap.size W u->u.cell? ⟨wr.heap.size,6,κ⟩=θ (.slice I (Ξ x.G) J):=λu n=>by rw[IY n z0,L];exact World.cell?_alloc_at _ _ _ _ rfl
    have hb0:RowKit.Below W.heap.size W W:=⟨rfl,rfl,rfl,Zam _,λ_ _=>rfl⟩;have hb1:RowKit.Below W.heap.size W W.drew:=⟨rfl,rfl,rfl,Zam _,λ_ _=>rfl⟩
    have E:A0 x.X=θ x.X/\A0 x.G=θ x.G:=by
     have:=List.all_eq_true.1 Q.out x (by rw[HX.out];exact Zae A);obtain⟨h1,h2⟩:=Bool.and_eq_true_iff.1 this;unfold A0;rw[h1,h2];exact⟨rfl,rfl⟩
    have cl:∀(l:Γ Int)(a:Δ Addr)(c:Nat),A0 l=θ l->A5 (OS β X _) wr (.slice a (Ξ l) c) (Aq 1 D.z l)->∀u,RowKit.Below W.heap.size W u->Calls Tryz.prog 58 #[.slice a (Ξ l) c] u λe u'=>∃a' c',e=.returned (.slice a' (Ξ l) c')/\RowKit.Below W.heap.size W u'/\RowKit.Below u.heap.size u u'/\A5 (OS β X _) u' (.slice a' (Ξ l) c') (Aq 1 D.z l):=λl a c hl hd u n=>by
     have hk:=((Y.out.keepS s).keepS n);refine(Zm (AM l l hl) HS.out HM.out hk.keep #[.slice a (Ξ l) c] rfl λi v y M hy=>?_).mono λe u' ⟨v,he,hb,hr⟩=>?_
     ·match i,M,hy with
      | 0,M,hy=>simp at M hy;subst M;subst hy;exact(hd.mono (Cg.world s)).mono (Cg.world n)
      | i+1,M,hy=>simp at M
     ·have Z:=xy hr λb hb=>Zbc (hk.old b hb) hk.keep.size;obtain⟨a',c',_,_,rfl,_⟩:=JF Z;exact⟨a',c',he,kQ n hb,hb,Z⟩
    have E5:=cl x.X a0 H E.1 HD.out.1;have cB:=cl x.G I J E.2 HD.out.2;have B:=Y.out.keepS s
    have p4:∀u,RowKit.Below W.heap.size W u->u.cell? ⟨g,k*7,κ⟩=θ (Wd u ⟨g,k*7,κ⟩)/\u.frozen? ⟨g,k*7,κ⟩=false/\u.cell? ⟨g,k*7+6,κ⟩=θ (Wd u ⟨g,k*7+6,κ⟩)/\u.frozen? ⟨g,k*7+6,κ⟩=false:=λu n=>by
     obtain⟨_,h1,_,_,_,_,h2⟩:=(B.keepS n).at_ j (c:=k*7) z0;obtain⟨_,h3,_,_,_,_,h4⟩:=(B.keepS n).at_ j (c:=k*7+6) z0;exact⟨f7 (by rw[h1];rfl),h2,f7 (by rw[h3];rfl),h4⟩
    have hgw:=(Y.out.lt g j).1;have hgz:=Y.out.keep.size;have ne1:t≠g:=λe=>n1 (by rw[e];exact j);have ne2:wr.heap.size≠g:=z0
    have HCW:Aside _:=B
    have hkp:∀(u:Λ)(o:Nat)(v:Ψ),(u.cell? ⟨t,5,κ⟩=θ (.slice (θ ⟨g,0,κ⟩) (Ξ d) gc)/\u.cell? ⟨wr.heap.size,0,κ⟩=θ (.slice a0 (Ξ x.X) H)/\u.cell? ⟨wr.heap.size,6,κ⟩=θ (.slice I (Ξ x.G) J) /\
     u.cell? ⟨g,k*7,κ⟩=θ (Wd u ⟨g,k*7,κ⟩)/\u.frozen? ⟨g,k*7,κ⟩=false/\u.cell? ⟨g,k*7+6,κ⟩=θ (Wd u ⟨g,k*7+6,κ⟩)/\u.frozen? ⟨g,k*7+6,κ⟩=false)->(u.setCell ⟨g,o,κ⟩ v).cell? ⟨t,5,κ⟩=θ (.slice (θ ⟨g,0,κ⟩) (Ξ d) gc)/\(u.setCell ⟨g,o,κ⟩ v).cell? ⟨wr.heap.size,0,κ⟩=θ (.slice a0 (Ξ x.X) H)/\(u.setCell ⟨g,o,κ⟩ v).cell? ⟨wr.heap.size,6,κ⟩=θ (.slice I (Ξ x.G) J) /\
     (u.setCell ⟨g,o,κ⟩ v).cell? ⟨g,k*7,κ⟩=θ (Wd (u.setCell ⟨g,o,κ⟩ v) ⟨g,k*7,κ⟩)/\(u.setCell ⟨g,o,κ⟩ v).frozen? ⟨g,k*7,κ⟩=false/\(u.setCell ⟨g,o,κ⟩ v).cell? ⟨g,k*7+6,κ⟩=θ (Wd (u.setCell ⟨g,o,κ⟩ v) ⟨g,k*7+6,κ⟩)/\(u.setCell ⟨g,o,κ⟩ v).frozen? ⟨g,k*7+6,κ⟩=false:=λu o v ⟨h1,h2,h3,h4,h5,h6,h7⟩=>
     ⟨by rw[World.cell?_setCell_other _ _ _ _ λq=>ne1 (congrArg Addr.block q).symm];exact h1,by rw[World.cell?_setCell_other _ _ _ _ λq=>ne2 (congrArg Addr.block q).symm];exact h2,by rw[World.cell?_setCell_other _ _ _ _ λq=>ne2 (congrArg Addr.block q).symm];exact h3,jt h4,by simpa using h5,jt h6,by simpa using h7⟩
    have HKP:Aside _:=hkp;clear hkp cl E B L f0 f1 f2 f3 f4 f5 f6 g1 s
    go_region_held3 (λu=>u.cell? ⟨t,5,κ⟩=θ (.slice (θ ⟨g,0,κ⟩) (Ξ d) gc)/\u.cell? ⟨wr.heap.size,0,κ⟩=θ (.slice a0 (Ξ x.X) H)/\u.cell? ⟨wr.heap.size,6,κ⟩=θ (.slice I (Ξ x.G) J) /\
     u.cell? ⟨g,k*7,κ⟩=θ (Wd u ⟨g,k*7,κ⟩)/\u.frozen? ⟨g,k*7,κ⟩=false/\u.cell? ⟨g,k*7+6,κ⟩=θ (Wd u ⟨g,k*7+6,κ⟩)/\u.frozen? ⟨g,k*7+6,κ⟩=false)
     (first|exact⟨p1 _ (by assumption),p2 _ (by assumption),p3 _ (by assumption),p4 _ (by assumption)⟩|exact HKP.out _ _ _ (by assumption))
     (first
      | (go_at_call 58;refine(E5 _ (by assumption)).mono ?_;rintro e u ⟨a7,c7,rfl,n,hu2,hd7⟩)
      | (go_at_call 58;refine(cB _ (by assumption)).mono ?_;rintro e u ⟨a8,c8,rfl,n,hu2,hd8⟩))
    have F:=HCW.out.keepS n;have h7:=hd7.mono (Cg.world hu2);have S:=F.set j (c:=k*7) z0 h7 rfl;have c2:=S.set j (c:=k*7+6) z0 (F.kept j (k*7) (.slice a7 (Ξ x.X) c7) hd8) rfl;have e0:=nA A7 (λ_=>rfl) d k A 0 z0;have e6:=nA A7 (λ_=>rfl) d k A 6 z0;rw[oF (l:=(φ A7 d).flatMap D.cells) (i:=k*7) (by rw[HX.out];exact e0),oF (by rw[HX.out];exact e6)]at c2;have C2:Aside _:=c2;clear F h7 S c2 e0 e6 p1 p2 p3 p4
    go_wp2_with fail
    go_roundg (Ξ d-(k+1))
    case measure=>go_light;omega
    case rel=>go_light;exact⟨k+1,z0,rfl,by go_num,C2.out⟩
   ·have hkz:¬((k:Int)<(Ξ d:Int)):=z0
    have m:=HS.out
    go_wp2_with fail
    refine k_.out _ _ ⟨(),β,?_⟩
    exact m.exitRow [1,2] (q:=14) (ys:=φ A7 d) j0 (λ_=>rfl) (by simp[AV.guards]) rfl rfl zs G.keep (λy hy=>by obtain⟨_,_,rfl⟩:=List.mem_map.1 hy;rfl)
     (by
      obtain⟨vals,h1,h2⟩:=G.row;exact⟨vals,by rw[Zac];exact h1,λO hO=>h2.mono (Cg.of_sub hO)⟩)
 conv=>whnf
 refine z17 ?_;refine E5 h (λ_=>AM _ _) λx48 h=>?_;refine E5 h (λ_=>Fd.h _ _) λx52 h=>?_
 conv=>whnf
 refine z17 ?_;refine E5 h (λ_=>Yad.h _ _) λx59 h=>?_;refine E5 h (λ_=>Yaw.h _ _) λx62 h=>?_;refine E5 h (λ_=>AM _ _) λx65 h=>?_
 conv=>whnf
 refine⟨.inl ?_⟩
 conv=>whnf
 obtain rfl:=Zaf h;exact⟨qv⟩⟩
section
open Go.Abs Go.Proofs
instance{b c d}:LS (λa s=>E1 b c d a s) 30 [1,2,4] (λs=>[(5,.i s)]) [2,4] (λs=>[]):={}
instance YaK:ja 53 (W2 D7):=⟨λ_ _ _ h=>uH func53⟩
def Ob(a:A6)(e:Θ)(R:A4) (h:D7 a e=some R):Et prog 53 [ua a,.t e] [ua a,.any] (.d (Dg R)):=by
 refine oi func53 (by kernel_rfl) rfl ?_ ?_
 ·intro i x y hx hy
  match i,hx,hy with
  | 0,hx,hy=>cases Zaf hx;cases Zaf hy;exact⟨[_,_,_,_,_,_],_,_,_,_,rfl,rfl⟩
  | 1,hx,hy=>simp at hx hy;subst hx;subst hy;trivial
  | i+2,hx,hy=>simp at hx
 unfold D7 at h
 conv=>whnf
 refine ED h λj k h=>?_;refine loop {p:Nat×Int//j p.1 p.2=some R} (λp=>C9 30 [(1,.t e),(2,.ptr 2 1 0),(4,.ptr 4 1 0),(5,.i p.1.2)] [(0,.row 26 74 (φ A2 a.A5),0),(2,.var [.l 2 Ak a.N.Ak.S,.l 7 Aw a.N.Ak.A,.t a.N.U.Aq,.i a.N.U.As,.l 2 Af a.N.U.I,.l 1 (Aq 1 D.z) a.N.U.G,.sl 0 0],1),(4,.var zAV,1)]) (λp=>p.1.1) ⟨(_,_),h⟩ ?_ λp=>?_
 ·refine jS ?_
  conv=>whnf
  exact lfF
 obtain⟨⟨l,g⟩,h⟩:=p;obtain⟨l,rfl,h⟩:=k _ _ h;simp only[E1]at h
 conv=>whnf
 refine YX h GK (λh=>?_) (λh=>?_)
 ·conv=>whnf
  refine T4 (f:=A2) h GK λm b h=>?_
  conv=>whnf
  refine fk (f:=A2) b GK ?_
  conv=>whnf
  refine YX h GK (λh=>?_) (λh=>?_)
  ·conv=>whnf
   refine T4 (f:=A2) h GK λn c h=>?_
   conv=>whnf
   refine fk (f:=A2) c GK ?_
   conv=>whnf
   refine By h λo d h=>?_;refine BU (fI.h _ _ d) ?_
   conv=>whnf
   exact z34
  conv=>whnf
  refine⟨⟨(_,_),h⟩,?_,Zds _⟩;refine jS ?_
  conv=>whnf
  exact lfF
 conv=>whnf
 try simp only[I7]at h
 exact z34
def ZQ(d:Nat)(a:Ae->(Ae->Δ Int)->Δ Int)(ih:∀(l:Ae)(m:Ae->Δ Int)(b:FuncId)(c:Γ D)(R:Int)(h_p1:∀(a0:Ae) r,m a0=some r->A9 prog b ([.d (Cc a0)]++c.map .d) (.i r)),a l m=some R->A9 prog 298 [.d (Cc l),.d (.fn b c)] (.i R))(l:Ae)(m:Ae->Δ Int)(b:FuncId)(c:Γ D)(R:Int)(h_p1:∀(a0:Ae) r,m a0=some r->A9 prog b ([.d (Cc a0)]++c.map .d) (.i r))(h:Ce d a l m=some R):A9 prog 298 [.d (Cc l),.d (.fn b c)] (.i R):=by
 refine zaC func298 ?_;unfold Ce at h;refine uJ h λh=>?_
 refine Dn h (λh=>?_) λh=>?_
 ·conv=>whnf
  refine z17 ?_;refine Ry (f:=A8) h λn _ h=>?_;rw[AN n]
  conv=>whnf
  refine By h λt e h=>?_
  first|refine BU (ih _ _ _ _ _ h_p1 e) ?_|(simp only[Zac];refine BU (ih _ _ _ _ _ h_p1 e) ?_)
  refine Ry (f:=A8) h λo _ h=>?_;rw[AN o]
  conv=>whnf
  refine By h λu g h=>?_
  first|refine BU (ih _ _ _ _ _ h_p1 g) ?_|(simp only[Zac];refine BU (ih _ _ _ _ _ h_p1 g) ?_)
  exact Ah
 refine Dn h (λh=>?_) λh=>?_
 ·conv=>whnf
  refine z17 ?_;refine Ry (f:=A8) h λp _ h=>?_;rw[AN p]
  conv=>whnf
  refine By h λv i h=>?_
  first|refine BU (ih _ _ _ _ _ h_p1 i) ?_|(simp only[Zac];refine BU (ih _ _ _ _ _ h_p1 i) ?_)
  refine Ry (f:=A8) h λq _ h=>?_;rw[AN q]
  conv=>whnf
  refine By h λw j h=>?_
  first|refine BU (ih _ _ _ _ _ h_p1 j) ?_|(simp only[Zac];refine BU (ih _ _ _ _ _ h_p1 j) ?_)
  exact Ah
 refine Dn h (λh=>?_) λh=>?_
 ·refine Ry (f:=A8) h λs _ h=>?_;rw[AN s]
  conv=>whnf
  refine By h λx k h=>?_
  first|refine BU (ih _ _ _ _ _ h_p1 k) ?_|(simp only[Zac];refine BU (ih _ _ _ _ _ h_p1 k) ?_)
  exact Ah
 exact Ah
theorem TL:∀d:Nat,(∀(c:Ae)(e:Ae->Δ Int)(a:FuncId)(b:Γ D)(R:Int)(h_p1:∀(a0:Ae) r,e a0=some r->A9 prog a ([.d (Cc a0)]++b.map .d) (.i r)),B8 d c e=some R->A9 prog 298 [.d (Cc c),.d (.fn a b)] (.i R))
 | 0=>by exact z20
 | d+1=>ZQ d _ (TL d)
instance:CS prog 298 (∀(d:Nat),∀(c:Ae)(e:Ae->Δ Int)(a:FuncId)(b:Γ D)(R:Int)(h_p1:∀(a0:Ae) r,e a0=some r->A9 prog a ([.d (Cc a0)]++b.map .d) (.i r)),B8 d c e=some R->A9 prog 298 [.d (Cc c),.d (.fn a b)] (.i R)):=⟨TL⟩
instance:CS prog 299 (∀(b:Ae)(a:Aa)(c:Γ Int)(R:Int)(h:Dh b a c=some R),A9 prog 299 [.d (Cc b),.d (.ptr [(Aq 2 Ak a.S),(Aq 7 Aw a.A)]),.d (.ptr [(Aq 1 D.z c)])] (.i R)):=⟨λ_ _ _ _ h=>uH func299⟩
instance:jb 199 W3 J6:=⟨λ_ _ _ _ _ h=>uH func199⟩
instance{b c}:LS (λa s=>Ht b c a s.1 s.2) 66 [2,3,4,5,9] (λs=>[(10,.i s.1)]) [4,5] (λs=>[(18,.row 1 3 (φ D.z s.2),1)]):={}
instance{b c d e}:LS (λa s=>Hu b c d e a s.1 s.2) 66 [3,4,5,9,34,35] (λs=>[(36,.i s.1)]) [4,5] (λs=>[(18,.row 1 3 (φ D.z s.2),1)]):={}
instance:jb 118 W4 GG:=⟨λd b c p2 p3 R h=>by
 refine TC [6] func118 ?_;unfold GG at h
 conv=>whnf
 refine SU h λhr h=>?_;refine z14 ?_
 try rw[xO]
 refine Dd {p:(Γ Int)//Kn p2 p3 b d c p=some R} (λp=>C9 66 [(2,.l 2 Af p2),(3,.l 1 D.z p3),(4,.ptr 4 1 0),(5,.ptr 5 1 0),(9,.sl 18 1)] [(4,AI b,1),(5,LW c,1),(18,.row 1 3 (φ D.z p.1),1)]) ?_ λp=>?_
 ·exact Ah
 obtain⟨a,h⟩:=p;exact Ah⟩
instance K6:CS prog 54 (∀(d:Nat)(b:Aa)(a:Ad)(p2:Ae)(R:Γ Int)(h:Dt d b a p2=some R),A9 prog 54 [.d (Cr b),.d (Cm a),.d (Cc p2)] (.own 1 3 (φ D.z R))):=⟨λd b a p2 R h=>by
 refine TC [3] func54 ?_;unfold Dt at h;refine Dd {p:Unit//Iw a d b p2=some R} (λp=>C9 45 [(3,.ptr 3 1 0),(4,.ptr 4 1 0),(5,.ptr 5 1 0)] [(3,AI b,1),(4,Du a,1),(5,LW p2,1)]) ?_ λp=>?_
 ·conv=>whnf
  refine z17 ?_;refine E5 h (λ_=>YaI.h _ _ _ _) λf h=>?_;refine Dn h (λh=>?_) λh=>?_
  ·obtain rfl:=Zaf h;refine⟨.inr ?_⟩
   conv=>whnf
   refine z13 ?_;exact Ah
  refine E5 h (λ_=>hU.h _ _ _ _) λg h=>?_;refine E5 h (λ_=>vz.h _ _ _) λi h=>?_;refine Dn h (λh=>?_) λh=>?_
  ·conv=>whnf
   obtain rfl:=Zaf h;refine⟨.inr ?_⟩
   conv=>whnf
   refine z13 ?_;exact Ah
  exact Ah
 obtain⟨_,h⟩:=p;simp only[Iw]at h
 conv=>whnf
 refine z11 h (λp=>C9 45 [(3,.ptr 3 1 0),(4,.ptr 4 1 0),(5,.ptr 5 1 0),(7,.sl 7 1),(24,.l 1 (Aq 1 D.z) a.G),(25,.i (Ξ a.G:Int)),(26,.i p.1)] [(3,AI b,1),(4,Du a,1),(5,LW p2,1),(7,.row 1 3 (φ D.z p.2),1)]) Bu λ_ _ ⟨c,e⟩ h=>?_;simp only[Iv]at h;refine uJ h λh=>?_
 conv=>whnf
 obtain rfl:=Zaf h;refine⟨.inr ?_⟩
 conv=>whnf
 refine z13 ?_;exact Ah⟩
instance{b c d}:LS (λa s=>LO b c d a s.1 s.2) 26 [2,5,8,9] (λs=>[(10,.i s.1)]) [2] (λs=>[(5,.row 1 3 (φ D.z s.2),1)]):={}
instance YaW:ja 55 (W2 Db):=⟨λ_ _ _ h=>uH func55⟩
instance{b c d}:LS (λa s=>JS b c d a s) 19 [0,1,7] (λs=>[(8,.i s)]) [] (λs=>[]):={}
instance YaS:CS prog 300 (∀(c:Γ Int)(d:Int->Δ Ω)(a:FuncId)(b:Γ D)(R:Int)(h_p1:∀(a0:Int) r,d a0=some r->A9 prog a ([.i a0]++b.map .d) (.b r))(h:DX c d=some R),A9 prog 300 [.l 1 D.z c,.d (.fn a b)] (.i R)):=⟨λ_ _ _ _ _ h_p1 h=>uH func300⟩
instance x6:CS prog 202 (∀(c:Γ Int)(d:Int->Δ Ω)(a:FuncId)(b:Γ D)(R:Ω)(h_p1:∀(a0:Int) r,d a0=some r->A9 prog a ([.i a0]++b.map .d) (.b r))(h:AR c d=some R),A9 prog 202 [.l 1 D.z c,.d (.fn a b)] (.b R)):=⟨λc d a b R h_p1 h=>by
 refine zaC func202 ?_;unfold AR at h;refine E5 h (λ_=>YaS.h _ _ _ _ _ h_p1) λe h=>?_;exact Ah⟩
end
section
open Go Go.Abs Go.Proofs Go.Lib Go.Sort Go.RowKit Go.Shelf
set_option maxRecDepth 1000000
def di(v b:Ψ)(w:Λ)(Q:Λ->Prop)(c:Calls prog 300 #[v,b] w λe w'=>e=.returned (.int .i64 (-1))/\Q w'):
 Calls prog 200 #[v,b] w λe w'=>e=.returned v/\Q w':=by
 have d:∀args w,(callFunc 300 args).run prog w=.ok (.enter 300 args) w:=λargs w=>Pe (by kernel_rfl) args
 go_enter func200,ntmps200
 go_wp2_with (go_at_call 300;refine c.mono ?_;rintro e w' ⟨rfl,a⟩)
 go_ret
 exact⟨rfl,a⟩
theorem mX(a:Γ Int)(q:Int->Ω)(g cap:Nat)(w:Λ)(f:FuncId)(lb:Array Ψ)(y:Ξ a<=cap)(U:Ξ a<=1000000000000)(T:Υ)
 (M:DW w g cap (Ξ a) T w a.toArray)
 (eg:∀args w,(callFunc f args).run prog w=.ok (.enter f args) w)
 (B:∀w',DW w g cap (Ξ a) T w' a.toArray->Calls prog 300 #[.slice (θ ⟨g,0,none⟩) (Ξ a) cap,.func (.func f) #[] lb] w' λe c=>e=.returned (.int .i64 (Gb q a))/\DW w g cap (Ξ a) T c a.toArray)
 (V:∀w' d u,u∈a->DW w g cap (Ξ a) T w' d->Calls prog f (#[.int .i64 u]++lb) w' λe c=>e=.returned (.bool (q u))/\DW w g cap (Ξ a) T c d):
 Calls prog 200 #[.slice (θ ⟨g,0,none⟩) (Ξ a) cap,.func (.func f) #[] lb] w λe w'=>e=.returned (.slice (θ ⟨g,0,none⟩) (Ξ (a.filter λx=>!q x)) cap)/\∃d,DW w g cap (Ξ a) T w' d/\d.toList.take (Ξ (a.filter λx=>!q x))=a.filter λx=>!q x:=by
 have eI:∀args w,(callFunc 300 args).run prog w=.ok (.enter 300 args) w:=λargs w=>Pe (by kernel_rfl) args;have tl:∀j,j<a.toArray.size->a.toArray[j]! = a[j]!:=λj z=>by simp
 obtain⟨r,E⟩:∃r:Nat->Ω,Hid (r=λj=>!q a.toArray[j]!):=⟨_,rfl⟩
 have l:(a.filter λx=>!q x)=keptUpTo r a.toArray (Ξ a):=by
  rw[E.out];have:=(keptUpTo_filter (λx=>!q x) a.toArray).symm
  simpa using this
 have v:=B w M;rw[l];have HF:Aside _:=l;clear l
 cases hfi:a.findIdx? q with
 | none=>
   have J:Gb q a=-1:=by unfold Gb;rw[hfi]
   rw[J]at v;have N:=List.findIdx?_eq_none_iff.1 hfi;have h:(a.filter λx=>!q x)=a:=List.filter_eq_self.2 λx hx=>by rw[N x hx];rfl
   rw[<-HF.out,h];exact(di _ _ w _ v).mono λe w' ⟨he,m⟩=>⟨he,a.toArray,m,zs⟩
 | some s=>
   obtain⟨O,K,A⟩:=List.findIdx?_eq_some_iff_getElem.1 hfi;have J:Gb q a=(s:Int):=by unfold Gb;rw[hfi]
   rw[J]at v;have L:∀j (z:j<Ξ a),a.toArray[j]! = a[j]:=λj z=>by simp[getElem!_pos,z]
   have h:∀j,j<s->r j=true:=λj z=>by
    rw[E.out];show(!q a.toArray[j]!)=true;rw[L j z0]
    simpa using A j z
   have o:r s=false:=by
    rw[E.out];show(!q a.toArray[s]!)=false;rw[L s O,K];rfl
   have W:((s:Int)==-1)=false:=beq_eq_false_iff_ne.2 z0;have P:Aside (KeptInv r a.toArray (s+1) s a.toArray):=KeptInv.start h o
   have F:∀w' d j,j<Ξ a->DW w g cap (Ξ a) T w' d->Calls prog f (#[.int .i64 a.toArray[j]!]++lb) w' λe c=>e=.returned (.bool (q a.toArray[j]!))/\DW w g cap (Ξ a) T c d:=λw' d j z hd=>by
    rw[L j z];exact V w' d _ (Zae z) hd
   have HC:Aside _:=F;have H0:Aside _:=M;have p:Aside _:=y;clear h o hfi J A K tl V F M B L y;generalize X:Ξ a=n at *;have Y:Aside _:=X;clear X
   go_enter func200,ntmps200
   go_wp2_with (go_at_call 300;refine v.mono ?_;rintro e w1 ⟨rfl,Q⟩)
   go_loopg [5,6,7] n (λgg s5 s6 _ wr=>∃(i j:Nat)(d:Array Int),s5=.int .i64 i/\s6=.int .i64 j/\j<=n/\n-j<=gg/\Aside (DW w g cap n T wr d)/\Aside (KeptInv r a.toArray j i d))
   case atStart=>exact⟨s,s+1,a.toArray,rfl,by go_num,z0,z0,Q,P⟩
   case round=>
    obtain⟨i,j,d,rfl,rfl,hjd,hgg,W2,G⟩:=hrel;have B:=G.out;have hij:=B.lt;have k:=W2.out.holds;have R:=W2.out.size;by_cases H:j<n
    ·have I:(j:Int)<(n:Int):=z0
     obtain⟨S,_⟩:=k j z0;obtain⟨Z,fi⟩:=k i z0;rw[B.high j z0]at S
     have b:=(HC.out wr d j H W2.out).mono (R':=λe c=>e=.returned (.bool (q a.toArray[j]!))/\DW w g cap n T c d/\c.cell? ⟨g,i,none⟩=θ (.int .i64 d[i]!)/\c.frozen? ⟨g,i,none⟩=false) λe c ⟨he,hd⟩=>by
      obtain⟨c1,c2⟩:=hd.holds i (by rw[R];omega);rw[Zbn]at c1 c2;exact⟨he,hd,c1,c2⟩
     rw[Zbn]at S;clear k B Z fi;generalize hu:a.toArray[j]! = u at S b;generalize d[i]! = old at b;have C:Aside (a.toArray[j]! = u):=hu;clear hu
     cases hq:q u with
     | false=>
       rw[hq]at b
       go_wp2_with (go_at_fn f;refine b.mono ?_;rintro e w' ⟨rfl,m,Z,fi⟩)
       go_roundg (n-(j+1))
       case measure=>omega
       case rel=>
        refine⟨i+1,j+1,d.setIfInBounds i u,by go_num,by go_num,z0,Zam _,m.store z0 p.out u,?_⟩;have:=G.out.keep (by rw[Zdt,Y.out];exact H) (by rw[E.out];show(!q a.toArray[j]!)=true;rw[C.out,hq];rfl)
        rwa [C.out]at this
     | true=>
       rw[hq]at b
       go_wp2_with (go_at_fn f;refine b.mono ?_;rintro e w' ⟨rfl,m,_,_⟩)
       go_roundg (n-(j+1))
       case measure=>omega
       case rel=>exact⟨i,j+1,d,rfl,by go_num,z0,Zam _,m,G.out.skip (by rw[E.out];show(!q a.toArray[j]!)=false;rw[C.out,hq];rfl)⟩
    ·obtain rfl:j=n:=z0
     have I:¬(j:Int)<(j:Int):=z0
     have hcl:∀ty,(Builtin.clear_ #[35] ty #[.slice (θ ⟨g,i,none⟩) (j-i) (cap-i)]).run prog wr=.ok (.tuple #[]) (wr.setCells g i (List.replicate (j-i) (.int .i64 0))):=
      λty=>Lib.run_clear_slice wr _ 3 ty (.int .i64 0) (by kernel_rfl) (λw=>by rfl) rfl rfl g i _ _ z0 (λt K=>by rw[show i+t=0+(i+t) by omega,(k (i+t) z0).1];rfl) (λt K=>by rw[show i+t=0+(i+t) by omega];exact(k (i+t) z0).2)
     have D:=p.out;clear k B
     go_wp2
     go_ret
     have hL:=G.out.len;have eD:a.toArray.size=j:=by rw[Zdt,Y.out]
     have hD:=KeptInv.done (show KeptInv r a.toArray a.toArray.size i d from by rw[eD];exact G.out) (0:Int);rw[eD]at hD;have hW:=DW.clear D (List.replicate (j-i) 0) i W2.out (by rw[Zdw];omega);rw[List.map_replicate]at hW;refine⟨by rw[hL];rfl,_,hW,?_⟩;rw[hD];show List.take (Ξ (keptUpTo r a.toArray j)) (keptUpTo r a.toArray j++_)=_;rw[Zfd]
def pT{α:Type}{l:Γ α}{p:α->Δ Ω}{q:α->Ω}(m:∀x∈l,p x=θ (q x))(o:Ξ l<=200000000000):
 iter (λb v=>bif(decide (v<(Ξ l:Int)))then(idx l v).bind λd=>(p d).bind λf=>bif f then θ v else b (IntKind.i64.wrap (v+1))else θ (-1)) Ay 0=θ (Gb q l):=by
 refine Ok.val (Wf (λs=>s) (Ξ l) (λi _=>∀k (a:k<Ξ l),k<i->q l[k]=false) 0 (Zag _) rfl (λ_ _ h=>z0) z0 (λrec s g c=>?_) λrec i s j g c ih=>?_)
 ·rw[g,Bl z0];refine KK ?_
  have:l.findIdx? q=none:=by
   rw[List.findIdx?_eq_none_iff];intro x hx;obtain⟨k,a,rfl⟩:=List.mem_iff_getElem.1 hx;exact c k a a
  simp[Gb,this]
 ·rw[g,AK z0];refine JT j (qr (m _ (Zae j)) (Ok.br (λh=>KK ?_) λh=>ih _ ?_ λk a n=>?_))
  ·have:l.findIdx? q=θ i:=by
    rw[List.findIdx?_eq_some_iff_getElem];exact⟨j,h,λk a=>by rw[c k z0 a];simp⟩
   simp[Gb,this]
  ·show IntKind.i64.wrap ((i:Int)+1)=_;rw[wr z0 z0];omega
  ·by_cases e:k=i
   ·subst e;exact h
   ·exact c k a z0
def FY(j:Γ Int)(N:Int->Δ Ω)(c:FuncId)(d:Γ D)(R:Γ Int)(h_p1:∀(a0:Int) r,N a0=θ r->A9 prog c ([.i a0]++d.map .d) (.b r))(hF:EN j N=θ R):Et prog 200 [.own 1 3 (φ D.z j),.d (.fn c d)] [.any,.any] (.own 1 3 (φ D.z R)):=by
 obtain⟨hr,hF⟩:=iN hF;obtain rfl:=Zaf hF;obtain⟨hr1,hr2⟩:=Bool.and_eq_true_iff.1 hr;have hbig:=Zal hr1;obtain⟨q,eq⟩:∃q:Int->Ω,q=λx=>(N x).getD false:=⟨_,rfl⟩
 have hq:∀x∈j,N x=θ (q x):=λx hx=>by
  obtain⟨b,p⟩:=Option.isSome_iff_exists.1 (List.all_eq_true.1 hr2 x hx);simp[eq,p]
 have W:(j.filter λx=>N x==θ false)=j.filter λx=>!q x:=Zgd λx hx=>by
  rw[hq x hx];cases q x<;>rfl
 rw[W];have X:DX j N=θ (Gb q j):=pT hq z0;have aI:=YaS.h j N c d (Gb q j) h_p1 X;refine⟨by kernel_rfl,rfl,λO w vs hO hG Y Z hinj G=>?_⟩
 obtain⟨v,m,rfl⟩:∃v m,vs=#[v,m]:=by
  obtain⟨l⟩:=vs
  match l,Y with
  | [v,m],_=>exact⟨v,m,rfl⟩
 obtain⟨_,_,vals,A,hL⟩:=G 0 v _ rfl rfl;rw[Nw]at hL;obtain rfl:=Yl hL;rw[Zac]at A;have K:A5 (λb=>O b\/Km #[v,m] [AV.own 1 3 (φ D.z j),.d (.fn c d)] b) w m (.fn c d):=G 1 m _ rfl rfl;have o:∀b,Ai v=θ b->Km #[v,m] [AV.own 1 3 (φ D.z j),.d (.fn c d)] b:=λb p=>⟨0,v,_,rfl,rfl,rfl,p⟩
 have hmut2:∀b,Km #[v,m] [AV.own 1 3 (φ D.z j),.d (.fn c d)] b->Ai v=θ b:=by
  rintro b ⟨i,u,x,h1,h2,t,h4⟩
  match i,h1,h2 with
  | 0,h1,h2=>simp at h1;subst h1;exact h4
  | 1,h1,h2=>simp at h2;subst h2;cases t
  | i+2,h1,h2=>simp at h1
 have hnot:∀b,¬Km #[v,m] [AV.any,.any] b:=by
  rintro b ⟨i,u,x,h1,h2,t,_⟩
  match i,h2 with
  | 0,h2=>simp at h2;subst h2;cases t
  | 1,h2=>simp at h2;subst h2;cases t
  | i+2,h2=>simp at h2
 have hG0:=hG
 have keep:∀{w':Λ},AC w.heap.size (λb=>Ai v=θ b) w w'->Cg (λb=>O b\/Km #[v,m] [AV.own 1 3 (φ D.z j),.d (.fn c d)] b) (λb=>O b\/Ai v=θ b) w w':=λp=>
  ⟨p.size,λb _ f=>f.imp id (o b),λb P f=>p.block b P λF=>f (.inr (o b F))⟩
 have H:∀{w':Λ},Cg (λb=>O b\/Ai v=θ b) O w' w':=λ{w'}=>Cg.of_sub λb p=>.inl p
 have fin:∀{w':Λ}{Q:Ending}{u:Ψ}{ys:Γ Int},Q=.returned u->(∀b,Ai u=θ b->Ai v=θ b)->AC w.heap.size (λb=>Ai v=θ b) w w'->BM w' 3 1 u (Ξ ys) (ys.map (Value.int .i64))->
  ∃u,Q=.returned u/\AC w.heap.size (Km #[v,m] [AV.own 1 3 (φ D.z j),.d (.fn c d)]) w w' /\
  Eu (λb=>w.heap.size<=b\/(Km #[v,m] [AV.own 1 3 (φ D.z j),.d (.fn c d)] b/\¬Km #[v,m] [.any,.any] b)) (λb=>O b\/Km #[v,m] [.any,.any] b) w' u (.own 1 3 (φ D.z ys)) /\
  ∀(i:Nat) u' x y,#[v,m][i]?=θ u'->[AV.own 1 3 (φ D.z j),.d (.fn c d)][i]?=θ x->[AV.any,.any][i]?=θ y->Wu (λb=>O b\/Km #[v,m] [.any,.any] b\/EZ u (.own 1 3 (φ D.z ys)) b) w' u' x y:=by
  intro w' Q u ys he hbl p hr;refine⟨u,he,p.weaken (Zam _) λk _ hk=>λF=>hk (o k F),⟨z0,λx hx=>?_,λb hb'=>.inr ⟨o b (hbl b hb'),hnot b⟩,_,by simpa using hr,by rw[Nw];exact Yf _ _ _⟩,λi u' x y h1 h2 t=>?_⟩
  ·obtain⟨n,_,rfl⟩:=List.mem_map.1 hx;rfl
  ·match i,t with
   | 0,t=>simp at t;subst t;trivial
   | 1,t=>simp at t;subst t;trivial
   | i+2,t=>simp at t
 have B:∀{w':Λ},AC w.heap.size (λb=>Ai v=θ b) w w'->BM w' 3 1 v (Ξ j) (j.map (Value.int .i64))->Calls prog 300 #[v,m] w' λe I=>e=.returned (.int .i64 (Gb q j))/\RowKit.Below w'.heap.size w' I:=by
  intro w' p hr;refine(aI.2 O w' #[v,m] (λb f=>Zbc (hO b f) p.size) (λg cs hg=>((hG0 g cs hg).mono (keep p)).mono H) rfl λi u x E hx=>?_).mono λe I h=>?_
  ·match i,E,hx with
   | 0,E,hx=>
     simp at E hx;subst E;subst hx;exact gZ (e:=3) (vals:=j.map (Value.int .i64)) z0 (λx hx=>by obtain⟨n,_,rfl⟩:=List.mem_map.1 hx;rfl) (by simpa using hr) (by rw[Nw];exact Yf _ _ _) (λb f hb3=>Z b (o b f) hb3)
   | 1,E,hx=>
     simp at E hx;subst E;subst hx;exact(K.mono (keep p)).mono H
   | i+2,E,hx=>simp at E
  ·obtain⟨u,he,f,E⟩:=h;obtain rfl:=AP E;exact⟨he,f⟩
 have S:j=[]->Calls prog 200 #[v,m] w λQ w'=>∃u,Q=.returned u/\AC w.heap.size (Km #[v,m] [AV.own 1 3 (φ D.z j),.d (.fn c d)]) w w' /\
  Eu (λb=>w.heap.size<=b\/(Km #[v,m] [AV.own 1 3 (φ D.z j),.d (.fn c d)] b/\¬Km #[v,m] [.any,.any] b)) (λb=>O b\/Km #[v,m] [.any,.any] b) w' u (.own 1 3 (φ D.z (j.filter λx=>!q x))) /\
  ∀(i:Nat) u' x y,#[v,m][i]?=θ u'->[AV.own 1 3 (φ D.z j),.d (.fn c d)][i]?=θ x->[AV.any,.any][i]?=θ y->Wu (λb=>O b\/Km #[v,m] [.any,.any] b\/EZ u (.own 1 3 (φ D.z (j.filter λx=>!q x))) b) w' u' x y:=by
  intro T;have hS:=B (AC.refl _ _ w) A;have e1:Gb q j=-1:=by rw[T];rfl
  rw[e1]at hS;refine(di v m w _ hS).mono λQ w' ⟨he,p⟩=>fin he (λ_ h=>h) (AC.of p) ?_;have F:j.filter (λx=>!q x)=j:=by rw[T];rfl
  rw[F];exact A.mono λb P _=>p.block b P
 by_cases T:j=[]
 ·exact S T
 rcases A with⟨hl,⟨F,h1⟩|⟨g,cap,cur,F,hbase,p,h1,h2,t,h4⟩⟩|⟨h1,_,a,F⟩
 ·exact absurd (Zau h1) T
 ·have hpos:=List.length_pos_iff.2 T;have L:cap≠0:=z0
  have C:Ai v=θ g:=by rw[F];simp[Ai,L]
  have hgO:¬O g:=λh=>Z g (o g C) h;have J:∀{wr:Λ}{dk:Array Int},DW w g cap (Ξ j) 3 wr dk->AC w.heap.size (λb=>Ai v=θ b) w wr:=λhd=>hd.below.weaken (Zam _) λk _ hk=>λe=>hk (by rw[e];exact C);have hD0:DW w g cap (Ξ j) 3 w j.toArray:=⟨AC.refl _ _ w,zs,cur,p,t,by simpa using h4⟩;obtain⟨x0,hx0⟩:∃x,x∈j:=⟨j[0],Zae hpos⟩;have U:Hq prog c=true:=(h_p1 x0 _ (hq x0 hx0)).1
  cases K with
  | fn _ lb _ hlb h1' V=>
    have M:=mX j q g cap w c lb h1 z0 3 hD0 (λargs w=>Pe U args) (λw' s=>?_) (λw' dk u E s=>?_)
    ·rw[<-F]at M;refine M.mono λQ w' ⟨he,dk,hd,htk⟩=>?_;refine fin he (λb f=>?_) (J hd) (hd.row ?_ htk h1 h2)
     ·rw[C];simp only[Ai,L,if_false]at f;exact f
     ·exact Zce _ _
    ·rw[<-F];have hr:=s.row (R:=j) (Zam _) zs h1 h2;rw[<-F]at hr;exact(B (J s) hr).mono λe I ⟨he,f⟩=>⟨he,s.call f⟩
    ·have aC:=h_p1 u _ (hq u E);refine(aC.2 (λb=>O b\/Ai v=θ b) w' _ (λb f=>?_) (λg' cs hg=>(hG0 g' cs hg).mono (keep (J s))) (by simp[hlb];omega) λi y x hy hx=>?_).mono λe I h=>?_
     ·rcases f with f|f
      ·exact Zbc (hO b f) s.below.size
      ·rw[C]at f;cases f;exact s.lt
     ·cases i with
      | zero=>
        rw[Zbx zs]at hy;simp at hy hx;subst hy;subst hx;exact .int _ _
      | succ i=>
        have hx:(d.map AV.d)[i]?=θ x:=by simpa using hx
        have hy:lb[i]?=θ y:=by
         rw[Zeb zs]at hy
         simpa using hy
        rw[Zaz]at hx
        cases hc:d[i]? with
        | none=>rw[hc]at hx;cases hx
        | some z=>
          rw[hc]at hx;obtain rfl:=Zaf hx;exact(V i y z hy hc).mono (keep (J s))
     ·obtain⟨y,he,f,hy⟩:=h
      cases hy
      exact⟨he,s.call f⟩
 ·exact absurd (Zau h1) T
instance:CS prog 200 (type_of% @FY):=⟨@FY⟩
end
section
open Go.Abs Go.Proofs
instance:CS prog 209 (∀(a:Ab)(b:Int)(R:Ω)(h:G8 a b=some R),A9 prog 209 [.d (Af a),.d (.ptr [(.j b)])] (.b R)):=⟨λ_ _ _ h=>by unfold G8 at h;exact uH func209⟩
instance{b c d e f g}:LS (λa s=>T8 b c d e f g a s.1 s.2.1 s.2.2) 45 [1,2,3,4,19,20] (λs=>[(10,.i s.1),(11,.b s.2.1),(21,.i s.2.2)]) [4] (λs=>[]):={}
instance:ja 309 (W4 MY):=⟨λ_ _ _ _ _ h=>uH func309⟩
instance:ja 310 (W4 DI):=⟨λ_ _ _ _ _ h=>uH func310⟩
instance:ja 210 (W5 F9):=⟨λ_ _ _ _ _ _ h=>uH func210⟩
instance Yaq:ja 125 (W5 Bg):=⟨λ_ _ _ _ _ _ h=>uH func125⟩
instance:CS prog 203 (∀(c:Int)(b:Aa)(a:Ad)(d:Int)(R:Ω)(h:Fj c b a d=some R),A9 prog 203 [.i c,.d (.ptr [(Aq 2 Ak b.S),(Aq 7 Aw b.A)]),.d (.ptr [(.str a.Aq),(.j a.As),(Aq 2 Af a.I),(Aq 1 (Aq 1 D.z) a.G)]),.d (.ptr [(.j d)])] (.b R)):=⟨λ_ _ _ _ _ h=>uH func203⟩
instance yz:CS prog 201 (∀(c:Int)(d:Γ Int)(b:Aa)(a:Ad)(R:Ω)(h:Jz c d b a=some R),A9 prog 201 [.i c,.d (.ptr [(Aq 1 D.z d)]),.d (.ptr [(Aq 2 Ak b.S),(Aq 7 Aw b.A)]),.d (.ptr [(.str a.Aq),(.j a.As),(Aq 2 Af a.I),(Aq 1 (Aq 1 D.z) a.G)])] (.b R)):=⟨λ_ _ _ _ _ h=>uH func201⟩
instance Yae:jb 119 W4 Ep:=⟨λd c e p2 p3 R h=>by
 refine zaC func119 ?_;unfold Ep at h;refine E5 h (λ_=>qw.h _ _ _) λa h=>?_;refine Dn h (λh=>?_) λh=>?_
 ·conv=>whnf
  exact z29
 refine E5 h (λ_=>K6.h _ _ _ _ _) λb h=>?_;refine iD h (λ_=>FY _ _ _ _ _ λa0 _ h=>yz.h a0 _ _ _ _ h) λx18 h=>?_
 conv=>whnf
 obtain rfl:=Zaf h;refine⟨.inl ?_⟩
 conv=>whnf
 exact⟨Kz⟩⟩
instance{b c d e f}:LS (λa s=>J0 b c d e f a s.1 s.2) 37 [3,4,5,9,14,15] (λs=>[(16,.i s.1)]) [4,5] (λs=>[(9,.row 1 3 (List.map D.z s.2),1)]):={}
instance yk:ja 120 (W4 Cu):=⟨λ_ _ _ _ _ h=>uH func120⟩
attribute [local irreducible] Ci Dj Cw CJ Dv DZ Fo Fp E0 JB JX
instance:ja 301 (W1 Ci):=⟨λ_ _ h=>by unfold Ci at h;exact uH func301⟩
instance kV:ja 225 (W2 Dj):=⟨λe f R h=>by
 refine zaC func225 ?_;unfold Dj at h
 conv=>whnf
 refine By h λc a h=>?_;refine ZG (H7 _ _ _ _ a) ?_
 conv=>whnf
 refine By h λd b h=>?_;refine ZG (H7 _ _ _ _ b) ?_;exact Ah⟩
instance qy:ja 302 (W1 Cw):=⟨λ_ _ h=>by unfold Cw at h;exact uH func302⟩
instance wH:ja 226 (W2 CJ):=⟨λ_ _ _ h=>by unfold CJ at h;exact uH func226⟩
instance:ja 353 (W1 Dv):=⟨λb R h=>by
 refine zaC func353 ?_;unfold Dv at h;refine Dn h (λh=>?_) λh=>?_
 ·refine E5 h (λ_=>E6 _ _) λc h=>?_;exact Ah
 refine E5 h (λ_=>E6 _ _) λa h=>?_;exact Ah⟩
instance:ja 354 (W2 DZ):=⟨λ_ _ _ h=>by unfold DZ at h;exact uH func354⟩
instance:ja 355 (W2 Fo):=⟨λ_ _ _ h=>by unfold Fo at h;exact uH func355⟩
instance{b}:LS (λa s=>Nm b a s.1 s.2) 39 [2,3,4,5] (λs=>[]) [4] (λs=>[(2,.var [.d (.int .u64 s.1.E),.d (.int .u64 s.1.C)],1),(3,.var [.d (.int .u64 s.2.E),.d (.int .u64 s.2.C)],1)]):={}
instance:ja 303 (W2 JB):=⟨λ_ _ _ h=>by unfold JB at h;exact uH func303⟩
instance:ja 304 (W1 Fp):=⟨λ_ _ h=>by unfold Fp at h;exact uH func304⟩
instance:ja 356 (W1 E0):=⟨λb R h=>by
 refine zaC func356 ?_;unfold E0 at h;refine Dn h (λh=>?_) λh=>?_
 ·refine E5 h (λ_=>Ks _ _) λc h=>?_;exact Ah
 refine E5 h (λ_=>Ks _ _) λa h=>?_;exact Ah⟩
instance{b c}:LS (λa s=>UM b c a s.1 s.2.1 s.2.2) 38 [2,3] (λs=>[(7,.i s.1),(8,.i s.2.1)]) [3] (λs=>[(2,.var [.d (.int .u64 s.2.2.E),.d (.int .u64 s.2.2.C)],1)]):={}
instance:ja 305 (W2 JX):=⟨λ_ _ _ h=>by unfold JX at h;exact uH func305⟩
instance:ja 205 (W2 Cf):=⟨λc d R h=>by
 refine TC [3] func205 ?_;unfold Cf at h;refine Dd {p:(Ao×Ao)//Gd p.1 p.2=some R} (λp=>C9 48 [(2,.ptr 2 1 0),(3,.ptr 3 1 0),(4,.ptr 4 1 0)] [(2,FT p.1.1,1),(3,FT p.1.2,1),(4,.var [.i 0,.i 0],1)]) ?_ λp=>?_
 ·exact Ah
 obtain⟨⟨a,b⟩,h⟩:=p;exact Ah⟩
instance Fk:ja 206 (W1 BN):=⟨λ_ _ h=>by unfold BN at h;exact uH func206⟩
instance YaV:ja 121 (W2 Eb):=⟨λ_ _ _ h=>uH func121⟩
instance{b c}:LS (λa s=>Fh b c a s.1 s.2) 66 [2,3,4,6,8,34,35] (λs=>[(7,.i s.1),(36,.i s.2)]) [2,3,4] (λs=>[]):={}
instance Ybg:jb 56 W2 Cj:=⟨λd b c R h=>by
 refine TC [8] func56 ?_;unfold Cj at h;refine E5 h (λ_=>Yae.h _ _ _ _ _ _) λa h=>?_;refine Dd {p:Int//Fi c a b p=some R} (λp=>C9 66 [(2,.ptr 2 1 0),(3,.ptr 3 1 0),(4,.ptr 4 1 0),(6,.l 1 D.z a),(7,.i p.1),(8,.i 1)] [(2,Z2 b,1),(3,GE c,1),(4,.var zAV,1)]) ?_ λp=>?_
 ·exact Ah
 obtain⟨e,h⟩:=p;exact Ah⟩
def H5(d:Nat)(b:A6)(a:Ag)(R:A4×Int) (h:Cj d b a=some R):Et prog 56 [ua b,.d (AF a)] [ua b,.any] (.tup [.d (Dg R.1),.i R.2]):=by
 refine lH [8] func56 (by kernel_rfl) rfl ?_ ?_
 ·intro i x y hx hy
  match i,hx,hy with
  | 0,hx,hy=>cases Zaf hx;cases Zaf hy;exact⟨[_,_,_,_,_,_],_,_,_,_,rfl,rfl⟩
  | 1,hx,hy=>simp at hx hy;subst hx;subst hy;trivial
  | i+2,hx,hy=>simp at hx
 unfold Cj at h
 conv=>whnf
 refine By h λg j h=>?_;refine BU (Yae.h _ _ _ _ _ _ j) ?_
 conv=>whnf
 refine Dd {p:Int//Fi a g b p=some R} (λp=>C9 66 [(2,.ptr 2 1 0),(3,.ptr 3 1 0),(4,.ptr 4 1 0),(6,.l 1 D.z g),(7,.i p.1),(8,.i 1)] [(0,.row 26 74 (List.map A2 b.A5),0),(2,.var [.l 2 Ak b.N.Ak.S,.l 7 Aw b.N.Ak.A,.t b.N.U.Aq,.i b.N.U.As,.l 2 Af b.N.U.I,.l 1 (Aq 1 D.z) b.N.U.G,.sl 0 0],1),(3,GE a,1),(4,.var zAV,1)]) ?_ λp=>?_
 ·conv=>whnf
  refine By h λk l h=>?_;refine BU (yk.h _ _ _ _ _ l) ?_
  conv=>whnf
  refine ED h λt u h=>?_;refine loop {p:Nat×(Int×Int)//t p.1 p.2=some R} (λp=>C9 66 [(2,.ptr 2 1 0),(3,.ptr 3 1 0),(4,.ptr 4 1 0),(6,.l 1 D.z g),(7,.i p.1.2.1),(8,.i 1),(34,.l 1 D.z k),(35,.i (Ξ k:Int)),(36,.i p.1.2.2)] [(0,.row 26 74 (List.map A2 b.A5),0),(2,.var [.l 2 Ak b.N.Ak.S,.l 7 Aw b.N.Ak.A,.t b.N.U.Aq,.i b.N.U.As,.l 2 Af b.N.U.I,.l 1 (Aq 1 D.z) b.N.U.G,.sl 0 0],1),(3,GE a,1),(4,.var zAV,1)]) (λp=>p.1.1) ⟨(_,(_,_)),h⟩ ?_ λp=>?_
  ·refine jS ?_
   conv=>whnf
   exact wW
  obtain⟨⟨v,⟨q,m⟩⟩,h⟩:=p;obtain⟨v,rfl,h⟩:=u _ _ h;simp only[Fh]at h
  conv=>whnf
  refine YX h GK (λh=>?_) (λh=>?_)
  ·conv=>whnf
   refine atF (f:=D.z) h GK λw r h=>?_
   conv=>whnf
   refine⟨⟨(_,(_,_)),h⟩,?_,Zds _⟩;refine jS ?_
   conv=>whnf
   exact wW
  conv=>whnf
  refine⟨⟨_,h⟩,?_⟩;refine jS ?_
  conv=>whnf
  exact wW
 obtain⟨s,h⟩:=p;simp only[Fi]at h
 conv=>whnf
 refine YX h GK (λh=>?_) (λh=>?_)
 ·conv=>whnf
  refine By h λn c h=>?_
  first|refine BU (YaV.h _ _ _ c) ?_|(simp only[Zac];refine BU (YaV.h _ _ _ c) ?_)
  conv=>whnf
  refine YX h GK (λh=>?_) (λh=>?_)
  ·exact z26
  conv=>whnf
  refine z17 ?_
  conv=>whnf
  refine By h λo e h=>?_;refine BU (YaW.h _ _ _ e) ?_;exact z26
 conv=>whnf
 refine By h λn c h=>?_
 first|refine BU (YaV.h _ _ _ c) ?_|(simp only[Zac];refine BU (YaV.h _ _ _ c) ?_)
 conv=>whnf
 refine YX h GK (λh=>?_) (λh=>?_)
 ·exact z26
 conv=>whnf
 refine z17 ?_
 conv=>whnf
 refine By h λo e h=>?_;refine BU (YaW.h _ _ _ e) ?_;exact z26
instance:ja 358 (W2 Ch):=⟨λ_ _ _ h=>uH func358⟩
instance:CS prog 359 (∀(b a:Ab)(R:Ω)(h:Hx b a=some R),A9 prog 359 [.d (Af b),.d (.ptr [(.j a.B),(.j a.H)])] (.b R)):=⟨λ_ _ _ h=>by unfold Hx at h;exact uH func359⟩
instance:ja 360 (W1 FQ):=⟨λ_ _ h=>by unfold FQ at h;exact uH func360⟩
instance{b c d}:LS (λa s=>Hw b c d a s) 64 [2,3,19,20] (λs=>[(21,.i s)]) [2,3] (λs=>[]):={}
instance:ja 306 (W2 Ko):=⟨λa b R h=>by
 refine TC [14] func306 ?_;unfold Ko at h;refine uJ h λh=>?_
 refine Dd {p:Unit//K8 b a=some R} (λp=>C9 64 [(2,.ptr 2 1 0),(3,.ptr 3 1 0)] [(2,AI a,1),(3,XG b,1)]) ?_ λp=>?_
 ·exact Ah
 obtain⟨_,h⟩:=p;exact Ah⟩
instance{b c d}:LS (λa s=>QK b c d a s) 59 [2,3,25,26] (λs=>[(27,.i s)]) [2,3] (λs=>[]):={}
instance:ja 307 (W2 NX):=⟨λ_ _ _ h=>uH func307⟩
end
section
open Go.Abs Go.Proofs
instance:jb 308 W2 NW:=⟨λ_ _ _ _ h=>uH func308⟩
instance:jb 207 W2 Hv:=⟨λ_ _ _ _ h=>uH func207⟩
instance jf:jb 122 W4 Pg:=⟨λ_ _ _ _ _ _ h=>uH func122⟩
instance GS:jb 123 W2 IW:=⟨λ_ _ _ _ h=>uH func123⟩
end
