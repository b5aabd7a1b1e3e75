/- P3DW -/
import Derived.Test.YtaojdkijihbaoaaGreatDoorP3W7
import Derived.Deep.Draws
import Derived.Shelf.RegionOpenPlain
import Derived.Sort.WalkB12
open Go.Proofs.Tryz
set_option linter.all false
namespace Go.Proofs.YtaojdkijihbaoaaGreatDoor.P
open Go Go.Abs Go.Proofs Go.Lib Go.Sort Go.RowKit Go.Shelf
set_option maxRecDepth 1000000
set_option maxHeartbeats 4000000
theorem Wb(v b:Value)(w:World)(Q:World->Prop)(c:Calls prog 272 #[v,b] w λe w'=>e=.returned (.int .i64 (-1))/\Q w') :
 Calls prog 215 #[v,b] w λe w'=>e=.returned v/\Q w':=by
 have d:∀args w,(callFunc 272 args).run prog w=.ok (.enter 272 args) w:=λargs w=>IL (by kernel_rfl) args
 go_enter func215,ntmps215
 go_wp2_with (go_at_call 272;refine c.mono ?_;rintro e w' ⟨rfl,a⟩)
 go_ret
 exact⟨rfl,a⟩
theorem cz(a:List Int)(q:Int->Bool)(g cap:Nat)(w:World)(f:FuncId)(lb:Array Value)(y:a.length<=cap)(V:a.length<=1000000000000)(T:TypeId)
 (M:DW w g cap a.length T w a.toArray)
 (eg:∀args w,(callFunc f args).run prog w=.ok (.enter f args) w)
 (B:∀w',DW w g cap a.length T w' a.toArray->Calls prog 272 #[.slice (some ⟨g,0,none⟩) a.length cap,.func (.func f) #[] lb] w' λe c=>e=.returned (.int .i64 (GT q a))/\DW w g cap a.length T c a.toArray)
 (W:∀w' d u,u∈a->DW w g cap a.length T w' d->Calls prog f (#[.int .i64 u]++lb) w' λe c=>e=.returned (.bool (q u))/\DW w g cap a.length T c d) :
 Calls prog 215 #[.slice (some ⟨g,0,none⟩) a.length cap,.func (.func f) #[] lb] w λe w'=>e=.returned (.slice (some ⟨g,0,none⟩) (a.filter λx=>!q x).length cap)/\∃d,DW w g cap a.length T w' d/\d.toList.take (a.filter λx=>!q x).length=a.filter λx=>!q x:=by
 have eI:∀args w,(callFunc 272 args).run prog w=.ok (.enter 272 args) w:=λargs w=>IL (by kernel_rfl) args;have tl:∀j,j<a.toArray.size->a.toArray[j]! = a[j]!:=λj z=>by simp
 obtain⟨r,E⟩:∃r:Nat->Bool,Hid (r=λj=>!q a.toArray[j]!):=⟨_,rfl⟩
 have l:(a.filter λx=>!q x)=keptUpTo r a.toArray a.length:=by
  rw[E.out];have:=(keptUpTo_filter (λx=>!q x) a.toArray).symm
  simpa using this
 have v:=B w M;rw[l];have HF:Aside _:=l;clear l
 cases hfi:a.findIdx? q with
 | none =>
   have J:GT q a=-1:=by unfold GT;rw[hfi]
   rw[J]at v;have N:=List.findIdx?_eq_none_iff.1 hfi;have h:(a.filter λx=>!q x)=a:=List.filter_eq_self.2 λx hx=>by rw[N x hx];rfl
   rw[<-HF.out,h];exact(Wb _ _ w _ v).mono λe w' ⟨O,m⟩=>⟨O,a.toArray,m,by simp⟩
 | some s =>
   obtain⟨P,K,A⟩:=List.findIdx?_eq_some_iff_getElem.1 hfi;have J:GT q a=(s:Int):=by unfold GT;rw[hfi]
   rw[J]at v;have L:∀j (z:j<a.length),a.toArray[j]! = a[j]:=λj z=>by simp[getElem!_pos,z]
   have h:∀j,j<s->r j=true:=λj z=>by
    rw[E.out];show(!q a.toArray[j]!)=true;rw[L j (by omega)]
    simpa using A j z
   have o:r s=false:=by
    rw[E.out];show(!q a.toArray[s]!)=false;rw[L s P,K];rfl
   have X:((s:Int)==-1)=false:=beq_eq_false_iff_ne.2 (by omega);have Q:Aside (KeptInv r a.toArray (s+1) s a.toArray):=KeptInv.start h o
   have F:∀w' d j,j<a.length->DW w g cap a.length T w' d->Calls prog f (#[.int .i64 a.toArray[j]!]++lb) w' λe c=>e=.returned (.bool (q a.toArray[j]!))/\DW w g cap a.length T c d:=λw' d j z hd=>by
    rw[L j z];exact W w' d _ (ud z) hd
   have HC:Aside _:=F;have H0:Aside _:=M;have p:Aside _:=y;clear h o hfi J A K tl W F M B L y;generalize Y:a.length=n at *;have Z:Aside _:=Y;clear Y
   go_enter func215,ntmps215
   go_wp2_with (go_at_call 272;refine v.mono ?_;rintro e w1 ⟨rfl,R⟩)
   go_loopg [5,6,7] n (λgg s5 s6 _ wr=>∃(i j:Nat)(d:Array Int),s5=.int .i64 i/\s6=.int .i64 j/\j<=n/\n-j<=gg/\Aside (DW w g cap n T wr d)/\Aside (KeptInv r a.toArray j i d))
   case atStart=>exact⟨s,s+1,a.toArray,rfl,by go_num,by omega,by omega,R,Q⟩
   case round =>
    obtain⟨i,j,d,rfl,rfl,hjd,hgg,W2,G⟩:=hrel;have B:=G.out;have hij:=B.lt;have k:=W2.out.holds;have S:=W2.out.size;by_cases H:j<n
    ·have I:(j:Int)<(n:Int):=by omega
     obtain⟨U,_⟩:=k j (by omega);obtain⟨ci,fi⟩:=k i (by omega);rw[B.high j (by omega)]at U
     have b:=(HC.out wr d j H W2.out).mono (R':=λe c=>e=.returned (.bool (q a.toArray[j]!))/\DW w g cap n T c d/\c.cell? ⟨g,i,none⟩=some (.int .i64 d[i]!)/\c.frozen? ⟨g,i,none⟩=false) λe c ⟨O,hd⟩=>by
      obtain⟨c1,c2⟩:=hd.holds i (by rw[S];omega);rw[uQ]at c1 c2;exact⟨O,hd,c1,c2⟩
     rw[uQ]at U;clear k B ci fi;generalize hu:a.toArray[j]! = u at U b;generalize d[i]! = old at b;have C:Aside (a.toArray[j]! = u):=hu;clear hu
     cases hq:q u with
     | false =>
       rw[hq]at b
       go_wp2_with (go_at_fn f;refine b.mono ?_;rintro e w' ⟨rfl,m,ci,fi⟩)
       go_roundg (n-(j+1))
       case measure=>omega
       case rel =>
        refine⟨i+1,j+1,d.setIfInBounds i u,by go_num,by go_num,by omega,uh _,m.store (by omega) p.out u,?_⟩;have:=G.out.keep (by rw[vY,Z.out];exact H) (by rw[E.out];show(!q a.toArray[j]!)=true;rw[C.out,hq];rfl)
        rwa [C.out]at this
     | true =>
       rw[hq]at b
       go_wp2_with (go_at_fn f;refine b.mono ?_;rintro e w' ⟨rfl,m,_,_⟩)
       go_roundg (n-(j+1))
       case measure=>omega
       case rel=>exact⟨i,j+1,d,rfl,by go_num,by omega,uh _,m,G.out.skip (by rw[E.out];show(!q a.toArray[j]!)=false;rw[C.out,hq];rfl)⟩
    ·obtain rfl:j=n:=by omega
     have I:¬(j:Int)<(j:Int):=by omega
     have hcl:∀ty,(Builtin.clear_ #[30] ty #[.slice (some ⟨g,i,none⟩) (j-i) (cap-i)]).run prog wr=.ok (.tuple #[]) (wr.setCells g i (List.replicate (j-i) (.int .i64 0))) :=
      λty=>Lib.run_clear_slice wr _ 3 ty (.int .i64 0) (by kernel_rfl) (λw=>by rfl) rfl rfl g i _ _ (by omega) (λt K=>by rw[show i+t=0+(i+t) by omega,(k (i+t) (by omega)).1];rfl) (λt K=>by rw[show i+t=0+(i+t) by omega];exact(k (i+t) (by omega)).2)
     have D:=p.out;clear k B
     go_wp2
     go_ret
     have hL:=G.out.len;have eD:a.toArray.size=j:=by rw[vY,Z.out]
     have hD:=KeptInv.done (show KeptInv r a.toArray a.toArray.size i d from by rw[eD];exact G.out) (0:Int);rw[eD]at hD;have hW:=DW.clear D (List.replicate (j-i) 0) i W2.out (by rw[wE];omega);rw[List.map_replicate]at hW;refine⟨by rw[hL];rfl,_,hW,?_⟩;rw[hD];show List.take (keptUpTo r a.toArray j).length (keptUpTo r a.toArray j++_)=_;rw[wY]
theorem fG{α:Type}{l:List α}{p:α->Option Bool}{q:α->Bool}(hp:∀x∈l,p x=some (q x))(m:l.length<=200000000000) :
 iter (λa v=>bif(decide (v<(l.length:Int)))then(idx l v).bind λc=>(p c).bind λd=>bif d then some v else a (IntKind.i64.wrap (v+1))else some (-1)) A9 0=some (GT q l):=by
 refine Ok.val (y8 (λs=>s) l.length (λi _=>∀k (hk:k<l.length),k<i->q l[k]=false) 0 (ug _) rfl (λ_ _ h=>by omega) (by omega) (λrec s f b=>?_) λrec i s g f b ih=>?_)
 ·rw[f,CW (by omega)];refine y3 ?_
  have:l.findIdx? q=none:=by
   rw[List.findIdx?_eq_none_iff];intro x hx;obtain⟨k,hk,rfl⟩:=List.mem_iff_getElem.1 hx;exact b k hk hk
  simp[GT,this]
 ·rw[f,Cg (by omega)];refine y5 g (qr (hp _ (ud g)) (y6 (λh=>y3 ?_) λh=>ih _ ?_ λk hk j=>?_))
  ·have:l.findIdx? q=some i:=by
    rw[List.findIdx?_eq_some_iff_getElem];exact⟨g,h,λk hk=>by rw[b k (by omega) hk];simp⟩
   simp[GT,this]
  ·show IntKind.i64.wrap ((i:Int)+1)=_;rw[wr (by omega) (by omega)];omega
  ·by_cases e:k=i
   ·subst e;exact h
   ·exact b k hk (by omega)
theorem EN(j:List Int)(S:Int->Option Bool)(c:FuncId)(d:List D)(R:List Int)(h_p1:∀(a0:Int) r,S a0=some r->Ax prog c ([.i a0]++d.map .d) (.b r))(hF:D8 j S=some R):Fz prog 215 [.own 1 3 (List.map D.z j),.d (.fn c d)] [.any,.any] (.own 1 3 (List.map D.z R)):=by
 obtain⟨hr,hF⟩:=Wj hF;obtain rfl:=uc hF;obtain⟨hr1,hr2⟩:=Bool.and_eq_true_iff.1 hr;have hbig:=uf hr1;obtain⟨q,eq⟩:∃q:Int->Bool,q=λx=>(S x).getD false:=⟨_,rfl⟩
 have hq:∀x∈j,S x=some (q x):=λx hx=>by
  obtain⟨b,s⟩:=Option.isSome_iff_exists.1 (List.all_eq_true.1 hr2 x hx);simp[eq,s]
 have Z:(j.filter λx=>S x==some false)=j.filter λx=>!q x:=List.filter_congr λx hx=>by
  rw[hq x hx];cases q x<;>rfl
 rw[Z];have hidx:CK j S=some (GT q j):=fG hq (by omega);have aI:=slices_IndexFunc_Lint_int_w.h j S c d (GT q j) h_p1 hidx;refine⟨by kernel_rfl,rfl,λO w vs hO hG hlen hMO hinj I=>?_⟩
 obtain⟨v,m,rfl⟩:∃v m,vs=#[v,m]:=by
  obtain⟨l⟩:=vs
  match l,hlen with
  | [v,m],_=>exact⟨v,m,rfl⟩
 obtain⟨_,_,vals,C,hL⟩:=I 0 v _ rfl rfl;rw[JD]at hL;obtain rfl:=Sb hL;rw[ua]at C;have N:Ay (λb=>O b\/HQ #[v,m] [AV.own 1 3 (List.map D.z j),.d (.fn c d)] b) w m (.fn c d):=I 1 m _ rfl rfl;have o:∀b,Ae v=some b->HQ #[v,m] [AV.own 1 3 (List.map D.z j),.d (.fn c d)] b:=λb s=>⟨0,v,_,rfl,rfl,rfl,s⟩
 have hmut2:∀b,HQ #[v,m] [AV.own 1 3 (List.map D.z j),.d (.fn c d)] b->Ae v=some b:=by
  rintro b ⟨i,u,x,A,p,B,h4⟩
  match i,A,p with
  | 0,A,p=>simp at A;subst A;exact h4
  | 1,A,p=>simp at p;subst p;cases B
  | i+2,A,p=>simp at A
 have hnot:∀b,¬HQ #[v,m] [AV.any,.any] b:=by
  rintro b ⟨i,u,x,A,p,B,_⟩
  match i,p with
  | 0,p=>simp at p;subst p;cases B
  | 1,p=>simp at p;subst p;cases B
  | i+2,p=>simp at p
 have hG0:=hG
 have keep:∀{w':World},A8 w.heap.size (λb=>Ae v=some b) w w'->BA (λb=>O b\/HQ #[v,m] [AV.own 1 3 (List.map D.z j),.d (.fn c d)] b) (λb=>O b\/Ae v=some b) w w':=λs =>
  ⟨s.size,λb _ f=>f.imp id (o b),λb T f=>s.block b T λH=>f (.inr (o b H))⟩
 have J:∀{w':World},BA (λb=>O b\/Ae v=some b) O w' w':=λ{w'}=>BA.of_sub λb s=>.inl s
 have fin:∀{w':World}{U:Ending}{u:Value}{ys:List Int},U=.returned u->(∀b,Ae u=some b->Ae v=some b)->A8 w.heap.size (λb=>Ae v=some b) w w'->Bw w' 3 1 u ys.length (ys.map (Value.int .i64)) ->
  ∃u,U=.returned u/\A8 w.heap.size (HQ #[v,m] [AV.own 1 3 (List.map D.z j),.d (.fn c d)]) w w' /\
  Di (λb=>w.heap.size<=b\/(HQ #[v,m] [AV.own 1 3 (List.map D.z j),.d (.fn c d)] b/\¬HQ #[v,m] [.any,.any] b)) (λb=>O b\/HQ #[v,m] [.any,.any] b) w' u (.own 1 3 (List.map D.z ys)) /\
  ∀(i:Nat) u' x y,#[v,m][i]?=some u'->[AV.own 1 3 (List.map D.z j),.d (.fn c d)][i]?=some x->[AV.any,.any][i]?=some y->Q6 (λb=>O b\/HQ #[v,m] [.any,.any] b\/Eb u (.own 1 3 (List.map D.z ys)) b) w' u' x y:=by
  intro w' U u ys K hbl s hr;refine⟨u,K,s.weaken (uh _) λk _ hk=>λH=>hk (o k H),⟨by omega,λx hx=>?_,λb hb'=>.inr ⟨o b (hbl b hb'),hnot b⟩,_,by simpa using hr,by rw[JD];exact RU _ _ _⟩,λi u' x y A p B=>?_⟩
  ·obtain⟨n,_,rfl⟩:=List.mem_map.1 hx;rfl
  ·match i,B with
   | 0,B=>simp at B;subst B;trivial
   | 1,B=>simp at B;subst B;trivial
   | i+2,B=>simp at B
 have E:∀{w':World},A8 w.heap.size (λb=>Ae v=some b) w w'->Bw w' 3 1 v j.length (j.map (Value.int .i64))->Calls prog 272 #[v,m] w' λe L=>e=.returned (.int .i64 (GT q j))/\RowKit.Below w'.heap.size w' L:=by
  intro w' s hr;refine(aI.2 O w' #[v,m] (λb f=>uw (hO b f) s.size) (λg cs hg=>((hG0 g cs hg).mono (keep s)).mono J) rfl λi u x G hx=>?_).mono λe L h=>?_
  ·match i,G,hx with
   | 0,G,hx =>
     simp at G hx;subst G;subst hx;exact Ys (e:=3) (vals:=j.map (Value.int .i64)) (by omega) (λx hx=>by obtain⟨n,_,rfl⟩:=List.mem_map.1 hx;rfl) (by simpa using hr) (by rw[JD];exact RU _ _ _) (λb f hb3=>hMO b (o b f) hb3)
   | 1,G,hx =>
     simp at G hx;subst G;subst hx;exact(N.mono (keep s)).mono J
   | i+2,G,hx=>simp at G
  ·obtain⟨u,K,f,G⟩:=h;obtain rfl:=AJ G;exact⟨K,f⟩
 have V:j=[]->Calls prog 215 #[v,m] w λU w'=>∃u,U=.returned u/\A8 w.heap.size (HQ #[v,m] [AV.own 1 3 (List.map D.z j),.d (.fn c d)]) w w' /\
  Di (λb=>w.heap.size<=b\/(HQ #[v,m] [AV.own 1 3 (List.map D.z j),.d (.fn c d)] b/\¬HQ #[v,m] [.any,.any] b)) (λb=>O b\/HQ #[v,m] [.any,.any] b) w' u (.own 1 3 (List.map D.z (j.filter λx=>!q x))) /\
  ∀(i:Nat) u' x y,#[v,m][i]?=some u'->[AV.own 1 3 (List.map D.z j),.d (.fn c d)][i]?=some x->[AV.any,.any][i]?=some y->Q6 (λb=>O b\/HQ #[v,m] [.any,.any] b\/Eb u (.own 1 3 (List.map D.z (j.filter λx=>!q x))) b) w' u' x y:=by
  intro W;have hS:=E (A8.refl _ _ w) C;have e1:GT q j=-1:=by rw[W];rfl
  rw[e1]at hS;refine(Wb v m w _ hS).mono λU w' ⟨K,s⟩=>fin K (λ_ h=>h) (A8.of s) ?_;have H:j.filter (λx=>!q x)=j:=by rw[W];rfl
  rw[H];exact C.mono λb T _=>s.block b T
 by_cases W:j=[]
 ·exact V W
 rcases C with⟨hl,⟨H,A⟩|⟨g,cap,cur,H,hbase,s,A,p,B,h4⟩⟩|⟨A,_,a,H⟩
 ·exact absurd (uJ A) W
 ·have hpos:=List.length_pos_iff.2 W;have P:cap≠0:=by omega
  have F:Ae v=some g:=by rw[H];simp[Ae,P]
  have hgO:¬O g:=λh=>hMO g (o g F) h;have M:∀{wr:World}{dk:Array Int},DW w g cap j.length 3 wr dk->A8 w.heap.size (λb=>Ae v=some b) w wr:=λhd=>hd.below.weaken (uh _) λk _ hk=>λe=>hk (by rw[e];exact F);have hD0:DW w g cap j.length 3 w j.toArray:=⟨A8.refl _ _ w,by simp,cur,s,B,by simpa using h4⟩;obtain⟨x0,hx0⟩:∃x,x∈j:=⟨j[0],ud hpos⟩;have X:F0 prog c=true:=(h_p1 x0 _ (hq x0 hx0)).1
  cases N with
  | fn _ lb _ hlb h1' Y =>
    have Q:=cz j q g cap w c lb A (by omega) 3 hD0 (λargs w=>IL X args) (λw' t=>?_) (λw' dk u G t=>?_)
    ·rw[<-H]at Q;refine Q.mono λU w' ⟨K,dk,hd,htk⟩=>?_;refine fin K (λb f=>?_) (M hd) (hd.row ?_ htk A p)
     ·rw[F];simp only[Ae,P,if_false]at f;exact f
     ·exact vZ _ _
    ·rw[<-H];have hr:=t.row (R:=j) (uh _) (by simp) A p;rw[<-H]at hr;exact(E (M t) hr).mono λe L ⟨K,f⟩=>⟨K,t.call f⟩
    ·have aC:=h_p1 u _ (hq u G);refine(aC.2 (λb=>O b\/Ae v=some b) w' _ (λb f=>?_) (λg' cs hg=>(hG0 g' cs hg).mono (keep (M t))) (by simp[hlb];omega) λi y x hy hx=>?_).mono λe L h=>?_
     ·rcases f with f|f
      ·exact uw (hO b f) t.below.size
      ·rw[F]at f;cases f;exact t.lt
     ·cases i with
      | zero =>
        rw[vf (by simp)]at hy;simp at hy hx;subst hy;subst hx;exact .int _ _
      | succ i =>
        have hx:(d.map AV.d)[i]?=some x:=by simpa using hx
        have hy:lb[i]?=some y:=by
         rw[wo (by simp)]at hy
         simpa using hy
        rw[uu]at hx
        cases hc:d[i]? with
        | none=>rw[hc]at hx;cases hx
        | some z =>
          rw[hc]at hx;obtain rfl:=uc hx;exact(Y i y z hy hc).mono (keep (M t))
     ·obtain⟨y,K,f,hy⟩:=h
      cases hy
      exact⟨K,t.call f⟩
 ·exact absurd (uJ A) W
instance:CS prog 215 (type_of% @EN):=⟨@EN⟩
