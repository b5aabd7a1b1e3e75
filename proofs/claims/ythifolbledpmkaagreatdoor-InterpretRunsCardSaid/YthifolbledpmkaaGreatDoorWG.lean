/- WG -/
import Derived.Test.YthifolbledpmkaaGreatDoorW0
import Derived.Test.YthifolbledpmkaaGreatDoorQD
import Derived.WalkKit
import Derived.Lib.Hide
import Derived.Test.YthifolbledpmkaaGreatDoorWE
import Derived.Test.YthifolbledpmkaaGreatDoorWF
open List renaming length → Ξ
open Go.Proofs.Tryz
set_option linter.all false
namespace Go.Proofs.YthifolbledpmkaaGreatDoor.P
open Go Go.Abs Go.Proofs
set_option maxRecDepth 20000
set_option maxHeartbeats 4000000
def F.bytes_int:SJ prog 3=8:=by kernel_rfl
def F.ints(xs:Γ Int):D:=.list 1 (xs.map (D.int .i64))
def Ads(n:Nat)(o:n<=1000000):vm prog 320 [0] [.d (.list 1 []),.d (.int .i64 n)] (.own 1 3 []):=by
 refine⟨by kernel_rfl,λO w vs p q d f c=>?_⟩
 obtain⟨v,u,rfl⟩:∃v u,vs=#[v,u]:=by
  obtain⟨l⟩:=vs
  match l,d with
  | [v,u],_=>exact⟨v,u,rfl⟩
 have g:=f 0 zs;simp at g;subst g;have j:=AP (c 1 u _ rfl rfl);subst j
 have fin:∀{e:Ending}{v:Ψ}{w':Λ},e=.returned v->RowKit.Below w.heap.size w w'->(v=.slice none 0 0\/∃cap cur,v=.slice (some ⟨w.heap.size,0,none⟩) 0 cap/\w'.heap[w.heap.size]?=some (.cells cur 3 (0,0))/\cap<=maxLen/\cur.size=cap)->
  ∃v,e=.returned v/\RowKit.Below w.heap.size w w'/\Eu (λb=>w.heap.size<=b) O w' v (.own 1 3 []):=by
  intro e v w' he k g;refine⟨v,he,k,j0,(λ_ h=>by cases h),λb i=>?_,[],?_,BC.nil⟩
  ·rcases g with rfl|⟨cap,cur,rfl,_⟩
   ·simp[Ai]at i
   ·simp[Ai]at i;omega
  ·rcases g with rfl|⟨cap,cur,rfl,h1,h2,r⟩
   ·exact .inl (World.ownsRow_nil w' _ _ _)
   ·exact .inl ⟨rfl,.inr ⟨_,cap,cur,rfl,Zag _,h1,Zag _,h2,z0,zs⟩⟩
 by_cases m:n=0
 ·subst m
  go_enter func320,ntmps320
  go_wp2
  go_ret
  exact fin rfl (RowKit.Below.refl _ _) (.inl rfl)
 ·have s:(0:Int)<n:=z0
  have a:Builtin.nextslicecap n 0=n:=by unfold Builtin.nextslicecap;simp;omega
  have H:=Lib.hid a;clear a
  go_enter func320,ntmps320
  go_wp2
  all_goals try (exfalso;have a:=H.out;simp only[show t3.bytes=8 from rfl,a]at *;omega)
  go_ret
  have h1:=grownCap_ge w n 0 3;have h2:=grownCap_le_maxLen w n 0 3 (by unfold maxLen;omega);unfold grownCap at h1 h2;refine fin rfl ((RowKit.Below.refl _ _).alloc (Zam _) _).drew (.inr ⟨_,_,rfl,heap_alloc_new w _,h2,?_⟩);rw[Array.size_append,size_zeroCells,size_zeroCells];simp;omega
def pi(a b:Γ Int):Fin 3->Int| 0=>0| 1=>(Ξ a:Int)| 2=>((Ξ a+Ξ b:Nat):Int)
def vC(a b:Γ Int):Fin 3->Γ D| 0=>[]| 1=>a.map (D.int .i64)| 2=>(a++b).map (D.int .i64)
theorem yO(a b:Γ Int)(e:Ξ a<=200000)(f:Ξ b<=200000):
 A9 prog 231 [.d (.list 1 [F.ints a,F.ints b])] (.d (F.ints (a++b))):=by
 have c:IntKind.i64.wrap (pi a b 0+(Ξ (a.map (D.int .i64)):Int))=pi a b 1:=by
  show IntKind.i64.wrap (0+(Ξ (a.map (D.int .i64)):Int))=(Ξ a:Int);rw[Zac,wr z0 z0];omega
 have d:IntKind.i64.wrap (pi a b 1+(Ξ (b.map (D.int .i64)):Int))=pi a b 2:=by
  show IntKind.i64.wrap ((Ξ a:Int)+(Ξ (b.map (D.int .i64)):Int))=((Ξ a+Ξ b:Nat):Int);rw[Zac,wr z0 z0];omega
 refine UA func231 (by kernel_rfl) ?_
 conv=>whnf
 refine loop (Fin 3) (λk=>C9 36 [(0,.d (.list 1 [F.ints a,F.ints b])),(3,.d (.int .i64 (pi a b k))),(9,.d (.list 1 [F.ints a,F.ints b])),(10,.d (.int .i64 2)),(11,.d (.int .i64 (k.val:Int)))] []) (λk=>2-k.val) 0 ?_ λk=>?_
 ·refine jS ?_
  conv=>whnf
  repeat (first|exact trivial|refine And.intro (by first|with_reducible rfl|exact .inl rfl|(rw[next (by first|omega|(simp only;omega))])|rfl) ?_)
 match k with
 | 0=>
   conv=>whnf
   refine⟨⟨j0,_,rfl,?_⟩⟩
   conv=>whnf
   refine br (λh=>?_) (λh=>?_)
   ·exact absurd (Zal h) (by show ¬(IntKind.i64.wrap (pi a b 0+(Ξ (a.map (D.int .i64)):Int))<0);rw[c];show ¬((Ξ a:Int)<0);omega)
   conv=>whnf
   refine⟨1,?_,j0⟩;refine jS ?_
   conv=>whnf
   repeat (first|exact trivial|refine And.intro (by first|with_reducible rfl|rfl|rw[c]) ?_)
 | 1=>
   conv=>whnf
   refine⟨⟨j0,_,rfl,?_⟩⟩
   conv=>whnf
   refine br (λh=>?_) (λh=>?_)
   ·exact absurd (Zal h) (by show ¬(IntKind.i64.wrap (pi a b 1+(Ξ (b.map (D.int .i64)):Int))<0);rw[d];show ¬(((Ξ a+Ξ b:Nat):Int)<0);omega)
   conv=>whnf
   refine⟨2,?_,j0⟩;refine jS ?_
   conv=>whnf
   repeat (first|exact trivial|refine And.intro (by first|with_reducible rfl|rfl|rw[d]) ?_)
 | 2=>
   conv=>whnf
   refine Adl (Ads (Ξ a+Ξ b) z0) ?_
   conv=>whnf
   refine loop (Fin 3) (λk=>C9 36 [(6,.sl 24 1),(25,.d (.list 1 [F.ints a,F.ints b])),(26,.d (.int .i64 2)),(27,.d (.int .i64 (k.val:Int)))] [(24,.row 1 3 (vC a b k),1)]) (λk=>2-k.val) 0 ?_ λk=>?_
   ·refine jS ?_
    conv=>whnf
    repeat (first|exact trivial|refine And.intro (by first|with_reducible rfl|exact .inl rfl|(rw[next (by first|omega|(simp only;omega))])|rfl) ?_)
   match k with
   | 0=>
     conv=>whnf
     refine⟨⟨j0,_,rfl,?_⟩⟩
     conv=>whnf
     refine⟨by rw[F.bytes_int];simp only[vC,Zac,Zfs];exact⟨by unfold maxLen;omega,z0,.inr (by kernel_rfl)⟩,?_⟩
     conv=>whnf
     refine⟨1,?_,j0⟩;refine jS ?_
     conv=>whnf
     repeat (first|exact trivial|refine And.intro (by first|with_reducible rfl|exact .inl rfl|(rw[next (by first|omega|(simp only;omega))])|rfl) ?_)
   | 1=>
     conv=>whnf
     refine⟨⟨j0,_,rfl,?_⟩⟩
     conv=>whnf
     refine⟨by rw[F.bytes_int];simp only[vC,Zac,Zfs];exact⟨by unfold maxLen;omega,z0,.inr (by kernel_rfl)⟩,?_⟩
     conv=>whnf
     refine⟨2,?_,j0⟩;refine jS ?_
     conv=>whnf
     repeat (first|exact trivial|refine And.intro (by first|with_reducible rfl|rfl|(simp only[vC,Zay];done)|(simp only[vC,Zay];rfl)) ?_)
   | 2=>
     conv=>whnf
     refine⟨.inl ?_⟩
     conv=>whnf
     exact⟨rfl⟩
def Afq(xs:Γ Int)(h:Ξ xs<=400000):A9 prog 230 [.d (F.ints xs)] (.d (F.ints (Lib.compact (Fy xs)))):=by
 have a:A0 xs=some xs:=by unfold A0;rw[II z0];rfl
 have b:B1 xs=some (Fy xs):=by unfold B1;rw[II z0];rfl
 have d:Ξ (Fy xs)=Ξ xs:=by unfold Fy;rw[Zgb]
 have c:E4 (Fy xs)=some (Lib.compact (Fy xs)):=by unfold E4;rw[Zak z0];rfl
 refine UA func230 (by kernel_rfl) ?_
 conv=>whnf
 refine BU (AM xs _ a) ?_
 conv=>whnf
 refine Ha (DU xs _ b) ?_
 conv=>whnf
 refine Ha (Ff (Fy xs) _ c) ?_
 conv=>whnf
 refine⟨.inl ?_⟩
 conv=>whnf
 exact⟨rfl⟩
def Hj(a b R:Γ Int)(c:F6 a b=some R):A9 prog 139 [.d (Aq 1 (D.int .i64) a),.d (Aq 1 (D.int .i64) b)] (.d (Aq 1 (D.int .i64) R)):=by
 obtain⟨hr,c⟩:=iN c;obtain rfl:=Zaf c;obtain⟨h1,h2⟩:=Zal hr;rw[show F.setU (a++b)=Lib.compact (Fy (a++b))from AS.eq (c9 _) (fj _)];refine UA func139 (by kernel_rfl) ?_
 conv=>whnf
 refine BU (yO a b z0 z0) ?_
 conv=>whnf
 refine BU (Afq (a++b) (by rw[Zar];omega)) ?_
 conv=>whnf
 exact⟨rfl⟩
instance:CS prog 139 (type_of% @Hj):=⟨@Hj⟩
section
open Go.Abs Go.Proofs
set_option maxRecDepth 100000
def UQ(d:Nat)(a:A6->Ag->Δ (A4×Int))(ih:W2 a prog 25)(b:A6->Ag->Δ (A4×Int))(ih1:W2 b prog 63):W2 (Cb d a b) prog 25:=by
 intro S T R h;refine Vp [32] func25 (by kernel_rfl) ?_;unfold Cb at h;refine Dd {p:uq//ur AL p=some R} (λp=>C9 177 [(4,.ptr 4 1 0),(6,.ptr 6 1 0),(7,.i p.1.1)] [(4,.var zAV,1),(6,.var (uQ p.1),1)]) ?_ λp=>?_
 ·refine Ky h λh=>?_;refine Dn h (λh=>?_) λh=>?_
  ·refine E5 h (λ_=>YaK.h _ _ _) λK h=>?_;exact bz h
  refine Dn h (λh=>?_) λh=>?_
  ·refine E5 h (λ_=>K6.h _ _ _ _ _) λL h=>?_;refine E5 h (λ_=>YaW.h _ _ _) λM h=>?_;exact bz h
  conv=>whnf
  refine vQ h GK (λe h=>?_) (λe h=>?_)
  ·conv=>whnf
   refine yL GK e ?_
   conv=>whnf
   refine By h λx53 hx53 h=>?_;refine BU (Ybg.h _ _ _ _ hx53) ?_;exact bz h
  refine Dn h (λh=>?_) λh=>?_
  ·conv=>whnf
   refine By h λx53 hx53 h=>?_;refine BU (Ybg.h _ _ _ _ hx53) ?_;exact bz h
  refine Dn h (λh=>?_) λh=>?_
  ·refine E5 h (λ_=>Ybd.h _ _ _ _ _ _ _) λN h=>?_;refine Dn h (λh=>?_) λh=>?_
   ·refine Ry (f:=A7) h λO _ h=>?_;refine E5 h (λ_=>AM _ _) λP h=>?_;exact z24
   exact z24
  refine Dn h (λh=>?_) λh=>?_
  ·refine E5 h (λ_=>km.h _ _ _ _ _ _ _) λF h=>?_;exact z24
  refine Dn h (λh=>?_) λh=>?_
  ·refine E5 h (λ_=>Yaj.h _ _ _ _ _ _ _) λG h=>?_;exact z24
  refine Dn h (λh=>?_) λh=>?_
  ·refine E5 h (λ_=>YaA.h _ _ _ _ _ _ _) λH h=>?_;exact z24
  refine Dn h (λh=>?_) λh=>?_
  ·refine E5 h (λ_=>qx.h _ _ _ _ _ _) λI h=>?_;exact z24
  conv=>whnf
  refine By h λQ c h=>?_
  first|refine BU (ih1 _ _ _ c) ?_|(simp only[Zac];refine BU (ih1 _ _ _ c) ?_)
  exact bz h
 obtain⟨⟨J,w,x,y,z,A,B,C,E,g,i,j,k,l,m,n,o,q,r,s,t,u,v⟩,h⟩:=p;simp only[ur,AL]at h;exact Aai h
def UP(d:Nat)(a:A6->Ag->Δ (A4×Int))(g:∀(e:A6)(j:Ag)(R:A4×Int) ,a e j=some R->Et prog 25 [ua e,.d (AF j)] [ua e,.any] (.tup [.d (Dg R.1),.i R.2]))(b:A6->Ag->Δ (A4×Int))(c:∀(e:A6)(j:Ag)(R:A4×Int) ,b e j=some R->Et prog 63 [ua e,.d (AF j)] [ua e,.any] (.tup [.d (Dg R.1),.i R.2]))(e:A6)(j:Ag)(R:A4×Int) (h:Cb d a b e j=some R):Et prog 25 [ua e,.d (AF j)] [ua e,.any] (.tup [.d (Dg R.1),.i R.2]):=by
 refine lH [32] func25 (by kernel_rfl) rfl ?_ ?_
 ·intro i x y hx hy
  match i,hx,hy with
  | 0,hx,hy=>cases Zaf hx;cases Zaf hy;exact⟨[_,_,_,_,_,_],_,_,_,_,rfl,rfl⟩
  | 1,hx,hy=>simp at hx hy;subst hx;subst hy;trivial
  | i+2,hx,hy=>simp at hx
 unfold Cb at h
 conv=>whnf
 refine Dd {p:uq//ur AL p=some R} (λp=>C9 177 [(4,.ptr 4 1 0),(6,.ptr 6 1 0),(7,.i p.1.1)] [(0,.row 26 74 (List.map A2 e.A5),0),(4,.var zAV,1),(6,.var (uQ p.1),1)]) ?_ λp=>?_
 ·conv=>whnf
  refine YX h GK (λh=>?_) (λh=>?_)
  ·exact z26
  conv=>whnf
  refine YX h GK (λh=>?_) (λh=>?_)
  ·conv=>whnf
   refine⟨.inr ?_⟩
   conv=>whnf
   refine By h λx27 k h=>?_
   first|refine Ha (Ob _ _ _ k) ?_|(simp only[Zac];refine Ha (Ob _ _ _ k) ?_)
   exact z26
  conv=>whnf
  refine YX h GK (λh=>?_) (λh=>?_)
  ·conv=>whnf
   refine By h λx38 r h=>?_;refine BU (K6.h _ _ _ _ _ r) ?_
   conv=>whnf
   refine By h λx46 s h=>?_;refine BU (YaW.h _ _ _ s) ?_;exact z26
  conv=>whnf
  refine vQ h GK (λt h=>?_) (λt h=>?_)
  ·conv=>whnf
   refine yL GK t ?_
   conv=>whnf
   refine⟨.inr ?_⟩;exact z37
  conv=>whnf
  refine YX h GK (λh=>?_) (λh=>?_)
  ·conv=>whnf
   refine⟨.inr ?_⟩;exact z37
  conv=>whnf
  refine YX h GK (λh=>?_) (λh=>?_)
  ·conv=>whnf
   refine By h λx72 u h=>?_;refine BU (Ybd.h _ _ _ _ _ _ _ u) ?_
   conv=>whnf
   refine YX h GK (λh=>?_) (λh=>?_)
   ·conv=>whnf
    refine atF (f:=A7) h GK λx81 W h=>?_
    conv=>whnf
    refine By h λx84 v h=>?_;refine BU (AM _ _ v) ?_
    conv=>whnf
    exact z22
   conv=>whnf
   exact z22
  conv=>whnf
  refine YX h GK (λh=>?_) (λh=>?_)
  ·conv=>whnf
   refine By h λX m h=>?_;refine BU (km.h _ _ _ _ _ _ _ m) ?_
   conv=>whnf
   exact z22
  conv=>whnf
  refine YX h GK (λh=>?_) (λh=>?_)
  ·conv=>whnf
   refine By h λY n h=>?_;refine BU (Yaj.h _ _ _ _ _ _ _ n) ?_
   conv=>whnf
   exact z22
  conv=>whnf
  refine YX h GK (λh=>?_) (λh=>?_)
  ·conv=>whnf
   refine By h λZ o h=>?_;refine BU (YaA.h _ _ _ _ _ _ _ o) ?_
   conv=>whnf
   exact z22
  conv=>whnf
  refine YX h GK (λh=>?_) (λh=>?_)
  ·conv=>whnf
   refine By h λx166 q h=>?_;refine BU (qx.h _ _ _ _ _ _ q) ?_
   conv=>whnf
   exact z22
  conv=>whnf
  refine⟨.inr ?_⟩
  conv=>whnf
  refine By h λx13 l h=>?_
  first|refine Ha (c _ _ _ l) ?_|(simp only[Zac];refine Ha (c _ _ _ l) ?_)
  exact z26
 obtain⟨⟨j7_1,N,O,P,Q,S,T,U,V,w,z,A,B,C,E,F,G,H,I,J,K,L,M⟩,h⟩:=p;simp only[ur,AL]at h
 conv=>whnf
 refine YX h GK (λh=>?_) (λh=>?_)
 ·exact z26
 exact z26
def V6(d:Nat)(a:A6->Ag->Δ (A4×Int))(ih:W2 a prog 25)(b:A6->Ag->Δ (A4×Int))(ih1:W2 b prog 63):W2 (Dz d a b) prog 63:=by
 intro c e R h;refine zaC func63 ?_;unfold Dz at h;exact Ah
def V5(d:Nat)(b:A6->Ag->Δ (A4×Int))(a:∀(e:A6)(k:Ag)(R:A4×Int) ,b e k=some R->Et prog 25 [ua e,.d (AF k)] [ua e,.any] (.tup [.d (Dg R.1),.i R.2]))(c:A6->Ag->Δ (A4×Int))(j:∀(e:A6)(k:Ag)(R:A4×Int) ,c e k=some R->Et prog 63 [ua e,.d (AF k)] [ua e,.any] (.tup [.d (Dg R.1),.i R.2]))(e:A6)(k:Ag)(R:A4×Int) (h:Dz d b c e k=some R):Et prog 63 [ua e,.d (AF k)] [ua e,.any] (.tup [.d (Dg R.1),.i R.2]):=by
 refine oi func63 (by kernel_rfl) rfl ?_ ?_
 ·intro i x y hx hy
  match i,hx,hy with
  | 0,hx,hy=>cases Zaf hx;cases Zaf hy;exact⟨[_,_,_,_,_,_],_,_,_,_,rfl,rfl⟩
  | 1,hx,hy=>simp at hx hy;subst hx;subst hy;trivial
  | i+2,hx,hy=>simp at hx
 unfold Dz at h
 conv=>whnf
 refine z17 ?_
 conv=>whnf
 refine⟨.inr ?_⟩
 conv=>whnf
 refine atF (f:=C8) h GK λo q h=>?_;rw[Be o]
 conv=>whnf
 refine By h λs l h=>?_
 first|refine Ha (a _ _ _ l) ?_|(simp only[Zac];refine Ha (a _ _ _ l) ?_)
 conv=>whnf
 refine YX h GK (λh=>?_) (λh=>?_)
 ·exact z26
 conv=>whnf
 refine z17 ?_
 conv=>whnf
 refine⟨.inr ?_⟩
 conv=>whnf
 refine atF (f:=C8) h GK λp r h=>?_;rw[Be p]
 conv=>whnf
 refine By h λt m h=>?_
 first|refine Ha (a _ _ _ m) ?_|(simp only[Zac];refine Ha (a _ _ _ m) ?_)
 conv=>whnf
 refine YX h GK (λh=>?_) (λh=>?_)
 ·exact z26
 conv=>whnf
 refine YX h GK (λh=>?_) (λh=>?_)
 ·conv=>whnf
  refine By h λn g h=>?_;refine BU (Ybf.h _ _ _ g) ?_
  conv=>whnf
  refine YX h GK (λh=>?_) (λh=>?_)
  ·exact z26
  conv=>whnf
  refine z17 ?_;exact z31
 conv=>whnf
 refine YX h GK (λh=>?_) (λh=>?_)
 ·conv=>whnf
  refine By h λn g h=>?_;refine BU (YaY.h _ _ _ g) ?_
  conv=>whnf
  refine YX h GK (λh=>?_) (λh=>?_)
  ·exact z26
  conv=>whnf
  refine z17 ?_;exact z31
 conv=>whnf
 refine YX h GK (λh=>?_) (λh=>?_)
 ·conv=>whnf
  refine By h λn g h=>?_;refine BU (Yaa.h _ _ _ g) ?_
  conv=>whnf
  refine YX h GK (λh=>?_) (λh=>?_)
  ·exact z26
  conv=>whnf
  refine z17 ?_;exact z31
 conv=>whnf
 refine By h λn g h=>?_;refine BU (x7.h _ _ _ g) ?_
 conv=>whnf
 refine YX h GK (λh=>?_) (λh=>?_)
 ·exact z26
 conv=>whnf
 refine z17 ?_;exact z31
theorem Dc:∀d:Nat,(W2 (Bq d) prog 25)/\(W2 (Dw d) prog 63)
 | 0=>by
  refine⟨?_,?_⟩<;>((repeat intro _);rename_i h;cases h)
 | d+1=>by
  have ih:=Dc d;exact⟨UQ d _ (ih).1 _ (ih).2,V6 d _ (ih).1 _ (ih).2⟩
instance:jb 25 W2 Bq:=⟨λd=>(Dc d).1⟩
instance:jb 63 W2 Dw:=⟨λd=>(Dc d).2⟩
theorem EC:∀d:Nat,(∀(a:A6)(b:Ag)(R:A4×Int) ,Bq d a b=some R->Et prog 25 [ua a,.d (AF b)] [ua a,.any] (.tup [.d (Dg R.1),.i R.2]))/\(∀(a:A6)(b:Ag)(R:A4×Int) ,Dw d a b=some R->Et prog 63 [ua a,.d (AF b)] [ua a,.any] (.tup [.d (Dg R.1),.i R.2]))
 | 0=>by
  refine⟨?_,?_⟩<;>(intros;rename_i h;cases h)
 | d+1=>by
  have ih:=EC d;exact⟨UP d _ (ih).1 _ (ih).2,V5 d _ (ih).1 _ (ih).2⟩
def Oc(d:Nat):∀(a:A6)(b:Ag)(R:A4×Int) ,Bq d a b=some R->Et prog 25 [ua a,.d (AF b)] [ua a,.any] (.tup [.d (Dg R.1),.i R.2]):=(EC d).1
end
section
open Go.Abs Go.Proofs
set_option maxRecDepth 100000
instance Yag:jb 8 W3 F5:=⟨λd e g p2 R h=>by
 refine zaC Tryz.func8 ?_;unfold F5 at h;refine E5 h (λ_=>qw.h _ _ _) λi h=>?_;refine uJ h λh=>?_
 refine E5 h (λ_=>hH.h _ _ _ _) λj h=>?_;refine uJ h λh=>?_
 refine E5 h (λ_=>YaH.h _ _ _ _ _) λk h=>?_;refine uJ h λh=>?_
 conv=>whnf
 refine z11 h (λp=>C9 84 [(2,.l 21 Bf p2),(3,.ptr 3 1 0),(4,.ptr 4 1 0),(15,.sl 15 1),(49,.l 21 Bf p2),(50,.i (Ξ p2:Int)),(51,.i p.1)] [(3,AI e,1),(4,Du g,1),(15,.row 26 74 (List.map A2 p.2),1)]) CC λ_ _ ⟨b,c⟩ h=>?_;simp only[L4]at h;refine Dn h (λh=>?_) λh=>?_
 ·refine Ry (f:=Bf) h λl _ h=>?_
  conv=>whnf
  refine⟨.inr ?_⟩
  conv=>whnf
  refine By h λm a h=>?_
  first|refine Ha (Oc _ _ _ _ a) ?_|(simp only[Zac];refine Ha (Oc _ _ _ _ a) ?_)
  exact Ah
 exact Ah⟩
instance{b c}:LS (λa s=>Kr b c a s.1 s.2) 24 [3,6,7] (λs=>[(8,.i s.1)]) [] (λs=>[(3,.row 26 74 (List.map A2 s.2),1)]):={}
instance:ja 11 (W1 GN):=⟨λa R h=>by
 refine zaC Tryz.func11 ?_;unfold GN at h;exact Ah⟩
end
