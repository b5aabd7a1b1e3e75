/- W0 -/
import Derived.Test.YthifolbledpmkaaGreatDoorChecked
import Derived.Test.YthifolbledpmkaaGreatDoorLaid
import Derived.Shelf.Strconv.Itoa3
import Derived.Test.YthifolbledpmkaaGreatDoorP3U
import Derived.Test.YthifolbledpmkaaGreatDoorM3
import Derived.Shelf.Bits.Mul64
import Derived.Shelf.Spec.TrailingZeros
import Derived.Shelf.Spec.BitsCarry
open Go.Proofs.Tryz
set_option linter.all false
open List renaming length → Ξ
namespace Go.Proofs.YthifolbledpmkaaGreatDoor.P
open Go.Abs Go.Proofs
set_option maxRecDepth 100000
set_option maxHeartbeats 4000000
def AM(c R:Γ Int)(d:A0 c=some R):A9 prog 58 [.d (Aq 1 (D.int .i64) c)] (.own 1 3 (List.map (D.int .i64) R)):=by
 obtain⟨hr,d⟩:=iN d;obtain rfl:=Zaf d;refine UA func58 (by kernel_rfl) ?_
 conv=>whnf
 refine⟨λb e=>?_⟩
 cases b
 ·conv=>whnf
  refine⟨by(simp only[Zac];exact CN hr (Zal (by kernel_rfl)) (.inr (by kernel_rfl))),?_⟩
  conv=>whnf
  refine⟨.inr ?_⟩
  conv=>whnf
  refine⟨?_,?_⟩
  ·intro x hx y hy;obtain⟨n,_,rfl⟩:=List.mem_map.1 hx;simp[D.cells]at hy;subst hy;rfl
  ·conv=>whnf
   exact⟨rfl⟩
 ·conv=>whnf
  have:c=[]:=by
   cases c with
   | nil=>rfl
   | cons a r=>exact absurd (e zs) zs
  subst this;refine⟨.inr ?_⟩
  conv=>whnf
  refine⟨λx hx=>absurd hx zs,?_⟩
  conv=>whnf
  exact⟨rfl⟩
def DU(a R:Γ Int)(b:B1 a=some R):Et prog 220 [.own 1 3 (List.map (D.int .i64) a)] [.own 1 3 (List.map (D.int .i64) R)] (.tup []):=by
 obtain⟨hr,b⟩:=iN b;obtain rfl:=Zaf b;have h:=Zal hr;exact Ady lays189 (by kernel_rfl) 3 a z0
def IJ(c:Int)(R:Θ)(d:FB c=some R):A9 prog 19 [.d (.int .i64 c)] (.d (.str R)):=by
 obtain⟨hr,d⟩:=iN d;obtain rfl:=Zaf d;obtain⟨g,h1⟩:=Zal hr;obtain⟨i,rfl⟩:∃i:Nat,c=i:=⟨c.toNat,z0⟩;rw[Zaw];refine⟨by kernel_rfl,λO w vs j k b a=>?_⟩
 obtain⟨v,rfl⟩:∃v,vs=#[v]:=by
  obtain⟨l⟩:=vs
  match l,b with
  | [v],_=>exact⟨v,rfl⟩
 have f:=AP (a 0 v _ rfl rfl);subst f;refine(Any.strconv_Itoa_small lays171 i z0 w).mono λe w' h=>?_;obtain⟨rfl,rfl⟩:=h;exact⟨_,rfl,Go.RowKit.Below.refl _ _,.str _⟩
instance:CS prog 58 (type_of% @AM):=⟨@AM⟩
instance:CS prog 220 (type_of% @DU):=⟨@DU⟩
instance:CS prog 19 (type_of% @IJ):=⟨@IJ⟩
section
open Go Go.Abs Go.Proofs Go.Lib Go.Sort Go.RowKit Go.Shelf
def Ff(a R:Γ Int)(b:E4 a=some R):Et Tryz.prog 221 [.own 1 3 (a.map (D.int .i64))] [.any] (.own 1 3 (R.map (D.int .i64))):=by
 obtain⟨hr,b⟩:=iN b;obtain rfl:=Zaf b;have h:=Zal hr;exact xb Tryz.lays20 (by kernel_rfl) 3 a z0
instance:CS Tryz.prog 221 (type_of% @Ff):=⟨@Ff⟩
end
section
open Go Go.Abs Go.Proofs F
def tup2{g O:Nat->Prop}{w:Λ}(a b:Int):Eu g O w (.tuple #[.int .u64 a,.int .u64 b]) (.tup [.d (.int .u64 a),.d (.int .u64 b)]):=by
 refine⟨_,rfl,rfl,λi u x c d=>?_,λi j u l m e n h o k b p q f=>?_⟩
 ·match i,c,d with
   | 0,c,d=>simp at c d;subst c;subst d;exact .int _ _
   | 1,c,d=>simp at c d;subst c;subst d;exact .int _ _
   | i+2,c,d=>simp at c
 ·match i,f with
   | 0,f=>simp at f
   | 1,f=>simp at f
   | i+2,f=>simp at f
theorem one64{O:Nat->Prop}{w:Λ}{a:Array Ψ}{x:D}(b:a.size=1)(h:∀(i:Nat) v y,a[i]?=some v->[AV.d x][i]?=some y->Wo O w v y):∃v,a=#[v]/\A5 O w v x:=by
 obtain⟨l⟩:=a
 match l,b with
 | [v],_=>exact⟨v,rfl,h 0 v _ rfl rfl⟩
def Adn{f:FuncId}{a b:Int}{x y c:Int}(t:0<=x/\0<=y/\0<=c)
 (h:∀(k m o:Nat)(w:Λ),x=k->y=m->c=o->(callFunc f #[.int .u64 k,.int .u64 m,.int .u64 o]).run prog w=.ok (.value (.tuple #[.int .u64 a,.int .u64 b])) w):
 jm prog f [.d (.int .u64 x),.d (.int .u64 y),.d (.int .u64 c)] (.tup [.d (.int .u64 a),.d (.int .u64 b)]):=by
 intro O w p e d
 obtain⟨g,i,j,rfl⟩:∃g i j,p=#[g,i,j]:=by
  obtain⟨l⟩:=p
  match l,e with
  | [g,i,j],_=>exact⟨g,i,j,rfl⟩
 have q:=AP (d 0 g _ rfl rfl);have r:=AP (d 1 i _ rfl rfl);have s:=AP (d 2 j _ rfl rfl);subst q;subst r;subst s;obtain⟨k,rfl⟩:∃n:Nat,x=n:=⟨x.toNat,by omega⟩;obtain⟨m,rfl⟩:∃n:Nat,y=n:=⟨y.toNat,by omega⟩;obtain⟨o,rfl⟩:∃n:Nat,c=n:=⟨c.toNat,by omega⟩;exact⟨_,h k m o w rfl rfl rfl,tup2 _ _⟩
def Aaq{a b c:Int}(h:((bp a&&bp b)&&(c==0||c==1))=true):(0<=a/\a<18446744073709551616)/\(0<=b/\b<18446744073709551616)/\(c=0\/c=1):=by
 unfold bp at h
 simpa [and_assoc] using h
def H7(b d f:Int)(R:Int×Int)(a:BI b d f=some R):jm prog 317 [.d (.int .u64 b),.d (.int .u64 d),.d (.int .u64 f)] (.tup [.d (.int .u64 R.1),.d (.int .u64 R.2)]):=by
 obtain⟨g,a⟩:=iN a;obtain rfl:=Option.some.inj a;obtain⟨k,l,m⟩:=Aaq g;refine Adn z0 λx y c w h i j=>?_;subst h;subst i;subst j;rw[run_callFunc_extern func317 (by kernel_rfl) (by kernel_rfl) (by kernel_rfl) (e:=add64Entry) (by kernel_rfl),run_add64 x y c z0 z0 z0 z0];simp only[Result.andThen]
def Uc(b d f:Int)(R:Int×Int)(a:MC b d f=some R):jm prog 393 [.d (.int .u64 b),.d (.int .u64 d),.d (.int .u64 f)] (.tup [.d (.int .u64 R.1),.d (.int .u64 R.2)]):=by
 obtain⟨g,a⟩:=iN a;obtain rfl:=Option.some.inj a;obtain⟨k,l,m⟩:=Aaq g;refine Adn z0 λx y c w h i j=>?_;subst h;subst i;subst j;rw[run_callFunc_extern func393 (by kernel_rfl) (by kernel_rfl) (by kernel_rfl) (e:=sub64Entry) (by kernel_rfl),run_sub64 x y c z0];have f2:((if x<y+c then 1 else 0:Nat):Int)=if(x:Int)<y+c then 1 else 0:=by split<;>split<;>omega
 rw[<-f2];simp only[Result.andThen];have f1:(((x+18446744073709551616-y-c)%18446744073709551616:Nat):Int)=((x:Int)-y-c)%18446744073709551616:=by omega
 rw[f1]
def Kt:∀(b c:Int)(R:Int×Int),BX b c=some R->A9 prog 319 [.d (.int .u64 b),.d (.int .u64 c)] (.tup [.d (.int .u64 R.1),.d (.int .u64 R.2)]):=λb c R i=>by
 obtain⟨o,i⟩:=iN i;obtain rfl:=Option.some.inj i;obtain⟨j,k⟩:=Bool.and_eq_true_iff.1 o;have j:=of_decide_eq_true j;have k:=of_decide_eq_true k;obtain⟨x,rfl⟩:∃n:Nat,b=n:=⟨b.toNat,by omega⟩;obtain⟨y,rfl⟩:∃n:Nat,c=n:=⟨c.toNat,by omega⟩;refine⟨by kernel_rfl,λO w m r s d a=>?_⟩
 obtain⟨f,g,rfl⟩:∃f g,m=#[f,g]:=by
  obtain⟨l⟩:=m
  match l,d with
  | [f,g],_=>exact⟨f,g,rfl⟩
 have p:=AP (a 0 f _ rfl rfl);have q:=AP (a 1 g _ rfl rfl);subst p;subst q;refine(Any.bits_Mul64 lays264 x y z0 z0 w).mono λe t h=>?_;obtain⟨rfl,rfl⟩:=h;exact⟨_,rfl,RowKit.Below.refl _ _,tup2 _ _⟩
theorem len_eq:∀(f x:Nat),x<2^f->Lib.bitLenAux f x=EJ x
 | 0,x,h=>by
   have:x=0:=by simpa using h
   subst this;rfl
 | f+1,x,h=>by
   unfold Lib.bitLenAux;rw[Nat.pow_succ]at h;rw[len_eq f (x/2) z0];unfold EJ;by_cases a:x=0
   ·rw[if_pos a,if_pos a]
   rw[if_neg a,if_neg a,Nat.log2_def x];split<;>split<;>omega
def Ks:∀(b R:Int),MB b=some R->A9 prog 277 [.d (.int .u64 b)] (.d (.int .i64 R)):=λb R d=>by
 obtain⟨f,d⟩:=iN d;obtain rfl:=Option.some.inj d;have h:=of_decide_eq_true f;refine⟨by kernel_rfl,λO w j k l c a=>?_⟩;obtain⟨v,rfl,g⟩:=one64 c a;have i:=AP g;subst i;refine(Any.bits_Len64 { lays171 with } b w z0 z0).mono λe m h=>?_;obtain⟨rfl,rfl⟩:=h;rw[show Lib.bitLen b.toNat=EJ b.toNat from len_eq 64 _ z0];exact⟨_,rfl,RowKit.Below.refl _ _,.int _ _⟩
theorem ctz_eq:∀(f x:Nat),Lib.ctzFrom f x=tzN f x
 | 0,x=>rfl
 | f+1,x=>by
   unfold Lib.ctzFrom tzN;rw[ctz_eq f,Nat.add_comm 1]
theorem ptr_at{O:Nat->Prop}{w:Λ}{p:Ψ}{q:D}{b:Nat}{a:Γ D}(h:A5 O w p q)(d:p=.pointer (some ⟨b,0,none⟩))(e:q=.ptr a)(j:Nat)(y:D)(f:a[j]?=some y):∃v,w.cell? ⟨b,j,none⟩=some v/\A5 O w v y:=by
 cases h with
 | ptr b g a c l m n i k=>
   cases d;cases e
   have:=i j y f;rw[Nat.zero_add]at this;exact⟨_,this,k j y f⟩
 | _=>first|cases d|cases e
def E6:∀(b R:Int),Fc b=some R->A9 prog 343 [.d (.int .u64 b)] (.d (.int .i64 R)):=λb R d=>by
 obtain⟨i,d⟩:=iN d;obtain rfl:=Option.some.inj d;obtain⟨k,l⟩:=Bool.and_eq_true_iff.1 i;have h:=of_decide_eq_true k;obtain⟨x,rfl⟩:∃n:Nat,b=n:=⟨b.toNat,by omega⟩
 have m:x≠0:=by
  intro e;subst e;simp at l
 refine⟨by kernel_rfl,λO w u y o c a=>?_⟩;obtain⟨v,rfl,p⟩:=one64 c a;have q:=AP p;subst q;refine(Any7.bits_TrailingZeros64 lays7_29 x z0 w λ_ j r=>?_).mono λe z h=>?_
 ·have s:(K7.map λn=>D.int .u8 n)[j]?=some (.int .u8 (Lib.deBruijn64tab.getD j 0)):=by
   have f:j<Ξ Lib.deBruijn64tab:=r;rw[show K7=Lib.deBruijn64tab.map λn:Nat=>(n:Int) by decide +kernel,List.getElem?_map,List.getElem?_map,List.getD_eq_getElem?_getD,List.getElem?_eq_getElem f];rfl
  obtain⟨v,g,t⟩:=ptr_at (o 2 _ rfl) rfl rfl j _ s;rw[AP t]at g;exact g
 ·obtain⟨rfl,rfl⟩:=h
  rw[show Lib.ctz 64 x=tzN 64 x from(if_neg m).trans (ctz_eq 64 x)];exact⟨_,rfl,RowKit.Below.refl _ _,.int _ _⟩
instance:CS prog 319 (type_of%@Kt):=⟨@Kt⟩
instance:CS prog 277 (type_of%@Ks):=⟨@Ks⟩
instance:CS prog 343 (type_of%@E6):=⟨@E6⟩
end
