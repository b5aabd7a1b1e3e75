/- FA -/
import Derived.Test.YtaojdkijihbaoaaGreatDoorProg
import Derived.KernelRfl
import Derived.IntWalk
import Derived.Laws.Externs
import Derived.Shelf.Spec.BitsCarry
import Derived.Test.YtaojdkijihbaoaaGreatDoorQD
open Go.IntKind (i64 u8 u64)
open Go.Proofs.Tryz
set_option linter.all false
namespace Go.Proofs.YtaojdkijihbaoaaGreatDoor.P
open Go.Abs Go.Proofs
theorem z30{p:Prop}(h:p:=by(conv=>whnf);exact⟨rfl⟩):p:=h
theorem z31{p:Prop}(h:p:=by have:=vw (n:=2) (by omega) hk;have:2 ^ k<=2 ^ k*(2*m+1):=xn _ (by omega);omega):p:=h
theorem z32{p:Prop}(h:p:=by obtain rfl:=uc ho;clear hd;go_simp;exact hK):p:=h
theorem z33{p:Prop}(h:p:=by(conv=>whnf);refine⟨.inl ?_⟩;exact z30):p:=h
theorem z34{p:Prop}(h:p:=by simp only[lJ];congr 2;omega):p:=h
end Go.Proofs.YtaojdkijihbaoaaGreatDoor.P
namespace Go.Proofs.YtaojdkijihbaoaaGreatDoor.P.F
open Go.Abs Go.Proofs
set_option maxRecDepth 10000
theorem wrap_small{n:Int}(a:-9223372036854775808<=n)(b:n<=9223372036854775807):i64.wrap n=n:=IntWalk.i64_in n ⟨a,b⟩
theorem next{k:Nat}(h:k<1000000000000):i64.wrap ((k:Int)+1)=((k+1:Nat):Int):=by rw[wrap_small (by omega) (by omega)];rfl
theorem P7(n:Int):u64.wrap n=n%18446744073709551616:=by
 have:u64.wrap n=n%(2 ^ 64):=by simp[IntKind.wrap,IntKind.signed,IntKind.bits]
 rw[this];rfl
theorem XG(a:Int)(k:Nat):a.fdiv (2 ^ k)=a/2 ^ k:=Int.fdiv_eq_ediv_of_nonneg _ (Int.le_of_lt (Int.pow_pos (by omega)))
theorem rT(x y:Int):u64.wrap ((BitVec.ofInt u64.bits x &&& BitVec.ofInt u64.bits y).toNat:Int)=(((x%18446744073709551616).toNat &&& (y%18446744073709551616).toNat:Nat):Int):=by
 have e:(BitVec.ofInt u64.bits x &&& BitVec.ofInt u64.bits y).toNat=((x%18446744073709551616).toNat &&& (y%18446744073709551616).toNat:Nat):=by
  rw[BitVec.toNat_and,BitVec.toNat_ofInt,BitVec.toNat_ofInt];rfl
 rw[e,P7];have a:((x%18446744073709551616).toNat &&& (y%18446744073709551616).toNat)<=(x%18446744073709551616).toNat:=Nat.and_le_left;omega
theorem tR(x y:Int):u64.wrap ((BitVec.ofInt u64.bits x ||| BitVec.ofInt u64.bits y).toNat:Int)=(((x%18446744073709551616).toNat ||| (y%18446744073709551616).toNat:Nat):Int):=by
 have e:(BitVec.ofInt u64.bits x ||| BitVec.ofInt u64.bits y).toNat=((x%18446744073709551616).toNat ||| (y%18446744073709551616).toNat:Nat):=by
  rw[BitVec.toNat_or,BitVec.toNat_ofInt,BitVec.toNat_ofInt];rfl
 rw[e,P7];have a:((x%18446744073709551616).toNat ||| (y%18446744073709551616).toNat)<2 ^ 64:=Nat.or_lt_two_pow (by omega) (by omega);omega
theorem rS(x:Int):u64.wrap ((BitVec.ofInt u64.bits x &&& BitVec.ofInt u64.bits 4294967295).toNat:Int)=x%4294967296:=by
 rw[rT];have:((x%18446744073709551616).toNat &&& ((4294967295:Int)%18446744073709551616).toNat)=(x%18446744073709551616).toNat%2 ^ 32:=Nat.and_two_pow_sub_one_eq_mod _ 32;rw[this];omega
theorem Ry(x:Int):x.fdiv (2 ^ min (Int.toNat 32) u64.bits)=x/4294967296:=XG x 32
theorem sp(x y:Int)(hx:0<=x)(i:x<18446744073709551616)(hy:0<=y)(j:y<18446744073709551616) :
 ((x/4294967296)*(y/4294967296)+((x/4294967296)*(y%4294967296)+(x%4294967296)*(y%4294967296)/4294967296)/4294967296+(((x/4294967296)*(y%4294967296)+(x%4294967296)*(y%4294967296)/4294967296)%4294967296+(x%4294967296)*(y/4294967296))/4294967296)=x*y/18446744073709551616:=by
 have f:x=4294967296*(x/4294967296)+x%4294967296:=by omega
 have g:y=4294967296*(y/4294967296)+y%4294967296:=by omega
 have h:∀b c d e:Int,(4294967296*b+c)*(4294967296*d+e)=18446744073709551616*(b*d)+4294967296*(b*e)+4294967296*(c*d)+c*e:=by
  intro b c d e;grind
 have a:x*y=(4294967296*(x/4294967296)+x%4294967296)*(4294967296*(y/4294967296)+y%4294967296):=by rw[<-f,<-g]
 rw[a,h];generalize x/4294967296*(y/4294967296)=p;generalize x/4294967296*(y%4294967296)=q;generalize x%4294967296*(y/4294967296)=r;generalize x%4294967296*(y%4294967296)=t;omega
theorem qZ(x y:Int)(hx:0<=x)(d:x<18446744073709551616)(hy:0<=y)(e:y<18446744073709551616) :
 (0<=(x/4294967296)*(y/4294967296)/\(x/4294967296)*(y/4294967296)<=18446744065119617025)/\(0<=(x/4294967296)*(y%4294967296)/\(x/4294967296)*(y%4294967296)<=18446744065119617025) /\
 (0<=(x%4294967296)*(y/4294967296)/\(x%4294967296)*(y/4294967296)<=18446744065119617025)/\(0<=(x%4294967296)*(y%4294967296)/\(x%4294967296)*(y%4294967296)<=18446744065119617025):=by
 have a:∀u v:Int,(0<=u/\u<=4294967295)->(0<=v/\v<=4294967295)->0<=u*v/\u*v<=18446744065119617025:=by
  intro u v c b;refine⟨Int.mul_nonneg c.1 b.1,?_⟩;have:=Int.mul_le_mul c.2 b.2 b.1 (by omega);omega
 exact⟨a _ _ (by omega) (by omega),a _ _ (by omega) (by omega),a _ _ (by omega) (by omega),a _ _ (by omega) (by omega)⟩
theorem mul64_(x y:Int)(hx:0<=x)(a:x<18446744073709551616)(hy:0<=y)(b:y<18446744073709551616) :
 Ax prog 288 [.d (.int .u64 x),.d (.int .u64 y)] (.tup [.d (.int .u64 (x*y/18446744073709551616)),.d (.int .u64 (x*y%18446744073709551616))]):=by
 refine Du func288 (by kernel_rfl) ?_
 conv=>whnf
 refine⟨by omega,?_⟩
 conv=>whnf
 refine⟨by omega,?_⟩
 conv=>whnf
 refine⟨by omega,?_⟩
 conv=>whnf
 refine⟨by omega,?_⟩
 conv=>whnf
 refine⟨by omega,?_⟩
 conv=>whnf
 refine⟨?_⟩;simp only[rS,Ry];simp only[P7];have c:=sp x y hx a hy b;obtain⟨d,e,f,g⟩:=qZ x y hx a hy b;rw[<-c];generalize x/4294967296*(y/4294967296)=p at *;generalize x/4294967296*(y%4294967296)=q at *;generalize x%4294967296*(y/4294967296)=r at *;generalize x%4294967296*(y%4294967296)=t at *;congr 4;clear c;omega
theorem pi(k m:Nat)(h:2 ^ k*(2*m+1)<2 ^ 64):(2 ^ k*(2*m+1)) &&& (2 ^ 64-2 ^ k*(2*m+1))=2 ^ k:=by
 have hk:0<2 ^ k:=vC k
 have c:2 ^ 64-2 ^ k*(2*m+1)=2 ^ 64-((2 ^ k*(2*m)+(2 ^ k-1))+1):=by
  have:2 ^ k*(2*m+1)=2 ^ k*(2*m)+2 ^ k:=by rw[Nat.mul_add,vV]
  omega
 apply Nat.eq_of_testBit_eq;intro i
 rw[Nat.testBit_and,c,Nat.testBit_two_pow_sub_succ (by
  have:2 ^ k*(2*m+1)=2 ^ k*(2*m)+2 ^ k:=by rw[Nat.mul_add,vV]
  omega),Nat.testBit_two_pow_mul_add _ (by omega),Nat.testBit_two_pow_mul,Nat.testBit_two_pow]
 have a:k<64:=by
  rcases uZ k 64 with hk|hk
  ·exact hk
  ·exact z31
 rcases wH i k with b|b|b
 ·simp[show ¬k<=i by omega,show k≠i by omega]
 ·subst b;simp[a,show 2*m+1=2*m+1 from rfl,Nat.testBit_zero]
 ·have e:(2*m+1).testBit (i-k)=(2*m).testBit (i-k):=by
   obtain⟨j,d⟩:∃j,i-k=j+1:=⟨i-k-1,by omega⟩;rw[d,Nat.testBit_succ,Nat.testBit_succ];congr 1;omega
  simp[show k<=i by omega,show ¬i<k by omega,show k≠i by omega,e];intro h _;exact h
theorem rI:∀k:Nat,k<64->Im[((2 ^ k*285870213051353865)%18446744073709551616/288230376151711744)]?=some (k:Int):=by decide +kernel
theorem tT(k m:Nat)(h:2 ^ k*(2*m+1)<18446744073709551616) :
 Ax prog 291 [.d (.int .u64 ((2 ^ k*(2*m+1):Nat):Int))] (.d (.int .i64 k)):=by
 have a:=pi k m h
 have b:k<64:=by
  rcases uZ k 64 with hk|hk
  ·exact hk
  ·exact z31
 have d:0<2 ^ k*(2*m+1):=Nat.mul_pos (vC k) (by omega);have c:=rI k b;generalize hx:2 ^ k*(2*m+1)=x at *;refine Du func291 (by kernel_rfl) ?_
 conv=>whnf
 refine br (λh=>?_) (λh=>?_)
 ·simp at h;omega
 conv=>whnf
 refine⟨by omega,?_⟩
 have e:u64.wrap ((BitVec.ofInt u64.bits (x:Int) &&& BitVec.ofInt u64.bits (u64.wrap (0-(x:Int)))).toNat:Int)=((2 ^ k:Nat):Int):=by
  rw[rT,P7,<-a];congr 2<;>omega
 have f:(u64.wrap (((2 ^ k:Nat):Int)*285870213051353865)).fdiv (2 ^ min (Int.toNat 58) u64.bits)=(((2 ^ k*285870213051353865)%18446744073709551616/288230376151711744:Nat):Int):=by
  have:(u64.wrap (((2 ^ k:Nat):Int)*285870213051353865)).fdiv (2 ^ min (Int.toNat 58) u64.bits)=(u64.wrap (((2 ^ k:Nat):Int)*285870213051353865))/288230376151711744:=XG _ 58;rw[this,P7];generalize 2 ^ k=q;omega
 have g:(2 ^ k*285870213051353865)%18446744073709551616/288230376151711744<64:=by omega
 generalize i:(2 ^ k*285870213051353865)%18446744073709551616/288230376151711744=j at *;rw[e,f]
 conv=>whnf
 refine⟨by omega,?_⟩;refine⟨⟨by omega,.int .u8 k,?_,?_⟩⟩
 ·rw[uv,uu,c];rfl
 conv=>whnf
 refine⟨?_⟩;rw[wrap_small (by omega) (by omega)];rfl
def MB(x n:Nat):Prop:=x<2 ^ n/\(n=0\/2 ^ (n-1)<=x)
theorem MB.unique{x n m:Nat}(h:MB x n)(k:MB x m):n=m:=by
 have key:∀{x n m:Nat},MB x n->MB x m->¬n<m:=by
  intro x n m h k a;rcases k.2 with b|b
  ·omega
  ·have:=vw (n:=2) (by omega) (show n<=m-1 by omega);have:=h.1;omega
 have c:=key h k;have d:=key k h;omega
theorem MB.shift{x n s:Nat}(h:MB (x/2 ^ s) n)(b:0<x/2 ^ s):MB x (s+n):=by
 have hp:=vC s;refine⟨?_,.inr ?_⟩
 ·have:=(wC hp).1 h.1;rw[vW,vA];exact this
 ·rcases h.2 with a|a
  ·subst a;have:=h.1;rw[Nat.pow_zero]at this;omega
  ·have:=(Nat.le_div_iff_mul_le hp).1 a
   have b:n≠0:=by
    intro e;subst e;have:=h.1;simp at this;omega
   rw[show s+n-1=(n-1)+s by omega,vW];exact this
def IW:List Nat:=(List.range 256).map λx=>if x=0 then 0 else x.log2+1
theorem jV:∀x,x<256->MB x (IW.getD x 0):=by
 intro x hx
 have:IW.getD x 0=if x=0 then 0 else x.log2+1:=by
  simp[IW,List.getD,hx]
 rw[this];split
 ·subst_vars;exact⟨by decide,.inl rfl⟩
 ·rename_i a
  exact⟨Nat.lt_log2_self,.inr (Nat.log2_self_le a)⟩
theorem JH:∀x,IW.getD x 0<=8:=by
 intro x;by_cases hx:x<256
 ·revert x;decide +kernel
 ·simp[IW,List.getD,hx]
theorem W9(x:Int):x.fdiv (2 ^ min (Int.toNat 16) u64.bits)=x/65536:=XG x 16
theorem pP(x:Int):x.fdiv (2 ^ min (Int.toNat 8) u64.bits)=x/256:=XG x 8
theorem WE(n:Int):u8.wrap n=n%256:=by
 have:u8.wrap n=n%(2 ^ 8):=by simp[IntKind.wrap,IntKind.signed,IntKind.bits]
 rw[this];rfl
theorem Il(s:ByteArray)(a:s.data.toList=IW.map UInt8.ofNat)(y:Nat)(hy:y<256):Gw s (y:Int)=(IW.getD y 0:Nat):=by
 unfold Gw;rw[a,uv];revert y;decide +kernel
theorem QW(x n S s y:Nat)(c:S=2 ^ s)(a:MB x n)(hy:y=x/S)(d:y<256)(hp:0<y\/s=0):n=s+IW.getD y 0:=by
 subst c;have b:=jV y d;rcases hp with hp|hp
 ·subst hy;exact a.unique (b.shift hp)
 ·subst hp;simp at hy;subst hy;rw[uQ];exact a.unique b
theorem mI(x n:Nat)(hx:x<18446744073709551616)(f:MB x n):Ax prog 247 [.d (.int .u64 x)] (.d (.int .i64 n)):=by
 refine Du func247 (by kernel_rfl) ?_
 conv=>whnf
 refine br (λd=>?_) (λd=>?_)
 ·have d:=uf d
  conv=>whnf
  refine⟨by omega,?_⟩
  conv=>whnf
  refine br (λb=>?_) (λb=>?_)
  ·have b:=uf b;rw[Ry]at b
   conv=>whnf
   refine⟨by omega,?_⟩
   conv=>whnf
   refine br (λa=>?_) (λa=>?_)
   ·have a:=uf a;rw[W9,Ry]at a
    conv=>whnf
    refine⟨by omega,?_⟩
    conv=>whnf
    have e:u8.wrap ((((x:Int).fdiv (2 ^ min (Int.toNat 32) u64.bits)).fdiv (2 ^ min (Int.toNat 16) u64.bits)).fdiv (2 ^ min (Int.toNat 8) u64.bits))=((x/72057594037927936:Nat):Int):=by
     rw[WE,pP,W9,Ry];omega
    have g:=QW x n 72057594037927936 56 (x/72057594037927936) (by decide) f rfl (by omega) (.inl (by omega));have c:=JH (x/72057594037927936);refine⟨⟨by rw[e];omega,by rw[e,uv];exact uw (show x/72057594037927936<256 by omega) (by decide +kernel)⟩,?_⟩
    conv=>whnf
    refine⟨?_⟩;rw[e,Il _ (by decide +kernel) _ (by omega)];generalize IW.getD (x/72057594037927936) 0=q at *;rw[wrap_small (n:=(q:Int)) (by omega) (by omega)];rw[wrap_small (n:=32+16) (by omega) (by omega),wrap_small (n:=32+16+8) (by omega) (by omega),wrap_small (n:=32+16+8+(q:Int)) (by omega) (by omega)];exact z34
   ·have a:=vt a;rw[W9,Ry]at a
    conv=>whnf
    have e:u8.wrap (((x:Int).fdiv (2 ^ min (Int.toNat 32) u64.bits)).fdiv (2 ^ min (Int.toNat 16) u64.bits))=((x/281474976710656:Nat):Int):=by
     rw[WE,W9,Ry];omega
    have g:=QW x n 281474976710656 48 (x/281474976710656) (by decide) f rfl (by omega) (.inl (by omega));have c:=JH (x/281474976710656);refine⟨⟨by rw[e];omega,by rw[e,uv];exact uw (show x/281474976710656<256 by omega) (by decide +kernel)⟩,?_⟩
    conv=>whnf
    refine⟨?_⟩;rw[e,Il _ (by decide +kernel) _ (by omega)];generalize IW.getD (x/281474976710656) 0=q at *;rw[wrap_small (n:=(q:Int)) (by omega) (by omega)];rw[wrap_small (n:=32+16) (by omega) (by omega),wrap_small (n:=32+16+(q:Int)) (by omega) (by omega)];exact z34
  ·have b:=vt b;rw[Ry]at b
   conv=>whnf
   refine br (λa=>?_) (λa=>?_)
   ·have a:=uf a;rw[Ry]at a
    conv=>whnf
    refine⟨by omega,?_⟩
    conv=>whnf
    have e:u8.wrap (((x:Int).fdiv (2 ^ min (Int.toNat 32) u64.bits)).fdiv (2 ^ min (Int.toNat 8) u64.bits))=((x/1099511627776:Nat):Int):=by
     rw[WE,pP,Ry];omega
    have g:=QW x n 1099511627776 40 (x/1099511627776) (by decide) f rfl (by omega) (.inl (by omega));have c:=JH (x/1099511627776);refine⟨⟨by rw[e];omega,by rw[e,uv];exact uw (show x/1099511627776<256 by omega) (by decide +kernel)⟩,?_⟩
    conv=>whnf
    refine⟨?_⟩;rw[e,Il _ (by decide +kernel) _ (by omega)];generalize IW.getD (x/1099511627776) 0=q at *;rw[wrap_small (n:=(q:Int)) (by omega) (by omega)];rw[wrap_small (n:=32+8) (by omega) (by omega),wrap_small (n:=32+8+(q:Int)) (by omega) (by omega)];exact z34
   ·have a:=vt a;rw[Ry]at a
    conv=>whnf
    have e:u8.wrap ((x:Int).fdiv (2 ^ min (Int.toNat 32) u64.bits))=((x/4294967296:Nat):Int):=by
     rw[WE,Ry];omega
    have g:=QW x n 4294967296 32 (x/4294967296) (by decide) f rfl (by omega) (.inl (by omega));have c:=JH (x/4294967296);refine⟨⟨by rw[e];omega,by rw[e,uv];exact uw (show x/4294967296<256 by omega) (by decide +kernel)⟩,?_⟩
    conv=>whnf
    refine⟨?_⟩;rw[e,Il _ (by decide +kernel) _ (by omega)];generalize IW.getD (x/4294967296) 0=q at *;rw[wrap_small (n:=(q:Int)) (by omega) (by omega)];rw[wrap_small (n:=32+(q:Int)) (by omega) (by omega)];exact z34
 ·have d:=vt d
  conv=>whnf
  refine br (λb=>?_) (λb=>?_)
  ·have b:=uf b
   conv=>whnf
   refine⟨by omega,?_⟩
   conv=>whnf
   refine br (λa=>?_) (λa=>?_)
   ·have a:=uf a;rw[W9]at a
    conv=>whnf
    refine⟨by omega,?_⟩
    conv=>whnf
    have e:u8.wrap (((x:Int).fdiv (2 ^ min (Int.toNat 16) u64.bits)).fdiv (2 ^ min (Int.toNat 8) u64.bits))=((x/16777216:Nat):Int):=by
     rw[WE,pP,W9];omega
    have g:=QW x n 16777216 24 (x/16777216) (by decide) f rfl (by omega) (.inl (by omega));have c:=JH (x/16777216);refine⟨⟨by rw[e];omega,by rw[e,uv];exact uw (show x/16777216<256 by omega) (by decide +kernel)⟩,?_⟩
    conv=>whnf
    refine⟨?_⟩;rw[e,Il _ (by decide +kernel) _ (by omega)];generalize IW.getD (x/16777216) 0=q at *;rw[wrap_small (n:=(q:Int)) (by omega) (by omega)];rw[wrap_small (n:=0+16) (by omega) (by omega),wrap_small (n:=0+16+8) (by omega) (by omega),wrap_small (n:=0+16+8+(q:Int)) (by omega) (by omega)];exact z34
   ·have a:=vt a;rw[W9]at a
    conv=>whnf
    have e:u8.wrap ((x:Int).fdiv (2 ^ min (Int.toNat 16) u64.bits))=((x/65536:Nat):Int):=by
     rw[WE,W9];omega
    have g:=QW x n 65536 16 (x/65536) (by decide) f rfl (by omega) (.inl (by omega));have c:=JH (x/65536);refine⟨⟨by rw[e];omega,by rw[e,uv];exact uw (show x/65536<256 by omega) (by decide +kernel)⟩,?_⟩
    conv=>whnf
    refine⟨?_⟩;rw[e,Il _ (by decide +kernel) _ (by omega)];generalize IW.getD (x/65536) 0=q at *;rw[wrap_small (n:=(q:Int)) (by omega) (by omega)];rw[wrap_small (n:=0+16) (by omega) (by omega),wrap_small (n:=0+16+(q:Int)) (by omega) (by omega)];exact z34
  ·have b:=vt b
   conv=>whnf
   refine br (λa=>?_) (λa=>?_)
   ·have a:=uf a
    conv=>whnf
    refine⟨by omega,?_⟩
    conv=>whnf
    have e:u8.wrap ((x:Int).fdiv (2 ^ min (Int.toNat 8) u64.bits))=((x/256:Nat):Int):=by
     rw[WE,pP];omega
    have g:=QW x n 256 8 (x/256) (by decide) f rfl (by omega) (.inl (by omega));have c:=JH (x/256);refine⟨⟨by rw[e];omega,by rw[e,uv];exact uw (show x/256<256 by omega) (by decide +kernel)⟩,?_⟩
    conv=>whnf
    refine⟨?_⟩;rw[e,Il _ (by decide +kernel) _ (by omega)];generalize IW.getD (x/256) 0=q at *;rw[wrap_small (n:=(q:Int)) (by omega) (by omega)];rw[wrap_small (n:=0+8) (by omega) (by omega),wrap_small (n:=0+8+(q:Int)) (by omega) (by omega)];exact z34
   ·have a:=vt a
    conv=>whnf
    have e:u8.wrap (x:Int)=((x/1:Nat):Int):=by
     rw[WE];omega
    have g:=QW x n 1 0 (x/1) (by decide) f rfl (by omega) (.inr rfl);have c:=JH (x/1);refine⟨⟨by rw[e];omega,by rw[e,uv];exact uw (show x/1<256 by omega) (by decide +kernel)⟩,?_⟩
    conv=>whnf
    refine⟨?_⟩;rw[e,Il _ (by decide +kernel) _ (by omega)];generalize IW.getD (x/1) 0=q at *;rw[wrap_small (n:=(q:Int)) (by omega) (by omega)];rw[wrap_small (n:=0+(q:Int)) (by omega) (by omega)];exact z34
def W(z:Int):D:=.agg [.int .u64 (Hi z),.int .u64 (Lo z)]
theorem da(z:Int):(0<=Hi z/\Hi z<18446744073709551616)/\0<=Lo z/\Lo z<18446744073709551616:=by unfold Hi Lo;omega
theorem ZQ{h l z:Int}(a:h=Hi z)(b:l=Lo z):D.agg [.int .u64 h,.int .u64 l]=W z:=by subst a;subst b;rfl
theorem add64_(x y c:Int)(hx:0<=x)(hy:0<=y)(v:c=0\/c=1) :
 gV prog 286 [.d (.int .u64 x),.d (.int .u64 y),.d (.int .u64 c)] (.tup [.d (.int .u64 ((x+y+c)%18446744073709551616)),.d (.int .u64 ((x+y+c)/18446744073709551616))]):=by
 intro O w vs g a
 obtain⟨h,k,m,rfl⟩:∃h k m,vs=#[h,k,m]:=by
  obtain⟨l⟩:=vs
  match l,g with
  | [h,k,m],_=>exact⟨h,k,m,rfl⟩
 have p:=AJ (a 0 h _ rfl rfl);have q:=AJ (a 1 k _ rfl rfl);have r:=AJ (a 2 m _ rfl rfl);subst p;subst q;subst r;obtain⟨o,rfl⟩:∃n:Nat,x=n:=⟨x.toNat,by omega⟩;obtain⟨y',rfl⟩:∃n:Nat,y=n:=⟨y.toNat,by omega⟩;obtain⟨c',rfl⟩:∃n:Nat,c=n:=⟨c.toNat,by omega⟩;refine⟨.tuple #[.int .u64 (((o+y'+c')%18446744073709551616:Nat):Int),.int .u64 (((o+y'+c')/18446744073709551616:Nat):Int)],?_,?_⟩
 ·rw[run_callFunc_extern func286 (by kernel_rfl) (by kernel_rfl) (by kernel_rfl) (e:=add64Entry) (by kernel_rfl),run_add64 o y' c' (by omega) (by omega) (by omega) (by omega)];simp only[Result.andThen];congr 5<;>omega
 ·refine⟨_,rfl,rfl,λi u x d hx=>?_,λi j u u' sz e ys s z t b A B f=>?_⟩
  ·match i,d,hx with
   | 0,d,hx=>simp at d hx;subst d;subst hx;exact .int _ _
   | 1,d,hx=>simp at d hx;subst d;subst hx;exact .int _ _
   | i+2,d,hx=>simp at d
  ·match i,f with
   | 0,f=>simp at f
   | 1,f=>simp at f
   | i+2,f=>simp at f
theorem sq(n:Int)(c:0<=n)(d:n<18446744073709551616):u64.wrap ((BitVec.ofInt u64.bits (if u64.signed=true then -1 else u64.max) ^^^ BitVec.ofInt u64.bits n).toNat:Int)=18446744073709551615-n:=by
 have e:(BitVec.ofInt u64.bits (if u64.signed=true then -1 else u64.max) ^^^ BitVec.ofInt u64.bits n).toNat=18446744073709551615 ^^^ n.toNat:=by
  rw[BitVec.toNat_xor,BitVec.toNat_ofInt,BitVec.toNat_ofInt]
  have:(n%((2 ^ u64.bits:Nat):Int)).toNat=n.toNat:=by
   rw[Int.emod_eq_of_lt c (by simpa [IntKind.bits] using d)]
  rw[this];rfl
 have f:18446744073709551615 ^^^ n.toNat=18446744073709551615-n.toNat:=by
  have a:n.toNat<2 ^ 64:=by omega
  have:(2 ^ 64-1) ^^^ n.toNat=2 ^ 64-(n.toNat+1):=by
   apply Nat.eq_of_testBit_eq;intro i;rw[Nat.testBit_xor,Nat.testBit_two_pow_sub_one,Nat.testBit_two_pow_sub_succ a];by_cases b:i<64
   ·simp[b]
   ·simp[b,Nat.testBit_lt_two_pow (uw a (vw (by omega) (show 64<=i by omega)))]
  have g:(18446744073709551615:Nat)=2 ^ 64-1:=by decide
  rw[g,this];omega
 rw[e,f,P7];omega
theorem whole_(n:Int)(a:-9223372036854775808<=n)(b:n<=9223372036854775807):Ax prog 221 [.d (.int .i64 n)] (.d (W n)):=by
 refine Du func221 (by kernel_rfl) ?_
 conv=>whnf
 refine⟨by omega,?_⟩
 conv=>whnf
 refine⟨?_⟩;have e:n.fdiv (2 ^ min (Int.toNat 63) i64.bits)=n/9223372036854775808:=XG n 63;rw[e,P7,P7];exact congrArg AV.d (ZQ (by unfold Hi;omega) (by unfold Lo;omega))
theorem plus_(a b:Int):Ax prog 239 [.d (W a),.d (W b)] (.d (W (a+b))):=by
 refine Du func239 (by kernel_rfl) ?_;have c:=da a;have d:=da b
 conv=>whnf
 refine lK (add64_ (Lo a) (Lo b) 0 (by omega) (by omega) (.inl rfl)) ?_
 conv=>whnf
 refine lK (add64_ (Hi a) (Hi b) ((Lo a+Lo b+0)/18446744073709551616) (by omega) (by omega) (by omega)) ?_
 conv=>whnf
 refine⟨?_⟩;exact congrArg AV.d (ZQ (by unfold Hi Lo;omega) (by unfold Lo;omega))
theorem opposite_(a:Int):Ax prog 274 [.d (W a)] (.d (W (-a))):=by
 refine Du func274 (by kernel_rfl) ?_;have b:=da a
 conv=>whnf
 rw[sq _ b.1.1 b.1.2,sq _ b.2.1 b.2.2,ZQ (h:=18446744073709551615-Hi a) (l:=18446744073709551615-Lo a) (z:=-a-1) (by unfold Hi;omega) (by unfold Lo;omega),ZQ (h:=0) (l:=1) (z:=1) (by decide) (by decide)];refine A4 (plus_ (-a-1) 1) ?_;rw[show -a-1+1=-a by omega];exact z30
theorem minus_(a b:Int):Ax prog 240 [.d (W a),.d (W b)] (.d (W (a-b))):=by
 refine Du func240 (by kernel_rfl) ?_
 conv=>whnf
 refine⟨⟨by decide +kernel,by kernel_rfl⟩,?_⟩
 conv=>whnf
 refine A4 (opposite_ b) ?_
 conv=>whnf
 refine A4 (plus_ a (-b)) ?_;rw[show a + -b=a-b by omega];exact z30
theorem times_(a b:Int):Ax prog 242 [.d (W a),.d (W b)] (.d (W (a*b))):=by
 refine Du func242 (by kernel_rfl) ?_;have j:=da a;have k:=da b
 conv=>whnf
 refine A4 (mul64_ (Lo a) (Lo b) (by omega) (by omega) (by omega) (by omega)) ?_
 conv=>whnf
 refine⟨?_⟩
 have c:a*b=18446744073709551616*(18446744073709551616*((a/18446744073709551616)*(b/18446744073709551616))+(a/18446744073709551616)*Lo b+Lo a*(b/18446744073709551616))+Lo a*Lo b:=by
  have e:a=18446744073709551616*(a/18446744073709551616)+Lo a:=by unfold Lo;omega
  have f:b=18446744073709551616*(b/18446744073709551616)+Lo b:=by unfold Lo;omega
  have:∀A x B y:Int,(18446744073709551616*A+x)*(18446744073709551616*B+y)=18446744073709551616*(18446744073709551616*(A*B)+A*y+x*B)+x*y:=by intro A x B y;grind
  have d:=this (a/18446744073709551616) (Lo a) (b/18446744073709551616) (Lo b);rw[<-e,<-f]at d;exact d
 refine congrArg AV.d (ZQ ?_ ?_)
 ·rw[P7,P7,P7,P7];have g:Hi a*Lo b%18446744073709551616=(a/18446744073709551616)*Lo b%18446744073709551616:=by unfold Hi;rw[Int.mul_emod,Int.emod_emod,<-Int.mul_emod]
  have h:Lo a*Hi b%18446744073709551616=Lo a*(b/18446744073709551616)%18446744073709551616:=by unfold Hi;rw[Int.mul_emod,Int.emod_emod,<-Int.mul_emod]
  rw[g,h]
  have i:Hi (a*b)=(18446744073709551616*((a/18446744073709551616)*(b/18446744073709551616))+(a/18446744073709551616)*Lo b+Lo a*(b/18446744073709551616)+Lo a*Lo b/18446744073709551616)%18446744073709551616:=by
   unfold Hi;rw[c];congr 1;omega
  rw[i];generalize (a/18446744073709551616)*(b/18446744073709551616)=p;generalize (a/18446744073709551616)*Lo b=q;generalize Lo a*(b/18446744073709551616)=r;generalize Lo a*Lo b=t;omega
 ·unfold Lo;rw[<-Int.mul_emod]
theorem sign_(z:Int)(b:-B127<=z)(c:z<B127):Ax prog 273 [.d (W z)] (.d (.int .i64 z.sign)):=by
 unfold B127 at b c;refine Du func273 (by kernel_rfl) ?_;have e:(Hi z).fdiv (2 ^ min (Int.toNat 63) u64.bits)=Hi z/9223372036854775808:=XG _ 63
 conv=>whnf
 refine⟨by omega,?_⟩;rw[e]
 conv=>whnf
 refine br (λh=>?_) (λh=>?_)
 ·have h:Hi z/9223372036854775808=1:=by simpa using h
  have a:z<0:=by unfold Hi at h;omega
  conv=>whnf
  exact⟨by rw[vP a];rfl⟩
 have h:Hi z/9223372036854775808≠1:=by simpa using h
 have a:0<=z:=by unfold Hi at h;omega
 conv=>whnf
 refine⟨⟨by kernel_rfl,by kernel_rfl⟩,?_⟩
 conv=>whnf
 refine⟨by kernel_rfl,?_⟩
 conv=>whnf
 refine br (λq=>?_) (λq=>?_)
 ·have q:Hi z=0/\Lo z=0:=by simpa using q
  have:z=0:=by unfold Hi Lo at q;omega
  subst this;exact z30
 ·have q:¬(Hi z=0/\Lo z=0):=by simpa using q
  have:0<z:=by
   rcases Int.lt_or_eq_of_le a with h|h
   ·exact h
   ·subst h;exact absurd ⟨rfl,rfl⟩ q
  conv=>whnf
  exact⟨by rw[wR this];rfl⟩
theorem ja(z:Int)(a:-B127<=z)(b:z<B127):Ax prog 276 [.d (W z)] (.d (W (z.natAbs:Int))):=by
 refine Du func276 (by kernel_rfl) ?_
 conv=>whnf
 refine A4 (sign_ z a b) ?_;rcases Int.lt_trichotomy z 0 with h|h|h
 ·rw[vP h,show((z.natAbs:Nat):Int)=-z by omega]
  conv=>whnf
  refine A4 (opposite_ z) ?_;exact z30
 ·subst h;exact z30
 ·rw[wR h,show((z.natAbs:Nat):Int)=z by omega];exact z30
theorem iG(x n:Nat)(hx:(x:Int)<B127)(c:MB x n):Ax prog 302 [.d (W x)] (.d (.int .i64 n)):=by
 unfold B127 at hx;refine Du func302 (by kernel_rfl) ?_
 conv=>whnf
 have a:Hi x=((x/18446744073709551616:Nat):Int):=by unfold Hi;omega
 have f:Lo x=((x%18446744073709551616:Nat):Int):=by unfold Lo;omega
 refine br (λh=>?_) (λh=>?_)
 ·have h:Hi x>0:=uf h;rw[a]at h;obtain⟨m,b⟩:∃m,MB (x/18446744073709551616) m:=⟨(x/18446744073709551616).log2+1,Nat.lt_log2_self,.inr (Nat.log2_self_le (by omega))⟩;have e:=c.unique (b.shift (s:=64) (by omega))
  have d:m<=64:=by
   rcases b.2 with q|q
   ·omega
   ·rcases uZ 64 m with k|k
    ·have:=vw (n:=2) (by omega) (show 64<=m-1 by omega);omega
    ·exact k
  conv=>whnf
  rw[a];refine A4 (mI _ m (by omega) b) ?_
  conv=>whnf
  refine⟨?_⟩;rw[wrap_small (by omega) (by omega),e];rfl
 ·have h:¬Hi x>0:=vt h;rw[a]at h
  conv=>whnf
  rw[f];refine A4 (mI _ n (by omega) (by rw[wk (by omega)];exact c)) ?_;exact z30
theorem Ye:∀(x:Nat),0<x->∃k m,x=2 ^ k*(2*m+1):=by
 intro x
 induction x using Nat.strongRecOn with
 | _ x ih =>
   intro hx;by_cases h:x%2=1
   ·exact⟨0,x/2,by rw[Nat.pow_zero];omega⟩
   ·obtain⟨k,m,e⟩:=ih (x/2) (by omega) (by omega);refine⟨k+1,m,?_⟩;have:x=2*(x/2):=by omega
    rw[this,e,Nat.pow_succ,vA (2 ^ k) 2,wb]
theorem bA(k m:Nat)(hx:((2 ^ k*(2*m+1):Nat):Int)<B127):Ax prog 299 [.d (W ((2 ^ k*(2*m+1):Nat):Int))] (.d (.int .i64 k)):=by
 unfold B127 at hx;refine Du func299 (by kernel_rfl) ?_
 have d:k<127:=by
  rcases uZ k 127 with hk|hk
  ·exact hk
  ·exact z31
 have n:Hi ((2 ^ k*(2*m+1):Nat):Int)=((2 ^ k*(2*m+1)/18446744073709551616:Nat):Int):=by unfold Hi;omega
 have i:Lo ((2 ^ k*(2*m+1):Nat):Int)=((2 ^ k*(2*m+1)%18446744073709551616:Nat):Int):=by unfold Lo;omega
 by_cases hk:64<=k
 ·obtain⟨j,rfl⟩:∃j,k=64+j:=⟨k-64,by omega⟩;have e:2 ^ (64+j)*(2*m+1)=18446744073709551616*(2 ^ j*(2*m+1)):=by rw[vW,wb]
  have a:Lo ((2 ^ (64+j)*(2*m+1):Nat):Int)=0:=by rw[i,e,Nat.mul_mod_right];rfl
  have c:Hi ((2 ^ (64+j)*(2*m+1):Nat):Int)=((2 ^ j*(2*m+1):Nat):Int):=by rw[n,e,xo _ (by omega)]
  have b:2 ^ j*(2*m+1)<18446744073709551616:=by rw[e]at hx;omega
  generalize ((2 ^ (64+j)*(2*m+1):Nat):Int)=z at a c
  conv=>whnf
  rw[a]
  conv=>whnf
  rw[c];refine A4 (tT j m b) ?_
  conv=>whnf
  refine⟨?_⟩;rw[wrap_small (by omega) (by omega)];rfl
 ·have f:2 ^ 64=2 ^ k*2 ^ (64-k):=by rw[<-vW];congr 1;omega
  obtain⟨j,o⟩:∃j,64-k=j+1:=⟨63-k,by omega⟩
  have e:2 ^ k*(2*m+1)%18446744073709551616=2 ^ k*(2*(m%2 ^ j)+1):=by
   rw[show(18446744073709551616:Nat)=2 ^ k*2 ^ (64-k)from f,Nat.mul_mod_mul_left,o,Nat.pow_succ];congr 1;have p:=vC j;have g:m=2 ^ j*(m/2 ^ j)+m%2 ^ j:=(wF m _).symm;have s:=wK m p;generalize m%2 ^ j=r at g s;generalize m/2 ^ j=q at g;generalize 2 ^ j=t at *;have u:2*m+1=(2*r+1)+(t*2)*q:=by rw[g];grind
   rw[u,Nat.add_mul_mod_self_left,wk (by omega)]
  have a:Lo ((2 ^ k*(2*m+1):Nat):Int)=((2 ^ k*(2*(m%2 ^ j)+1):Nat):Int):=by rw[i,e]
  have b:2 ^ k*(2*(m%2 ^ j)+1)<18446744073709551616:=by rw[<-e];exact wK _ (by omega)
  have l:0<2 ^ k*(2*(m%2 ^ j)+1):=Nat.mul_pos (vC k) (by omega);generalize ((2 ^ k*(2*m+1):Nat):Int)=z at a
  conv=>whnf
  rw[a];refine br (λh=>?_) (λh=>?_)
  ·have h:=eq_of_beq h;omega
  conv=>whnf
  refine A4 (tT k (m%2 ^ j) b) ?_;exact z30
theorem pO(a:Int)(n:Nat)(b:n<=64):u64.wrap (a*2 ^ (min ((n:Int)).toNat u64.bits))=a*((2 ^ n:Nat):Int)%18446744073709551616:=by
 rw[P7,uv,show u64.bits=64 from rfl,we b];congr 2
theorem pQ(a:Int)(n:Nat)(b:n<=64):a.fdiv (2 ^ (min ((n:Int)).toNat u64.bits))=a/((2 ^ n:Nat):Int):=by
 rw[uv,show u64.bits=64 from rfl,we b,XG];congr 1
theorem qA(i x y:Nat)(hy:y<2 ^ i):(2 ^ i*x) ||| y=2 ^ i*x+y:=(Nat.two_pow_add_eq_or_of_lt hy x).symm
theorem ZA{n:Nat}(a:n<=64):18446744073709551616=2 ^ n*2 ^ (64-n):=by
 rw[<-vW,show n+(64-n)=64 by omega]
theorem se(A u v M:Nat)(a:M=u*v):(A%M)*u%M=u*(A%v):=by
 rw[Nat.mul_mod,Nat.mod_mod,<-Nat.mul_mod,vA A u,a,Nat.mul_mod_mul_left]
theorem tg(x u v M:Nat)(a:M=u*v)(b:0<u)(c:0<M):x*u/M=u*(x/M)+x%M/v:=by
 have h:=wF x M;generalize x/M=q at *;generalize x%M=r at *;subst h;rw[vD,wb,Nat.mul_add_div c,vA q u,vA r u,a,Nat.mul_div_mul_left _ _ b]
theorem sf(q l u v M:Nat)(b:M=u*v)(e:l<u)(c:0<v):(u*q+l)%M=u*(q%v)+l:=by
 have h:=wF q v;have d:=wK q c;generalize q/v=a at *;generalize q%v=r at *;subst h;rw[show u*(v*a+r)+l=(u*r+l)+M*a from by rw[b];grind,Nat.add_mul_mod_self_left,wk];have:u*(r+1)<=u*v:=wL _ d;rw[Nat.mul_add,vV]at this;omega
theorem ti(x u v M:Nat)(a:M=u*v)(b:0<u):x/u=v*(x/M)+x%M/u:=by
 have h:=wF x M;generalize x/M=q at *;generalize x%M=r at *;subst h;rw[a,wb,Nat.mul_add_div b]
theorem pf(x n:Nat)(c:n<=64):(((x/18446744073709551616%18446744073709551616)*2 ^ n%18446744073709551616) ||| (x%18446744073709551616/2 ^ (64-n)))=x*2 ^ n/18446744073709551616%18446744073709551616:=by
 have hp:=ZA c;have d:=vC n;have a:=vC (64-n)
 have b:x%18446744073709551616/2 ^ (64-n)<2 ^ n:=by
  rw[wC a];have:=wK x (show 18446744073709551616>0 by omega);rw[<-hp];exact this
 rw[se _ _ _ _ hp,qA n _ _ b,tg x _ _ _ hp d (by omega),sf _ _ _ _ _ hp b a]
theorem nL(x n:Nat)(d:n<=64):((x%18446744073709551616/2 ^ n) ||| ((x/18446744073709551616%18446744073709551616)*2 ^ (64-n)%18446744073709551616))=x/2 ^ n%18446744073709551616:=by
 have hp:=ZA d;have a:18446744073709551616=2 ^ (64-n)*2 ^ n:=by rw[vA];exact hp
 have b:=vC n;have e:=vC (64-n)
 have c:x%18446744073709551616/2 ^ n<2 ^ (64-n):=by
  rw[wC b,<-a];exact wK x (by omega)
 rw[se _ _ _ _ a,Nat.or_comm,qA _ _ _ c,ti x _ _ _ hp b,sf _ _ _ _ _ a c b]
theorem ie(a b:Nat):(((a:Nat):Int)*((b:Nat):Int)%18446744073709551616%18446744073709551616).toNat=a*b%18446744073709551616:=by rw[<-Int.natCast_mul];omega
theorem ic(a b:Nat)(h:a<18446744073709551616):(((a:Nat):Int)/((b:Nat):Int)%18446744073709551616).toNat=a/b:=by
 rw[<-Int.natCast_ediv];have:=xi a b;generalize a/b=q at *;omega
theorem qg(x:Nat):Hi (x:Int)=((x/18446744073709551616%18446744073709551616:Nat):Int):=by unfold Hi;omega
theorem qj(x:Nat):Lo (x:Int)=((x%18446744073709551616:Nat):Int):=by unfold Lo;omega
theorem qy(x n:Nat)(b:n<128):Ax prog 301 [.d (W x),.d (.int .i64 n)] (.d (W ((x*2 ^ n:Nat):Int))):=by
 refine Du func301 (by kernel_rfl) ?_
 conv=>whnf
 refine br (λh=>?_) (λh=>?_)
 ·have h:=uf h;obtain⟨j,rfl⟩:∃j,n=64+j:=⟨n-64,by omega⟩;have e:i64.wrap (((64+j:Nat):Int)-64)=(j:Int):=by rw[wrap_small (by omega) (by omega)];omega
  conv=>whnf
  rw[e];refine⟨by omega,?_⟩;rw[pO _ j (by omega)]
  conv=>whnf
  refine⟨?_⟩;refine congrArg AV.d (ZQ ?_ ?_)
  ·rw[qg,qj,vW,show x*(2 ^ 64*2 ^ j)=18446744073709551616*(x*2 ^ j)from by rw[Nat.mul_left_comm],xo _ (by omega)];rw[<-Int.natCast_mul];have:x%18446744073709551616*2 ^ j%18446744073709551616=x*2 ^ j%18446744073709551616:=by rw[Nat.mul_mod,Nat.mod_mod,<-Nat.mul_mod]
   rw[<-this];rfl
  ·rw[qj,vW,show x*(2 ^ 64*2 ^ j)=18446744073709551616*(x*2 ^ j)from by rw[Nat.mul_left_comm],Nat.mul_mod_right];rfl
 ·have h:=vt h;have a:n<=64:=by omega
  have e:i64.wrap (64-(n:Int))=((64-n:Nat):Int):=by rw[wrap_small (by omega) (by omega)];omega
  conv=>whnf
  refine⟨⟨by decide +kernel,by kernel_rfl⟩,?_⟩
  conv=>whnf
  refine⟨by omega,?_⟩
  conv=>whnf
  rw[e];refine⟨by omega,?_⟩
  conv=>whnf
  refine⟨by omega,?_⟩;rw[pO _ n a,pO _ n a,pQ _ (64-n) (by omega)]
  conv=>whnf
  refine⟨?_⟩;refine congrArg AV.d (ZQ ?_ ?_)
  ·rw[tR,qg x,qj x,qg (x*2 ^ n),<-pf x n a,ie,ic _ _ (wK _ (by omega))]
  ·rw[qj,qj,<-Int.natCast_mul];have:x%18446744073709551616*2 ^ n%18446744073709551616=x*2 ^ n%18446744073709551616:=by rw[Nat.mul_mod,Nat.mod_mod,<-Nat.mul_mod]
   rw[<-this];rfl
theorem nK(x n:Nat)(hx:x<340282366920938463463374607431768211456)(d:n<128):Ax prog 300 [.d (W x),.d (.int .i64 n)] (.d (W ((x/2 ^ n:Nat):Int))):=by
 refine Du func300 (by kernel_rfl) ?_
 conv=>whnf
 refine br (λh=>?_) (λh=>?_)
 ·have h:=uf h;obtain⟨j,rfl⟩:∃j,n=64+j:=⟨n-64,by omega⟩;have e:i64.wrap (((64+j:Nat):Int)-64)=(j:Int):=by rw[wrap_small (by omega) (by omega)];omega
  conv=>whnf
  rw[e];refine⟨by omega,?_⟩;rw[pQ _ j (by omega)]
  conv=>whnf
  refine⟨?_⟩;have b:x/2 ^ (64+j)=x/18446744073709551616/2 ^ j:=by rw[vW,<-Nat.div_div_eq_div_mul]
  have c:=xi (x/18446744073709551616) (2 ^ j);refine congrArg AV.d (ZQ ?_ ?_)
  ·rw[qg,b];generalize x/18446744073709551616/2 ^ j=q at *;omega
  ·rw[qg,qj,b,wk (show x/18446744073709551616<18446744073709551616 by omega),<-Int.natCast_ediv];generalize x/18446744073709551616/2 ^ j=q at *;omega
 ·have h:=vt h;have a:n<=64:=by omega
  have e:i64.wrap (64-(n:Int))=((64-n:Nat):Int):=by rw[wrap_small (by omega) (by omega)];omega
  conv=>whnf
  refine⟨⟨by decide +kernel,by kernel_rfl⟩,?_⟩
  conv=>whnf
  refine⟨by omega,?_⟩
  conv=>whnf
  refine⟨by omega,?_⟩
  conv=>whnf
  rw[e];refine⟨by omega,?_⟩;rw[pQ _ n a,pQ _ n a,pO _ (64-n) (by omega)]
  conv=>whnf
  refine⟨?_⟩;refine congrArg AV.d (ZQ ?_ ?_)
  ·rw[qg,qg,wk (show x/18446744073709551616<18446744073709551616 by omega),<-Int.natCast_ediv,Nat.div_div_eq_div_mul x (2 ^ n),vA (2 ^ n),<-Nat.div_div_eq_div_mul];have:=xi (x/18446744073709551616) (2 ^ n);generalize x/18446744073709551616/2 ^ n=q at *;omega
  ·rw[tR,qg x,qj x,qj (x/2 ^ n),<-nL x n a,ie,ic _ _ (wK _ (by omega))]
theorem Xa(A j B:Nat)(f:A%2=1):Nat.gcd A (2 ^ j*B)=Nat.gcd A B:=by
 have b:Nat.Coprime 2 A:=by
  unfold Nat.Coprime;have c:=Nat.gcd_dvd_left 2 A;have d:=Nat.gcd_dvd_right 2 A;have e:=Nat.le_of_dvd (by omega) c;have a:=w4 A (show 0<2 by omega);rcases(show Nat.gcd 2 A=1\/Nat.gcd 2 A=2 by omega)with h|h
  ·exact h
  ·rw[h]at d;omega
 exact Nat.Coprime.gcd_mul_left_cancel_right B (Nat.Coprime.pow_left j b)
theorem oZ(i j A B:Nat)(a:A%2=1)(b:B%2=1):Nat.gcd (2 ^ i*A) (2 ^ j*B)=Nat.gcd A B*2 ^ min i j:=by
 rcases Nat.le_total i j with h|h
 ·obtain⟨e,rfl⟩:=Nat.le.dest h;rw[vW,wb,Nat.gcd_mul_left,Xa A e B a,we h,vA]
 ·obtain⟨e,rfl⟩:=Nat.le.dest h;rw[vW,wb,Nat.gcd_mul_left,wS,Xa B e A b,wS,Nat.min_eq_right h,vA]
theorem ZR(x:Nat)(hx:(x:Int)<B127):(Hi x=0/\Lo x=0)↔x=0:=by
 unfold B127 at hx;unfold Hi Lo;omega
theorem Vu{k m:Nat}(hx:((2 ^ k*(2*m+1):Nat):Int)<B127):k<127:=by
 unfold B127 at hx;rcases uZ k 127 with hk|hk
 ·exact hk
 ·exact z31
theorem iK(k m:Nat):2 ^ k*(2*m+1)/2 ^ k=2*m+1:=xo _ (vC k)
set_option maxHeartbeats 1000000 in
theorem ik(a b:Nat)(u:0<a)(d:(a:Int)<B127)(c:(b:Int)<B127):Ax prog 275 [.d (W a),.d (W b)] (.d (W ((Nat.gcd a b:Nat):Int))):=by
 refine Du func275 (by kernel_rfl) ?_
 conv=>whnf
 refine⟨⟨by kernel_rfl,by kernel_rfl⟩,?_⟩
 conv=>whnf
 refine⟨by kernel_rfl,?_⟩
 conv=>whnf
 refine br (λq=>?_) (λq=>?_)
 ·have q:Hi b=0/\Lo b=0:=by simpa using q
  obtain rfl:=(ZR b c).1 q;rw[Nat.gcd_zero_right];exact z30
 have q:¬(Hi b=0/\Lo b=0):=by simpa using q
 have v:0<b:=Nat.pos_of_ne_zero λe=>q ((ZR b c).2 e);clear q;obtain⟨i,A,rfl⟩:=Ye a u;obtain⟨j,B,rfl⟩:=Ye b v;have G:=Vu d;have H:=Vu c
 conv=>whnf
 refine⟨⟨by decide +kernel,by kernel_rfl⟩,?_⟩
 conv=>whnf
 refine A4 (bA i A d) ?_
 conv=>whnf
 refine A4 (bA j B c) ?_
 conv=>whnf
 refine⟨⟨by decide +kernel,by kernel_rfl⟩,?_⟩
 conv=>whnf
 refine A4 (bA i A d) ?_
 conv=>whnf
 refine A4 (nK _ i (by unfold B127 at d;omega) (by omega)) ?_;rw[iK]
 have p:((2*A+1:Nat):Int)<B127:=by
  have:2*A+1<=2 ^ i*(2*A+1):=Nat.le_mul_of_pos_left _ (vC i);omega
 have l:Nat.gcd (2*A+1) (2 ^ j*(2*B+1))*2 ^ min i j=Nat.gcd (2 ^ i*(2*A+1)) (2 ^ j*(2*B+1)):=by
  rw[oZ i j _ _ (by omega) (by omega),Xa _ _ _ (by omega)]
 generalize Nat.gcd (2 ^ i*(2*A+1)) (2 ^ j*(2*B+1))=res at l;generalize n:2 ^ j*(2*B+1)=y0 at *;have r:(if(j:Int)<i then(j:Int)else i)=((min i j:Nat):Int):=by split<;>omega
 conv=>whnf
 refine loop {s:Nat×Nat // (s.1%2=1/\(s.1:Int)<B127)/\(s.2:Int)<B127/\Nat.gcd s.1 s.2*2 ^ min i j=res} (λs=>Dk 39 [(2,.ptr 2 1 0),(3,.ptr 3 1 0),(4,.ptr 4 1 0),(5,.d (.int .i64 ((min i j:Nat):Int)))]
  [(2,.var [.d (.int .u64 (Hi s.1.1)),.d (.int .u64 (Lo s.1.1))],1),(3,.var [.d (.int .u64 (Hi s.1.2)),.d (.int .u64 (Lo s.1.2))],1),(4,.var [.d (.int .u64 0),.d (.int .u64 0)],1)])
  (λs=>s.1.1+s.1.2) ⟨(2*A+1,y0),⟨by simp only;omega,p⟩,c,l⟩ ?_ λs=>?_
 ·refine TL ?_
  conv=>whnf
  rw[r]
  repeat (first|exact trivial|refine And.intro (by first|with_reducible rfl|exact .inl rfl|(rw[next (by first|omega|(simp only;omega))])|rfl) ?_)
 obtain⟨⟨x,y⟩,⟨f,hx⟩,hy,g⟩:=s;simp only at f hx hy g;have I:B127=170141183460469231731687303715884105728:=rfl
 conv=>whnf
 refine⟨⟨by kernel_rfl,by kernel_rfl⟩,?_⟩
 conv=>whnf
 refine⟨by kernel_rfl,?_⟩
 conv=>whnf
 refine br (λq=>?_) (λq=>?_)
 ·have q:¬(Hi y=0/\Lo y=0):=by
   rintro⟨w,C⟩;simp[w,C]at q
  have n:0<y:=Nat.pos_of_ne_zero λe=>q ((ZR y hy).2 e);clear q;obtain⟨k,m,rfl⟩:=Ye y n;have hk:=Vu hy;have D:2*m+1<=2 ^ k*(2*m+1):=Nat.le_mul_of_pos_left _ (vC k);rw[Xa _ _ _ f]at g
  conv=>whnf
  refine⟨⟨by decide +kernel,by kernel_rfl⟩,?_⟩
  conv=>whnf
  refine A4 (bA k m hy) ?_
  conv=>whnf
  refine A4 (nK (2 ^ k*(2*m+1)) k (by omega) (by omega)) ?_;rw[iK];generalize 2 ^ k*(2*m+1)=y at *;generalize J:2*m+1=z at *;have E:0<z:=by omega
  have t:z%2=1:=by omega
  conv=>whnf
  refine A4 (minus_ z x) ?_
  conv=>whnf
  refine A4 (sign_ ((z:Int)-x) (by omega) (by omega)) ?_;by_cases F:(z:Int)-x<0
  ·rw[vP F]
   conv=>whnf
   refine A4 (minus_ x z) ?_;rw[show((x:Int)-z)=((x-z:Nat):Int) by omega]
   conv=>whnf
   refine⟨⟨(z,x-z),⟨t,by omega⟩,by simp only;omega,?_⟩,?_,by simp only;omega⟩
   ·show Nat.gcd z (x-z)*2 ^ min i j=res;rw[wS,Nat.gcd_sub_self_left (by omega)];exact g
   ·refine TL ?_
    conv=>whnf
    repeat (first|exact trivial|refine And.intro (by first|with_reducible rfl|exact .inl rfl|(rw[next (by first|omega|(simp only;omega))])|rfl) ?_)
  ·have o:¬(((z:Int)-x).sign<0):=by
    intro h;have:=Int.sign_neg_iff.1 h;omega
   generalize Int.sign ((z:Int)-x)=sg at o
   conv=>whnf
   refine br (λh=>?_) (λ_=>?_)
   ·exact absurd (uf h) o
   conv=>whnf
   refine A4 (minus_ z x) ?_;rw[show((z:Int)-x)=((z-x:Nat):Int) by omega]
   conv=>whnf
   refine⟨⟨(x,z-x),⟨f,hx⟩,by simp only;omega,?_⟩,?_,by simp only;omega⟩
   ·show Nat.gcd x (z-x)*2 ^ min i j=res;rw[Nat.gcd_sub_self_right (by omega)];exact g
   ·refine TL ?_
    conv=>whnf
    repeat (first|exact trivial|refine And.intro (by first|with_reducible rfl|exact .inl rfl|(rw[next (by first|omega|(simp only;omega))])|rfl) ?_)
 ·have q:Hi y=0/\Lo y=0:=by simpa using q
  obtain rfl:=(ZR y hy).1 q;rw[Nat.gcd_zero_right]at g
  conv=>whnf
  refine A4 (qy x (min i j) (by omega)) ?_;rw[g];exact z30
def tF:Int:=1152921504606846976
theorem MB.le{x n m:Nat}(h:MB x n)(hx:x<2 ^ m):n<=m:=by
 rcases h.2 with a|a
 ·omega
 ·rcases uZ m n with k|k
  ·have:=vw (n:=2) (by omega) (show m<=n-1 by omega);omega
  ·exact k
theorem de(x:Nat):∃n,MB x n:=by
 by_cases h:x=0
 ·subst h;exact⟨0,by decide,.inl rfl⟩
 ·exact⟨x.log2+1,Nat.lt_log2_self,.inr (Nat.log2_self_le h)⟩
def tZ(a b:Nat)(v:Int):Prop:=((a/b:Nat):Int)<=tF->v=((a/b:Nat):Int)
set_option maxHeartbeats 1000000 in
theorem iN(a b:Nat)(u:0<b)(C:(a:Int)<B127)(D:(b:Int)<B127) :
 ∃v,tZ a b v/\Ax prog 277 [.d (W a),.d (W b)] (.tup [.d (.int .i64 v),.d (.bool (decide (((a/b:Nat):Int)<=1152921504606846976)))]):=by
 obtain⟨c,i⟩:=de a;obtain⟨lb,f⟩:=de b;have U:B127=170141183460469231731687303715884105728:=rfl;have H:c<=127:=i.le (by omega);have I:lb<=127:=f.le (by omega)
 have J:1<=lb:=by
  have:=f.1;rcases Nat.eq_zero_or_pos lb with h|h
  ·subst h;rw[Nat.pow_zero]at this;omega
  ·exact h
 have m:2 ^ (lb-1)<=b:=f.2.resolve_left (by omega);refine⟨if(c:Int)-lb>61 then 0 else((a/b:Nat):Int),?_,?_⟩
 ·intro h;split
  ·rename_i B
   exfalso
   have w:2 ^ (c-1)<=a:=i.2.resolve_left (by omega);have o:2 ^ (61+lb)<=2 ^ (c-1):=vw (by omega) (by omega);rw[vW]at o;have M:=f.1;have E:2 ^ 61*b<=2 ^ 61*2 ^ lb:=wL _ (by omega);have N:2 ^ 61<=a/b:=(Nat.le_div_iff_mul_le u).2 (by omega);unfold tF at h;omega
  ·rfl
 refine Du func277 (by kernel_rfl) ?_
 conv=>whnf
 refine⟨⟨by decide +kernel,by kernel_rfl⟩,?_⟩
 conv=>whnf
 refine A4 (iG a c C i) ?_
 conv=>whnf
 refine A4 (iG b lb D f) ?_;have e:i64.wrap ((c:Int)-lb)=(c:Int)-lb:=wrap_small (by omega) (by omega)
 conv=>whnf
 rw[e];refine br (λh=>?_) (λh=>?_)
 ·have B:=uf h
  have:decide (((a/b:Nat):Int)<=1152921504606846976)=false:=by
   apply uB;intro h;have w:2 ^ (c-1)<=a:=i.2.resolve_left (by omega);have o:2 ^ (61+lb)<=2 ^ (c-1):=vw (by omega) (by omega);rw[vW]at o;have M:=f.1;have E:2 ^ 61*b<=2 ^ 61*2 ^ lb:=wL _ (by omega);have N:2 ^ 61<=a/b:=(Nat.le_div_iff_mul_le u).2 (by omega);omega
  rw[this,uk B];exact z30
 have B:=vt h;rw[uo B]
 have V:a<2 ^ 62*b:=by
  have w:=i.1;have o:2 ^ c<=2 ^ (62+(lb-1)):=vw (by omega) (by omega);rw[vW]at o;have E:2 ^ 62*2 ^ (lb-1)<=2 ^ 62*b:=wL _ m;omega
 have p:a<2 ^ ((c:Int)-lb+1).toNat*b:=by
  have w:=i.1;by_cases q:lb<=c+1
  ·have o:2 ^ c=2 ^ ((c:Int)-lb+1).toNat*2 ^ (lb-1):=by rw[<-vW];congr 1;omega
   have E:2 ^ ((c:Int)-lb+1).toNat*2 ^ (lb-1)<=2 ^ ((c:Int)-lb+1).toNat*b:=wL _ m;omega
  ·rw[show((c:Int)-lb+1).toNat=0 by omega,Nat.pow_zero,Nat.one_mul];have:=vw (n:=2) (by omega) (show c<=lb-1 by omega);omega
 conv=>whnf
 refine loop {s:Int×Nat×Nat // (s.1<=(c:Int)-lb/\-200<=s.1)/\s.2.1*(2 ^ (s.1+1).toNat*b)+s.2.2=a/\s.2.2<2 ^ (s.1+1).toNat*b} (λs=>Dk 38 [(2,.ptr 2 1 0),(3,.ptr 3 1 0),(7,.d (.int .i64 s.1.2.1)),(8,.d (.int .i64 s.1.1))]
  [(2,.var [.d (.int .u64 (Hi s.1.2.2)),.d (.int .u64 (Lo s.1.2.2))],1),(3,.var [.d (.int .u64 (Hi b)),.d (.int .u64 (Lo b))],1)]) (λs=>(s.1.1+1).toNat) ⟨((c:Int)-lb,0,a),⟨by simp only;omega,by simp only;omega⟩,by simp,p⟩ ?_ λs=>?_
 ·refine TL ?_
  conv=>whnf
  repeat (first|exact trivial|refine And.intro (by first|with_reducible rfl|exact .inl rfl|(rw[next (by first|omega|(simp only;omega))])|rfl) ?_)
 obtain⟨⟨k,q,r⟩,⟨t,F⟩,l,hr⟩:=s;simp only at t F l hr
 have x:q*2 ^ (k+1).toNat<2 ^ 62:=by
  have:q*2 ^ (k+1).toNat*b<2 ^ 62*b:=by rw[wb];omega
  exact Nat.lt_of_mul_lt_mul_right this
 have hp:=vC (k+1).toNat
 conv=>whnf
 refine br (λh=>?_) (λh=>?_)
 ·have hk:k>=0:=uf h;obtain⟨j,O⟩:∃j:Nat,k=j:=⟨k.toNat,by omega⟩;subst O;have G:2 ^ ((j:Int)+1).toNat=2*2 ^ j:=by rw[show((j:Int)+1).toNat=j+1 by omega,Nat.pow_succ,vA]
  rw[G]at l hr x hp;have y:=vC j
  have P:2*q<2 ^ 62:=by
   have:2*q<=q*(2*2 ^ j):=by
    rw[<-wb,vA q 2];exact xn _ y
   omega
  have Q:i64.wrap ((q:Int)*2)=((2*q:Nat):Int):=by rw[wrap_small (by omega) (by omega)];omega
  have K:i64.wrap ((j:Int)-1)=(j:Int)-1:=wrap_small (by omega) (by omega)
  have R:b*2 ^ j<2 ^ 127:=by
   have w:=f.1;have o:b*2 ^ j<2 ^ lb*2 ^ j:=Nat.mul_lt_mul_of_pos_right w y;rw[<-vW]at o;have:=vw (n:=2) (by omega) (show lb+j<=127 by omega);omega
  have S:r<=a:=by omega
  conv=>whnf
  rw[Q];refine⟨⟨by decide +kernel,by kernel_rfl⟩,?_⟩
  conv=>whnf
  refine A4 (qy b j (by omega)) ?_
  conv=>whnf
  refine A4 (minus_ r ((b*2 ^ j:Nat):Int)) ?_;rw[show 2*2 ^ j*b=2*(b*2 ^ j)from by rw[wb,vA (2 ^ j) b]]at l hr;have g:((j:Int)-1+1).toNat=j:=by omega
  generalize hd:b*2 ^ j=d at *
  conv=>whnf
  refine A4 (sign_ ((r:Int)-d) (by omega) (by omega)) ?_;by_cases L:(r:Int)-d<0
  ·rw[vP L]
   conv=>whnf
   refine⟨⟨((j:Int)-1,2*q,r),⟨by simp only;omega,by simp only;omega⟩,?_,?_⟩,?_,by simp only;omega⟩
   ·simp only[g];rw[vA (2 ^ j) b,hd,vA 2 q,wb];exact l
   ·simp only[g];rw[vA (2 ^ j) b,hd];omega
   ·refine TL ?_
    conv=>whnf
    rw[K]
    repeat (first|exact trivial|refine And.intro (by first|with_reducible rfl|exact .inl rfl|(rw[next (by first|omega|(simp only;omega))])|rfl) ?_)
  ·have z:¬(((r:Int)-d).sign<0):=λh=>L (Int.sign_neg_iff.1 h);have T:i64.wrap (((2*q:Nat):Int)+1)=((2*q+1:Nat):Int):=by rw[wrap_small (by omega) (by omega)];omega
   rw[show(r:Int)-d=((r-d:Nat):Int) by omega]at z ⊢;generalize Int.sign ((r-d:Nat):Int)=sg at z
   conv=>whnf
   refine br (λ_=>?_) (λh=>?_)
   ·conv=>whnf
    rw[T];refine⟨⟨((j:Int)-1,2*q+1,r-d),⟨by simp only;omega,by simp only;omega⟩,?_,?_⟩,?_,by simp only;omega⟩
    ·simp only[g];rw[vA (2 ^ j) b,hd,vD,Nat.one_mul,vA 2 q,wb];omega
    ·simp only[g];rw[vA (2 ^ j) b,hd];omega
    ·refine TL ?_
     conv=>whnf
     rw[K]
     repeat (first|exact trivial|refine And.intro (by first|with_reducible rfl|exact .inl rfl|(rw[next (by first|omega|(simp only;omega))])|rfl) ?_)
   ·have:=vt h;omega
 ·have hk:¬k>=0:=vt h;have t:(k+1).toNat=0:=by omega
  rw[t,Nat.pow_zero,Nat.one_mul]at l hr;have A:a/b=q:=Nat.div_eq_of_lt_le (by omega) (by rw[vD,Nat.one_mul];omega);rw[A];exact z30
def frD(p:Int×Int):D:=.agg [.int .i64 p.1,.int .i64 p.2]
set_option maxHeartbeats 1000000 in
theorem reduced_(a b:Int)(q:b≠0)(t:-B127<a/\a<B127)(u:-B127<b/\b<B127) :
 Ax prog 220 [.d (W a),.d (W b)] (.tup [.d (frD (redF (nn a b) b.natAbs)),.d (.int .i64 (redE (nn a b) b.natAbs))]):=by
 have w:B127=170141183460469231731687303715884105728:=rfl;refine Du func220 (by kernel_rfl) ?_
 conv=>whnf
 refine A4 (sign_ b (by omega) (by omega)) ?_;by_cases i:b<0
 ·rw[vP i,show nn a b=-a from uk i]
  conv=>whnf
  refine⟨⟨by decide +kernel,by kernel_rfl⟩,?_⟩
  conv=>whnf
  refine A4 (opposite_ a) ?_
  conv=>whnf
  refine A4 (opposite_ b) ?_;obtain⟨d,hd⟩:∃d:Nat,-b=d:=⟨b.natAbs,by omega⟩;rw[hd,show b.natAbs=d by omega];unfold redF redE okR
  conv=>whnf
  refine⟨⟨by decide +kernel,by kernel_rfl⟩,?_⟩
  conv=>whnf
  refine A4 (ja (-a) (by omega) (by omega)) ?_
  conv=>whnf
  refine A4 (ik d ((-a)).natAbs (by omega) (by omega) (by omega)) ?_;have e:0<Nat.gcd d ((-a)).natAbs:=w4 _ (by omega);have l:Nat.gcd d ((-a)).natAbs<=d:=Nat.gcd_le_left _ (by omega);generalize Nat.gcd d ((-a)).natAbs=g at e l ⊢
  conv=>whnf
  refine⟨⟨by decide +kernel,by kernel_rfl⟩,?_⟩
  conv=>whnf
  refine A4 (ja (-a) (by omega) (by omega)) ?_
  conv=>whnf
  obtain⟨v,m,n⟩:=iN ((-a)).natAbs g e (by omega) (by omega);refine A4 n ?_;obtain⟨r,f,c⟩:=iN d g e (by omega) (by omega);by_cases j:(((((-a)).natAbs/g:Nat):Int)<=1152921504606846976)
  ·rw[un j];have m:=m j;subst m
   conv=>whnf
   refine A4 c ?_;by_cases k:(((d/g:Nat):Int)<=1152921504606846976)
   ·rw[un k];have f:=f k;subst f
    conv=>whnf
    refine A4 (sign_ (-a) (by omega) (by omega)) ?_;have o:0<=((((-a)).natAbs/g:Nat):Int):=wB _;generalize ((((-a)).natAbs/g:Nat):Int)=n1 at j o ⊢;generalize ((d/g:Nat):Int)=d1 at k ⊢
    conv=>whnf
    refine⟨?_⟩
    have s:-n1<=n1*((-a)).sign/\n1*((-a)).sign<=n1:=by
     rcases Int.sign_trichotomy ((-a))with h|h|h<;>rw[h]<;>omega
    rw[wrap_small (by omega) (by omega)];rfl
   ·rw[uB k];exact z30
  ·rw[uB j]
   conv=>whnf
   refine A4 c ?_;exact z30
 ·have p:0<b:=by omega
  rw[wR p,show nn a b=a from uo i];obtain⟨d,rfl⟩:∃d:Nat,b=d:=⟨b.natAbs,by omega⟩;rw[xk];unfold redF redE okR
  conv=>whnf
  refine⟨⟨by decide +kernel,by kernel_rfl⟩,?_⟩
  conv=>whnf
  refine A4 (ja a (by omega) (by omega)) ?_
  conv=>whnf
  refine A4 (ik d (a).natAbs (by omega) (by omega) (by omega)) ?_;have e:0<Nat.gcd d (a).natAbs:=w4 _ (by omega);have l:Nat.gcd d (a).natAbs<=d:=Nat.gcd_le_left _ (by omega);generalize Nat.gcd d (a).natAbs=g at e l ⊢
  conv=>whnf
  refine⟨⟨by decide +kernel,by kernel_rfl⟩,?_⟩
  conv=>whnf
  refine A4 (ja a (by omega) (by omega)) ?_
  conv=>whnf
  obtain⟨v,m,n⟩:=iN (a).natAbs g e (by omega) (by omega);refine A4 n ?_;obtain⟨r,f,c⟩:=iN d g e (by omega) (by omega);by_cases j:((((a).natAbs/g:Nat):Int)<=1152921504606846976)
  ·rw[un j];have m:=m j;subst m
   conv=>whnf
   refine A4 c ?_;by_cases k:(((d/g:Nat):Int)<=1152921504606846976)
   ·rw[un k];have f:=f k;subst f
    conv=>whnf
    refine A4 (sign_ a (by omega) (by omega)) ?_;have o:0<=(((a).natAbs/g:Nat):Int):=wB _;generalize (((a).natAbs/g:Nat):Int)=n1 at j o ⊢;generalize ((d/g:Nat):Int)=d1 at k ⊢
    conv=>whnf
    refine⟨?_⟩
    have s:-n1<=n1*(a).sign/\n1*(a).sign<=n1:=by
     rcases Int.sign_trichotomy (a)with h|h|h<;>rw[h]<;>omega
    rw[wrap_small (by omega) (by omega)];rfl
   ·rw[uB k];exact z30
  ·rw[uB j]
   conv=>whnf
   refine A4 c ?_;exact z30
theorem of_(b a:Int)(c:a≠0)(d:-9223372036854775808<=b/\b<=9223372036854775807)(f:-9223372036854775808<=a/\a<=9223372036854775807) :
 Ax prog 147 [.d (.int .i64 b),.d (.int .i64 a)] (.tup [.d (frD (redF (nn b a) a.natAbs)),.d (.int .i64 (redE (nn b a) a.natAbs))]):=by
 have g:B127=170141183460469231731687303715884105728:=rfl;refine Du func147 (by kernel_rfl) ?_
 conv=>whnf
 refine br (λh=>?_) (λh=>?_)
 ·exact absurd (eq_of_beq h) c
 conv=>whnf
 refine A4 (whole_ b d.1 d.2) ?_
 conv=>whnf
 refine A4 (whole_ a f.1 f.2) ?_
 conv=>whnf
 refine A4 (reduced_ b a c (by omega) (by omega)) ?_;generalize redF (nn b a) a.natAbs=p;generalize redE (nn b a) a.natAbs=e;obtain⟨i,p2⟩:=p;exact z30
theorem tf(a b:Int)(e:-4611686018427387904<=a/\a<=4611686018427387904)(f:-4611686018427387904<=b/\b<=4611686018427387904) :
 Ax prog 287 [.d (.int .i64 a),.d (.int .i64 b)] (.d (.int .i64 (Nat.gcd a.natAbs b.natAbs:Nat))):=by
 refine Du func287 (by kernel_rfl) ?_;generalize i:Nat.gcd a.natAbs b.natAbs=g
 conv=>whnf
 refine loop {s:Int×Int // (-4611686018427387904<=s.1/\s.1<=4611686018427387904)/\(-4611686018427387904<=s.2/\s.2<=4611686018427387904)/\Nat.gcd s.1.natAbs s.2.natAbs=g} (λs=>Dk 15 [(0,.d (.int .i64 s.1.1)),(1,.d (.int .i64 s.1.2))] []) (λs=>s.1.2.natAbs) ⟨(a,b),e,f,i⟩ ?_ λs=>?_
 ·refine TL ?_
  conv=>whnf
  repeat (first|exact trivial|refine And.intro (by first|with_reducible rfl|exact .inl rfl|(rw[next (by first|omega|(simp only;omega))])|rfl) ?_)
 obtain⟨⟨x,y⟩,hx,hy,c⟩:=s;simp only at hx hy c
 conv=>whnf
 refine br (λh=>?_) (λh=>?_)
 ·have h:y≠0:=by simpa using h
  have d:(x.tmod y).natAbs<y.natAbs:=by rw[Int.natAbs_tmod];exact wK _ (by omega)
  conv=>whnf
  refine⟨⟨by decide +kernel,by kernel_rfl⟩,?_⟩
  conv=>whnf
  refine⟨h,?_⟩
  conv=>whnf
  refine⟨⟨(y,x.tmod y),hy,by simp only;omega,?_⟩,?_,d⟩
  ·show Nat.gcd y.natAbs (x.tmod y).natAbs=g;rw[Int.natAbs_tmod,<-c,wS y.natAbs,<-Nat.gcd_rec,wS]
  ·refine TL ?_
   conv=>whnf
   repeat (first|exact trivial|refine And.intro (by first|with_reducible rfl|exact .inl rfl|(rw[next (by first|omega|(simp only;omega))])|rfl) ?_)
 ·have h:y=0:=by simpa using h
  subst h;simp only[Int.natAbs_zero,Nat.gcd_zero_right]at c
  conv=>whnf
  refine⟨?_⟩;simp only[lJ];rw[wrap_small (by omega) (by omega)];congr 2;split<;>omega
def VF(p:Int×Int):Prop:=(1<=p.2/\p.2<=1152921504606846976)/\(-1152921504606846976<=p.1/\p.1<=1152921504606846976)/\Nat.gcd p.1.natAbs p.2.natAbs=1
theorem valid_(p:Int×Int)(hp:VF p):Ax prog 241 [.d (frD p)] (.d (.bool true)):=by
 obtain⟨n,d⟩:=p;obtain⟨⟨a,b⟩,⟨c,e⟩,f⟩:=hp;simp only at a b c e f;refine Du func241 (by kernel_rfl) ?_
 conv=>whnf
 refine br (λ_=>?_) (λh=>?_)
 rotate_left
 ·exfalso
  have g:decide (d>=1)=true:=un a;have i:decide (d<=1152921504606846976)=true:=un b;have j:decide (n>=-1152921504606846976)=true:=un c;have k:decide (n<=1152921504606846976)=true:=un e;simp only[g,i,j,k,uY]at h
  cases h
 conv=>whnf
 refine A4 (tf n d (by omega) (by omega)) ?_;rw[f];exact z30
theorem prod_bound{a b:Int}(c:-1152921504606846976<=a/\a<=1152921504606846976)(d:-1152921504606846976<=b/\b<=1152921504606846976):-1329227995784915872903807060280344576<=a*b/\a*b<=1329227995784915872903807060280344576:=by
 have e:(a*b).natAbs<=1329227995784915872903807060280344576:=by
  rw[Int.natAbs_mul];exact wX (show a.natAbs<=1152921504606846976 by omega) (show b.natAbs<=1152921504606846976 by omega)
 omega
theorem mul_(p q:Int×Int)(hp:VF p)(g:VF q):Ax prog 163 [.d (frD p),.d (frD q)]
 (.tup [.d (frD (redF (p.1*q.1) (p.2*q.2).toNat)),.d (.int .i64 (redE (p.1*q.1) (p.2*q.2).toNat))]):=by
 have k:=valid_ p hp;have l:=valid_ q g;obtain⟨a,b⟩:=p;obtain⟨c,d⟩:=q;have v:B127=170141183460469231731687303715884105728:=rfl;obtain⟨⟨m,n⟩,h,_⟩:=hp;obtain⟨⟨o,s⟩,i,_⟩:=g;simp only at m n h o s i;have t:=prod_bound h i;have u:=prod_bound (a:=b) (b:=d) (by omega) (by omega);have j:0<b*d:=Int.mul_pos (by omega) (by omega);have f:=reduced_ (a*c) (b*d) (by omega) (by omega) (by omega);rw[show nn (a*c) (b*d)=a*c from uo (by omega),show(b*d).natAbs=(b*d).toNat by omega]at f;refine Du func163 (by kernel_rfl) ?_
 conv=>whnf
 refine A4 k ?_
 conv=>whnf
 refine A4 l ?_
 conv=>whnf
 refine⟨⟨by decide +kernel,by kernel_rfl⟩,?_⟩
 conv=>whnf
 refine A4 (whole_ a (by omega) (by omega)) ?_
 conv=>whnf
 refine A4 (whole_ c (by omega) (by omega)) ?_
 conv=>whnf
 refine A4 (times_ a c) ?_
 conv=>whnf
 refine A4 (whole_ b (by omega) (by omega)) ?_
 conv=>whnf
 refine A4 (whole_ d (by omega) (by omega)) ?_
 conv=>whnf
 refine A4 (times_ b d) ?_
 conv=>whnf
 refine A4 f ?_;generalize redF (a*c) (b*d).toNat=r;generalize redE (a*c) (b*d).toNat=e;obtain⟨w,x⟩:=r;exact z30
theorem Ym{n:Int}{d:Nat}(hd:0<d)(h:okR n d=true):VF (redF n d):=by
 unfold redF;rw[h];unfold okR at h;rw[vi]at h;have k:=uf h.1;have i:=uf h.2;have g:0<Nat.gcd d n.natAbs:=w4 _ hd;have e:Nat.Coprime (d/Nat.gcd d n.natAbs) (n.natAbs/Nat.gcd d n.natAbs):=Nat.coprime_div_gcd_div_gcd g;have j:0<d/Nat.gcd d n.natAbs:=Nat.div_pos (Nat.gcd_le_left _ hd) g;have f:n=0->n.natAbs/Nat.gcd d n.natAbs=0:=by rintro rfl;simp
 generalize n.natAbs/Nat.gcd d n.natAbs=a at *;generalize d/Nat.gcd d n.natAbs=b at *
 have c:((a:Int)*n.sign).natAbs=a:=by
  rcases Int.sign_trichotomy n with c|c|c
  ·rw[c];omega
  ·have:=f (Int.sign_eq_zero_iff_zero.1 c);rw[c];omega
  ·rw[c];omega
 refine⟨⟨by simp only[uY];omega,i⟩,?_,?_⟩
 ·simp only[uY];omega
 ·simp only[uY];rw[c,xk,wS];exact e
theorem qK:VF (1,1):=⟨by decide,by decide,by decide⟩
def ints(xs:List Int):D:=.list 1 (xs.map (D.int .i64))
theorem kN{α:Type}(xs:List α)(k:Nat)(h:k<xs.length):xs.take (k+1)=xs.take k++[xs[k]]:=ui h
theorem db(xs:List Int)(k:Nat)(h:k<xs.length):(xs.map (D.int .i64))[((k:Nat):Int).toNat]?=some (D.int .i64 xs[k]):=by simp[h]
theorem bytes_int:Lp prog 3=8:=by kernel_rfl
theorem jt(xs:List Int):∀x∈xs.map (D.int .i64),∀y∈x.cells,y.bare=true:=by
 intro x hx y hy;obtain⟨n,_,rfl⟩:=List.mem_map.1 hx;simp[D.cells]at hy;subst hy;rfl
def Tq(p:Int->Bool)(xs:List Int):Int:=match xs.findIdx? p with|some i=>i|none=>-1
theorem jI(p:Int->Bool)(xs:List Int):decide (Tq p xs>=0)=xs.any p:=by
 unfold Tq
 cases h:xs.findIdx? p with
 | none =>
   have:=List.findIdx?_eq_none_iff.1 h;simp only[ge_iff_le,Int.reduceNeg,Int.reduceLE,decide_false];symm;rw[List.any_eq_false];intro x hx;simp[this x hx]
 | some i =>
   obtain⟨a,hp,_⟩:=List.findIdx?_eq_some_iff_getElem.1 h;simp only[ge_iff_le,wB,decide_true];symm;rw[List.any_eq_true];exact⟨_,ud a,hp⟩
theorem jH{p:Int->Bool}{xs:List Int}{k:Nat}(hk:k<xs.length)(h:∀j (a:j<k),p (xs[j]'(by omega))=false)(hp:p xs[k]=true):Tq p xs=k:=by
 unfold Tq;rw[List.findIdx?_eq_some_iff_getElem.2 ⟨hk,hp,λj a=>by simp[h j a]⟩]
theorem cP{p:Int->Bool}{xs:List Int}(h:∀j (a:j<xs.length),p xs[j]=false):Tq p xs=-1:=by
 unfold Tq;rw[List.findIdx?_eq_none_iff.2 λx hx=>by obtain⟨j,a,rfl⟩:=List.getElem_of_mem hx;exact h j a]
theorem index(f:FuncId)(p:Int->Bool)(xs:List Int)(hx:xs.length<=1000000)(c:∀x∈xs,Ax prog f [.d (.int .i64 x)] (.d (.bool (p x)))) :
 Ax prog 272 [.d (ints xs),.d (.fn f [])] (.d (.int .i64 (Tq p xs))):=by
 refine Du func272 (by kernel_rfl) ?_
 conv=>whnf
 refine loop {k:Nat // ∀j (b:j<xs.length),j<k->p xs[j]=false} (λk=>Dk 19 [(0,.d (ints xs)),(1,.d (.fn f [])),(7,.d (.int .i64 xs.length)),(8,.d (.int .i64 k.1))] []) (λk=>xs.length-k.1) ⟨0,by simp⟩ ?_ λk=>?_
 ·exact And.intro rfl (And.intro rfl (And.intro (by simp) (And.intro rfl trivial)))
 ·obtain⟨k,hk⟩:=k
  conv=>whnf
  refine br (λh=>?_) (λh=>?_)
  ·have a:k<xs.length:=by simpa using h
   conv=>whnf
   refine⟨⟨by simp only;omega,_,db xs k a,?_⟩⟩
   conv=>whnf
   refine A4 (c xs[k] (ud a)) ?_
   conv=>whnf
   refine br (λhp=>?_) (λhp=>?_)
   ·conv=>whnf
    exact⟨by rw[jH a (λj b=>hk j (by omega) b) hp];rfl⟩
   ·conv=>whnf
    refine⟨⟨k+1,λj b d=>?_⟩,?_,by show xs.length-(k+1)<xs.length-k;omega⟩
    ·by_cases e:j=k
     ·subst e;exact hp
     ·exact hk j b (by omega)
    ·exact And.intro rfl (And.intro rfl (And.intro rfl (And.intro (by rw[next (by first|omega|(simp only;omega))]) trivial)))
  ·have g:xs.length<=k:=by simpa using h
   conv=>whnf
   exact⟨by rw[cP λj b=>hk j b (by omega)];rfl⟩
theorem contains(f:FuncId)(p:Int->Bool)(xs:List Int)(hx:xs.length<=1000000)(a:∀x∈xs,Ax prog f [.d (.int .i64 x)] (.d (.bool (p x)))) :
 Ax prog 217 [.d (ints xs),.d (.fn f [])] (.d (.bool (xs.any p))):=by
 refine Du func217 (by kernel_rfl) ?_
 conv=>whnf
 refine A4 (index f p xs hx a) ?_
 conv=>whnf
 exact⟨by rw[jI];rfl⟩
theorem clone(xs:List Int)(hx:xs.length<=1000000):Ax prog 38 [.d (ints xs)] (.own 1 3 (xs.map (D.int .i64))):=by
 refine Du func38 (by kernel_rfl) ?_
 conv=>whnf
 refine⟨λb a=>?_⟩
 cases b with
 | true =>
   have:xs=[]:=by
    cases xs with
    | nil=>rfl
    | cons x r=>have:=a (by simp);simp at this
   subst this
   conv=>whnf
   refine⟨.inr ?_⟩
   conv=>whnf
   refine⟨λx hx=>by simp at hx,?_⟩;exact z30
 | false =>
   conv=>whnf
   refine⟨?_,?_⟩
   ·rw[bytes_int];simp only[ua,wu];exact⟨by unfold maxLen;omega,by omega,.inr (by trivial)⟩
   conv=>whnf
   refine⟨.inr ?_⟩
   conv=>whnf
   refine⟨by rw[List.nil_append];exact jt xs,?_⟩;exact z30
def lw:Prop:=∀xs:List Int,xs.length<4611686018427387904->Fz prog 234 [.own 1 3 (xs.map (D.int .i64))] [.own 1 3 ((FD xs).map (D.int .i64))] (.tup [])
theorem length_sortI(xs:List Int):(FD xs).length=xs.length:=by simp[FD,List.length_mergeSort]
def Xj:Prop:=∀xs:List Int,xs.length<4611686018427387904->Fz prog 235 [.own 1 3 (xs.map (D.int .i64))] [.any] (.own 1 3 ((Go.Lib.compact xs).map (D.int .i64)))
