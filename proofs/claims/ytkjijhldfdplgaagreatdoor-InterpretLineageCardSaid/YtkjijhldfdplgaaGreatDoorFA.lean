/- FA -/
import Derived.Test.YtkjijhldfdplgaaGreatDoorProg
import Derived.KernelRfl
import Derived.IntWalk
import Derived.Laws.Externs
import Derived.Shelf.Spec.BitsCarry
import Derived.Test.YtkjijhldfdplgaaGreatDoorQD
open Go.IntKind (i64 u8 u64)
open Go.Proofs.Tryz
set_option linter.all false
namespace Go.Proofs.YtkjijhldfdplgaaGreatDoor.P
open Go.Abs Go.Proofs
theorem z35{p:Prop}(h:p:=by(conv=>whnf);exact⟨rfl⟩):p:=h
theorem z36{p:Prop}(h:p:=by have:=tR (n:=2) (by omega) hk;have:2 ^ k<=2 ^ k*(2*m+1):=wm _ (by omega);omega):p:=h
theorem z37{p:Prop}(h:p:=by obtain rfl:=sY ho;clear hd;go_simp;exact hK):p:=h
theorem z38{p:Prop}(h:p:=by(conv=>whnf);refine⟨.inl ?_⟩;exact z35):p:=h
theorem z39{p:Prop}(h:p:=by simp only[lK];congr 2;omega):p:=h
end Go.Proofs.YtkjijhldfdplgaaGreatDoor.P
namespace Go.Proofs.YtkjijhldfdplgaaGreatDoor.P.F
open Go.Abs Go.Proofs
set_option maxRecDepth 10000
theorem wrap_small{n:Int}(a:-9223372036854775808<=n)(b:n<=9223372036854775807):i64.wrap n=n:=IntWalk.i64_in n ⟨a,b⟩
theorem next{k:Nat}(h:k<1000000000000):i64.wrap ((k:Int)+1)=((k+1:Nat):Int):=by rw[wrap_small (by omega) (by omega)];rfl
theorem Qb(n:Int):u64.wrap n=n%18446744073709551616:=by
 have:u64.wrap n=n%(2 ^ 64):=by simp[IntKind.wrap,IntKind.signed,IntKind.bits]
 rw[this];rfl
theorem XY(a:Int)(k:Nat):a.fdiv (2 ^ k)=a/2 ^ k:=Int.fdiv_eq_ediv_of_nonneg _ (Int.le_of_lt (Int.pow_pos (by omega)))
theorem rx(x y:Int):u64.wrap ((BitVec.ofInt u64.bits x &&& BitVec.ofInt u64.bits y).toNat:Int)=(((x%18446744073709551616).toNat &&& (y%18446744073709551616).toNat:Nat):Int):=by
 have e:(BitVec.ofInt u64.bits x &&& BitVec.ofInt u64.bits y).toNat=((x%18446744073709551616).toNat &&& (y%18446744073709551616).toNat:Nat):=by
  rw[BitVec.toNat_and,BitVec.toNat_ofInt,BitVec.toNat_ofInt];rfl
 rw[e,Qb];have a:((x%18446744073709551616).toNat &&& (y%18446744073709551616).toNat)<=(x%18446744073709551616).toNat:=Nat.and_le_left;omega
theorem sQ(x y:Int):u64.wrap ((BitVec.ofInt u64.bits x ||| BitVec.ofInt u64.bits y).toNat:Int)=(((x%18446744073709551616).toNat ||| (y%18446744073709551616).toNat:Nat):Int):=by
 have e:(BitVec.ofInt u64.bits x ||| BitVec.ofInt u64.bits y).toNat=((x%18446744073709551616).toNat ||| (y%18446744073709551616).toNat:Nat):=by
  rw[BitVec.toNat_or,BitVec.toNat_ofInt,BitVec.toNat_ofInt];rfl
 rw[e,Qb];have a:((x%18446744073709551616).toNat ||| (y%18446744073709551616).toNat)<2 ^ 64:=Nat.or_lt_two_pow (by omega) (by omega);omega
theorem ru(x:Int):u64.wrap ((BitVec.ofInt u64.bits x &&& BitVec.ofInt u64.bits 4294967295).toNat:Int)=x%4294967296:=by
 rw[rx];have:((x%18446744073709551616).toNat &&& ((4294967295:Int)%18446744073709551616).toNat)=(x%18446744073709551616).toNat%2 ^ 32:=Nat.and_two_pow_sub_one_eq_mod _ 32;rw[this];omega
theorem Sk(x:Int):x.fdiv (2 ^ min (Int.toNat 32) u64.bits)=x/4294967296:=XY x 32
theorem rM(x y:Int)(hx:0<=x)(i:x<18446744073709551616)(hy:0<=y)(j:y<18446744073709551616) :
 ((x/4294967296)*(y/4294967296)+((x/4294967296)*(y%4294967296)+(x%4294967296)*(y%4294967296)/4294967296)/4294967296+(((x/4294967296)*(y%4294967296)+(x%4294967296)*(y%4294967296)/4294967296)%4294967296+(x%4294967296)*(y/4294967296))/4294967296)=x*y/18446744073709551616:=by
 have f:x=4294967296*(x/4294967296)+x%4294967296:=by omega
 have g:y=4294967296*(y/4294967296)+y%4294967296:=by omega
 have h:∀b c d e:Int,(4294967296*b+c)*(4294967296*d+e)=18446744073709551616*(b*d)+4294967296*(b*e)+4294967296*(c*d)+c*e:=by
  intro b c d e;grind
 have a:x*y=(4294967296*(x/4294967296)+x%4294967296)*(4294967296*(y/4294967296)+y%4294967296):=by rw[<-f,<-g]
 rw[a,h];generalize x/4294967296*(y/4294967296)=p;generalize x/4294967296*(y%4294967296)=q;generalize x%4294967296*(y/4294967296)=r;generalize x%4294967296*(y%4294967296)=t;omega
theorem qF(x y:Int)(hx:0<=x)(d:x<18446744073709551616)(hy:0<=y)(e:y<18446744073709551616) :
 (0<=(x/4294967296)*(y/4294967296)/\(x/4294967296)*(y/4294967296)<=18446744065119617025)/\(0<=(x/4294967296)*(y%4294967296)/\(x/4294967296)*(y%4294967296)<=18446744065119617025) /\
 (0<=(x%4294967296)*(y/4294967296)/\(x%4294967296)*(y/4294967296)<=18446744065119617025)/\(0<=(x%4294967296)*(y%4294967296)/\(x%4294967296)*(y%4294967296)<=18446744065119617025):=by
 have a:∀u v:Int,(0<=u/\u<=4294967295)->(0<=v/\v<=4294967295)->0<=u*v/\u*v<=18446744065119617025:=by
  intro u v c b;refine⟨Int.mul_nonneg c.1 b.1,?_⟩;have:=Int.mul_le_mul c.2 b.2 b.1 (by omega);omega
 exact⟨a _ _ (by omega) (by omega),a _ _ (by omega) (by omega),a _ _ (by omega) (by omega),a _ _ (by omega) (by omega)⟩
theorem mul64_(x y:Int)(hx:0<=x)(a:x<18446744073709551616)(hy:0<=y)(b:y<18446744073709551616) :
 Ay prog 283 [.d (.int .u64 x),.d (.int .u64 y)] (.tup [.d (.int .u64 (x*y/18446744073709551616)),.d (.int .u64 (x*y%18446744073709551616))]):=by
 refine D2 func283 (by kernel_rfl) ?_
 conv=>whnf
 refine⟨by omega,?_⟩
 conv=>whnf
 refine⟨by omega,?_⟩
 conv=>whnf
 refine⟨by omega,?_⟩
 conv=>whnf
 refine⟨by omega,?_⟩
 conv=>whnf
 refine⟨by omega,?_⟩
 conv=>whnf
 refine⟨?_⟩;simp only[ru,Sk];simp only[Qb];have c:=rM x y hx a hy b;obtain⟨d,e,f,g⟩:=qF x y hx a hy b;rw[<-c];generalize x/4294967296*(y/4294967296)=p at *;generalize x/4294967296*(y%4294967296)=q at *;generalize x%4294967296*(y/4294967296)=r at *;generalize x%4294967296*(y%4294967296)=t at *;congr 4;clear c;omega
theorem oT(k m:Nat)(h:2 ^ k*(2*m+1)<2 ^ 64):(2 ^ k*(2*m+1)) &&& (2 ^ 64-2 ^ k*(2*m+1))=2 ^ k:=by
 have hk:0<2 ^ k:=uc k
 have c:2 ^ 64-2 ^ k*(2*m+1)=2 ^ 64-((2 ^ k*(2*m)+(2 ^ k-1))+1):=by
  have:2 ^ k*(2*m+1)=2 ^ k*(2*m)+2 ^ k:=by rw[Nat.mul_add,u4]
  omega
 apply Nat.eq_of_testBit_eq;intro i
 rw[Nat.testBit_and,c,Nat.testBit_two_pow_sub_succ (by
  have:2 ^ k*(2*m+1)=2 ^ k*(2*m)+2 ^ k:=by rw[Nat.mul_add,u4]
  omega),Nat.testBit_two_pow_mul_add _ (by omega),Nat.testBit_two_pow_mul,Nat.testBit_two_pow]
 have a:k<64:=by
  rcases tG k 64 with hk|hk
  ·exact hk
  ·exact z36
 rcases vz i k with b|b|b
 ·simp[show ¬k<=i by omega,show k≠i by omega]
 ·subst b;simp[a,show 2*m+1=2*m+1 from rfl,Nat.testBit_zero]
 ·have e:(2*m+1).testBit (i-k)=(2*m).testBit (i-k):=by
   obtain⟨j,d⟩:∃j,i-k=j+1:=⟨i-k-1,by omega⟩;rw[d,Nat.testBit_succ,Nat.testBit_succ];congr 1;omega
  simp[show k<=i by omega,show ¬i<k by omega,show k≠i by omega,e];intro h _;exact h
theorem ra:∀k:Nat,k<64->I1[((2 ^ k*285870213051353865)%18446744073709551616/288230376151711744)]?=some (k:Int):=by decide +kernel
theorem sR(k m:Nat)(h:2 ^ k*(2*m+1)<18446744073709551616) :
 Ay prog 319 [.d (.int .u64 ((2 ^ k*(2*m+1):Nat):Int))] (.d (.int .i64 k)):=by
 have a:=oT k m h
 have b:k<64:=by
  rcases tG k 64 with hk|hk
  ·exact hk
  ·exact z36
 have d:0<2 ^ k*(2*m+1):=Nat.mul_pos (uc k) (by omega);have c:=ra k b;generalize hx:2 ^ k*(2*m+1)=x at *;refine D2 func319 (by kernel_rfl) ?_
 conv=>whnf
 refine br (λh=>?_) (λh=>?_)
 ·simp at h;omega
 conv=>whnf
 refine⟨by omega,?_⟩
 have e:u64.wrap ((BitVec.ofInt u64.bits (x:Int) &&& BitVec.ofInt u64.bits (u64.wrap (0-(x:Int)))).toNat:Int)=((2 ^ k:Nat):Int):=by
  rw[rx,Qb,<-a];congr 2<;>omega
 have f:(u64.wrap (((2 ^ k:Nat):Int)*285870213051353865)).fdiv (2 ^ min (Int.toNat 58) u64.bits)=(((2 ^ k*285870213051353865)%18446744073709551616/288230376151711744:Nat):Int):=by
  have:(u64.wrap (((2 ^ k:Nat):Int)*285870213051353865)).fdiv (2 ^ min (Int.toNat 58) u64.bits)=(u64.wrap (((2 ^ k:Nat):Int)*285870213051353865))/288230376151711744:=XY _ 58;rw[this,Qb];generalize 2 ^ k=q;omega
 have g:(2 ^ k*285870213051353865)%18446744073709551616/288230376151711744<64:=by omega
 generalize i:(2 ^ k*285870213051353865)%18446744073709551616/288230376151711744=j at *;rw[e,f]
 conv=>whnf
 refine⟨by omega,?_⟩;refine⟨⟨by omega,.int .u8 k,?_,?_⟩⟩
 ·rw[tu,tr,c];rfl
 conv=>whnf
 refine⟨?_⟩;rw[wrap_small (by omega) (by omega)];rfl
def M8(x n:Nat):Prop:=x<2 ^ n/\(n=0\/2 ^ (n-1)<=x)
theorem M8.unique{x n m:Nat}(h:M8 x n)(k:M8 x m):n=m:=by
 have key:∀{x n m:Nat},M8 x n->M8 x m->¬n<m:=by
  intro x n m h k a;rcases k.2 with b|b
  ·omega
  ·have:=tR (n:=2) (by omega) (show n<=m-1 by omega);have:=h.1;omega
 have c:=key h k;have d:=key k h;omega
theorem M8.shift{x n s:Nat}(h:M8 (x/2 ^ s) n)(b:0<x/2 ^ s):M8 x (s+n):=by
 have hp:=uc s;refine⟨?_,.inr ?_⟩
 ·have:=(vk hp).1 h.1;rw[u5,tV];exact this
 ·rcases h.2 with a|a
  ·subst a;have:=h.1;rw[Nat.pow_zero]at this;omega
  ·have:=(w4 hp).1 a
   have b:n≠0:=by
    intro e;subst e;have:=h.1;simp at this;omega
   rw[show s+n-1=(n-1)+s by omega,u5];exact this
def Jj:List Nat:=(List.range 256).map λx=>if x=0 then 0 else x.log2+1
theorem kq:∀x,x<256->M8 x (Jj.getD x 0):=by
 intro x hx
 have:Jj.getD x 0=if x=0 then 0 else x.log2+1:=by
  simp[Jj,List.getD,hx]
 rw[this];split
 ·subst_vars;exact⟨by decide,.inl rfl⟩
 ·rename_i a
  exact⟨Nat.lt_log2_self,.inr (Nat.log2_self_le a)⟩
theorem JO:∀x,Jj.getD x 0<=8:=by
 intro x;by_cases hx:x<256
 ·revert x;decide +kernel
 ·simp[Jj,List.getD,hx]
theorem WZ(x:Int):x.fdiv (2 ^ min (Int.toNat 16) u64.bits)=x/65536:=XY x 16
theorem pz(x:Int):x.fdiv (2 ^ min (Int.toNat 8) u64.bits)=x/256:=XY x 8
theorem Xe(n:Int):u8.wrap n=n%256:=by
 have:u8.wrap n=n%(2 ^ 8):=by simp[IntKind.wrap,IntKind.signed,IntKind.bits]
 rw[this];rfl
theorem Iy(s:ByteArray)(a:s.data.toList=Jj.map UInt8.ofNat)(y:Nat)(hy:y<256):Gy s (y:Int)=(Jj.getD y 0:Nat):=by
 unfold Gy;rw[a,tu];revert y;decide +kernel
theorem R2(x n S s y:Nat)(c:S=2 ^ s)(a:M8 x n)(hy:y=x/S)(d:y<256)(hp:0<y\/s=0):n=s+Jj.getD y 0:=by
 subst c;have b:=kq y d;rcases hp with hp|hp
 ·subst hy;exact a.unique (b.shift hp)
 ·subst hp;simp at hy;subst hy;rw[tE];exact a.unique b
theorem mF(x n:Nat)(hx:x<18446744073709551616)(f:M8 x n):Ay prog 288 [.d (.int .u64 x)] (.d (.int .i64 n)):=by
 refine D2 func288 (by kernel_rfl) ?_
 conv=>whnf
 refine br (λd=>?_) (λd=>?_)
 ·have d:=tb d
  conv=>whnf
  refine⟨by omega,?_⟩
  conv=>whnf
  refine br (λb=>?_) (λb=>?_)
  ·have b:=tb b;rw[Sk]at b
   conv=>whnf
   refine⟨by omega,?_⟩
   conv=>whnf
   refine br (λa=>?_) (λa=>?_)
   ·have a:=tb a;rw[WZ,Sk]at a
    conv=>whnf
    refine⟨by omega,?_⟩
    conv=>whnf
    have e:u8.wrap ((((x:Int).fdiv (2 ^ min (Int.toNat 32) u64.bits)).fdiv (2 ^ min (Int.toNat 16) u64.bits)).fdiv (2 ^ min (Int.toNat 8) u64.bits))=((x/72057594037927936:Nat):Int):=by
     rw[Xe,pz,WZ,Sk];omega
    have g:=R2 x n 72057594037927936 56 (x/72057594037927936) (by decide) f rfl (by omega) (.inl (by omega));have c:=JO (x/72057594037927936);refine⟨⟨by rw[e];omega,by rw[e,tu];exact tt (show x/72057594037927936<256 by omega) (by decide +kernel)⟩,?_⟩
    conv=>whnf
    refine⟨?_⟩;rw[e,Iy _ (by decide +kernel) _ (by omega)];generalize Jj.getD (x/72057594037927936) 0=q at *;rw[wrap_small (n:=(q:Int)) (by omega) (by omega)];rw[wrap_small (n:=32+16) (by omega) (by omega),wrap_small (n:=32+16+8) (by omega) (by omega),wrap_small (n:=32+16+8+(q:Int)) (by omega) (by omega)];exact z39
   ·have a:=ud a;rw[WZ,Sk]at a
    conv=>whnf
    have e:u8.wrap (((x:Int).fdiv (2 ^ min (Int.toNat 32) u64.bits)).fdiv (2 ^ min (Int.toNat 16) u64.bits))=((x/281474976710656:Nat):Int):=by
     rw[Xe,WZ,Sk];omega
    have g:=R2 x n 281474976710656 48 (x/281474976710656) (by decide) f rfl (by omega) (.inl (by omega));have c:=JO (x/281474976710656);refine⟨⟨by rw[e];omega,by rw[e,tu];exact tt (show x/281474976710656<256 by omega) (by decide +kernel)⟩,?_⟩
    conv=>whnf
    refine⟨?_⟩;rw[e,Iy _ (by decide +kernel) _ (by omega)];generalize Jj.getD (x/281474976710656) 0=q at *;rw[wrap_small (n:=(q:Int)) (by omega) (by omega)];rw[wrap_small (n:=32+16) (by omega) (by omega),wrap_small (n:=32+16+(q:Int)) (by omega) (by omega)];exact z39
  ·have b:=ud b;rw[Sk]at b
   conv=>whnf
   refine br (λa=>?_) (λa=>?_)
   ·have a:=tb a;rw[Sk]at a
    conv=>whnf
    refine⟨by omega,?_⟩
    conv=>whnf
    have e:u8.wrap (((x:Int).fdiv (2 ^ min (Int.toNat 32) u64.bits)).fdiv (2 ^ min (Int.toNat 8) u64.bits))=((x/1099511627776:Nat):Int):=by
     rw[Xe,pz,Sk];omega
    have g:=R2 x n 1099511627776 40 (x/1099511627776) (by decide) f rfl (by omega) (.inl (by omega));have c:=JO (x/1099511627776);refine⟨⟨by rw[e];omega,by rw[e,tu];exact tt (show x/1099511627776<256 by omega) (by decide +kernel)⟩,?_⟩
    conv=>whnf
    refine⟨?_⟩;rw[e,Iy _ (by decide +kernel) _ (by omega)];generalize Jj.getD (x/1099511627776) 0=q at *;rw[wrap_small (n:=(q:Int)) (by omega) (by omega)];rw[wrap_small (n:=32+8) (by omega) (by omega),wrap_small (n:=32+8+(q:Int)) (by omega) (by omega)];exact z39
   ·have a:=ud a;rw[Sk]at a
    conv=>whnf
    have e:u8.wrap ((x:Int).fdiv (2 ^ min (Int.toNat 32) u64.bits))=((x/4294967296:Nat):Int):=by
     rw[Xe,Sk];omega
    have g:=R2 x n 4294967296 32 (x/4294967296) (by decide) f rfl (by omega) (.inl (by omega));have c:=JO (x/4294967296);refine⟨⟨by rw[e];omega,by rw[e,tu];exact tt (show x/4294967296<256 by omega) (by decide +kernel)⟩,?_⟩
    conv=>whnf
    refine⟨?_⟩;rw[e,Iy _ (by decide +kernel) _ (by omega)];generalize Jj.getD (x/4294967296) 0=q at *;rw[wrap_small (n:=(q:Int)) (by omega) (by omega)];rw[wrap_small (n:=32+(q:Int)) (by omega) (by omega)];exact z39
 ·have d:=ud d
  conv=>whnf
  refine br (λb=>?_) (λb=>?_)
  ·have b:=tb b
   conv=>whnf
   refine⟨by omega,?_⟩
   conv=>whnf
   refine br (λa=>?_) (λa=>?_)
   ·have a:=tb a;rw[WZ]at a
    conv=>whnf
    refine⟨by omega,?_⟩
    conv=>whnf
    have e:u8.wrap (((x:Int).fdiv (2 ^ min (Int.toNat 16) u64.bits)).fdiv (2 ^ min (Int.toNat 8) u64.bits))=((x/16777216:Nat):Int):=by
     rw[Xe,pz,WZ];omega
    have g:=R2 x n 16777216 24 (x/16777216) (by decide) f rfl (by omega) (.inl (by omega));have c:=JO (x/16777216);refine⟨⟨by rw[e];omega,by rw[e,tu];exact tt (show x/16777216<256 by omega) (by decide +kernel)⟩,?_⟩
    conv=>whnf
    refine⟨?_⟩;rw[e,Iy _ (by decide +kernel) _ (by omega)];generalize Jj.getD (x/16777216) 0=q at *;rw[wrap_small (n:=(q:Int)) (by omega) (by omega)];rw[wrap_small (n:=0+16) (by omega) (by omega),wrap_small (n:=0+16+8) (by omega) (by omega),wrap_small (n:=0+16+8+(q:Int)) (by omega) (by omega)];exact z39
   ·have a:=ud a;rw[WZ]at a
    conv=>whnf
    have e:u8.wrap ((x:Int).fdiv (2 ^ min (Int.toNat 16) u64.bits))=((x/65536:Nat):Int):=by
     rw[Xe,WZ];omega
    have g:=R2 x n 65536 16 (x/65536) (by decide) f rfl (by omega) (.inl (by omega));have c:=JO (x/65536);refine⟨⟨by rw[e];omega,by rw[e,tu];exact tt (show x/65536<256 by omega) (by decide +kernel)⟩,?_⟩
    conv=>whnf
    refine⟨?_⟩;rw[e,Iy _ (by decide +kernel) _ (by omega)];generalize Jj.getD (x/65536) 0=q at *;rw[wrap_small (n:=(q:Int)) (by omega) (by omega)];rw[wrap_small (n:=0+16) (by omega) (by omega),wrap_small (n:=0+16+(q:Int)) (by omega) (by omega)];exact z39
  ·have b:=ud b
   conv=>whnf
   refine br (λa=>?_) (λa=>?_)
   ·have a:=tb a
    conv=>whnf
    refine⟨by omega,?_⟩
    conv=>whnf
    have e:u8.wrap ((x:Int).fdiv (2 ^ min (Int.toNat 8) u64.bits))=((x/256:Nat):Int):=by
     rw[Xe,pz];omega
    have g:=R2 x n 256 8 (x/256) (by decide) f rfl (by omega) (.inl (by omega));have c:=JO (x/256);refine⟨⟨by rw[e];omega,by rw[e,tu];exact tt (show x/256<256 by omega) (by decide +kernel)⟩,?_⟩
    conv=>whnf
    refine⟨?_⟩;rw[e,Iy _ (by decide +kernel) _ (by omega)];generalize Jj.getD (x/256) 0=q at *;rw[wrap_small (n:=(q:Int)) (by omega) (by omega)];rw[wrap_small (n:=0+8) (by omega) (by omega),wrap_small (n:=0+8+(q:Int)) (by omega) (by omega)];exact z39
   ·have a:=ud a
    conv=>whnf
    have e:u8.wrap (x:Int)=((x/1:Nat):Int):=by
     rw[Xe];omega
    have g:=R2 x n 1 0 (x/1) (by decide) f rfl (by omega) (.inr rfl);have c:=JO (x/1);refine⟨⟨by rw[e];omega,by rw[e,tu];exact tt (show x/1<256 by omega) (by decide +kernel)⟩,?_⟩
    conv=>whnf
    refine⟨?_⟩;rw[e,Iy _ (by decide +kernel) _ (by omega)];generalize Jj.getD (x/1) 0=q at *;rw[wrap_small (n:=(q:Int)) (by omega) (by omega)];rw[wrap_small (n:=0+(q:Int)) (by omega) (by omega)];exact z39
def W(z:Int):D:=.agg [.int .u64 (Hi z),.int .u64 (Lo z)]
theorem dO(z:Int):(0<=Hi z/\Hi z<18446744073709551616)/\0<=Lo z/\Lo z<18446744073709551616:=by unfold Hi Lo;omega
theorem aA{h l z:Int}(a:h=Hi z)(b:l=Lo z):D.agg [.int .u64 h,.int .u64 l]=W z:=by subst a;subst b;rfl
theorem add64_(x y c:Int)(hx:0<=x)(hy:0<=y)(v:c=0\/c=1) :
 im prog 281 [.d (.int .u64 x),.d (.int .u64 y),.d (.int .u64 c)] (.tup [.d (.int .u64 ((x+y+c)%18446744073709551616)),.d (.int .u64 ((x+y+c)/18446744073709551616))]):=by
 intro O w vs g a
 obtain⟨h,k,m,rfl⟩:∃h k m,vs=#[h,k,m]:=by
  obtain⟨l⟩:=vs
  match l,g with
  | [h,k,m],_=>exact⟨h,k,m,rfl⟩
 have p:=AT (a 0 h _ rfl rfl);have q:=AT (a 1 k _ rfl rfl);have r:=AT (a 2 m _ rfl rfl);subst p;subst q;subst r;obtain⟨o,rfl⟩:∃n:Nat,x=n:=⟨x.toNat,by omega⟩;obtain⟨y',rfl⟩:∃n:Nat,y=n:=⟨y.toNat,by omega⟩;obtain⟨c',rfl⟩:∃n:Nat,c=n:=⟨c.toNat,by omega⟩;refine⟨.tuple #[.int .u64 (((o+y'+c')%18446744073709551616:Nat):Int),.int .u64 (((o+y'+c')/18446744073709551616:Nat):Int)],?_,?_⟩
 ·rw[run_callFunc_extern func281 (by kernel_rfl) (by kernel_rfl) (by kernel_rfl) (e:=add64Entry) (by kernel_rfl),run_add64 o y' c' (by omega) (by omega) (by omega) (by omega)];simp only[Result.andThen];congr 5<;>omega
 ·refine⟨_,rfl,rfl,λi u x d hx=>?_,λi j u u' sz e ys s z t b A B f=>?_⟩
  ·match i,d,hx with
   | 0,d,hx=>simp at d hx;subst d;subst hx;exact .int _ _
   | 1,d,hx=>simp at d hx;subst d;subst hx;exact .int _ _
   | i+2,d,hx=>simp at d
  ·match i,f with
   | 0,f=>simp at f
   | 1,f=>simp at f
   | i+2,f=>simp at f
theorem rN(n:Int)(c:0<=n)(d:n<18446744073709551616):u64.wrap ((BitVec.ofInt u64.bits (if u64.signed=true then -1 else u64.max) ^^^ BitVec.ofInt u64.bits n).toNat:Int)=18446744073709551615-n:=by
 have e:(BitVec.ofInt u64.bits (if u64.signed=true then -1 else u64.max) ^^^ BitVec.ofInt u64.bits n).toNat=18446744073709551615 ^^^ n.toNat:=by
  rw[BitVec.toNat_xor,BitVec.toNat_ofInt,BitVec.toNat_ofInt]
  have:(n%((2 ^ u64.bits:Nat):Int)).toNat=n.toNat:=by
   rw[Int.emod_eq_of_lt c (by simpa [IntKind.bits] using d)]
  rw[this];rfl
 have f:18446744073709551615 ^^^ n.toNat=18446744073709551615-n.toNat:=by
  have a:n.toNat<2 ^ 64:=by omega
  have:(2 ^ 64-1) ^^^ n.toNat=2 ^ 64-(n.toNat+1):=by
   apply Nat.eq_of_testBit_eq;intro i;rw[Nat.testBit_xor,Nat.testBit_two_pow_sub_one,Nat.testBit_two_pow_sub_succ a];by_cases b:i<64
   ·simp[b]
   ·simp[b,Nat.testBit_lt_two_pow (tt a (tR (by omega) (show 64<=i by omega)))]
  have g:(18446744073709551615:Nat)=2 ^ 64-1:=by decide
  rw[g,this];omega
 rw[e,f,Qb];omega
theorem whole_(n:Int)(a:-9223372036854775808<=n)(b:n<=9223372036854775807):Ay prog 202 [.d (.int .i64 n)] (.d (W n)):=by
 refine D2 func202 (by kernel_rfl) ?_
 conv=>whnf
 refine⟨by omega,?_⟩
 conv=>whnf
 refine⟨?_⟩;have e:n.fdiv (2 ^ min (Int.toNat 63) i64.bits)=n/9223372036854775808:=XY n 63;rw[e,Qb,Qb];exact congrArg AV.d (aA (by unfold Hi;omega) (by unfold Lo;omega))
theorem plus_(a b:Int):Ay prog 220 [.d (W a),.d (W b)] (.d (W (a+b))):=by
 refine D2 func220 (by kernel_rfl) ?_;have c:=dO a;have d:=dO b
 conv=>whnf
 refine lL (add64_ (Lo a) (Lo b) 0 (by omega) (by omega) (.inl rfl)) ?_
 conv=>whnf
 refine lL (add64_ (Hi a) (Hi b) ((Lo a+Lo b+0)/18446744073709551616) (by omega) (by omega) (by omega)) ?_
 conv=>whnf
 refine⟨?_⟩;exact congrArg AV.d (aA (by unfold Hi Lo;omega) (by unfold Lo;omega))
theorem opposite_(a:Int):Ay prog 266 [.d (W a)] (.d (W (-a))):=by
 refine D2 func266 (by kernel_rfl) ?_;have b:=dO a
 conv=>whnf
 rw[rN _ b.1.1 b.1.2,rN _ b.2.1 b.2.2,aA (h:=18446744073709551615-Hi a) (l:=18446744073709551615-Lo a) (z:=-a-1) (by unfold Hi;omega) (by unfold Lo;omega),aA (h:=0) (l:=1) (z:=1) (by decide) (by decide)];refine A3 (plus_ (-a-1) 1) ?_;rw[show -a-1+1=-a by omega];exact z35
theorem minus_(a b:Int):Ay prog 221 [.d (W a),.d (W b)] (.d (W (a-b))):=by
 refine D2 func221 (by kernel_rfl) ?_
 conv=>whnf
 refine⟨⟨by decide +kernel,by kernel_rfl⟩,?_⟩
 conv=>whnf
 refine A3 (opposite_ b) ?_
 conv=>whnf
 refine A3 (plus_ a (-b)) ?_;rw[show a + -b=a-b by omega];exact z35
theorem times_(a b:Int):Ay prog 223 [.d (W a),.d (W b)] (.d (W (a*b))):=by
 refine D2 func223 (by kernel_rfl) ?_;have j:=dO a;have k:=dO b
 conv=>whnf
 refine A3 (mul64_ (Lo a) (Lo b) (by omega) (by omega) (by omega) (by omega)) ?_
 conv=>whnf
 refine⟨?_⟩
 have c:a*b=18446744073709551616*(18446744073709551616*((a/18446744073709551616)*(b/18446744073709551616))+(a/18446744073709551616)*Lo b+Lo a*(b/18446744073709551616))+Lo a*Lo b:=by
  have e:a=18446744073709551616*(a/18446744073709551616)+Lo a:=by unfold Lo;omega
  have f:b=18446744073709551616*(b/18446744073709551616)+Lo b:=by unfold Lo;omega
  have:∀A x B y:Int,(18446744073709551616*A+x)*(18446744073709551616*B+y)=18446744073709551616*(18446744073709551616*(A*B)+A*y+x*B)+x*y:=by intro A x B y;grind
  have d:=this (a/18446744073709551616) (Lo a) (b/18446744073709551616) (Lo b);rw[<-e,<-f]at d;exact d
 refine congrArg AV.d (aA ?_ ?_)
 ·rw[Qb,Qb,Qb,Qb];have g:Hi a*Lo b%18446744073709551616=(a/18446744073709551616)*Lo b%18446744073709551616:=by unfold Hi;rw[Int.mul_emod,Int.emod_emod,<-Int.mul_emod]
  have h:Lo a*Hi b%18446744073709551616=Lo a*(b/18446744073709551616)%18446744073709551616:=by unfold Hi;rw[Int.mul_emod,Int.emod_emod,<-Int.mul_emod]
  rw[g,h]
  have i:Hi (a*b)=(18446744073709551616*((a/18446744073709551616)*(b/18446744073709551616))+(a/18446744073709551616)*Lo b+Lo a*(b/18446744073709551616)+Lo a*Lo b/18446744073709551616)%18446744073709551616:=by
   unfold Hi;rw[c];congr 1;omega
  rw[i];generalize (a/18446744073709551616)*(b/18446744073709551616)=p;generalize (a/18446744073709551616)*Lo b=q;generalize Lo a*(b/18446744073709551616)=r;generalize Lo a*Lo b=t;omega
 ·unfold Lo;rw[<-Int.mul_emod]
theorem sign_(z:Int)(b:-B127<=z)(c:z<B127):Ay prog 265 [.d (W z)] (.d (.int .i64 z.sign)):=by
 unfold B127 at b c;refine D2 func265 (by kernel_rfl) ?_;have e:(Hi z).fdiv (2 ^ min (Int.toNat 63) u64.bits)=Hi z/9223372036854775808:=XY _ 63
 conv=>whnf
 refine⟨by omega,?_⟩;rw[e]
 conv=>whnf
 refine br (λh=>?_) (λh=>?_)
 ·have h:Hi z/9223372036854775808=1:=by simpa using h
  have a:z<0:=by unfold Hi at h;omega
  conv=>whnf
  exact⟨by rw[ux a];rfl⟩
 have h:Hi z/9223372036854775808≠1:=by simpa using h
 have a:0<=z:=by unfold Hi at h;omega
 conv=>whnf
 refine⟨⟨by kernel_rfl,by kernel_rfl⟩,?_⟩
 conv=>whnf
 refine⟨by kernel_rfl,?_⟩
 conv=>whnf
 refine br (λq=>?_) (λq=>?_)
 ·have q:Hi z=0/\Lo z=0:=by simpa using q
  have:z=0:=by unfold Hi Lo at q;omega
  subst this;exact z35
 ·have q:¬(Hi z=0/\Lo z=0):=by simpa using q
  have:0<z:=by
   rcases Int.lt_or_eq_of_le a with h|h
   ·exact h
   ·subst h;exact absurd ⟨rfl,rfl⟩ q
  conv=>whnf
  exact⟨by rw[vG this];rfl⟩
theorem jk(z:Int)(a:-B127<=z)(b:z<B127):Ay prog 268 [.d (W z)] (.d (W (z.natAbs:Int))):=by
 refine D2 func268 (by kernel_rfl) ?_
 conv=>whnf
 refine A3 (sign_ z a b) ?_;rcases Int.lt_trichotomy z 0 with h|h|h
 ·rw[ux h,show((z.natAbs:Nat):Int)=-z by omega]
  conv=>whnf
  refine A3 (opposite_ z) ?_;exact z35
 ·subst h;exact z35
 ·rw[vG h,show((z.natAbs:Nat):Int)=z by omega];exact z35
theorem iS(x n:Nat)(hx:(x:Int)<B127)(c:M8 x n):Ay prog 302 [.d (W x)] (.d (.int .i64 n)):=by
 unfold B127 at hx;refine D2 func302 (by kernel_rfl) ?_
 conv=>whnf
 have a:Hi x=((x/18446744073709551616:Nat):Int):=by unfold Hi;omega
 have f:Lo x=((x%18446744073709551616:Nat):Int):=by unfold Lo;omega
 refine br (λh=>?_) (λh=>?_)
 ·have h:Hi x>0:=tb h;rw[a]at h;obtain⟨m,b⟩:∃m,M8 (x/18446744073709551616) m:=⟨(x/18446744073709551616).log2+1,Nat.lt_log2_self,.inr (Nat.log2_self_le (by omega))⟩;have e:=c.unique (b.shift (s:=64) (by omega))
  have d:m<=64:=by
   rcases b.2 with q|q
   ·omega
   ·rcases tG 64 m with k|k
    ·have:=tR (n:=2) (by omega) (show 64<=m-1 by omega);omega
    ·exact k
  conv=>whnf
  rw[a];refine A3 (mF _ m (by omega) b) ?_
  conv=>whnf
  refine⟨?_⟩;rw[wrap_small (by omega) (by omega),e];rfl
 ·have h:¬Hi x>0:=ud h;rw[a]at h
  conv=>whnf
  rw[f];refine A3 (mF _ n (by omega) (by rw[uI (by omega)];exact c)) ?_;exact z35
theorem Y0:∀(x:Nat),0<x->∃k m,x=2 ^ k*(2*m+1):=by
 intro x
 induction x using Nat.strongRecOn with
 | _ x ih =>
   intro hx;by_cases h:x%2=1
   ·exact⟨0,x/2,by rw[Nat.pow_zero];omega⟩
   ·obtain⟨k,m,e⟩:=ih (x/2) (by omega) (by omega);refine⟨k+1,m,?_⟩;have:x=2*(x/2):=by omega
    rw[this,e,vR,tV (2 ^ k) 2,uw]
theorem cw(k m:Nat)(hx:((2 ^ k*(2*m+1):Nat):Int)<B127):Ay prog 299 [.d (W ((2 ^ k*(2*m+1):Nat):Int))] (.d (.int .i64 k)):=by
 unfold B127 at hx;refine D2 func299 (by kernel_rfl) ?_
 have d:k<127:=by
  rcases tG k 127 with hk|hk
  ·exact hk
  ·exact z36
 have n:Hi ((2 ^ k*(2*m+1):Nat):Int)=((2 ^ k*(2*m+1)/18446744073709551616:Nat):Int):=by unfold Hi;omega
 have i:Lo ((2 ^ k*(2*m+1):Nat):Int)=((2 ^ k*(2*m+1)%18446744073709551616:Nat):Int):=by unfold Lo;omega
 by_cases hk:64<=k
 ·obtain⟨j,rfl⟩:∃j,k=64+j:=⟨k-64,by omega⟩;have e:2 ^ (64+j)*(2*m+1)=18446744073709551616*(2 ^ j*(2*m+1)):=by rw[u5,uw]
  have a:Lo ((2 ^ (64+j)*(2*m+1):Nat):Int)=0:=by rw[i,e,Nat.mul_mod_right];rfl
  have c:Hi ((2 ^ (64+j)*(2*m+1):Nat):Int)=((2 ^ j*(2*m+1):Nat):Int):=by rw[n,e,wn _ (by omega)]
  have b:2 ^ j*(2*m+1)<18446744073709551616:=by rw[e]at hx;omega
  generalize ((2 ^ (64+j)*(2*m+1):Nat):Int)=z at a c
  conv=>whnf
  rw[a]
  conv=>whnf
  rw[c];refine A3 (sR j m b) ?_
  conv=>whnf
  refine⟨?_⟩;rw[wrap_small (by omega) (by omega)];rfl
 ·have f:2 ^ 64=2 ^ k*2 ^ (64-k):=by rw[<-u5];congr 1;omega
  obtain⟨j,o⟩:∃j,64-k=j+1:=⟨63-k,by omega⟩
  have e:2 ^ k*(2*m+1)%18446744073709551616=2 ^ k*(2*(m%2 ^ j)+1):=by
   rw[show(18446744073709551616:Nat)=2 ^ k*2 ^ (64-k)from f,Nat.mul_mod_mul_left,o,vR];congr 1;have p:=uc j;have g:m=2 ^ j*(m/2 ^ j)+m%2 ^ j:=(vw m _).symm;have s:=v9 m p;generalize m%2 ^ j=r at g s;generalize m/2 ^ j=q at g;generalize 2 ^ j=t at *;have u:2*m+1=(2*r+1)+(t*2)*q:=by rw[g];grind
   rw[u,Nat.add_mul_mod_self_left,uI (by omega)]
  have a:Lo ((2 ^ k*(2*m+1):Nat):Int)=((2 ^ k*(2*(m%2 ^ j)+1):Nat):Int):=by rw[i,e]
  have b:2 ^ k*(2*(m%2 ^ j)+1)<18446744073709551616:=by rw[<-e];exact v9 _ (by omega)
  have l:0<2 ^ k*(2*(m%2 ^ j)+1):=Nat.mul_pos (uc k) (by omega);generalize ((2 ^ k*(2*m+1):Nat):Int)=z at a
  conv=>whnf
  rw[a];refine br (λh=>?_) (λh=>?_)
  ·have h:=wo h;omega
  conv=>whnf
  refine A3 (sR k (m%2 ^ j) b) ?_;exact z35
theorem pw(a:Int)(n:Nat)(b:n<=64):u64.wrap (a*2 ^ (min ((n:Int)).toNat u64.bits))=a*((2 ^ n:Nat):Int)%18446744073709551616:=by
 rw[Qb,tu,show u64.bits=64 from rfl,u9 b];congr 2
theorem p7(a:Int)(n:Nat)(b:n<=64):a.fdiv (2 ^ (min ((n:Int)).toNat u64.bits))=a/((2 ^ n:Nat):Int):=by
 rw[tu,show u64.bits=64 from rfl,u9 b,XY];congr 1
theorem qd(i x y:Nat)(hy:y<2 ^ i):(2 ^ i*x) ||| y=2 ^ i*x+y:=(Nat.two_pow_add_eq_or_of_lt hy x).symm
theorem ZX{n:Nat}(a:n<=64):18446744073709551616=2 ^ n*2 ^ (64-n):=by
 rw[<-u5,show n+(64-n)=64 by omega]
theorem rF(A u v M:Nat)(a:M=u*v):(A%M)*u%M=u*(A%v):=by
 rw[w9,Nat.mod_mod,<-w9,tV A u,a,Nat.mul_mod_mul_left]
theorem sy(x u v M:Nat)(a:M=u*v)(b:0<u)(c:0<M):x*u/M=u*(x/M)+x%M/v:=by
 have h:=vw x M;generalize x/M=q at *;generalize x%M=r at *;subst h;rw[uo,uw,Nat.mul_add_div c,tV q u,tV r u,a,Nat.mul_div_mul_left _ _ b]
theorem rG(q l u v M:Nat)(b:M=u*v)(e:l<u)(c:0<v):(u*q+l)%M=u*(q%v)+l:=by
 have h:=vw q v;have d:=v9 q c;generalize q/v=a at *;generalize q%v=r at *;subst h;rw[show u*(v*a+r)+l=(u*r+l)+M*a from by rw[b];grind,Nat.add_mul_mod_self_left,uI];have:u*(r+1)<=u*v:=vB _ d;rw[Nat.mul_add,u4]at this;omega
theorem s3(x u v M:Nat)(a:M=u*v)(b:0<u):x/u=v*(x/M)+x%M/u:=by
 have h:=vw x M;generalize x/M=q at *;generalize x%M=r at *;subst h;rw[a,uw,Nat.mul_add_div b]
theorem oR(x n:Nat)(c:n<=64):(((x/18446744073709551616%18446744073709551616)*2 ^ n%18446744073709551616) ||| (x%18446744073709551616/2 ^ (64-n)))=x*2 ^ n/18446744073709551616%18446744073709551616:=by
 have hp:=ZX c;have d:=uc n;have a:=uc (64-n)
 have b:x%18446744073709551616/2 ^ (64-n)<2 ^ n:=by
  rw[vk a];have:=v9 x (show 18446744073709551616>0 by omega);rw[<-hp];exact this
 rw[rF _ _ _ _ hp,qd n _ _ b,sy x _ _ _ hp d (by omega),rG _ _ _ _ _ hp b a]
theorem nH(x n:Nat)(d:n<=64):((x%18446744073709551616/2 ^ n) ||| ((x/18446744073709551616%18446744073709551616)*2 ^ (64-n)%18446744073709551616))=x/2 ^ n%18446744073709551616:=by
 have hp:=ZX d;have a:18446744073709551616=2 ^ (64-n)*2 ^ n:=by rw[tV];exact hp
 have b:=uc n;have e:=uc (64-n)
 have c:x%18446744073709551616/2 ^ n<2 ^ (64-n):=by
  rw[vk b,<-a];exact v9 x (by omega)
 rw[rF _ _ _ _ a,Nat.or_comm,qd _ _ _ c,s3 x _ _ _ hp b,rG _ _ _ _ _ a c b]
theorem iv(a b:Nat):(((a:Nat):Int)*((b:Nat):Int)%18446744073709551616%18446744073709551616).toNat=a*b%18446744073709551616:=by rw[<-wb];omega
theorem iu(a b:Nat)(h:a<18446744073709551616):(((a:Nat):Int)/((b:Nat):Int)%18446744073709551616).toNat=a/b:=by
 rw[<-Int.natCast_ediv];have:=wd a b;generalize a/b=q at *;omega
theorem pL(x:Nat):Hi (x:Int)=((x/18446744073709551616%18446744073709551616:Nat):Int):=by unfold Hi;omega
theorem pO(x:Nat):Lo (x:Int)=((x%18446744073709551616:Nat):Int):=by unfold Lo;omega
theorem pY(x n:Nat)(b:n<128):Ay prog 301 [.d (W x),.d (.int .i64 n)] (.d (W ((x*2 ^ n:Nat):Int))):=by
 refine D2 func301 (by kernel_rfl) ?_
 conv=>whnf
 refine br (λh=>?_) (λh=>?_)
 ·have h:=tb h;obtain⟨j,rfl⟩:∃j,n=64+j:=⟨n-64,by omega⟩;have e:i64.wrap (((64+j:Nat):Int)-64)=(j:Int):=by rw[wrap_small (by omega) (by omega)];omega
  conv=>whnf
  rw[e];refine⟨by omega,?_⟩;rw[pw _ j (by omega)]
  conv=>whnf
  refine⟨?_⟩;refine congrArg AV.d (aA ?_ ?_)
  ·rw[pL,pO,u5,show x*(2 ^ 64*2 ^ j)=18446744073709551616*(x*2 ^ j)from by rw[Nat.mul_left_comm],wn _ (by omega)];rw[<-wb];have:x%18446744073709551616*2 ^ j%18446744073709551616=x*2 ^ j%18446744073709551616:=by rw[w9,Nat.mod_mod,<-w9]
   rw[<-this];rfl
  ·rw[pO,u5,show x*(2 ^ 64*2 ^ j)=18446744073709551616*(x*2 ^ j)from by rw[Nat.mul_left_comm],Nat.mul_mod_right];rfl
 ·have h:=ud h;have a:n<=64:=by omega
  have e:i64.wrap (64-(n:Int))=((64-n:Nat):Int):=by rw[wrap_small (by omega) (by omega)];omega
  conv=>whnf
  refine⟨⟨by decide +kernel,by kernel_rfl⟩,?_⟩
  conv=>whnf
  refine⟨by omega,?_⟩
  conv=>whnf
  rw[e];refine⟨by omega,?_⟩
  conv=>whnf
  refine⟨by omega,?_⟩;rw[pw _ n a,pw _ n a,p7 _ (64-n) (by omega)]
  conv=>whnf
  refine⟨?_⟩;refine congrArg AV.d (aA ?_ ?_)
  ·rw[sQ,pL x,pO x,pL (x*2 ^ n),<-oR x n a,iv,iu _ _ (v9 _ (by omega))]
  ·rw[pO,pO,<-wb];have:x%18446744073709551616*2 ^ n%18446744073709551616=x*2 ^ n%18446744073709551616:=by rw[w9,Nat.mod_mod,<-w9]
   rw[<-this];rfl
theorem nG(x n:Nat)(hx:x<340282366920938463463374607431768211456)(c:n<128):Ay prog 300 [.d (W x),.d (.int .i64 n)] (.d (W ((x/2 ^ n:Nat):Int))):=by
 refine D2 func300 (by kernel_rfl) ?_
 conv=>whnf
 refine br (λh=>?_) (λh=>?_)
 ·have h:=tb h;obtain⟨j,rfl⟩:∃j,n=64+j:=⟨n-64,by omega⟩;have e:i64.wrap (((64+j:Nat):Int)-64)=(j:Int):=by rw[wrap_small (by omega) (by omega)];omega
  conv=>whnf
  rw[e];refine⟨by omega,?_⟩;rw[p7 _ j (by omega)]
  conv=>whnf
  refine⟨?_⟩;have hq:x/2 ^ (64+j)=x/18446744073709551616/2 ^ j:=by rw[u5,<-wq]
  have b:=wd (x/18446744073709551616) (2 ^ j);refine congrArg AV.d (aA ?_ ?_)
  ·rw[pL,hq];generalize x/18446744073709551616/2 ^ j=q at *;omega
  ·rw[pL,pO,hq,uI (show x/18446744073709551616<18446744073709551616 by omega),<-Int.natCast_ediv];generalize x/18446744073709551616/2 ^ j=q at *;omega
 ·have h:=ud h;have a:n<=64:=by omega
  have e:i64.wrap (64-(n:Int))=((64-n:Nat):Int):=by rw[wrap_small (by omega) (by omega)];omega
  conv=>whnf
  refine⟨⟨by decide +kernel,by kernel_rfl⟩,?_⟩
  conv=>whnf
  refine⟨by omega,?_⟩
  conv=>whnf
  refine⟨by omega,?_⟩
  conv=>whnf
  rw[e];refine⟨by omega,?_⟩;rw[p7 _ n a,p7 _ n a,pw _ (64-n) (by omega)]
  conv=>whnf
  refine⟨?_⟩;refine congrArg AV.d (aA ?_ ?_)
  ·rw[pL,pL,uI (show x/18446744073709551616<18446744073709551616 by omega),<-Int.natCast_ediv,wq x (2 ^ n),tV (2 ^ n),<-wq];have:=wd (x/18446744073709551616) (2 ^ n);generalize x/18446744073709551616/2 ^ n=q at *;omega
  ·rw[sQ,pL x,pO x,pO (x/2 ^ n),<-nH x n a,iv,iu _ _ (v9 _ (by omega))]
theorem Xu(A j B:Nat)(f:A%2=1):Nat.gcd A (2 ^ j*B)=Nat.gcd A B:=by
 have b:Nat.Coprime 2 A:=by
  unfold Nat.Coprime;have c:=Nat.gcd_dvd_left 2 A;have d:=Nat.gcd_dvd_right 2 A;have e:=Nat.le_of_dvd (by omega) c;have a:=uV A (show 0<2 by omega);rcases(show Nat.gcd 2 A=1\/Nat.gcd 2 A=2 by omega)with h|h
  ·exact h
  ·rw[h]at d;omega
 exact Nat.Coprime.gcd_mul_left_cancel_right B (Nat.Coprime.pow_left j b)
theorem oK(i j A B:Nat)(a:A%2=1)(b:B%2=1):Nat.gcd (2 ^ i*A) (2 ^ j*B)=Nat.gcd A B*2 ^ min i j:=by
 rcases Nat.le_total i j with h|h
 ·obtain⟨e,rfl⟩:=Nat.le.dest h;rw[u5,uw,Nat.gcd_mul_left,Xu A e B a,u9 h,tV]
 ·obtain⟨e,rfl⟩:=Nat.le.dest h;rw[u5,uw,Nat.gcd_mul_left,vH,Xu B e A b,vH,Nat.min_eq_right h,tV]
theorem aD(x:Nat)(hx:(x:Int)<B127):(Hi x=0/\Lo x=0)↔x=0:=by
 unfold B127 at hx;unfold Hi Lo;omega
theorem VO{k m:Nat}(hx:((2 ^ k*(2*m+1):Nat):Int)<B127):k<127:=by
 unfold B127 at hx;rcases tG k 127 with hk|hk
 ·exact hk
 ·exact z36
theorem iW(k m:Nat):2 ^ k*(2*m+1)/2 ^ k=2*m+1:=wn _ (uc k)
set_option maxHeartbeats 1000000 in
theorem iz(a b:Nat)(u:0<a)(d:(a:Int)<B127)(c:(b:Int)<B127):Ay prog 267 [.d (W a),.d (W b)] (.d (W ((Nat.gcd a b:Nat):Int))):=by
 refine D2 func267 (by kernel_rfl) ?_
 conv=>whnf
 refine⟨⟨by kernel_rfl,by kernel_rfl⟩,?_⟩
 conv=>whnf
 refine⟨by kernel_rfl,?_⟩
 conv=>whnf
 refine br (λq=>?_) (λq=>?_)
 ·have q:Hi b=0/\Lo b=0:=by simpa using q
  obtain rfl:=(aD b c).1 q;rw[Nat.gcd_zero_right];exact z35
 have q:¬(Hi b=0/\Lo b=0):=by simpa using q
 have v:0<b:=Nat.pos_of_ne_zero λe=>q ((aD b c).2 e);clear q;obtain⟨i,A,rfl⟩:=Y0 a u;obtain⟨j,B,rfl⟩:=Y0 b v;have G:=VO d;have H:=VO c
 conv=>whnf
 refine⟨⟨by decide +kernel,by kernel_rfl⟩,?_⟩
 conv=>whnf
 refine A3 (cw i A d) ?_
 conv=>whnf
 refine A3 (cw j B c) ?_
 conv=>whnf
 refine⟨⟨by decide +kernel,by kernel_rfl⟩,?_⟩
 conv=>whnf
 refine A3 (cw i A d) ?_
 conv=>whnf
 refine A3 (nG _ i (by unfold B127 at d;omega) (by omega)) ?_;rw[iW]
 have p:((2*A+1:Nat):Int)<B127:=by
  have:2*A+1<=2 ^ i*(2*A+1):=vI _ (uc i);omega
 have l:Nat.gcd (2*A+1) (2 ^ j*(2*B+1))*2 ^ min i j=Nat.gcd (2 ^ i*(2*A+1)) (2 ^ j*(2*B+1)):=by
  rw[oK i j _ _ (by omega) (by omega),Xu _ _ _ (by omega)]
 generalize Nat.gcd (2 ^ i*(2*A+1)) (2 ^ j*(2*B+1))=res at l;generalize n:2 ^ j*(2*B+1)=y0 at *;have r:(if(j:Int)<i then(j:Int)else i)=((min i j:Nat):Int):=by split<;>omega
 conv=>whnf
 refine loop {s:Nat×Nat // (s.1%2=1/\(s.1:Int)<B127)/\(s.2:Int)<B127/\Nat.gcd s.1 s.2*2 ^ min i j=res} (λs=>CY 39 [(2,.ptr 2 1 0),(3,.ptr 3 1 0),(4,.ptr 4 1 0),(5,.d (.int .i64 ((min i j:Nat):Int)))]
  [(2,.var [.d (.int .u64 (Hi s.1.1)),.d (.int .u64 (Lo s.1.1))],1),(3,.var [.d (.int .u64 (Hi s.1.2)),.d (.int .u64 (Lo s.1.2))],1),(4,.var [.d (.int .u64 0),.d (.int .u64 0)],1)])
  (λs=>s.1.1+s.1.2) ⟨(2*A+1,y0),⟨by simp only;omega,p⟩,c,l⟩ ?_ λs=>?_
 ·refine R1 ?_
  conv=>whnf
  rw[r]
  repeat (first|exact trivial|refine And.intro (by first|with_reducible rfl|exact .inl rfl|(rw[next (by first|omega|(simp only;omega))])|rfl) ?_)
 obtain⟨⟨x,y⟩,⟨f,hx⟩,hy,g⟩:=s;simp only at f hx hy g;have I:B127=170141183460469231731687303715884105728:=rfl
 conv=>whnf
 refine⟨⟨by kernel_rfl,by kernel_rfl⟩,?_⟩
 conv=>whnf
 refine⟨by kernel_rfl,?_⟩
 conv=>whnf
 refine br (λq=>?_) (λq=>?_)
 ·have q:¬(Hi y=0/\Lo y=0):=by
   rintro⟨w,C⟩;simp[w,C]at q
  have n:0<y:=Nat.pos_of_ne_zero λe=>q ((aD y hy).2 e);clear q;obtain⟨k,m,rfl⟩:=Y0 y n;have hk:=VO hy;have D:2*m+1<=2 ^ k*(2*m+1):=vI _ (uc k);rw[Xu _ _ _ f]at g
  conv=>whnf
  refine⟨⟨by decide +kernel,by kernel_rfl⟩,?_⟩
  conv=>whnf
  refine A3 (cw k m hy) ?_
  conv=>whnf
  refine A3 (nG (2 ^ k*(2*m+1)) k (by omega) (by omega)) ?_;rw[iW];generalize 2 ^ k*(2*m+1)=y at *;generalize J:2*m+1=z at *;have E:0<z:=by omega
  have t:z%2=1:=by omega
  conv=>whnf
  refine A3 (minus_ z x) ?_
  conv=>whnf
  refine A3 (sign_ ((z:Int)-x) (by omega) (by omega)) ?_;by_cases F:(z:Int)-x<0
  ·rw[ux F]
   conv=>whnf
   refine A3 (minus_ x z) ?_;rw[show((x:Int)-z)=((x-z:Nat):Int) by omega]
   conv=>whnf
   refine⟨⟨(z,x-z),⟨t,by omega⟩,by simp only;omega,?_⟩,?_,by simp only;omega⟩
   ·show Nat.gcd z (x-z)*2 ^ min i j=res;rw[vH,Nat.gcd_sub_self_left (by omega)];exact g
   ·refine R1 ?_
    conv=>whnf
    repeat (first|exact trivial|refine And.intro (by first|with_reducible rfl|exact .inl rfl|(rw[next (by first|omega|(simp only;omega))])|rfl) ?_)
  ·have o:¬(((z:Int)-x).sign<0):=by
    intro h;have:=Int.sign_neg_iff.1 h;omega
   generalize Int.sign ((z:Int)-x)=sg at o
   conv=>whnf
   refine br (λh=>?_) (λ_=>?_)
   ·exact absurd (tb h) o
   conv=>whnf
   refine A3 (minus_ z x) ?_;rw[show((z:Int)-x)=((z-x:Nat):Int) by omega]
   conv=>whnf
   refine⟨⟨(x,z-x),⟨f,hx⟩,by simp only;omega,?_⟩,?_,by simp only;omega⟩
   ·show Nat.gcd x (z-x)*2 ^ min i j=res;rw[Nat.gcd_sub_self_right (by omega)];exact g
   ·refine R1 ?_
    conv=>whnf
    repeat (first|exact trivial|refine And.intro (by first|with_reducible rfl|exact .inl rfl|(rw[next (by first|omega|(simp only;omega))])|rfl) ?_)
 ·have q:Hi y=0/\Lo y=0:=by simpa using q
  obtain rfl:=(aD y hy).1 q;rw[Nat.gcd_zero_right]at g
  conv=>whnf
  refine A3 (pY x (min i j) (by omega)) ?_;rw[g];exact z35
def sK:Int:=1152921504606846976
theorem M8.le{x n m:Nat}(h:M8 x n)(hx:x<2 ^ m):n<=m:=by
 rcases h.2 with a|a
 ·omega
 ·rcases tG m n with k|k
  ·have:=tR (n:=2) (by omega) (show m<=n-1 by omega);omega
  ·exact k
theorem dR(x:Nat):∃n,M8 x n:=by
 by_cases h:x=0
 ·subst h;exact⟨0,by decide,.inl rfl⟩
 ·exact⟨x.log2+1,Nat.lt_log2_self,.inr (Nat.log2_self_le h)⟩
def sW(a b:Nat)(v:Int):Prop:=((a/b:Nat):Int)<=sK->v=((a/b:Nat):Int)
set_option maxHeartbeats 1000000 in
theorem iZ(a b:Nat)(u:0<b)(C:(a:Int)<B127)(D:(b:Int)<B127) :
 ∃v,sW a b v/\Ay prog 269 [.d (W a),.d (W b)] (.tup [.d (.int .i64 v),.d (.bool (decide (((a/b:Nat):Int)<=1152921504606846976)))]):=by
 obtain⟨c,i⟩:=dR a;obtain⟨lb,f⟩:=dR b;have U:B127=170141183460469231731687303715884105728:=rfl;have H:c<=127:=i.le (by omega);have I:lb<=127:=f.le (by omega)
 have J:1<=lb:=by
  have:=f.1;rcases Nat.eq_zero_or_pos lb with h|h
  ·subst h;rw[Nat.pow_zero]at this;omega
  ·exact h
 have m:2 ^ (lb-1)<=b:=f.2.resolve_left (by omega);refine⟨if(c:Int)-lb>61 then 0 else((a/b:Nat):Int),?_,?_⟩
 ·intro h;split
  ·rename_i B
   exfalso
   have w:2 ^ (c-1)<=a:=i.2.resolve_left (by omega);have o:2 ^ (61+lb)<=2 ^ (c-1):=tR (by omega) (by omega);rw[u5]at o;have M:=f.1;have E:2 ^ 61*b<=2 ^ 61*2 ^ lb:=vB _ (by omega);have N:2 ^ 61<=a/b:=(w4 u).2 (by omega);unfold sK at h;omega
  ·rfl
 refine D2 func269 (by kernel_rfl) ?_
 conv=>whnf
 refine⟨⟨by decide +kernel,by kernel_rfl⟩,?_⟩
 conv=>whnf
 refine A3 (iS a c C i) ?_
 conv=>whnf
 refine A3 (iS b lb D f) ?_;have e:i64.wrap ((c:Int)-lb)=(c:Int)-lb:=wrap_small (by omega) (by omega)
 conv=>whnf
 rw[e];refine br (λh=>?_) (λh=>?_)
 ·have B:=tb h
  have:decide (((a/b:Nat):Int)<=1152921504606846976)=false:=by
   apply tD;intro h;have w:2 ^ (c-1)<=a:=i.2.resolve_left (by omega);have o:2 ^ (61+lb)<=2 ^ (c-1):=tR (by omega) (by omega);rw[u5]at o;have M:=f.1;have E:2 ^ 61*b<=2 ^ 61*2 ^ lb:=vB _ (by omega);have N:2 ^ 61<=a/b:=(w4 u).2 (by omega);omega
  rw[this,tf B];exact z35
 have B:=ud h;rw[tn B]
 have V:a<2 ^ 62*b:=by
  have w:=i.1;have o:2 ^ c<=2 ^ (62+(lb-1)):=tR (by omega) (by omega);rw[u5]at o;have E:2 ^ 62*2 ^ (lb-1)<=2 ^ 62*b:=vB _ m;omega
 have p:a<2 ^ ((c:Int)-lb+1).toNat*b:=by
  have w:=i.1;by_cases q:lb<=c+1
  ·have o:2 ^ c=2 ^ ((c:Int)-lb+1).toNat*2 ^ (lb-1):=by rw[<-u5];congr 1;omega
   have E:2 ^ ((c:Int)-lb+1).toNat*2 ^ (lb-1)<=2 ^ ((c:Int)-lb+1).toNat*b:=vB _ m;omega
  ·rw[show((c:Int)-lb+1).toNat=0 by omega,Nat.pow_zero,Nat.one_mul];have:=tR (n:=2) (by omega) (show c<=lb-1 by omega);omega
 conv=>whnf
 refine loop {s:Int×Nat×Nat // (s.1<=(c:Int)-lb/\-200<=s.1)/\s.2.1*(2 ^ (s.1+1).toNat*b)+s.2.2=a/\s.2.2<2 ^ (s.1+1).toNat*b} (λs=>CY 38 [(2,.ptr 2 1 0),(3,.ptr 3 1 0),(7,.d (.int .i64 s.1.2.1)),(8,.d (.int .i64 s.1.1))]
  [(2,.var [.d (.int .u64 (Hi s.1.2.2)),.d (.int .u64 (Lo s.1.2.2))],1),(3,.var [.d (.int .u64 (Hi b)),.d (.int .u64 (Lo b))],1)]) (λs=>(s.1.1+1).toNat) ⟨((c:Int)-lb,0,a),⟨by simp only;omega,by simp only;omega⟩,by simp,p⟩ ?_ λs=>?_
 ·refine R1 ?_
  conv=>whnf
  repeat (first|exact trivial|refine And.intro (by first|with_reducible rfl|exact .inl rfl|(rw[next (by first|omega|(simp only;omega))])|rfl) ?_)
 obtain⟨⟨k,q,r⟩,⟨t,F⟩,l,hr⟩:=s;simp only at t F l hr
 have x:q*2 ^ (k+1).toNat<2 ^ 62:=by
  have:q*2 ^ (k+1).toNat*b<2 ^ 62*b:=by rw[uw];omega
  exact Nat.lt_of_mul_lt_mul_right this
 have hp:=uc (k+1).toNat
 conv=>whnf
 refine br (λh=>?_) (λh=>?_)
 ·have hk:k>=0:=tb h;obtain⟨j,O⟩:∃j:Nat,k=j:=⟨k.toNat,by omega⟩;subst O;have G:2 ^ ((j:Int)+1).toNat=2*2 ^ j:=by rw[show((j:Int)+1).toNat=j+1 by omega,vR,tV]
  rw[G]at l hr x hp;have y:=uc j
  have P:2*q<2 ^ 62:=by
   have:2*q<=q*(2*2 ^ j):=by
    rw[<-uw,tV q 2];exact wm _ y
   omega
  have Q:i64.wrap ((q:Int)*2)=((2*q:Nat):Int):=by rw[wrap_small (by omega) (by omega)];omega
  have K:i64.wrap ((j:Int)-1)=(j:Int)-1:=wrap_small (by omega) (by omega)
  have R:b*2 ^ j<2 ^ 127:=by
   have w:=f.1;have o:b*2 ^ j<2 ^ lb*2 ^ j:=Nat.mul_lt_mul_of_pos_right w y;rw[<-u5]at o;have:=tR (n:=2) (by omega) (show lb+j<=127 by omega);omega
  have S:r<=a:=by omega
  conv=>whnf
  rw[Q];refine⟨⟨by decide +kernel,by kernel_rfl⟩,?_⟩
  conv=>whnf
  refine A3 (pY b j (by omega)) ?_
  conv=>whnf
  refine A3 (minus_ r ((b*2 ^ j:Nat):Int)) ?_;rw[show 2*2 ^ j*b=2*(b*2 ^ j)from by rw[uw,tV (2 ^ j) b]]at l hr;have g:((j:Int)-1+1).toNat=j:=by omega
  generalize hd:b*2 ^ j=d at *
  conv=>whnf
  refine A3 (sign_ ((r:Int)-d) (by omega) (by omega)) ?_;by_cases L:(r:Int)-d<0
  ·rw[ux L]
   conv=>whnf
   refine⟨⟨((j:Int)-1,2*q,r),⟨by simp only;omega,by simp only;omega⟩,?_,?_⟩,?_,by simp only;omega⟩
   ·simp only[g];rw[tV (2 ^ j) b,hd,tV 2 q,uw];exact l
   ·simp only[g];rw[tV (2 ^ j) b,hd];omega
   ·refine R1 ?_
    conv=>whnf
    rw[K]
    repeat (first|exact trivial|refine And.intro (by first|with_reducible rfl|exact .inl rfl|(rw[next (by first|omega|(simp only;omega))])|rfl) ?_)
  ·have z:¬(((r:Int)-d).sign<0):=λh=>L (Int.sign_neg_iff.1 h);have T:i64.wrap (((2*q:Nat):Int)+1)=((2*q+1:Nat):Int):=by rw[wrap_small (by omega) (by omega)];omega
   rw[show(r:Int)-d=((r-d:Nat):Int) by omega]at z ⊢;generalize Int.sign ((r-d:Nat):Int)=sg at z
   conv=>whnf
   refine br (λ_=>?_) (λh=>?_)
   ·conv=>whnf
    rw[T];refine⟨⟨((j:Int)-1,2*q+1,r-d),⟨by simp only;omega,by simp only;omega⟩,?_,?_⟩,?_,by simp only;omega⟩
    ·simp only[g];rw[tV (2 ^ j) b,hd,uo,Nat.one_mul,tV 2 q,uw];omega
    ·simp only[g];rw[tV (2 ^ j) b,hd];omega
    ·refine R1 ?_
     conv=>whnf
     rw[K]
     repeat (first|exact trivial|refine And.intro (by first|with_reducible rfl|exact .inl rfl|(rw[next (by first|omega|(simp only;omega))])|rfl) ?_)
   ·have:=ud h;omega
 ·have hk:¬k>=0:=ud h;have t:(k+1).toNat=0:=by omega
  rw[t,Nat.pow_zero,Nat.one_mul]at l hr;have A:a/b=q:=Nat.div_eq_of_lt_le (by omega) (by rw[uo,Nat.one_mul];omega);rw[A];exact z35
def frD(p:Int×Int):D:=.agg [.int .i64 p.1,.int .i64 p.2]
set_option maxHeartbeats 1000000 in
theorem reduced_(a b:Int)(q:b≠0)(t:-B127<a/\a<B127)(u:-B127<b/\b<B127) :
 Ay prog 201 [.d (W a),.d (W b)] (.tup [.d (frD (redF (nn a b) b.natAbs)),.d (.int .i64 (redE (nn a b) b.natAbs))]):=by
 have w:B127=170141183460469231731687303715884105728:=rfl;refine D2 func201 (by kernel_rfl) ?_
 conv=>whnf
 refine A3 (sign_ b (by omega) (by omega)) ?_;by_cases i:b<0
 ·rw[ux i,show nn a b=-a from tf i]
  conv=>whnf
  refine⟨⟨by decide +kernel,by kernel_rfl⟩,?_⟩
  conv=>whnf
  refine A3 (opposite_ a) ?_
  conv=>whnf
  refine A3 (opposite_ b) ?_;obtain⟨d,hd⟩:∃d:Nat,-b=d:=⟨b.natAbs,by omega⟩;rw[hd,show b.natAbs=d by omega];unfold redF redE okR
  conv=>whnf
  refine⟨⟨by decide +kernel,by kernel_rfl⟩,?_⟩
  conv=>whnf
  refine A3 (jk (-a) (by omega) (by omega)) ?_
  conv=>whnf
  refine A3 (iz d ((-a)).natAbs (by omega) (by omega) (by omega)) ?_;have e:0<Nat.gcd d ((-a)).natAbs:=uV _ (by omega);have l:Nat.gcd d ((-a)).natAbs<=d:=Nat.gcd_le_left _ (by omega);generalize Nat.gcd d ((-a)).natAbs=g at e l ⊢
  conv=>whnf
  refine⟨⟨by decide +kernel,by kernel_rfl⟩,?_⟩
  conv=>whnf
  refine A3 (jk (-a) (by omega) (by omega)) ?_
  conv=>whnf
  obtain⟨v,m,n⟩:=iZ ((-a)).natAbs g e (by omega) (by omega);refine A3 n ?_;obtain⟨r,f,c⟩:=iZ d g e (by omega) (by omega);by_cases j:(((((-a)).natAbs/g:Nat):Int)<=1152921504606846976)
  ·rw[ti j];have m:=m j;subst m
   conv=>whnf
   refine A3 c ?_;by_cases k:(((d/g:Nat):Int)<=1152921504606846976)
   ·rw[ti k];have f:=f k;subst f
    conv=>whnf
    refine A3 (sign_ (-a) (by omega) (by omega)) ?_;have o:0<=((((-a)).natAbs/g:Nat):Int):=vJ _;generalize ((((-a)).natAbs/g:Nat):Int)=n1 at j o ⊢;generalize ((d/g:Nat):Int)=d1 at k ⊢
    conv=>whnf
    refine⟨?_⟩
    have s:-n1<=n1*((-a)).sign/\n1*((-a)).sign<=n1:=by
     rcases Int.sign_trichotomy ((-a))with h|h|h<;>rw[h]<;>omega
    rw[wrap_small (by omega) (by omega)];rfl
   ·rw[tD k];exact z35
  ·rw[tD j]
   conv=>whnf
   refine A3 c ?_;exact z35
 ·have p:0<b:=by omega
  rw[vG p,show nn a b=a from tn i];obtain⟨d,rfl⟩:∃d:Nat,b=d:=⟨b.natAbs,by omega⟩;rw[wg];unfold redF redE okR
  conv=>whnf
  refine⟨⟨by decide +kernel,by kernel_rfl⟩,?_⟩
  conv=>whnf
  refine A3 (jk a (by omega) (by omega)) ?_
  conv=>whnf
  refine A3 (iz d (a).natAbs (by omega) (by omega) (by omega)) ?_;have e:0<Nat.gcd d (a).natAbs:=uV _ (by omega);have l:Nat.gcd d (a).natAbs<=d:=Nat.gcd_le_left _ (by omega);generalize Nat.gcd d (a).natAbs=g at e l ⊢
  conv=>whnf
  refine⟨⟨by decide +kernel,by kernel_rfl⟩,?_⟩
  conv=>whnf
  refine A3 (jk a (by omega) (by omega)) ?_
  conv=>whnf
  obtain⟨v,m,n⟩:=iZ (a).natAbs g e (by omega) (by omega);refine A3 n ?_;obtain⟨r,f,c⟩:=iZ d g e (by omega) (by omega);by_cases j:((((a).natAbs/g:Nat):Int)<=1152921504606846976)
  ·rw[ti j];have m:=m j;subst m
   conv=>whnf
   refine A3 c ?_;by_cases k:(((d/g:Nat):Int)<=1152921504606846976)
   ·rw[ti k];have f:=f k;subst f
    conv=>whnf
    refine A3 (sign_ a (by omega) (by omega)) ?_;have o:0<=(((a).natAbs/g:Nat):Int):=vJ _;generalize (((a).natAbs/g:Nat):Int)=n1 at j o ⊢;generalize ((d/g:Nat):Int)=d1 at k ⊢
    conv=>whnf
    refine⟨?_⟩
    have s:-n1<=n1*(a).sign/\n1*(a).sign<=n1:=by
     rcases Int.sign_trichotomy (a)with h|h|h<;>rw[h]<;>omega
    rw[wrap_small (by omega) (by omega)];rfl
   ·rw[tD k];exact z35
  ·rw[tD j]
   conv=>whnf
   refine A3 c ?_;exact z35
theorem of_(b a:Int)(c:a≠0)(d:-9223372036854775808<=b/\b<=9223372036854775807)(f:-9223372036854775808<=a/\a<=9223372036854775807) :
 Ay prog 125 [.d (.int .i64 b),.d (.int .i64 a)] (.tup [.d (frD (redF (nn b a) a.natAbs)),.d (.int .i64 (redE (nn b a) a.natAbs))]):=by
 have g:B127=170141183460469231731687303715884105728:=rfl;refine D2 func125 (by kernel_rfl) ?_
 conv=>whnf
 refine br (λh=>?_) (λh=>?_)
 ·exact absurd (wo h) c
 conv=>whnf
 refine A3 (whole_ b d.1 d.2) ?_
 conv=>whnf
 refine A3 (whole_ a f.1 f.2) ?_
 conv=>whnf
 refine A3 (reduced_ b a c (by omega) (by omega)) ?_;generalize redF (nn b a) a.natAbs=p;generalize redE (nn b a) a.natAbs=e;obtain⟨i,p2⟩:=p;exact z35
theorem sx(a b:Int)(e:-4611686018427387904<=a/\a<=4611686018427387904)(f:-4611686018427387904<=b/\b<=4611686018427387904) :
 Ay prog 282 [.d (.int .i64 a),.d (.int .i64 b)] (.d (.int .i64 (Nat.gcd a.natAbs b.natAbs:Nat))):=by
 refine D2 func282 (by kernel_rfl) ?_;generalize i:Nat.gcd a.natAbs b.natAbs=g
 conv=>whnf
 refine loop {s:Int×Int // (-4611686018427387904<=s.1/\s.1<=4611686018427387904)/\(-4611686018427387904<=s.2/\s.2<=4611686018427387904)/\Nat.gcd s.1.natAbs s.2.natAbs=g} (λs=>CY 15 [(0,.d (.int .i64 s.1.1)),(1,.d (.int .i64 s.1.2))] []) (λs=>s.1.2.natAbs) ⟨(a,b),e,f,i⟩ ?_ λs=>?_
 ·refine R1 ?_
  conv=>whnf
  repeat (first|exact trivial|refine And.intro (by first|with_reducible rfl|exact .inl rfl|(rw[next (by first|omega|(simp only;omega))])|rfl) ?_)
 obtain⟨⟨x,y⟩,hx,hy,c⟩:=s;simp only at hx hy c
 conv=>whnf
 refine br (λh=>?_) (λh=>?_)
 ·have h:y≠0:=by simpa using h
  have d:(x.tmod y).natAbs<y.natAbs:=by rw[Int.natAbs_tmod];exact v9 _ (by omega)
  conv=>whnf
  refine⟨⟨by decide +kernel,by kernel_rfl⟩,?_⟩
  conv=>whnf
  refine⟨h,?_⟩
  conv=>whnf
  refine⟨⟨(y,x.tmod y),hy,by simp only;omega,?_⟩,?_,d⟩
  ·show Nat.gcd y.natAbs (x.tmod y).natAbs=g;rw[Int.natAbs_tmod,<-c,vH y.natAbs,<-Nat.gcd_rec,vH]
  ·refine R1 ?_
   conv=>whnf
   repeat (first|exact trivial|refine And.intro (by first|with_reducible rfl|exact .inl rfl|(rw[next (by first|omega|(simp only;omega))])|rfl) ?_)
 ·have h:y=0:=by simpa using h
  subst h;simp only[Int.natAbs_zero,Nat.gcd_zero_right]at c
  conv=>whnf
  refine⟨?_⟩;simp only[lK];rw[wrap_small (by omega) (by omega)];congr 2;split<;>omega
def VF(p:Int×Int):Prop:=(1<=p.2/\p.2<=1152921504606846976)/\(-1152921504606846976<=p.1/\p.1<=1152921504606846976)/\Nat.gcd p.1.natAbs p.2.natAbs=1
theorem valid_(p:Int×Int)(hp:VF p):Ay prog 222 [.d (frD p)] (.d (.bool true)):=by
 obtain⟨n,d⟩:=p;obtain⟨⟨a,b⟩,⟨c,e⟩,f⟩:=hp;simp only at a b c e f;refine D2 func222 (by kernel_rfl) ?_
 conv=>whnf
 refine br (λ_=>?_) (λh=>?_)
 rotate_left
 ·exfalso
  have g:decide (d>=1)=true:=ti a;have i:decide (d<=1152921504606846976)=true:=ti b;have j:decide (n>=-1152921504606846976)=true:=ti c;have k:decide (n<=1152921504606846976)=true:=ti e;simp only[g,i,j,k,tJ]at h
  cases h
 conv=>whnf
 refine A3 (sx n d (by omega) (by omega)) ?_;rw[f];exact z35
theorem prod_bound{a b:Int}(c:-1152921504606846976<=a/\a<=1152921504606846976)(d:-1152921504606846976<=b/\b<=1152921504606846976):-1329227995784915872903807060280344576<=a*b/\a*b<=1329227995784915872903807060280344576:=by
 have e:(a*b).natAbs<=1329227995784915872903807060280344576:=by
  rw[Int.natAbs_mul];exact vh (show a.natAbs<=1152921504606846976 by omega) (show b.natAbs<=1152921504606846976 by omega)
 omega
theorem mul_(p q:Int×Int)(hp:VF p)(hq:VF q):Ay prog 142 [.d (frD p),.d (frD q)]
 (.tup [.d (frD (redF (p.1*q.1) (p.2*q.2).toNat)),.d (.int .i64 (redE (p.1*q.1) (p.2*q.2).toNat))]):=by
 have j:=valid_ p hp;have k:=valid_ q hq;obtain⟨a,b⟩:=p;obtain⟨c,d⟩:=q;have u:B127=170141183460469231731687303715884105728:=rfl;obtain⟨⟨l,m⟩,g,_⟩:=hp;obtain⟨⟨n,o⟩,h,_⟩:=hq;simp only at l m g n o h;have s:=prod_bound g h;have t:=prod_bound (a:=b) (b:=d) (by omega) (by omega);have i:0<b*d:=Int.mul_pos (by omega) (by omega);have f:=reduced_ (a*c) (b*d) (by omega) (by omega) (by omega);rw[show nn (a*c) (b*d)=a*c from tn (by omega),show(b*d).natAbs=(b*d).toNat by omega]at f;refine D2 func142 (by kernel_rfl) ?_
 conv=>whnf
 refine A3 j ?_
 conv=>whnf
 refine A3 k ?_
 conv=>whnf
 refine⟨⟨by decide +kernel,by kernel_rfl⟩,?_⟩
 conv=>whnf
 refine A3 (whole_ a (by omega) (by omega)) ?_
 conv=>whnf
 refine A3 (whole_ c (by omega) (by omega)) ?_
 conv=>whnf
 refine A3 (times_ a c) ?_
 conv=>whnf
 refine A3 (whole_ b (by omega) (by omega)) ?_
 conv=>whnf
 refine A3 (whole_ d (by omega) (by omega)) ?_
 conv=>whnf
 refine A3 (times_ b d) ?_
 conv=>whnf
 refine A3 f ?_;generalize redF (a*c) (b*d).toNat=r;generalize redE (a*c) (b*d).toNat=e;obtain⟨v,w⟩:=r;exact z35
theorem Y5{n:Int}{d:Nat}(hd:0<d)(h:okR n d=true):VF (redF n d):=by
 unfold redF;rw[h];unfold okR at h;rw[uh]at h;have k:=tb h.1;have i:=tb h.2;have g:0<Nat.gcd d n.natAbs:=uV _ hd;have e:Nat.Coprime (d/Nat.gcd d n.natAbs) (n.natAbs/Nat.gcd d n.natAbs):=Nat.coprime_div_gcd_div_gcd g;have j:0<d/Nat.gcd d n.natAbs:=Nat.div_pos (Nat.gcd_le_left _ hd) g;have f:n=0->n.natAbs/Nat.gcd d n.natAbs=0:=by rintro rfl;simp
 generalize n.natAbs/Nat.gcd d n.natAbs=a at *;generalize d/Nat.gcd d n.natAbs=b at *
 have c:((a:Int)*n.sign).natAbs=a:=by
  rcases Int.sign_trichotomy n with c|c|c
  ·rw[c];omega
  ·have:=f (Int.sign_eq_zero_iff_zero.1 c);rw[c];omega
  ·rw[c];omega
 refine⟨⟨by simp only[tJ];omega,i⟩,?_,?_⟩
 ·simp only[tJ];omega
 ·simp only[tJ];rw[c,wg,vH];exact e
theorem qq:VF (1,1):=⟨by decide,by decide,by decide⟩
def ints(xs:List Int):D:=.list 1 (xs.map (D.int .i64))
theorem kT{α:Type}(xs:List α)(k:Nat)(h:k<xs.length):xs.take (k+1)=xs.take k++[xs[k]]:=tp h
theorem dP(xs:List Int)(k:Nat)(h:k<xs.length):(xs.map (D.int .i64))[((k:Nat):Int).toNat]?=some (D.int .i64 xs[k]):=by simp[h]
theorem bytes_int:Lm prog 3=8:=by kernel_rfl
theorem jC(xs:List Int):∀x∈xs.map (D.int .i64),∀y∈x.cells,y.bare=true:=by
 intro x hx y hy;obtain⟨n,_,rfl⟩:=List.mem_map.1 hx;simp[D.cells]at hy;subst hy;rfl
def TW(p:Int->Bool)(xs:List Int):Int:=match xs.findIdx? p with|some i=>i|none=>-1
theorem jU(p:Int->Bool)(xs:List Int):decide (TW p xs>=0)=xs.any p:=by
 unfold TW
 cases h:xs.findIdx? p with
 | none =>
   have:=List.findIdx?_eq_none_iff.1 h;simp only[ge_iff_le,Int.reduceNeg,Int.reduceLE,decide_false];symm;rw[wt];intro x hx;simp[this x hx]
 | some i =>
   obtain⟨a,hp,_⟩:=List.findIdx?_eq_some_iff_getElem.1 h;simp only[ge_iff_le,vJ,decide_true];symm;rw[w6];exact⟨_,ta a,hp⟩
theorem jT{p:Int->Bool}{xs:List Int}{k:Nat}(hk:k<xs.length)(h:∀j (a:j<k),p (xs[j]'(by omega))=false)(hp:p xs[k]=true):TW p xs=k:=by
 unfold TW;rw[List.findIdx?_eq_some_iff_getElem.2 ⟨hk,hp,λj a=>by simp[h j a]⟩]
theorem dF{p:Int->Bool}{xs:List Int}(h:∀j (a:j<xs.length),p xs[j]=false):TW p xs=-1:=by
 unfold TW;rw[List.findIdx?_eq_none_iff.2 λx hx=>by obtain⟨j,a,rfl⟩:=List.getElem_of_mem hx;exact h j a]
theorem index(f:FuncId)(p:Int->Bool)(xs:List Int)(hx:xs.length<=1000000)(c:∀x∈xs,Ay prog f [.d (.int .i64 x)] (.d (.bool (p x)))) :
 Ay prog 264 [.d (ints xs),.d (.fn f [])] (.d (.int .i64 (TW p xs))):=by
 refine D2 func264 (by kernel_rfl) ?_
 conv=>whnf
 refine loop {k:Nat // ∀j (b:j<xs.length),j<k->p xs[j]=false} (λk=>CY 19 [(0,.d (ints xs)),(1,.d (.fn f [])),(7,.d (.int .i64 xs.length)),(8,.d (.int .i64 k.1))] []) (λk=>xs.length-k.1) ⟨0,by simp⟩ ?_ λk=>?_
 ·exact And.intro rfl (And.intro rfl (And.intro (by simp) (And.intro rfl trivial)))
 ·obtain⟨k,hk⟩:=k
  conv=>whnf
  refine br (λh=>?_) (λh=>?_)
  ·have a:k<xs.length:=by simpa using h
   conv=>whnf
   refine⟨⟨by simp only;omega,_,dP xs k a,?_⟩⟩
   conv=>whnf
   refine A3 (c xs[k] (ta a)) ?_
   conv=>whnf
   refine br (λhp=>?_) (λhp=>?_)
   ·conv=>whnf
    exact⟨by rw[jT a (λj b=>hk j (by omega) b) hp];rfl⟩
   ·conv=>whnf
    refine⟨⟨k+1,λj b d=>?_⟩,?_,by show xs.length-(k+1)<xs.length-k;omega⟩
    ·by_cases e:j=k
     ·subst e;exact hp
     ·exact hk j b (by omega)
    ·exact And.intro rfl (And.intro rfl (And.intro rfl (And.intro (by rw[next (by first|omega|(simp only;omega))]) trivial)))
  ·have g:xs.length<=k:=by simpa using h
   conv=>whnf
   exact⟨by rw[dF λj b=>hk j b (by omega)];rfl⟩
theorem contains(f:FuncId)(p:Int->Bool)(xs:List Int)(hx:xs.length<=1000000)(a:∀x∈xs,Ay prog f [.d (.int .i64 x)] (.d (.bool (p x)))) :
 Ay prog 199 [.d (ints xs),.d (.fn f [])] (.d (.bool (xs.any p))):=by
 refine D2 func199 (by kernel_rfl) ?_
 conv=>whnf
 refine A3 (index f p xs hx a) ?_
 conv=>whnf
 exact⟨by rw[jU];rfl⟩
theorem clone(xs:List Int)(hx:xs.length<=1000000):Ay prog 70 [.d (ints xs)] (.own 1 3 (xs.map (D.int .i64))):=by
 refine D2 func70 (by kernel_rfl) ?_
 conv=>whnf
 refine⟨λb a=>?_⟩
 cases b with
 | true =>
   have:xs=[]:=by
    cases xs with
    | nil=>rfl
    | cons x r=>have:=a (by simp);simp at this
   subst this
   conv=>whnf
   refine⟨.inr ?_⟩
   conv=>whnf
   refine⟨λx hx=>by simp at hx,?_⟩;exact z35
 | false =>
   conv=>whnf
   refine⟨?_,?_⟩
   ·rw[bytes_int];simp only[sX,uP];exact⟨by unfold maxLen;omega,by omega,.inr (by trivial)⟩
   conv=>whnf
   refine⟨.inr ?_⟩
   conv=>whnf
   refine⟨by rw[List.nil_append];exact jC xs,?_⟩;exact z35
def lz:Prop:=∀xs:List Int,xs.length<4611686018427387904->DU prog 215 [.own 1 3 (xs.map (D.int .i64))] [.own 1 3 ((FB xs).map (D.int .i64))] (.tup [])
theorem length_sortI(xs:List Int):(FB xs).length=xs.length:=by simp[FB,vm]
def Xz:Prop:=∀xs:List Int,xs.length<4611686018427387904->DU prog 216 [.own 1 3 (xs.map (D.int .i64))] [.any] (.own 1 3 ((Go.Lib.compact xs).map (D.int .i64)))
