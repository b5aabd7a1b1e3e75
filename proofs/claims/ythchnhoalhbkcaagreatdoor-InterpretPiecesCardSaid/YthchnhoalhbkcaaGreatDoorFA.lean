/- FA -/
import Derived.Test.YthchnhoalhbkcaaGreatDoorProg
import Derived.Test.YthchnhoalhbkcaaGreatDoorM4
import Derived.KernelRfl
import Derived.IntWalk
import Derived.Laws.Externs
import Derived.Shelf.Spec.BitsCarry
open Go.IntKind (i64 u8 u64)
open Go.Proofs.Tryz
set_option linter.unusedVariables false
set_option linter.unusedSimpArgs false
namespace Go.Proofs.YthchnhoalhbkcaaGreatDoor.P
open Go.Abs Go.Proofs
theorem z33{p:Prop}(h:p:=by(conv=>whnf);exact⟨rfl⟩):p:=h
theorem z34{p:Prop}(h:p:=by have:=qF (n:=2) (by omega) hk;have:2 ^ k<=2 ^ k*(2*m+1):=sP _ (by omega);omega):p:=h
theorem z35{p:Prop}(h:p:=by obtain rfl:=P3 ho;clear hd;go_simp;exact hK):p:=h
theorem z36{p:Prop}(h:p:=by(conv=>whnf);refine⟨.inl ?_⟩;exact z33):p:=h
theorem z37{p:Prop}(h:p:=by simp only[jc];congr 2;omega):p:=h
end Go.Proofs.YthchnhoalhbkcaaGreatDoor.P
namespace Go.Proofs.YthchnhoalhbkcaaGreatDoor.P.F
open Go.Abs Go.Proofs
set_option maxRecDepth 10000
theorem wrap_small{n:Int}(h0:-9223372036854775808<=n)(h1:n<=9223372036854775807):i64.wrap n=n:=IntWalk.i64_in n ⟨h0,h1⟩
theorem next{k:Nat}(h:k<1000000000000):i64.wrap ((k:Int)+1)=((k+1:Nat):Int):=by rw[wrap_small (by omega) (by omega)];rfl
theorem OX(n:Int):u64.wrap n=n%18446744073709551616:=by
 have:u64.wrap n=n%(2 ^ 64):=by simp[IntKind.wrap,IntKind.signed,IntKind.bits]
 rw[this];rfl
theorem WL(a:Int)(k:Nat):a.fdiv (2 ^ k)=a/2 ^ k:=Int.fdiv_eq_ediv_of_nonneg _ (Int.le_of_lt (Int.pow_pos (by omega)))
theorem oE(x y:Int):u64.wrap ((BitVec.ofInt u64.bits x &&& BitVec.ofInt u64.bits y).toNat:Int)=(((x%18446744073709551616).toNat &&& (y%18446744073709551616).toNat:Nat):Int):=by
 have e:(BitVec.ofInt u64.bits x &&& BitVec.ofInt u64.bits y).toNat=((x%18446744073709551616).toNat &&& (y%18446744073709551616).toNat:Nat):=by
  rw[BitVec.toNat_and,BitVec.toNat_ofInt,BitVec.toNat_ofInt];rfl
 rw[e,OX];have h1:((x%18446744073709551616).toNat &&& (y%18446744073709551616).toNat)<=(x%18446744073709551616).toNat:=Nat.and_le_left;omega
theorem pQ(x y:Int):u64.wrap ((BitVec.ofInt u64.bits x ||| BitVec.ofInt u64.bits y).toNat:Int)=(((x%18446744073709551616).toNat ||| (y%18446744073709551616).toNat:Nat):Int):=by
 have e:(BitVec.ofInt u64.bits x ||| BitVec.ofInt u64.bits y).toNat=((x%18446744073709551616).toNat ||| (y%18446744073709551616).toNat:Nat):=by
  rw[BitVec.toNat_or,BitVec.toNat_ofInt,BitVec.toNat_ofInt];rfl
 rw[e,OX];have h1:((x%18446744073709551616).toNat ||| (y%18446744073709551616).toNat)<2 ^ 64:=Nat.or_lt_two_pow (by omega) (by omega);omega
theorem oD(x:Int):u64.wrap ((BitVec.ofInt u64.bits x &&& BitVec.ofInt u64.bits 4294967295).toNat:Int)=x%4294967296:=by
 rw[oE];have:((x%18446744073709551616).toNat &&& ((4294967295:Int)%18446744073709551616).toNat)=(x%18446744073709551616).toNat%2 ^ 32:=Nat.and_two_pow_sub_one_eq_mod _ 32;rw[this];omega
theorem QV(x:Int):x.fdiv (2 ^ min (Int.toNat 32) u64.bits)=x/4294967296:=WL x 32
theorem oS(x y:Int)(hx:0<=x)(hx2:x<18446744073709551616)(hy:0<=y)(hy2:y<18446744073709551616) :
 ((x/4294967296)*(y/4294967296)+((x/4294967296)*(y%4294967296)+(x%4294967296)*(y%4294967296)/4294967296)/4294967296+(((x/4294967296)*(y%4294967296)+(x%4294967296)*(y%4294967296)/4294967296)%4294967296+(x%4294967296)*(y/4294967296))/4294967296)=x*y/18446744073709551616:=by
 have hx':x=4294967296*(x/4294967296)+x%4294967296:=by omega
 have hy':y=4294967296*(y/4294967296)+y%4294967296:=by omega
 have hxy:∀x1 x0 y1 y0:Int,(4294967296*x1+x0)*(4294967296*y1+y0)=18446744073709551616*(x1*y1)+4294967296*(x1*y0)+4294967296*(x0*y1)+x0*y0:=by
  intro x1 x0 y1 y0;grind
 have hprod:x*y=(4294967296*(x/4294967296)+x%4294967296)*(4294967296*(y/4294967296)+y%4294967296):=by rw[<-hx',<-hy']
 rw[hprod,hxy];generalize x/4294967296*(y/4294967296)=p;generalize x/4294967296*(y%4294967296)=q;generalize x%4294967296*(y/4294967296)=r;generalize x%4294967296*(y%4294967296)=t;omega
theorem nP(x y:Int)(hx:0<=x)(hx2:x<18446744073709551616)(hy:0<=y)(hy2:y<18446744073709551616) :
 (0<=(x/4294967296)*(y/4294967296)/\(x/4294967296)*(y/4294967296)<=18446744065119617025)/\(0<=(x/4294967296)*(y%4294967296)/\(x/4294967296)*(y%4294967296)<=18446744065119617025) /\
 (0<=(x%4294967296)*(y/4294967296)/\(x%4294967296)*(y/4294967296)<=18446744065119617025)/\(0<=(x%4294967296)*(y%4294967296)/\(x%4294967296)*(y%4294967296)<=18446744065119617025):=by
 have hm:∀u v:Int,(0<=u/\u<=4294967295)->(0<=v/\v<=4294967295)->0<=u*v/\u*v<=18446744065119617025:=by
  intro u v h1 h2;refine⟨Int.mul_nonneg h1.1 h2.1,?_⟩;have:=Int.mul_le_mul h1.2 h2.2 h2.1 (by omega);omega
 exact⟨hm _ _ (by omega) (by omega),hm _ _ (by omega) (by omega),hm _ _ (by omega) (by omega),hm _ _ (by omega) (by omega)⟩
theorem mul64_(x y:Int)(hx:0<=x)(hx2:x<18446744073709551616)(hy:0<=y)(hy2:y<18446744073709551616) :
 Ax prog 267 [.d (.int .u64 x),.d (.int .u64 y)] (.tup [.d (.int .u64 (x*y/18446744073709551616)),.d (.int .u64 (x*y%18446744073709551616))]):=by
 refine Da func267 (by kernel_rfl) ?_
 conv=>whnf
 refine⟨by omega,?_⟩
 conv=>whnf
 refine⟨by omega,?_⟩
 conv=>whnf
 refine⟨by omega,?_⟩
 conv=>whnf
 refine⟨by omega,?_⟩
 conv=>whnf
 refine⟨by omega,?_⟩
 conv=>whnf
 refine⟨?_⟩;simp only[oD,QV];simp only[OX];have hh:=oS x y hx hx2 hy hy2;obtain⟨m1,m2,m3,m4⟩:=nP x y hx hx2 hy hy2;rw[<-hh];generalize x/4294967296*(y/4294967296)=p at *;generalize x/4294967296*(y%4294967296)=q at *;generalize x%4294967296*(y/4294967296)=r at *;generalize x%4294967296*(y%4294967296)=t at *;congr 4;clear hh;omega
theorem mc(k m:Nat)(h:2 ^ k*(2*m+1)<2 ^ 64):(2 ^ k*(2*m+1)) &&& (2 ^ 64-2 ^ k*(2*m+1))=2 ^ k:=by
 have hk:0<2 ^ k:=qW k
 have h1:2 ^ 64-2 ^ k*(2*m+1)=2 ^ 64-((2 ^ k*(2*m)+(2 ^ k-1))+1):=by
  have:2 ^ k*(2*m+1)=2 ^ k*(2*m)+2 ^ k:=by rw[Nat.mul_add,ry]
  omega
 apply Nat.eq_of_testBit_eq;intro i
 rw[Nat.testBit_and,h1,Nat.testBit_two_pow_sub_succ (by
  have:2 ^ k*(2*m+1)=2 ^ k*(2*m)+2 ^ k:=by rw[Nat.mul_add,ry]
  omega),Nat.testBit_two_pow_mul_add _ (by omega),Nat.testBit_two_pow_mul,Nat.testBit_two_pow]
 have hk64:k<64:=by
  rcases qw k 64 with hk|hk
  ·exact hk
  ·exact z34
 rcases sa i k with hi|hi|hi
 ·simp[show ¬k<=i by omega,show k≠i by omega]
 ·subst hi;simp[hk64,show 2*m+1=2*m+1 from rfl,Nat.testBit_zero]
 ·have e:(2*m+1).testBit (i-k)=(2*m).testBit (i-k):=by
   obtain⟨j,hj⟩:∃j,i-k=j+1:=⟨i-k-1,by omega⟩;rw[hj,Nat.testBit_succ,Nat.testBit_succ];congr 1;omega
  simp[show k<=i by omega,show ¬i<k by omega,show k≠i by omega,e];intro h _;exact h
theorem ox:∀k:Nat,k<64->H1[((2 ^ k*285870213051353865)%18446744073709551616/288230376151711744)]?=some (k:Int):=by decide +kernel
theorem pR(k m:Nat)(h:2 ^ k*(2*m+1)<18446744073709551616) :
 Ax prog 285 [.d (.int .u64 ((2 ^ k*(2*m+1):Nat):Int))] (.d (.int .i64 k)):=by
 have hlow:=mc k m h
 have hk64:k<64:=by
  rcases qw k 64 with hk|hk
  ·exact hk
  ·exact z34
 have hpos:0<2 ^ k*(2*m+1):=Nat.mul_pos (qW k) (by omega);have htab:=ox k hk64;generalize hx:2 ^ k*(2*m+1)=x at *;refine Da func285 (by kernel_rfl) ?_
 conv=>whnf
 refine br (λh=>?_) (λh=>?_)
 ·simp at h;omega
 conv=>whnf
 refine⟨by omega,?_⟩
 have e1:u64.wrap ((BitVec.ofInt u64.bits (x:Int) &&& BitVec.ofInt u64.bits (u64.wrap (0-(x:Int)))).toNat:Int)=((2 ^ k:Nat):Int):=by
  rw[oE,OX,<-hlow];congr 2<;>omega
 have e2:(u64.wrap (((2 ^ k:Nat):Int)*285870213051353865)).fdiv (2 ^ min (Int.toNat 58) u64.bits)=(((2 ^ k*285870213051353865)%18446744073709551616/288230376151711744:Nat):Int):=by
  have:(u64.wrap (((2 ^ k:Nat):Int)*285870213051353865)).fdiv (2 ^ min (Int.toNat 58) u64.bits)=(u64.wrap (((2 ^ k:Nat):Int)*285870213051353865))/288230376151711744:=WL _ 58;rw[this,OX];generalize 2 ^ k=q;omega
 have hlt:(2 ^ k*285870213051353865)%18446744073709551616/288230376151711744<64:=by omega
 generalize hj:(2 ^ k*285870213051353865)%18446744073709551616/288230376151711744=j at *;rw[e1,e2]
 conv=>whnf
 refine⟨by omega,?_⟩;refine⟨⟨by omega,.int .u8 k,?_,?_⟩⟩
 ·rw[qu,ql,htab];rfl
 conv=>whnf
 refine⟨?_⟩;rw[wrap_small (by omega) (by omega)];rfl
def LM(x n:Nat):Prop:=x<2 ^ n/\(n=0\/2 ^ (n-1)<=x)
theorem LM.unique{x n m:Nat}(h:LM x n)(k:LM x m):n=m:=by
 have key:∀{x n m:Nat},LM x n->LM x m->¬n<m:=by
  intro x n m h k hlt;rcases k.2 with k0|k0
  ·omega
  ·have:=qF (n:=2) (by omega) (show n<=m-1 by omega);have:=h.1;omega
 have h1:=key h k;have h2:=key k h;omega
theorem LM.shift{x n s:Nat}(h:LM (x/2 ^ s) n)(hn:0<x/2 ^ s):LM x (s+n):=by
 have hp:=qW s;refine⟨?_,.inr ?_⟩
 ·have:=(rS hp).1 h.1;rw[rz,qM];exact this
 ·rcases h.2 with h0|h0
  ·subst h0;have:=h.1;rw[Nat.pow_zero]at this;omega
  ·have:=(sZ hp).1 h0
   have hn:n≠0:=by
    intro e;subst e;have:=h.1;simp at this;omega
   rw[show s+n-1=(n-1)+s by omega,rz];exact this
def I5:List Nat:=(List.range 256).map λx=>if x=0 then 0 else x.log2+1
theorem gY:∀x,x<256->LM x (I5.getD x 0):=by
 intro x hx
 have:I5.getD x 0=if x=0 then 0 else x.log2+1:=by
  simp[I5,List.getD,hx]
 rw[this];split
 ·subst_vars;exact⟨by decide,.inl rfl⟩
 ·rename_i h0
  exact⟨Nat.lt_log2_self,.inr (Nat.log2_self_le h0)⟩
theorem Jt:∀x,I5.getD x 0<=8:=by
 intro x;by_cases hx:x<256
 ·revert x;decide +kernel
 ·simp[I5,List.getD,hx]
theorem VJ(x:Int):x.fdiv (2 ^ min (Int.toNat 16) u64.bits)=x/65536:=WL x 16
theorem mB(x:Int):x.fdiv (2 ^ min (Int.toNat 8) u64.bits)=x/256:=WL x 8
theorem VN(n:Int):u8.wrap n=n%256:=by
 have:u8.wrap n=n%(2 ^ 8):=by simp[IntKind.wrap,IntKind.signed,IntKind.bits]
 rw[this];rfl
theorem Hw(s:ByteArray)(hs:s.data.toList=I5.map UInt8.ofNat)(y:Nat)(hy:y<256):FJ s (y:Int)=(I5.getD y 0:Nat):=by
 unfold FJ;rw[hs,qu];revert y;decide +kernel
theorem Q3(x n S s y:Nat)(hS:S=2 ^ s)(hn:LM x n)(hy:y=x/S)(hb:y<256)(hp:0<y\/s=0):n=s+I5.getD y 0:=by
 subst hS;have h1:=gY y hb;rcases hp with hp|hp
 ·subst hy;exact hn.unique (h1.shift hp)
 ·subst hp;simp at hy;subst hy;rw[qy];exact hn.unique h1
theorem jL(x n:Nat)(hx:x<18446744073709551616)(hn:LM x n):Ax prog 232 [.d (.int .u64 x)] (.d (.int .i64 n)):=by
 refine Da func232 (by kernel_rfl) ?_
 conv=>whnf
 refine br (λh32=>?_) (λh32=>?_)
 ·have h32:=pZ h32
  conv=>whnf
  refine⟨by omega,?_⟩
  conv=>whnf
  refine br (λh16=>?_) (λh16=>?_)
  ·have h16:=pZ h16;rw[QV]at h16
   conv=>whnf
   refine⟨by omega,?_⟩
   conv=>whnf
   refine br (λh8=>?_) (λh8=>?_)
   ·have h8:=pZ h8;rw[VJ,QV]at h8
    conv=>whnf
    refine⟨by omega,?_⟩
    conv=>whnf
    have e:u8.wrap ((((x:Int).fdiv (2 ^ min (Int.toNat 32) u64.bits)).fdiv (2 ^ min (Int.toNat 16) u64.bits)).fdiv (2 ^ min (Int.toNat 8) u64.bits))=((x/72057594037927936:Nat):Int):=by
     rw[VN,mB,VJ,QV];omega
    have hf:=Q3 x n 72057594037927936 56 (x/72057594037927936) (by decide) hn rfl (by omega) (.inl (by omega));have hle:=Jt (x/72057594037927936);refine⟨⟨by rw[e];omega,by rw[e,qu];exact qm (show x/72057594037927936<256 by omega) (by decide +kernel)⟩,?_⟩
    conv=>whnf
    refine⟨?_⟩;rw[e,Hw _ (by decide +kernel) _ (by omega)];generalize I5.getD (x/72057594037927936) 0=q at *;rw[wrap_small (n:=(q:Int)) (by omega) (by omega)];rw[wrap_small (n:=32+16) (by omega) (by omega),wrap_small (n:=32+16+8) (by omega) (by omega),wrap_small (n:=32+16+8+(q:Int)) (by omega) (by omega)];exact z37
   ·have h8:=qQ h8;rw[VJ,QV]at h8
    conv=>whnf
    have e:u8.wrap (((x:Int).fdiv (2 ^ min (Int.toNat 32) u64.bits)).fdiv (2 ^ min (Int.toNat 16) u64.bits))=((x/281474976710656:Nat):Int):=by
     rw[VN,VJ,QV];omega
    have hf:=Q3 x n 281474976710656 48 (x/281474976710656) (by decide) hn rfl (by omega) (.inl (by omega));have hle:=Jt (x/281474976710656);refine⟨⟨by rw[e];omega,by rw[e,qu];exact qm (show x/281474976710656<256 by omega) (by decide +kernel)⟩,?_⟩
    conv=>whnf
    refine⟨?_⟩;rw[e,Hw _ (by decide +kernel) _ (by omega)];generalize I5.getD (x/281474976710656) 0=q at *;rw[wrap_small (n:=(q:Int)) (by omega) (by omega)];rw[wrap_small (n:=32+16) (by omega) (by omega),wrap_small (n:=32+16+(q:Int)) (by omega) (by omega)];exact z37
  ·have h16:=qQ h16;rw[QV]at h16
   conv=>whnf
   refine br (λh8=>?_) (λh8=>?_)
   ·have h8:=pZ h8;rw[QV]at h8
    conv=>whnf
    refine⟨by omega,?_⟩
    conv=>whnf
    have e:u8.wrap (((x:Int).fdiv (2 ^ min (Int.toNat 32) u64.bits)).fdiv (2 ^ min (Int.toNat 8) u64.bits))=((x/1099511627776:Nat):Int):=by
     rw[VN,mB,QV];omega
    have hf:=Q3 x n 1099511627776 40 (x/1099511627776) (by decide) hn rfl (by omega) (.inl (by omega));have hle:=Jt (x/1099511627776);refine⟨⟨by rw[e];omega,by rw[e,qu];exact qm (show x/1099511627776<256 by omega) (by decide +kernel)⟩,?_⟩
    conv=>whnf
    refine⟨?_⟩;rw[e,Hw _ (by decide +kernel) _ (by omega)];generalize I5.getD (x/1099511627776) 0=q at *;rw[wrap_small (n:=(q:Int)) (by omega) (by omega)];rw[wrap_small (n:=32+8) (by omega) (by omega),wrap_small (n:=32+8+(q:Int)) (by omega) (by omega)];exact z37
   ·have h8:=qQ h8;rw[QV]at h8
    conv=>whnf
    have e:u8.wrap ((x:Int).fdiv (2 ^ min (Int.toNat 32) u64.bits))=((x/4294967296:Nat):Int):=by
     rw[VN,QV];omega
    have hf:=Q3 x n 4294967296 32 (x/4294967296) (by decide) hn rfl (by omega) (.inl (by omega));have hle:=Jt (x/4294967296);refine⟨⟨by rw[e];omega,by rw[e,qu];exact qm (show x/4294967296<256 by omega) (by decide +kernel)⟩,?_⟩
    conv=>whnf
    refine⟨?_⟩;rw[e,Hw _ (by decide +kernel) _ (by omega)];generalize I5.getD (x/4294967296) 0=q at *;rw[wrap_small (n:=(q:Int)) (by omega) (by omega)];rw[wrap_small (n:=32+(q:Int)) (by omega) (by omega)];exact z37
 ·have h32:=qQ h32
  conv=>whnf
  refine br (λh16=>?_) (λh16=>?_)
  ·have h16:=pZ h16
   conv=>whnf
   refine⟨by omega,?_⟩
   conv=>whnf
   refine br (λh8=>?_) (λh8=>?_)
   ·have h8:=pZ h8;rw[VJ]at h8
    conv=>whnf
    refine⟨by omega,?_⟩
    conv=>whnf
    have e:u8.wrap (((x:Int).fdiv (2 ^ min (Int.toNat 16) u64.bits)).fdiv (2 ^ min (Int.toNat 8) u64.bits))=((x/16777216:Nat):Int):=by
     rw[VN,mB,VJ];omega
    have hf:=Q3 x n 16777216 24 (x/16777216) (by decide) hn rfl (by omega) (.inl (by omega));have hle:=Jt (x/16777216);refine⟨⟨by rw[e];omega,by rw[e,qu];exact qm (show x/16777216<256 by omega) (by decide +kernel)⟩,?_⟩
    conv=>whnf
    refine⟨?_⟩;rw[e,Hw _ (by decide +kernel) _ (by omega)];generalize I5.getD (x/16777216) 0=q at *;rw[wrap_small (n:=(q:Int)) (by omega) (by omega)];rw[wrap_small (n:=0+16) (by omega) (by omega),wrap_small (n:=0+16+8) (by omega) (by omega),wrap_small (n:=0+16+8+(q:Int)) (by omega) (by omega)];exact z37
   ·have h8:=qQ h8;rw[VJ]at h8
    conv=>whnf
    have e:u8.wrap ((x:Int).fdiv (2 ^ min (Int.toNat 16) u64.bits))=((x/65536:Nat):Int):=by
     rw[VN,VJ];omega
    have hf:=Q3 x n 65536 16 (x/65536) (by decide) hn rfl (by omega) (.inl (by omega));have hle:=Jt (x/65536);refine⟨⟨by rw[e];omega,by rw[e,qu];exact qm (show x/65536<256 by omega) (by decide +kernel)⟩,?_⟩
    conv=>whnf
    refine⟨?_⟩;rw[e,Hw _ (by decide +kernel) _ (by omega)];generalize I5.getD (x/65536) 0=q at *;rw[wrap_small (n:=(q:Int)) (by omega) (by omega)];rw[wrap_small (n:=0+16) (by omega) (by omega),wrap_small (n:=0+16+(q:Int)) (by omega) (by omega)];exact z37
  ·have h16:=qQ h16
   conv=>whnf
   refine br (λh8=>?_) (λh8=>?_)
   ·have h8:=pZ h8
    conv=>whnf
    refine⟨by omega,?_⟩
    conv=>whnf
    have e:u8.wrap ((x:Int).fdiv (2 ^ min (Int.toNat 8) u64.bits))=((x/256:Nat):Int):=by
     rw[VN,mB];omega
    have hf:=Q3 x n 256 8 (x/256) (by decide) hn rfl (by omega) (.inl (by omega));have hle:=Jt (x/256);refine⟨⟨by rw[e];omega,by rw[e,qu];exact qm (show x/256<256 by omega) (by decide +kernel)⟩,?_⟩
    conv=>whnf
    refine⟨?_⟩;rw[e,Hw _ (by decide +kernel) _ (by omega)];generalize I5.getD (x/256) 0=q at *;rw[wrap_small (n:=(q:Int)) (by omega) (by omega)];rw[wrap_small (n:=0+8) (by omega) (by omega),wrap_small (n:=0+8+(q:Int)) (by omega) (by omega)];exact z37
   ·have h8:=qQ h8
    conv=>whnf
    have e:u8.wrap (x:Int)=((x/1:Nat):Int):=by
     rw[VN];omega
    have hf:=Q3 x n 1 0 (x/1) (by decide) hn rfl (by omega) (.inr rfl);have hle:=Jt (x/1);refine⟨⟨by rw[e];omega,by rw[e,qu];exact qm (show x/1<256 by omega) (by decide +kernel)⟩,?_⟩
    conv=>whnf
    refine⟨?_⟩;rw[e,Hw _ (by decide +kernel) _ (by omega)];generalize I5.getD (x/1) 0=q at *;rw[wrap_small (n:=(q:Int)) (by omega) (by omega)];rw[wrap_small (n:=0+(q:Int)) (by omega) (by omega)];exact z37
def W(z:Int):D:=.agg [.int .u64 (Hi z),.int .u64 (Lo z)]
theorem bk(z:Int):(0<=Hi z/\Hi z<18446744073709551616)/\0<=Lo z/\Lo z<18446744073709551616:=by unfold Hi Lo;omega
theorem YU{h l z:Int}(h1:h=Hi z)(h2:l=Lo z):D.agg [.int .u64 h,.int .u64 l]=W z:=by subst h1;subst h2;rfl
theorem add64_(x y c:Int)(hx:0<=x)(hy:0<=y)(hc:c=0\/c=1) :
 eG prog 265 [.d (.int .u64 x),.d (.int .u64 y),.d (.int .u64 c)] (.tup [.d (.int .u64 ((x+y+c)%18446744073709551616)),.d (.int .u64 ((x+y+c)/18446744073709551616))]):=by
 intro O w vs hlen hargs
 obtain⟨v0,v1,v2,rfl⟩:∃v0 v1 v2,vs=#[v0,v1,v2]:=by
  obtain⟨l⟩:=vs
  match l,hlen with
  | [v0,v1,v2],_=>exact⟨v0,v1,v2,rfl⟩
 have e0:=AJ (hargs 0 v0 _ rfl rfl);have e1:=AJ (hargs 1 v1 _ rfl rfl);have e2:=AJ (hargs 2 v2 _ rfl rfl);subst e0;subst e1;subst e2;obtain⟨x',rfl⟩:∃n:Nat,x=n:=⟨x.toNat,by omega⟩;obtain⟨y',rfl⟩:∃n:Nat,y=n:=⟨y.toNat,by omega⟩;obtain⟨c',rfl⟩:∃n:Nat,c=n:=⟨c.toNat,by omega⟩;refine⟨.tuple #[.int .u64 (((x'+y'+c')%18446744073709551616:Nat):Int),.int .u64 (((x'+y'+c')/18446744073709551616:Nat):Int)],?_,?_⟩
 ·rw[run_callFunc_extern func265 (by kernel_rfl) (by kernel_rfl) (by kernel_rfl) (e:=add64Entry) (by kernel_rfl),run_add64 x' y' c' (by omega) (by omega) (by omega) (by omega)];simp only[Result.andThen];congr 5<;>omega
 ·refine⟨_,rfl,rfl,λi u x hu hx=>?_,λi j u u' sz e ys sz' e' ys' b h1 h2 h3=>?_⟩
  ·match i,hu,hx with
   | 0,hu,hx=>simp at hu hx;subst hu;subst hx;exact .int _ _
   | 1,hu,hx=>simp at hu hx;subst hu;subst hx;exact .int _ _
   | i+2,hu,hx=>simp at hu
  ·match i,h3 with
   | 0,h3=>simp at h3
   | 1,h3=>simp at h3
   | i+2,h3=>simp at h3
theorem oT(n:Int)(h0:0<=n)(h1:n<18446744073709551616):u64.wrap ((BitVec.ofInt u64.bits (if u64.signed=true then -1 else u64.max) ^^^ BitVec.ofInt u64.bits n).toNat:Int)=18446744073709551615-n:=by
 have e:(BitVec.ofInt u64.bits (if u64.signed=true then -1 else u64.max) ^^^ BitVec.ofInt u64.bits n).toNat=18446744073709551615 ^^^ n.toNat:=by
  rw[BitVec.toNat_xor,BitVec.toNat_ofInt,BitVec.toNat_ofInt]
  have:(n%((2 ^ u64.bits:Nat):Int)).toNat=n.toNat:=by
   rw[Int.emod_eq_of_lt h0 (by simpa [IntKind.bits] using h1)]
  rw[this];rfl
 have e2:18446744073709551615 ^^^ n.toNat=18446744073709551615-n.toNat:=by
  have hlt:n.toNat<2 ^ 64:=by omega
  have:(2 ^ 64-1) ^^^ n.toNat=2 ^ 64-(n.toNat+1):=by
   apply Nat.eq_of_testBit_eq;intro i;rw[Nat.testBit_xor,Nat.testBit_two_pow_sub_one,Nat.testBit_two_pow_sub_succ hlt];by_cases hi:i<64
   ·simp[hi]
   ·simp[hi,Nat.testBit_lt_two_pow (qm hlt (qF (by omega) (show 64<=i by omega)))]
  have h3:(18446744073709551615:Nat)=2 ^ 64-1:=by decide
  rw[h3,this];omega
 rw[e,e2,OX];omega
theorem whole_(n:Int)(h0:-9223372036854775808<=n)(h1:n<=9223372036854775807):Ax prog 184 [.d (.int .i64 n)] (.d (W n)):=by
 refine Da func184 (by kernel_rfl) ?_
 conv=>whnf
 refine⟨by omega,?_⟩
 conv=>whnf
 refine⟨?_⟩;have e:n.fdiv (2 ^ min (Int.toNat 63) i64.bits)=n/9223372036854775808:=WL n 63;rw[e,OX,OX];exact congrArg AV.d (YU (by unfold Hi;omega) (by unfold Lo;omega))
theorem plus_(a b:Int):Ax prog 203 [.d (W a),.d (W b)] (.d (W (a+b))):=by
 refine Da func203 (by kernel_rfl) ?_;have ha:=bk a;have hb:=bk b
 conv=>whnf
 refine jd (add64_ (Lo a) (Lo b) 0 (by omega) (by omega) (.inl rfl)) ?_
 conv=>whnf
 refine jd (add64_ (Hi a) (Hi b) ((Lo a+Lo b+0)/18446744073709551616) (by omega) (by omega) (by omega)) ?_
 conv=>whnf
 refine⟨?_⟩;exact congrArg AV.d (YU (by unfold Hi Lo;omega) (by unfold Lo;omega))
theorem opposite_(a:Int):Ax prog 250 [.d (W a)] (.d (W (-a))):=by
 refine Da func250 (by kernel_rfl) ?_;have ha:=bk a
 conv=>whnf
 rw[oT _ ha.1.1 ha.1.2,oT _ ha.2.1 ha.2.2,YU (h:=18446744073709551615-Hi a) (l:=18446744073709551615-Lo a) (z:=-a-1) (by unfold Hi;omega) (by unfold Lo;omega),YU (h:=0) (l:=1) (z:=1) (by decide) (by decide)];refine A0 (plus_ (-a-1) 1) ?_;rw[show -a-1+1=-a by omega];exact z33
theorem minus_(a b:Int):Ax prog 204 [.d (W a),.d (W b)] (.d (W (a-b))):=by
 refine Da func204 (by kernel_rfl) ?_
 conv=>whnf
 refine⟨⟨by decide +kernel,by kernel_rfl⟩,?_⟩
 conv=>whnf
 refine A0 (opposite_ b) ?_
 conv=>whnf
 refine A0 (plus_ a (-b)) ?_;rw[show a + -b=a-b by omega];exact z33
theorem times_(a b:Int):Ax prog 206 [.d (W a),.d (W b)] (.d (W (a*b))):=by
 refine Da func206 (by kernel_rfl) ?_;have ha:=bk a;have hb:=bk b
 conv=>whnf
 refine A0 (mul64_ (Lo a) (Lo b) (by omega) (by omega) (by omega) (by omega)) ?_
 conv=>whnf
 refine⟨?_⟩
 have hab:a*b=18446744073709551616*(18446744073709551616*((a/18446744073709551616)*(b/18446744073709551616))+(a/18446744073709551616)*Lo b+Lo a*(b/18446744073709551616))+Lo a*Lo b:=by
  have h1:a=18446744073709551616*(a/18446744073709551616)+Lo a:=by unfold Lo;omega
  have h2:b=18446744073709551616*(b/18446744073709551616)+Lo b:=by unfold Lo;omega
  have:∀A x B y:Int,(18446744073709551616*A+x)*(18446744073709551616*B+y)=18446744073709551616*(18446744073709551616*(A*B)+A*y+x*B)+x*y:=by intro A x B y;grind
  have h3:=this (a/18446744073709551616) (Lo a) (b/18446744073709551616) (Lo b);rw[<-h1,<-h2]at h3;exact h3
 refine congrArg AV.d (YU ?_ ?_)
 ·rw[OX,OX,OX,OX];have e1:Hi a*Lo b%18446744073709551616=(a/18446744073709551616)*Lo b%18446744073709551616:=by unfold Hi;rw[Int.mul_emod,Int.emod_emod,<-Int.mul_emod]
  have e2:Lo a*Hi b%18446744073709551616=Lo a*(b/18446744073709551616)%18446744073709551616:=by unfold Hi;rw[Int.mul_emod,Int.emod_emod,<-Int.mul_emod]
  rw[e1,e2]
  have e3:Hi (a*b)=(18446744073709551616*((a/18446744073709551616)*(b/18446744073709551616))+(a/18446744073709551616)*Lo b+Lo a*(b/18446744073709551616)+Lo a*Lo b/18446744073709551616)%18446744073709551616:=by
   unfold Hi;rw[hab];congr 1;omega
  rw[e3];generalize (a/18446744073709551616)*(b/18446744073709551616)=p;generalize (a/18446744073709551616)*Lo b=q;generalize Lo a*(b/18446744073709551616)=r;generalize Lo a*Lo b=t;omega
 ·unfold Lo;rw[<-Int.mul_emod]
theorem sign_(z:Int)(h0:-B127<=z)(h1:z<B127):Ax prog 249 [.d (W z)] (.d (.int .i64 z.sign)):=by
 unfold B127 at h0 h1;refine Da func249 (by kernel_rfl) ?_;have e:(Hi z).fdiv (2 ^ min (Int.toNat 63) u64.bits)=Hi z/9223372036854775808:=WL _ 63
 conv=>whnf
 refine⟨by omega,?_⟩;rw[e]
 conv=>whnf
 refine br (λh=>?_) (λh=>?_)
 ·have h:Hi z/9223372036854775808=1:=by simpa using h
  have hz:z<0:=by unfold Hi at h;omega
  conv=>whnf
  exact⟨by rw[rp hz];rfl⟩
 have h:Hi z/9223372036854775808≠1:=by simpa using h
 have hz:0<=z:=by unfold Hi at h;omega
 conv=>whnf
 refine⟨⟨by kernel_rfl,by kernel_rfl⟩,?_⟩
 conv=>whnf
 refine⟨by kernel_rfl,?_⟩
 conv=>whnf
 refine br (λq=>?_) (λq=>?_)
 ·have q:Hi z=0/\Lo z=0:=by simpa using q
  have:z=0:=by unfold Hi Lo at q;omega
  subst this;exact z33
 ·have q:¬(Hi z=0/\Lo z=0):=by simpa using q
  have:0<z:=by
   rcases Int.lt_or_eq_of_le hz with h|h
   ·exact h
   ·subst h;exact absurd ⟨rfl,rfl⟩ q
  conv=>whnf
  exact⟨by rw[sp this];rfl⟩
theorem fM(z:Int)(h0:-B127<=z)(h1:z<B127):Ax prog 252 [.d (W z)] (.d (W (z.natAbs:Int))):=by
 refine Da func252 (by kernel_rfl) ?_
 conv=>whnf
 refine A0 (sign_ z h0 h1) ?_;rcases Int.lt_trichotomy z 0 with h|h|h
 ·rw[rp h,show((z.natAbs:Nat):Int)=-z by omega]
  conv=>whnf
  refine A0 (opposite_ z) ?_;exact z33
 ·subst h;exact z33
 ·rw[sp h,show((z.natAbs:Nat):Int)=z by omega];exact z33
theorem fq(x n:Nat)(hx:(x:Int)<B127)(hn:LM x n):Ax prog 293 [.d (W x)] (.d (.int .i64 n)):=by
 unfold B127 at hx;refine Da func293 (by kernel_rfl) ?_
 conv=>whnf
 have hH:Hi x=((x/18446744073709551616:Nat):Int):=by unfold Hi;omega
 have hL:Lo x=((x%18446744073709551616:Nat):Int):=by unfold Lo;omega
 refine br (λh=>?_) (λh=>?_)
 ·have h:Hi x>0:=pZ h;rw[hH]at h;obtain⟨m,hm⟩:∃m,LM (x/18446744073709551616) m:=⟨(x/18446744073709551616).log2+1,Nat.lt_log2_self,.inr (Nat.log2_self_le (by omega))⟩;have e:=hn.unique (hm.shift (s:=64) (by omega))
  have hm64:m<=64:=by
   rcases hm.2 with q|q
   ·omega
   ·rcases qw 64 m with k|k
    ·have:=qF (n:=2) (by omega) (show 64<=m-1 by omega);omega
    ·exact k
  conv=>whnf
  rw[hH];refine A0 (jL _ m (by omega) hm) ?_
  conv=>whnf
  refine⟨?_⟩;rw[wrap_small (by omega) (by omega),e];rfl
 ·have h:¬Hi x>0:=qQ h;rw[hH]at h
  conv=>whnf
  rw[hL];refine A0 (jL _ n (by omega) (by rw[rE (by omega)];exact hn)) ?_;exact z33
theorem Xk:∀(x:Nat),0<x->∃k m,x=2 ^ k*(2*m+1):=by
 intro x
 induction x using Nat.strongRecOn with
 | _ x ih =>
   intro hx;by_cases h:x%2=1
   ·exact⟨0,x/2,by rw[Nat.pow_zero];omega⟩
   ·obtain⟨k,m,e⟩:=ih (x/2) (by omega) (by omega);refine⟨k+1,m,?_⟩;have:x=2*(x/2):=by omega
    rw[this,e,sS,qM (2 ^ k) 2,rr]
theorem ZU(k m:Nat)(hx:((2 ^ k*(2*m+1):Nat):Int)<B127):Ax prog 290 [.d (W ((2 ^ k*(2*m+1):Nat):Int))] (.d (.int .i64 k)):=by
 unfold B127 at hx;refine Da func290 (by kernel_rfl) ?_
 have hk127:k<127:=by
  rcases qw k 127 with hk|hk
  ·exact hk
  ·exact z34
 have hH:Hi ((2 ^ k*(2*m+1):Nat):Int)=((2 ^ k*(2*m+1)/18446744073709551616:Nat):Int):=by unfold Hi;omega
 have hL:Lo ((2 ^ k*(2*m+1):Nat):Int)=((2 ^ k*(2*m+1)%18446744073709551616:Nat):Int):=by unfold Lo;omega
 by_cases hk:64<=k
 ·obtain⟨j,rfl⟩:∃j,k=64+j:=⟨k-64,by omega⟩;have e:2 ^ (64+j)*(2*m+1)=18446744073709551616*(2 ^ j*(2*m+1)):=by rw[rz,rr]
  have hlo:Lo ((2 ^ (64+j)*(2*m+1):Nat):Int)=0:=by rw[hL,e,Nat.mul_mod_right];rfl
  have hhi:Hi ((2 ^ (64+j)*(2*m+1):Nat):Int)=((2 ^ j*(2*m+1):Nat):Int):=by rw[hH,e,sQ _ (by omega)]
  have hlt:2 ^ j*(2*m+1)<18446744073709551616:=by rw[e]at hx;omega
  generalize ((2 ^ (64+j)*(2*m+1):Nat):Int)=z at hlo hhi
  conv=>whnf
  rw[hlo]
  conv=>whnf
  rw[hhi];refine A0 (pR j m hlt) ?_
  conv=>whnf
  refine⟨?_⟩;rw[wrap_small (by omega) (by omega)];rfl
 ·have h64:2 ^ 64=2 ^ k*2 ^ (64-k):=by rw[<-rz];congr 1;omega
  obtain⟨j,hj⟩:∃j,64-k=j+1:=⟨63-k,by omega⟩
  have e:2 ^ k*(2*m+1)%18446744073709551616=2 ^ k*(2*(m%2 ^ j)+1):=by
   rw[show(18446744073709551616:Nat)=2 ^ k*2 ^ (64-k)from h64,Nat.mul_mod_mul_left,hj,sS];congr 1;have h2:=qW j;have h1:m=2 ^ j*(m/2 ^ j)+m%2 ^ j:=(rX m _).symm;have h3:=se m h2;generalize m%2 ^ j=r at h1 h3;generalize m/2 ^ j=q at h1;generalize 2 ^ j=t at *;have e1:2*m+1=(2*r+1)+(t*2)*q:=by rw[h1];grind
   rw[e1,Nat.add_mul_mod_self_left,rE (by omega)]
  have hlo:Lo ((2 ^ k*(2*m+1):Nat):Int)=((2 ^ k*(2*(m%2 ^ j)+1):Nat):Int):=by rw[hL,e]
  have hlt:2 ^ k*(2*(m%2 ^ j)+1)<18446744073709551616:=by rw[<-e];exact se _ (by omega)
  have hpos:0<2 ^ k*(2*(m%2 ^ j)+1):=Nat.mul_pos (qW k) (by omega);generalize ((2 ^ k*(2*m+1):Nat):Int)=z at hlo
  conv=>whnf
  rw[hlo];refine br (λh=>?_) (λh=>?_)
  ·have h:=sR h;omega
  conv=>whnf
  refine A0 (pR k (m%2 ^ j) hlt) ?_;exact z33
theorem mA(a:Int)(n:Nat)(hn:n<=64):u64.wrap (a*2 ^ (min ((n:Int)).toNat u64.bits))=a*((2 ^ n:Nat):Int)%18446744073709551616:=by
 rw[OX,qu,show u64.bits=64 from rfl,rB hn];congr 2
theorem mC(a:Int)(n:Nat)(hn:n<=64):a.fdiv (2 ^ (min ((n:Int)).toNat u64.bits))=a/((2 ^ n:Nat):Int):=by
 rw[qu,show u64.bits=64 from rfl,rB hn,WL];congr 1
theorem np(i x y:Nat)(hy:y<2 ^ i):(2 ^ i*x) ||| y=2 ^ i*x+y:=(Nat.two_pow_add_eq_or_of_lt hy x).symm
theorem YG{n:Nat}(hn:n<=64):18446744073709551616=2 ^ n*2 ^ (64-n):=by
 rw[<-rz,show n+(64-n)=64 by omega]
theorem oM(A u v M:Nat)(hM:M=u*v):(A%M)*u%M=u*(A%v):=by
 rw[tc,Nat.mod_mod,<-tc,qM A u,hM,Nat.mul_mod_mul_left]
theorem p8(x u v M:Nat)(hM:M=u*v)(hu:0<u)(h0:0<M):x*u/M=u*(x/M)+x%M/v:=by
 have h:=rX x M;generalize x/M=q at *;generalize x%M=r at *;subst h;rw[re,rr,Nat.mul_add_div h0,qM q u,qM r u,hM,Nat.mul_div_mul_left _ _ hu]
theorem oN(q l u v M:Nat)(hM:M=u*v)(hl:l<u)(hv:0<v):(u*q+l)%M=u*(q%v)+l:=by
 have h:=rX q v;have h2:=se q hv;generalize q/v=a at *;generalize q%v=r at *;subst h;rw[show u*(v*a+r)+l=(u*r+l)+M*a from by rw[hM];grind,Nat.add_mul_mod_self_left,rE];have:u*(r+1)<=u*v:=rP _ h2;rw[Nat.mul_add,ry]at this;omega
theorem p9(x u v M:Nat)(hM:M=u*v)(hu:0<u):x/u=v*(x/M)+x%M/u:=by
 have h:=rX x M;generalize x/M=q at *;generalize x%M=r at *;subst h;rw[hM,rr,Nat.mul_add_div hu]
theorem ma(x n:Nat)(hn:n<=64):(((x/18446744073709551616%18446744073709551616)*2 ^ n%18446744073709551616) ||| (x%18446744073709551616/2 ^ (64-n)))=x*2 ^ n/18446744073709551616%18446744073709551616:=by
 have hp:=YG hn;have h1:=qW n;have h2:=qW (64-n)
 have hl:x%18446744073709551616/2 ^ (64-n)<2 ^ n:=by
  rw[rS h2];have:=se x (show 18446744073709551616>0 by omega);rw[<-hp];exact this
 rw[oM _ _ _ _ hp,np n _ _ hl,p8 x _ _ _ hp h1 (by omega),oN _ _ _ _ _ hp hl h2]
theorem kJ(x n:Nat)(hn:n<=64):((x%18446744073709551616/2 ^ n) ||| ((x/18446744073709551616%18446744073709551616)*2 ^ (64-n)%18446744073709551616))=x/2 ^ n%18446744073709551616:=by
 have hp:=YG hn;have hp':18446744073709551616=2 ^ (64-n)*2 ^ n:=by rw[qM];exact hp
 have h1:=qW n;have h2:=qW (64-n)
 have hl:x%18446744073709551616/2 ^ n<2 ^ (64-n):=by
  rw[rS h1,<-hp'];exact se x (by omega)
 rw[oM _ _ _ _ hp',Nat.or_comm,np _ _ _ hl,p9 x _ _ _ hp h1,oN _ _ _ _ _ hp' hl h1]
theorem eM(a b:Nat):(((a:Nat):Int)*((b:Nat):Int)%18446744073709551616%18446744073709551616).toNat=a*b%18446744073709551616:=by rw[<-Int.natCast_mul];omega
theorem eL(a b:Nat)(h:a<18446744073709551616):(((a:Nat):Int)/((b:Nat):Int)%18446744073709551616).toNat=a/b:=by
 rw[<-Int.natCast_ediv];have:=sH a b;generalize a/b=q at *;omega
theorem mN(x:Nat):Hi (x:Int)=((x/18446744073709551616%18446744073709551616:Nat):Int):=by unfold Hi;omega
theorem mQ(x:Nat):Lo (x:Int)=((x%18446744073709551616:Nat):Int):=by unfold Lo;omega
theorem nc(x n:Nat)(hn:n<128):Ax prog 292 [.d (W x),.d (.int .i64 n)] (.d (W ((x*2 ^ n:Nat):Int))):=by
 refine Da func292 (by kernel_rfl) ?_
 conv=>whnf
 refine br (λh=>?_) (λh=>?_)
 ·have h:=pZ h;obtain⟨j,rfl⟩:∃j,n=64+j:=⟨n-64,by omega⟩;have e:i64.wrap (((64+j:Nat):Int)-64)=(j:Int):=by rw[wrap_small (by omega) (by omega)];omega
  conv=>whnf
  rw[e];refine⟨by omega,?_⟩;rw[mA _ j (by omega)]
  conv=>whnf
  refine⟨?_⟩;refine congrArg AV.d (YU ?_ ?_)
  ·rw[mN,mQ,rz,show x*(2 ^ 64*2 ^ j)=18446744073709551616*(x*2 ^ j)from by rw[Nat.mul_left_comm],sQ _ (by omega)];rw[<-Int.natCast_mul];have:x%18446744073709551616*2 ^ j%18446744073709551616=x*2 ^ j%18446744073709551616:=by rw[tc,Nat.mod_mod,<-tc]
   rw[<-this];rfl
  ·rw[mQ,rz,show x*(2 ^ 64*2 ^ j)=18446744073709551616*(x*2 ^ j)from by rw[Nat.mul_left_comm],Nat.mul_mod_right];rfl
 ·have h:=qQ h;have hn64:n<=64:=by omega
  have e:i64.wrap (64-(n:Int))=((64-n:Nat):Int):=by rw[wrap_small (by omega) (by omega)];omega
  conv=>whnf
  refine⟨⟨by decide +kernel,by kernel_rfl⟩,?_⟩
  conv=>whnf
  refine⟨by omega,?_⟩
  conv=>whnf
  rw[e];refine⟨by omega,?_⟩
  conv=>whnf
  refine⟨by omega,?_⟩;rw[mA _ n hn64,mA _ n hn64,mC _ (64-n) (by omega)]
  conv=>whnf
  refine⟨?_⟩;refine congrArg AV.d (YU ?_ ?_)
  ·rw[pQ,mN x,mQ x,mN (x*2 ^ n),<-ma x n hn64,eM,eL _ _ (se _ (by omega))]
  ·rw[mQ,mQ,<-Int.natCast_mul];have:x%18446744073709551616*2 ^ n%18446744073709551616=x*2 ^ n%18446744073709551616:=by rw[tc,Nat.mod_mod,<-tc]
   rw[<-this];rfl
theorem kI(x n:Nat)(hx:x<340282366920938463463374607431768211456)(hn:n<128):Ax prog 291 [.d (W x),.d (.int .i64 n)] (.d (W ((x/2 ^ n:Nat):Int))):=by
 refine Da func291 (by kernel_rfl) ?_
 conv=>whnf
 refine br (λh=>?_) (λh=>?_)
 ·have h:=pZ h;obtain⟨j,rfl⟩:∃j,n=64+j:=⟨n-64,by omega⟩;have e:i64.wrap (((64+j:Nat):Int)-64)=(j:Int):=by rw[wrap_small (by omega) (by omega)];omega
  conv=>whnf
  rw[e];refine⟨by omega,?_⟩;rw[mC _ j (by omega)]
  conv=>whnf
  refine⟨?_⟩;have hq:x/2 ^ (64+j)=x/18446744073709551616/2 ^ j:=by rw[rz,<-sT]
  have hle:=sH (x/18446744073709551616) (2 ^ j);refine congrArg AV.d (YU ?_ ?_)
  ·rw[mN,hq];generalize x/18446744073709551616/2 ^ j=q at *;omega
  ·rw[mN,mQ,hq,rE (show x/18446744073709551616<18446744073709551616 by omega),<-Int.natCast_ediv];generalize x/18446744073709551616/2 ^ j=q at *;omega
 ·have h:=qQ h;have hn64:n<=64:=by omega
  have e:i64.wrap (64-(n:Int))=((64-n:Nat):Int):=by rw[wrap_small (by omega) (by omega)];omega
  conv=>whnf
  refine⟨⟨by decide +kernel,by kernel_rfl⟩,?_⟩
  conv=>whnf
  refine⟨by omega,?_⟩
  conv=>whnf
  refine⟨by omega,?_⟩
  conv=>whnf
  rw[e];refine⟨by omega,?_⟩;rw[mC _ n hn64,mC _ n hn64,mA _ (64-n) (by omega)]
  conv=>whnf
  refine⟨?_⟩;refine congrArg AV.d (YU ?_ ?_)
  ·rw[mN,mN,rE (show x/18446744073709551616<18446744073709551616 by omega),<-Int.natCast_ediv,sT x (2 ^ n),qM (2 ^ n),<-sT];have:=sH (x/18446744073709551616) (2 ^ n);generalize x/18446744073709551616/2 ^ n=q at *;omega
  ·rw[pQ,mN x,mQ x,mQ (x/2 ^ n),<-kJ x n hn64,eM,eL _ _ (se _ (by omega))]
theorem Wg(A j B:Nat)(hA:A%2=1):Nat.gcd A (2 ^ j*B)=Nat.gcd A B:=by
 have h2:Nat.Coprime 2 A:=by
  unfold Nat.Coprime;have h1:=Nat.gcd_dvd_left 2 A;have h3:=Nat.gcd_dvd_right 2 A;have hle:=Nat.le_of_dvd (by omega) h1;have hpos:=rL A (show 0<2 by omega);rcases(show Nat.gcd 2 A=1\/Nat.gcd 2 A=2 by omega)with h|h
  ·exact h
  ·rw[h]at h3;omega
 exact Nat.Coprime.gcd_mul_left_cancel_right B (Nat.Coprime.pow_left j h2)
theorem lT(i j A B:Nat)(hA:A%2=1)(hB:B%2=1):Nat.gcd (2 ^ i*A) (2 ^ j*B)=Nat.gcd A B*2 ^ min i j:=by
 rcases Nat.le_total i j with h|h
 ·obtain⟨e,rfl⟩:=Nat.le.dest h;rw[rz,rr,Nat.gcd_mul_left,Wg A e B hA,rB h,qM]
 ·obtain⟨e,rfl⟩:=Nat.le.dest h;rw[rz,rr,Nat.gcd_mul_left,sq,Wg B e A hB,sq,Nat.min_eq_right h,qM]
theorem YV(x:Nat)(hx:(x:Int)<B127):(Hi x=0/\Lo x=0)↔x=0:=by
 unfold B127 at hx;unfold Hi Lo;omega
theorem UE{k m:Nat}(hx:((2 ^ k*(2*m+1):Nat):Int)<B127):k<127:=by
 unfold B127 at hx;rcases qw k 127 with hk|hk
 ·exact hk
 ·exact z34
theorem fy(k m:Nat):2 ^ k*(2*m+1)/2 ^ k=2*m+1:=sQ _ (qW k)
set_option maxHeartbeats 1000000 in
theorem eP(a b:Nat)(ha:0<a)(ha2:(a:Int)<B127)(hb2:(b:Int)<B127):Ax prog 251 [.d (W a),.d (W b)] (.d (W ((Nat.gcd a b:Nat):Int))):=by
 refine Da func251 (by kernel_rfl) ?_
 conv=>whnf
 refine⟨⟨by kernel_rfl,by kernel_rfl⟩,?_⟩
 conv=>whnf
 refine⟨by kernel_rfl,?_⟩
 conv=>whnf
 refine br (λq=>?_) (λq=>?_)
 ·have q:Hi b=0/\Lo b=0:=by simpa using q
  obtain rfl:=(YV b hb2).1 q;rw[Nat.gcd_zero_right];exact z33
 have q:¬(Hi b=0/\Lo b=0):=by simpa using q
 have hb:0<b:=Nat.pos_of_ne_zero λe=>q ((YV b hb2).2 e);clear q;obtain⟨i,A,rfl⟩:=Xk a ha;obtain⟨j,B,rfl⟩:=Xk b hb;have hi:=UE ha2;have hj:=UE hb2
 conv=>whnf
 refine⟨⟨by decide +kernel,by kernel_rfl⟩,?_⟩
 conv=>whnf
 refine A0 (ZU i A ha2) ?_
 conv=>whnf
 refine A0 (ZU j B hb2) ?_
 conv=>whnf
 refine⟨⟨by decide +kernel,by kernel_rfl⟩,?_⟩
 conv=>whnf
 refine A0 (ZU i A ha2) ?_
 conv=>whnf
 refine A0 (kI _ i (by unfold B127 at ha2;omega) (by omega)) ?_;rw[fy]
 have hA2:((2*A+1:Nat):Int)<B127:=by
  have:2*A+1<=2 ^ i*(2*A+1):=sU _ (qW i);omega
 have hg0:Nat.gcd (2*A+1) (2 ^ j*(2*B+1))*2 ^ min i j=Nat.gcd (2 ^ i*(2*A+1)) (2 ^ j*(2*B+1)):=by
  rw[lT i j _ _ (by omega) (by omega),Wg _ _ _ (by omega)]
 generalize Nat.gcd (2 ^ i*(2*A+1)) (2 ^ j*(2*B+1))=res at hg0;generalize hy0:2 ^ j*(2*B+1)=y0 at *;have htw:(if(j:Int)<i then(j:Int)else i)=((min i j:Nat):Int):=by split<;>omega
 conv=>whnf
 refine loop {s:Nat×Nat // (s.1%2=1/\(s.1:Int)<B127)/\(s.2:Int)<B127/\Nat.gcd s.1 s.2*2 ^ min i j=res} (λs=>CJ 39 [(2,.ptr 2 1 0),(3,.ptr 3 1 0),(4,.ptr 4 1 0),(5,.d (.int .i64 ((min i j:Nat):Int)))]
  [(2,.var [.d (.int .u64 (Hi s.1.1)),.d (.int .u64 (Lo s.1.1))],1),(3,.var [.d (.int .u64 (Hi s.1.2)),.d (.int .u64 (Lo s.1.2))],1),(4,.var [.d (.int .u64 0),.d (.int .u64 0)],1)])
  (λs=>s.1.1+s.1.2) ⟨(2*A+1,y0),⟨by simp only;omega,hA2⟩,hb2,hg0⟩ ?_ λs=>?_
 ·refine Rp ?_
  conv=>whnf
  rw[htw]
  repeat (first|exact trivial|refine And.intro (by first|with_reducible rfl|exact .inl rfl|(rw[next (by first|omega|(simp only;omega))])|rfl) ?_)
 obtain⟨⟨x,y⟩,⟨hxo,hx⟩,hy,hg⟩:=s;simp only at hxo hx hy hg;have hB:B127=170141183460469231731687303715884105728:=rfl
 conv=>whnf
 refine⟨⟨by kernel_rfl,by kernel_rfl⟩,?_⟩
 conv=>whnf
 refine⟨by kernel_rfl,?_⟩
 conv=>whnf
 refine br (λq=>?_) (λq=>?_)
 ·have q:¬(Hi y=0/\Lo y=0):=by
   rintro⟨h1,h2⟩;simp[h1,h2]at q
  have hy0:0<y:=Nat.pos_of_ne_zero λe=>q ((YV y hy).2 e);clear q;obtain⟨k,m,rfl⟩:=Xk y hy0;have hk:=UE hy;have hle:2*m+1<=2 ^ k*(2*m+1):=sU _ (qW k);rw[Wg _ _ _ hxo]at hg
  conv=>whnf
  refine⟨⟨by decide +kernel,by kernel_rfl⟩,?_⟩
  conv=>whnf
  refine A0 (ZU k m hy) ?_
  conv=>whnf
  refine A0 (kI (2 ^ k*(2*m+1)) k (by omega) (by omega)) ?_;rw[fy];generalize 2 ^ k*(2*m+1)=y at *;generalize hz:2*m+1=z at *;have hz1:0<z:=by omega
  have hzo:z%2=1:=by omega
  conv=>whnf
  refine A0 (minus_ z x) ?_
  conv=>whnf
  refine A0 (sign_ ((z:Int)-x) (by omega) (by omega)) ?_;by_cases hs:(z:Int)-x<0
  ·rw[rp hs]
   conv=>whnf
   refine A0 (minus_ x z) ?_;rw[show((x:Int)-z)=((x-z:Nat):Int) by omega]
   conv=>whnf
   refine⟨⟨(z,x-z),⟨hzo,by omega⟩,by simp only;omega,?_⟩,?_,by simp only;omega⟩
   ·show Nat.gcd z (x-z)*2 ^ min i j=res;rw[sq,Nat.gcd_sub_self_left (by omega)];exact hg
   ·refine Rp ?_
    conv=>whnf
    repeat (first|exact trivial|refine And.intro (by first|with_reducible rfl|exact .inl rfl|(rw[next (by first|omega|(simp only;omega))])|rfl) ?_)
  ·have hge:¬(((z:Int)-x).sign<0):=by
    intro h;have:=Int.sign_neg_iff.1 h;omega
   generalize Int.sign ((z:Int)-x)=sg at hge
   conv=>whnf
   refine br (λh=>?_) (λ_=>?_)
   ·exact absurd (pZ h) hge
   conv=>whnf
   refine A0 (minus_ z x) ?_;rw[show((z:Int)-x)=((z-x:Nat):Int) by omega]
   conv=>whnf
   refine⟨⟨(x,z-x),⟨hxo,hx⟩,by simp only;omega,?_⟩,?_,by simp only;omega⟩
   ·show Nat.gcd x (z-x)*2 ^ min i j=res;rw[Nat.gcd_sub_self_right (by omega)];exact hg
   ·refine Rp ?_
    conv=>whnf
    repeat (first|exact trivial|refine And.intro (by first|with_reducible rfl|exact .inl rfl|(rw[next (by first|omega|(simp only;omega))])|rfl) ?_)
 ·have q:Hi y=0/\Lo y=0:=by simpa using q
  obtain rfl:=(YV y hy).1 q;rw[Nat.gcd_zero_right]at hg
  conv=>whnf
  refine A0 (nc x (min i j) (by omega)) ?_;rw[hg];exact z33
def pK:Int:=1152921504606846976
theorem LM.le{x n m:Nat}(h:LM x n)(hx:x<2 ^ m):n<=m:=by
 rcases h.2 with h0|h0
 ·omega
 ·rcases qw m n with k|k
  ·have:=qF (n:=2) (by omega) (show m<=n-1 by omega);omega
  ·exact k
theorem bq(x:Nat):∃n,LM x n:=by
 by_cases h:x=0
 ·subst h;exact⟨0,by decide,.inl rfl⟩
 ·exact⟨x.log2+1,Nat.lt_log2_self,.inr (Nat.log2_self_le h)⟩
def pW(a b:Nat)(v:Int):Prop:=((a/b:Nat):Int)<=pK->v=((a/b:Nat):Int)
set_option maxHeartbeats 1000000 in
theorem fB(a b:Nat)(hb0:0<b)(ha2:(a:Int)<B127)(hb2:(b:Int)<B127) :
 ∃v,pW a b v/\Ax prog 253 [.d (W a),.d (W b)] (.tup [.d (.int .i64 v),.d (.bool (decide (((a/b:Nat):Int)<=1152921504606846976)))]):=by
 obtain⟨la,hla⟩:=bq a;obtain⟨lb,hlb⟩:=bq b;have hB:B127=170141183460469231731687303715884105728:=rfl;have hla7:la<=127:=hla.le (by omega);have hlb7:lb<=127:=hlb.le (by omega)
 have hlb1:1<=lb:=by
  have:=hlb.1;rcases Nat.eq_zero_or_pos lb with h|h
  ·subst h;rw[Nat.pow_zero]at this;omega
  ·exact h
 have hlb2:2 ^ (lb-1)<=b:=hlb.2.resolve_left (by omega);refine⟨if(la:Int)-lb>61 then 0 else((a/b:Nat):Int),?_,?_⟩
 ·intro h;split
  ·rename_i hn
   exfalso
   have h1:2 ^ (la-1)<=a:=hla.2.resolve_left (by omega);have h2:2 ^ (61+lb)<=2 ^ (la-1):=qF (by omega) (by omega);rw[rz]at h2;have h3:=hlb.1;have h4:2 ^ 61*b<=2 ^ 61*2 ^ lb:=rP _ (by omega);have h5:2 ^ 61<=a/b:=(sZ hb0).2 (by omega);unfold pK at h;omega
  ·rfl
 refine Da func253 (by kernel_rfl) ?_
 conv=>whnf
 refine⟨⟨by decide +kernel,by kernel_rfl⟩,?_⟩
 conv=>whnf
 refine A0 (fq a la ha2 hla) ?_
 conv=>whnf
 refine A0 (fq b lb hb2 hlb) ?_;have e:i64.wrap ((la:Int)-lb)=(la:Int)-lb:=wrap_small (by omega) (by omega)
 conv=>whnf
 rw[e];refine br (λh=>?_) (λh=>?_)
 ·have hn:=pZ h
  have:decide (((a/b:Nat):Int)<=1152921504606846976)=false:=by
   apply qC;intro h;have h1:2 ^ (la-1)<=a:=hla.2.resolve_left (by omega);have h2:2 ^ (61+lb)<=2 ^ (la-1):=qF (by omega) (by omega);rw[rz]at h2;have h3:=hlb.1;have h4:2 ^ 61*b<=2 ^ 61*2 ^ lb:=rP _ (by omega);have h5:2 ^ 61<=a/b:=(sZ hb0).2 (by omega);omega
  rw[this,qf hn];exact z33
 have hn:=qQ h;rw[qi hn]
 have hA:a<2 ^ 62*b:=by
  have h1:=hla.1;have h2:2 ^ la<=2 ^ (62+(lb-1)):=qF (by omega) (by omega);rw[rz]at h2;have h4:2 ^ 62*2 ^ (lb-1)<=2 ^ 62*b:=rP _ hlb2;omega
 have hInit:a<2 ^ ((la:Int)-lb+1).toNat*b:=by
  have h1:=hla.1;by_cases q:lb<=la+1
  ·have h2:2 ^ la=2 ^ ((la:Int)-lb+1).toNat*2 ^ (lb-1):=by rw[<-rz];congr 1;omega
   have h4:2 ^ ((la:Int)-lb+1).toNat*2 ^ (lb-1)<=2 ^ ((la:Int)-lb+1).toNat*b:=rP _ hlb2;omega
  ·rw[show((la:Int)-lb+1).toNat=0 by omega,Nat.pow_zero,Nat.one_mul];have:=qF (n:=2) (by omega) (show la<=lb-1 by omega);omega
 conv=>whnf
 refine loop {s:Int×Nat×Nat // (s.1<=(la:Int)-lb/\-200<=s.1)/\s.2.1*(2 ^ (s.1+1).toNat*b)+s.2.2=a/\s.2.2<2 ^ (s.1+1).toNat*b} (λs=>CJ 38 [(2,.ptr 2 1 0),(3,.ptr 3 1 0),(7,.d (.int .i64 s.1.2.1)),(8,.d (.int .i64 s.1.1))]
  [(2,.var [.d (.int .u64 (Hi s.1.2.2)),.d (.int .u64 (Lo s.1.2.2))],1),(3,.var [.d (.int .u64 (Hi b)),.d (.int .u64 (Lo b))],1)]) (λs=>(s.1.1+1).toNat) ⟨((la:Int)-lb,0,a),⟨by simp only;omega,by simp only;omega⟩,by simp,hInit⟩ ?_ λs=>?_
 ·refine Rp ?_
  conv=>whnf
  repeat (first|exact trivial|refine And.intro (by first|with_reducible rfl|exact .inl rfl|(rw[next (by first|omega|(simp only;omega))])|rfl) ?_)
 obtain⟨⟨k,q,r⟩,⟨hk1,hk0⟩,hqr,hr⟩:=s;simp only at hk1 hk0 hqr hr
 have hq62:q*2 ^ (k+1).toNat<2 ^ 62:=by
  have:q*2 ^ (k+1).toNat*b<2 ^ 62*b:=by rw[rr];omega
  exact Nat.lt_of_mul_lt_mul_right this
 have hp:=qW (k+1).toNat
 conv=>whnf
 refine br (λh=>?_) (λh=>?_)
 ·have hk:k>=0:=pZ h;obtain⟨j,hj⟩:∃j:Nat,k=j:=⟨k.toNat,by omega⟩;subst hj;have hpw:2 ^ ((j:Int)+1).toNat=2*2 ^ j:=by rw[show((j:Int)+1).toNat=j+1 by omega,sS,qM]
  rw[hpw]at hqr hr hq62 hp;have hpj:=qW j
  have hq2:2*q<2 ^ 62:=by
   have:2*q<=q*(2*2 ^ j):=by
    rw[<-rr,qM q 2];exact sP _ hpj
   omega
  have e2:i64.wrap ((q:Int)*2)=((2*q:Nat):Int):=by rw[wrap_small (by omega) (by omega)];omega
  have e3:i64.wrap ((j:Int)-1)=(j:Int)-1:=wrap_small (by omega) (by omega)
  have hbj:b*2 ^ j<2 ^ 127:=by
   have h1:=hlb.1;have h2:b*2 ^ j<2 ^ lb*2 ^ j:=Nat.mul_lt_mul_of_pos_right h1 hpj;rw[<-rz]at h2;have:=qF (n:=2) (by omega) (show lb+j<=127 by omega);omega
  have hra:r<=a:=by omega
  conv=>whnf
  rw[e2];refine⟨⟨by decide +kernel,by kernel_rfl⟩,?_⟩
  conv=>whnf
  refine A0 (nc b j (by omega)) ?_
  conv=>whnf
  refine A0 (minus_ r ((b*2 ^ j:Nat):Int)) ?_;rw[show 2*2 ^ j*b=2*(b*2 ^ j)from by rw[rr,qM (2 ^ j) b]]at hqr hr;have hpj1:((j:Int)-1+1).toNat=j:=by omega
  generalize hd:b*2 ^ j=d at *
  conv=>whnf
  refine A0 (sign_ ((r:Int)-d) (by omega) (by omega)) ?_;by_cases hs:(r:Int)-d<0
  ·rw[rp hs]
   conv=>whnf
   refine⟨⟨((j:Int)-1,2*q,r),⟨by simp only;omega,by simp only;omega⟩,?_,?_⟩,?_,by simp only;omega⟩
   ·simp only[hpj1];rw[qM (2 ^ j) b,hd,qM 2 q,rr];exact hqr
   ·simp only[hpj1];rw[qM (2 ^ j) b,hd];omega
   ·refine Rp ?_
    conv=>whnf
    rw[e3]
    repeat (first|exact trivial|refine And.intro (by first|with_reducible rfl|exact .inl rfl|(rw[next (by first|omega|(simp only;omega))])|rfl) ?_)
  ·have hge:¬(((r:Int)-d).sign<0):=λh=>hs (Int.sign_neg_iff.1 h);have e4:i64.wrap (((2*q:Nat):Int)+1)=((2*q+1:Nat):Int):=by rw[wrap_small (by omega) (by omega)];omega
   rw[show(r:Int)-d=((r-d:Nat):Int) by omega]at hge ⊢;generalize Int.sign ((r-d:Nat):Int)=sg at hge
   conv=>whnf
   refine br (λ_=>?_) (λh=>?_)
   ·conv=>whnf
    rw[e4];refine⟨⟨((j:Int)-1,2*q+1,r-d),⟨by simp only;omega,by simp only;omega⟩,?_,?_⟩,?_,by simp only;omega⟩
    ·simp only[hpj1];rw[qM (2 ^ j) b,hd,re,Nat.one_mul,qM 2 q,rr];omega
    ·simp only[hpj1];rw[qM (2 ^ j) b,hd];omega
    ·refine Rp ?_
     conv=>whnf
     rw[e3]
     repeat (first|exact trivial|refine And.intro (by first|with_reducible rfl|exact .inl rfl|(rw[next (by first|omega|(simp only;omega))])|rfl) ?_)
   ·have:=qQ h;omega
 ·have hk:¬k>=0:=qQ h;have hk1:(k+1).toNat=0:=by omega
  rw[hk1,Nat.pow_zero,Nat.one_mul]at hqr hr;have hdiv:a/b=q:=Nat.div_eq_of_lt_le (by omega) (by rw[re,Nat.one_mul];omega);rw[hdiv];exact z33
def frD(p:Int×Int):D:=.agg [.int .i64 p.1,.int .i64 p.2]
set_option maxHeartbeats 1000000 in
theorem reduced_(num den:Int)(hd0:den≠0)(h1:-B127<num/\num<B127)(h2:-B127<den/\den<B127) :
 Ax prog 183 [.d (W num),.d (W den)] (.tup [.d (frD (redF (nn num den) den.natAbs)),.d (.int .i64 (redE (nn num den) den.natAbs))]):=by
 have hB:B127=170141183460469231731687303715884105728:=rfl;refine Da func183 (by kernel_rfl) ?_
 conv=>whnf
 refine A0 (sign_ den (by omega) (by omega)) ?_;by_cases hneg:den<0
 ·rw[rp hneg,show nn num den=-num from qf hneg]
  conv=>whnf
  refine⟨⟨by decide +kernel,by kernel_rfl⟩,?_⟩
  conv=>whnf
  refine A0 (opposite_ num) ?_
  conv=>whnf
  refine A0 (opposite_ den) ?_;obtain⟨d,hd⟩:∃d:Nat,-den=d:=⟨den.natAbs,by omega⟩;rw[hd,show den.natAbs=d by omega];unfold redF redE okR
  conv=>whnf
  refine⟨⟨by decide +kernel,by kernel_rfl⟩,?_⟩
  conv=>whnf
  refine A0 (fM (-num) (by omega) (by omega)) ?_
  conv=>whnf
  refine A0 (eP d ((-num)).natAbs (by omega) (by omega) (by omega)) ?_;have hg0:0<Nat.gcd d ((-num)).natAbs:=rL _ (by omega);have hgd:Nat.gcd d ((-num)).natAbs<=d:=Nat.gcd_le_left _ (by omega);generalize Nat.gcd d ((-num)).natAbs=g at hg0 hgd ⊢
  conv=>whnf
  refine⟨⟨by decide +kernel,by kernel_rfl⟩,?_⟩
  conv=>whnf
  refine A0 (fM (-num) (by omega) (by omega)) ?_
  conv=>whnf
  obtain⟨v,hv,hov⟩:=fB ((-num)).natAbs g hg0 (by omega) (by omega);refine A0 hov ?_;obtain⟨v2,hv2,hov2⟩:=fB d g hg0 (by omega) (by omega);by_cases c1:(((((-num)).natAbs/g:Nat):Int)<=1152921504606846976)
  ·rw[qh c1];have hv:=hv c1;subst hv
   conv=>whnf
   refine A0 hov2 ?_;by_cases c2:(((d/g:Nat):Int)<=1152921504606846976)
   ·rw[qh c2];have hv2:=hv2 c2;subst hv2
    conv=>whnf
    refine A0 (sign_ (-num) (by omega) (by omega)) ?_;have hn1:0<=((((-num)).natAbs/g:Nat):Int):=sr _;generalize ((((-num)).natAbs/g:Nat):Int)=n1 at c1 hn1 ⊢;generalize ((d/g:Nat):Int)=d1 at c2 ⊢
    conv=>whnf
    refine⟨?_⟩
    have hs:-n1<=n1*((-num)).sign/\n1*((-num)).sign<=n1:=by
     rcases Int.sign_trichotomy ((-num))with h|h|h<;>rw[h]<;>omega
    rw[wrap_small (by omega) (by omega)];rfl
   ·rw[qC c2];exact z33
  ·rw[qC c1]
   conv=>whnf
   refine A0 hov2 ?_;exact z33
 ·have hpos:0<den:=by omega
  rw[sp hpos,show nn num den=num from qi hneg];obtain⟨d,rfl⟩:∃d:Nat,den=d:=⟨den.natAbs,by omega⟩;rw[sL];unfold redF redE okR
  conv=>whnf
  refine⟨⟨by decide +kernel,by kernel_rfl⟩,?_⟩
  conv=>whnf
  refine A0 (fM num (by omega) (by omega)) ?_
  conv=>whnf
  refine A0 (eP d (num).natAbs (by omega) (by omega) (by omega)) ?_;have hg0:0<Nat.gcd d (num).natAbs:=rL _ (by omega);have hgd:Nat.gcd d (num).natAbs<=d:=Nat.gcd_le_left _ (by omega);generalize Nat.gcd d (num).natAbs=g at hg0 hgd ⊢
  conv=>whnf
  refine⟨⟨by decide +kernel,by kernel_rfl⟩,?_⟩
  conv=>whnf
  refine A0 (fM num (by omega) (by omega)) ?_
  conv=>whnf
  obtain⟨v,hv,hov⟩:=fB (num).natAbs g hg0 (by omega) (by omega);refine A0 hov ?_;obtain⟨v2,hv2,hov2⟩:=fB d g hg0 (by omega) (by omega);by_cases c1:((((num).natAbs/g:Nat):Int)<=1152921504606846976)
  ·rw[qh c1];have hv:=hv c1;subst hv
   conv=>whnf
   refine A0 hov2 ?_;by_cases c2:(((d/g:Nat):Int)<=1152921504606846976)
   ·rw[qh c2];have hv2:=hv2 c2;subst hv2
    conv=>whnf
    refine A0 (sign_ num (by omega) (by omega)) ?_;have hn1:0<=(((num).natAbs/g:Nat):Int):=sr _;generalize (((num).natAbs/g:Nat):Int)=n1 at c1 hn1 ⊢;generalize ((d/g:Nat):Int)=d1 at c2 ⊢
    conv=>whnf
    refine⟨?_⟩
    have hs:-n1<=n1*(num).sign/\n1*(num).sign<=n1:=by
     rcases Int.sign_trichotomy (num)with h|h|h<;>rw[h]<;>omega
    rw[wrap_small (by omega) (by omega)];rfl
   ·rw[qC c2];exact z33
  ·rw[qC c1]
   conv=>whnf
   refine A0 hov2 ?_;exact z33
theorem of_(num den:Int)(hd0:den≠0)(h1:-9223372036854775808<=num/\num<=9223372036854775807)(h2:-9223372036854775808<=den/\den<=9223372036854775807) :
 Ax prog 109 [.d (.int .i64 num),.d (.int .i64 den)] (.tup [.d (frD (redF (nn num den) den.natAbs)),.d (.int .i64 (redE (nn num den) den.natAbs))]):=by
 have hB:B127=170141183460469231731687303715884105728:=rfl;refine Da func109 (by kernel_rfl) ?_
 conv=>whnf
 refine br (λh=>?_) (λh=>?_)
 ·exact absurd (sR h) hd0
 conv=>whnf
 refine A0 (whole_ num h1.1 h1.2) ?_
 conv=>whnf
 refine A0 (whole_ den h2.1 h2.2) ?_
 conv=>whnf
 refine A0 (reduced_ num den hd0 (by omega) (by omega)) ?_;generalize redF (nn num den) den.natAbs=p;generalize redE (nn num den) den.natAbs=e;obtain⟨p1,p2⟩:=p;exact z33
theorem p7(a b:Int)(ha:-4611686018427387904<=a/\a<=4611686018427387904)(hb:-4611686018427387904<=b/\b<=4611686018427387904) :
 Ax prog 266 [.d (.int .i64 a),.d (.int .i64 b)] (.d (.int .i64 (Nat.gcd a.natAbs b.natAbs:Nat))):=by
 refine Da func266 (by kernel_rfl) ?_;generalize hg:Nat.gcd a.natAbs b.natAbs=g
 conv=>whnf
 refine loop {s:Int×Int // (-4611686018427387904<=s.1/\s.1<=4611686018427387904)/\(-4611686018427387904<=s.2/\s.2<=4611686018427387904)/\Nat.gcd s.1.natAbs s.2.natAbs=g} (λs=>CJ 15 [(0,.d (.int .i64 s.1.1)),(1,.d (.int .i64 s.1.2))] []) (λs=>s.1.2.natAbs) ⟨(a,b),ha,hb,hg⟩ ?_ λs=>?_
 ·refine Rp ?_
  conv=>whnf
  repeat (first|exact trivial|refine And.intro (by first|with_reducible rfl|exact .inl rfl|(rw[next (by first|omega|(simp only;omega))])|rfl) ?_)
 obtain⟨⟨x,y⟩,hx,hy,hxy⟩:=s;simp only at hx hy hxy
 conv=>whnf
 refine br (λh=>?_) (λh=>?_)
 ·have h:y≠0:=by simpa using h
  have hlt:(x.tmod y).natAbs<y.natAbs:=by rw[Int.natAbs_tmod];exact se _ (by omega)
  conv=>whnf
  refine⟨⟨by decide +kernel,by kernel_rfl⟩,?_⟩
  conv=>whnf
  refine⟨h,?_⟩
  conv=>whnf
  refine⟨⟨(y,x.tmod y),hy,by simp only;omega,?_⟩,?_,hlt⟩
  ·show Nat.gcd y.natAbs (x.tmod y).natAbs=g;rw[Int.natAbs_tmod,<-hxy,sq y.natAbs,<-Nat.gcd_rec,sq]
  ·refine Rp ?_
   conv=>whnf
   repeat (first|exact trivial|refine And.intro (by first|with_reducible rfl|exact .inl rfl|(rw[next (by first|omega|(simp only;omega))])|rfl) ?_)
 ·have h:y=0:=by simpa using h
  subst h;simp only[Int.natAbs_zero,Nat.gcd_zero_right]at hxy
  conv=>whnf
  refine⟨?_⟩;simp only[jc];rw[wrap_small (by omega) (by omega)];congr 2;split<;>omega
def VF(p:Int×Int):Prop:=(1<=p.2/\p.2<=1152921504606846976)/\(-1152921504606846976<=p.1/\p.1<=1152921504606846976)/\Nat.gcd p.1.natAbs p.2.natAbs=1
theorem valid_(p:Int×Int)(hp:VF p):Ax prog 205 [.d (frD p)] (.d (.bool true)):=by
 obtain⟨n,d⟩:=p;obtain⟨⟨h1,h2⟩,⟨h3,h4⟩,h5⟩:=hp;simp only at h1 h2 h3 h4 h5;refine Da func205 (by kernel_rfl) ?_
 conv=>whnf
 refine br (λ_=>?_) (λh=>?_)
 rotate_left
 ·exfalso
  have e1:decide (d>=1)=true:=qh h1;have e2:decide (d<=1152921504606846976)=true:=qh h2;have e3:decide (n>=-1152921504606846976)=true:=qh h3;have e4:decide (n<=1152921504606846976)=true:=qh h4;simp only[e1,e2,e3,e4,qK]at h
  cases h
 conv=>whnf
 refine A0 (p7 n d (by omega) (by omega)) ?_;rw[h5];exact z33
theorem prod_bound{a b:Int}(ha:-1152921504606846976<=a/\a<=1152921504606846976)(hb:-1152921504606846976<=b/\b<=1152921504606846976):-1329227995784915872903807060280344576<=a*b/\a*b<=1329227995784915872903807060280344576:=by
 have h1:(a*b).natAbs<=1329227995784915872903807060280344576:=by
  rw[Int.natAbs_mul];exact sy (show a.natAbs<=1152921504606846976 by omega) (show b.natAbs<=1152921504606846976 by omega)
 omega
theorem mul_(p q:Int×Int)(hp:VF p)(hq:VF q):Ax prog 126 [.d (frD p),.d (frD q)]
 (.tup [.d (frD (redF (p.1*q.1) (p.2*q.2).toNat)),.d (.int .i64 (redE (p.1*q.1) (p.2*q.2).toNat))]):=by
 have vp:=valid_ p hp;have vq:=valid_ q hq;obtain⟨a,b⟩:=p;obtain⟨c,d⟩:=q;have hB:B127=170141183460469231731687303715884105728:=rfl;obtain⟨⟨h1,h2⟩,h3,_⟩:=hp;obtain⟨⟨k1,k2⟩,k3,_⟩:=hq;simp only at h1 h2 h3 k1 k2 k3;have hac:=prod_bound h3 k3;have hbd:=prod_bound (a:=b) (b:=d) (by omega) (by omega);have hbd0:0<b*d:=Int.mul_pos (by omega) (by omega);have hred:=reduced_ (a*c) (b*d) (by omega) (by omega) (by omega);rw[show nn (a*c) (b*d)=a*c from qi (by omega),show(b*d).natAbs=(b*d).toNat by omega]at hred;refine Da func126 (by kernel_rfl) ?_
 conv=>whnf
 refine A0 vp ?_
 conv=>whnf
 refine A0 vq ?_
 conv=>whnf
 refine⟨⟨by decide +kernel,by kernel_rfl⟩,?_⟩
 conv=>whnf
 refine A0 (whole_ a (by omega) (by omega)) ?_
 conv=>whnf
 refine A0 (whole_ c (by omega) (by omega)) ?_
 conv=>whnf
 refine A0 (times_ a c) ?_
 conv=>whnf
 refine A0 (whole_ b (by omega) (by omega)) ?_
 conv=>whnf
 refine A0 (whole_ d (by omega) (by omega)) ?_
 conv=>whnf
 refine A0 (times_ b d) ?_
 conv=>whnf
 refine A0 hred ?_;generalize redF (a*c) (b*d).toNat=r;generalize redE (a*c) (b*d).toNat=e;obtain⟨r1,r2⟩:=r;exact z33
theorem Xp{n:Int}{d:Nat}(hd:0<d)(h:okR n d=true):VF (redF n d):=by
 unfold redF;rw[h];unfold okR at h;rw[qX]at h;have h1:=pZ h.1;have h2:=pZ h.2;have hg:0<Nat.gcd d n.natAbs:=rL _ hd;have hcop:Nat.Coprime (d/Nat.gcd d n.natAbs) (n.natAbs/Nat.gcd d n.natAbs):=Nat.coprime_div_gcd_div_gcd hg;have hd1:0<d/Nat.gcd d n.natAbs:=Nat.div_pos (Nat.gcd_le_left _ hd) hg;have hn0:n=0->n.natAbs/Nat.gcd d n.natAbs=0:=by rintro rfl;simp
 generalize n.natAbs/Nat.gcd d n.natAbs=a at *;generalize d/Nat.gcd d n.natAbs=b at *
 have hs:((a:Int)*n.sign).natAbs=a:=by
  rcases Int.sign_trichotomy n with hs|hs|hs
  ·rw[hs];omega
  ·have:=hn0 (Int.sign_eq_zero_iff_zero.1 hs);rw[hs];omega
  ·rw[hs];omega
 refine⟨⟨by simp only[qK];omega,h2⟩,?_,?_⟩
 ·simp only[qK];omega
 ·simp only[qK];rw[hs,sL,sq];exact hcop
theorem nC:VF (1,1):=⟨by decide,by decide,by decide⟩
theorem ib{x:Int}{xs:List Int}:x∈Fc xs↔x∈xs:=by simp[Fc,List.mem_mergeSort]
theorem S5(d:Array Int)(hd:∀i,i+1<d.size->d[i]!<=d[i+1]!):∀m,m<=d.size->(Go.Lib.compactUpTo d m).Pairwise (·<·)/\(∀x,x∈Go.Lib.compactUpTo d m↔∃j,j<m/\d[j]! = x)/\∀x∈Go.Lib.compactUpTo d m,x<=d[m-1]!:=by
 intro m
 induction m with
 | zero=>intro _;simp[Go.Lib.compactUpTo]
 | succ m ih =>
   intro hm;obtain⟨h1,h2,h3⟩:=ih (by omega);rw[Go.Lib.compactUpTo_succ];by_cases hz:m=0
   ·subst hz;have:Go.Lib.compactUpTo d 0=[]:=rfl;rw[this];have hk:Go.Lib.keeps d 0=true:=Go.Lib.keeps_lt_one d 0 (by omega);rw[qf hk];refine⟨by simp,λx=>?_,by simp⟩;constructor
    ·intro h;simp at h;exact⟨0,by omega,h.symm⟩
    ·rintro⟨j,hj,rfl⟩;have:j=0:=by omega
     subst this;simp
   have hle:=hd (m-1) (by omega);rw[show m-1+1=m by omega]at hle;by_cases he:d[m]! = d[m-1]!
   ·rw[Go.Lib.keeps_neg (by omega) he];simp only[qZ,if_false,rY];refine⟨h1,λx=>?_,λx hx=>?_⟩
    ·rw[h2];constructor
     ·rintro⟨j,hj,rfl⟩;exact⟨j,by omega,rfl⟩
     ·rintro⟨j,hj,rfl⟩;by_cases e:j=m
      ·subst e;exact⟨j-1,by omega,he.symm⟩
      ·exact⟨j,by omega,rfl⟩
    ·have:=h3 x hx;rw[show m+1-1=m by omega,he];exact this
   ·rw[Go.Lib.keeps_pos he,qf rfl];refine⟨List.pairwise_append.2 ⟨h1,by simp,λa ha b hb=>?_⟩,λx=>?_,λx hx=>?_⟩
    ·simp at hb;subst hb;have:=h3 a ha;omega
    ·rw[rC,h2];constructor
     ·rintro(⟨j,hj,rfl⟩|h)
      ·exact⟨j,by omega,rfl⟩
      ·simp at h;exact⟨m,by omega,h.symm⟩
     ·rintro⟨j,hj,rfl⟩;by_cases e:j=m
      ·subst e;exact .inr (by simp)
      ·exact .inl ⟨j,by omega,rfl⟩
    ·rw[show m+1-1=m by omega];rcases List.mem_append.1 hx with hx|hx
     ·have:=h3 x hx;omega
     ·simp at hx;omega
theorem ZN(xs:List Int):(Fc xs).Pairwise (·<=·):=by
 have:=List.pairwise_mergeSort (le:=λx y:Int=>decide (x<=y)) (λa b c h1 h2=>by simp at *;omega) (λa b=>by simp;omega) xs;exact this.imp (by simp)
theorem UM(xs:List Int):(setI xs).Pairwise (·<·)/\∀x,x∈setI xs↔x∈xs:=by
 have hs:=ZN xs;have hm:∀x,x∈Fc xs↔x∈xs:=λx=>ib;unfold setI;generalize Fc xs=s at hs hm;have hg:∀i (h:i<s.length),s.toArray[i]! = s[i]:=λi h=>by simp[h]
 obtain⟨h1,h2,_⟩:=S5 s.toArray (λi hi=>by
  have hi:i+1<s.length:=by simpa using hi
  rw[hg i (by omega),hg (i+1) hi];exact List.pairwise_iff_getElem.1 hs i (i+1) (by omega) hi (by omega)) s.length (by simp)
 refine⟨h1,λx=>?_⟩;unfold Go.Lib.compact;rw[h2,<-hm];constructor
 ·rintro⟨j,hj,rfl⟩;rw[hg j hj];exact qa hj
 ·intro h;obtain⟨j,hj,rfl⟩:=List.getElem_of_mem h;exact⟨j,hj,hg j hj⟩
theorem lI{a b:List Int}(ha:a.Pairwise (·<·))(hb:b.Pairwise (·<·))(h:∀x,x∈a↔x∈b):a=b:=by
 have hp:a.Perm b:=(List.perm_ext_iff_of_nodup (ha.imp λh=>by omega) (hb.imp λh=>by omega)).2 h;exact List.Perm.eq_of_pairwise (le:=(·<·)) (λx y _ _ h1 h2=>by omega) ha hb hp
theorem Y9(x:Int):∀(l:List Int),l.Pairwise (·<·)->(insU x l).Pairwise (·<·)/\∀y,y∈insU x l↔y=x\/y∈l
 | [],_=>by simp[insU]
 | z :: r,h=>by
   obtain⟨h1,h2⟩:=List.pairwise_cons.1 h;unfold insU;by_cases c:x<z
   ·rw[qh c,qK];refine⟨List.pairwise_cons.2 ⟨λy hy=>?_,h⟩,λy=>by simp⟩;rcases List.mem_cons.1 hy with rfl|hy
    ·exact c
    ·have:=h1 y hy;omega
   ·rw[qC c,q9];by_cases e:x=z
    ·rw[show(x==z)=true by simp[e],qK];exact⟨h,λy=>by subst e;simp⟩
    ·rw[show(x==z)=false by simp[e],q9];obtain⟨k1,k2⟩:=Y9 x r h2;refine⟨List.pairwise_cons.2 ⟨λy hy=>?_,k1⟩,λy=>by simp only[sf,k2];exact⟨λh=>by rcases h with h|h|h<;>simp[h],λh=>by rcases h with h|h|h<;>simp[h]⟩⟩
     rcases(k2 y).1 hy with rfl|hy
     ·omega
     ·exact h1 y hy
theorem UN:∀(xs:List Int),(setU xs).Pairwise (·<·)/\∀x,x∈setU xs↔x∈xs
 | []=>by simp[setU]
 | z :: r=>by
   obtain⟨h1,h2⟩:=UN r;obtain⟨k1,k2⟩:=Y9 z (setU r) h1;exact⟨k1,λx=>by rw[show setU (z :: r)=insU z (setU r)from rfl,k2,h2];simp⟩
theorem setU_eq(xs:List Int):setU xs=setI xs :=
 lI (UN xs).1 (UM xs).1 λx=>((UN xs).2 x).trans ((UM xs).2 x).symm
def ints(xs:List Int):D:=.list 1 (xs.map (D.int .i64))
theorem iB{α:Type}(xs:List α)(k:Nat)(h:k<xs.length):xs.take (k+1)=xs.take k++[xs[k]]:=qo h
theorem bm(xs:List Int)(k:Nat)(h:k<xs.length):(xs.map (D.int .i64))[((k:Nat):Int).toNat]?=some (D.int .i64 xs[k]):=by simp[h]
theorem bytes_int:K7 prog 3=8:=by kernel_rfl
theorem gp(xs:List Int):∀x∈xs.map (D.int .i64),∀y∈x.cells,y.bare=true:=by
 intro x hx y hy;obtain⟨n,_,rfl⟩:=List.mem_map.1 hx;simp[D.cells]at hy;subst hy;rfl
def SC(p:Int->Bool)(xs:List Int):Int:=match xs.findIdx? p with|some i=>i|none=>-1
theorem gM(p:Int->Bool)(xs:List Int):decide (SC p xs>=0)=xs.any p:=by
 unfold SC
 cases h:xs.findIdx? p with
 | none =>
   have:=List.findIdx?_eq_none_iff.1 h;simp only[ge_iff_le,Int.reduceNeg,Int.reduceLE,decide_false];symm;rw[sV];intro x hx;simp[this x hx]
 | some i =>
   obtain⟨hi,hp,_⟩:=List.findIdx?_eq_some_iff_getElem.1 h;simp only[ge_iff_le,sr,decide_true];symm;rw[tb];exact⟨_,qa hi,hp⟩
theorem gL{p:Int->Bool}{xs:List Int}{k:Nat}(hk:k<xs.length)(h:∀j (hj:j<k),p (xs[j]'(by omega))=false)(hp:p xs[k]=true):SC p xs=k:=by
 unfold SC;rw[List.findIdx?_eq_some_iff_getElem.2 ⟨hk,hp,λj hj=>by simp[h j hj]⟩]
theorem ba{p:Int->Bool}{xs:List Int}(h:∀j (hj:j<xs.length),p xs[j]=false):SC p xs=-1:=by
 unfold SC;rw[List.findIdx?_eq_none_iff.2 λx hx=>by obtain⟨j,hj,rfl⟩:=List.getElem_of_mem hx;exact h j hj]
theorem index(f:FuncId)(p:Int->Bool)(xs:List Int)(hx:xs.length<=1000000)(hf:∀x∈xs,Ax prog f [.d (.int .i64 x)] (.d (.bool (p x)))) :
 Ax prog 248 [.d (ints xs),.d (.fn f [])] (.d (.int .i64 (SC p xs))):=by
 refine Da func248 (by kernel_rfl) ?_
 conv=>whnf
 refine loop {k:Nat // ∀j (hj:j<xs.length),j<k->p xs[j]=false} (λk=>CJ 19 [(0,.d (ints xs)),(1,.d (.fn f [])),(7,.d (.int .i64 xs.length)),(8,.d (.int .i64 k.1))] []) (λk=>xs.length-k.1) ⟨0,by simp⟩ ?_ λk=>?_
 ·exact And.intro rfl (And.intro rfl (And.intro (by simp) (And.intro rfl trivial)))
 ·obtain⟨k,hk⟩:=k
  conv=>whnf
  refine br (λh=>?_) (λh=>?_)
  ·have hlt:k<xs.length:=by simpa using h
   conv=>whnf
   refine⟨⟨by simp only;omega,_,bm xs k hlt,?_⟩⟩
   conv=>whnf
   refine A0 (hf xs[k] (qa hlt)) ?_
   conv=>whnf
   refine br (λhp=>?_) (λhp=>?_)
   ·conv=>whnf
    exact⟨by rw[gL hlt (λj hj=>hk j (by omega) hj) hp];rfl⟩
   ·conv=>whnf
    refine⟨⟨k+1,λj hj hjk=>?_⟩,?_,by show xs.length-(k+1)<xs.length-k;omega⟩
    ·by_cases e:j=k
     ·subst e;exact hp
     ·exact hk j hj (by omega)
    ·exact And.intro rfl (And.intro rfl (And.intro rfl (And.intro (by rw[next (by first|omega|(simp only;omega))]) trivial)))
  ·have hge:xs.length<=k:=by simpa using h
   conv=>whnf
   exact⟨by rw[ba λj hj=>hk j hj (by omega)];rfl⟩
theorem contains(f:FuncId)(p:Int->Bool)(xs:List Int)(hx:xs.length<=1000000)(hf:∀x∈xs,Ax prog f [.d (.int .i64 x)] (.d (.bool (p x)))) :
 Ax prog 180 [.d (ints xs),.d (.fn f [])] (.d (.bool (xs.any p))):=by
 refine Da func180 (by kernel_rfl) ?_
 conv=>whnf
 refine A0 (index f p xs hx hf) ?_
 conv=>whnf
 exact⟨by rw[gM];rfl⟩
theorem clone(xs:List Int)(hx:xs.length<=1000000):Ax prog 56 [.d (ints xs)] (.own 1 3 (xs.map (D.int .i64))):=by
 refine Da func56 (by kernel_rfl) ?_
 conv=>whnf
 refine⟨λb hb=>?_⟩
 cases b with
 | true =>
   have:xs=[]:=by
    cases xs with
    | nil=>rfl
    | cons x r=>have:=hb (by simp);simp at this
   subst this
   conv=>whnf
   refine⟨.inr ?_⟩
   conv=>whnf
   refine⟨λx hx=>by simp at hx,?_⟩;exact z33
 | false =>
   conv=>whnf
   refine⟨?_,?_⟩
   ·rw[bytes_int];simp only[pX,rI];exact⟨by unfold maxLen;omega,by omega,.inr (by trivial)⟩
   conv=>whnf
   refine⟨.inr ?_⟩
   conv=>whnf
   refine⟨by rw[List.nil_append];exact gp xs,?_⟩;exact z33
def iR:Prop:=∀xs:List Int,xs.length<4611686018427387904->Dl prog 198 [.own 1 3 (xs.map (D.int .i64))] [.own 1 3 ((Fc xs).map (D.int .i64))] (.tup [])
theorem length_sortI(xs:List Int):(Fc xs).length=xs.length:=by simp[Fc,rT]
def Wj:Prop:=∀xs:List Int,xs.length<4611686018427387904->Dl prog 199 [.own 1 3 (xs.map (D.int .i64))] [.any] (.own 1 3 ((Go.Lib.compact xs).map (D.int .i64)))
end Go.Proofs.YthchnhoalhbkcaaGreatDoor.P.F
