/- FA -/
import Derived.Test.YtjgeigjjfcnojaaGreatDoorProg
import Derived.Test.YtjgeigjjfcnojaaGreatDoorM4
import Derived.KernelRfl
import Derived.IntWalk
import Derived.Laws.Externs
import Derived.Shelf.Spec.BitsCarry
set_option linter.unusedVariables false
set_option linter.unusedSimpArgs false
namespace Go.Proofs.YtjgeigjjfcnojaaGreatDoor.P
open Go.Abs Go.Proofs
theorem z54 {p:Prop} (h:p:=by (conv=>whnf); exact ⟨rfl⟩):p:=h
theorem z55 {p:Prop} (h:p:=by have:=Nat.pow_le_pow_right (n:=2) (by omega) hk; have:2 ^ k≤2 ^ k * (2 * m + 1):=Nat.le_mul_of_pos_right _ (by omega); omega):p:=h
theorem z56 {p:Prop} (h:p:=by simp only [an]; congr 2; omega):p:=h
theorem z57 {p:Prop} (h:p:=by generalize redF (nn num den) den.natAbs = p; generalize redE (nn num den) den.natAbs = e; obtain ⟨p1,p2⟩:=p; exact z54):p:=h
end Go.Proofs.YtjgeigjjfcnojaaGreatDoor.P
namespace Go.Proofs.YtjgeigjjfcnojaaGreatDoor.P.F
open Go.Abs Go.Proofs
set_option maxRecDepth 10000
theorem wrap_small {n:Int} (h0:-9223372036854775808≤n) (h1:n≤9223372036854775807):IntKind.i64.wrap n = n:=IntWalk.i64_in n ⟨h0,h1⟩
theorem next {k:Nat} (h:k < 1000000000000):IntKind.i64.wrap ((k:Int) + 1) = ((k + 1:Nat):Int):=by rw [wrap_small (by omega) (by omega)]; rfl
theorem Jn (n:Int):IntKind.u64.wrap n = n % 18446744073709551616:=by
 have:IntKind.u64.wrap n = n % (2 ^ 64):=by simp [IntKind.wrap,IntKind.signed,IntKind.bits]
 rw [this]; rfl
theorem Sr (a:Int) (k:Nat):a.fdiv (2 ^ k) = a / 2 ^ k:=Int.fdiv_eq_ediv_of_nonneg _ (Int.le_of_lt (Int.pow_pos (by omega)))
theorem cM (x y:Int):IntKind.u64.wrap ((BitVec.ofInt IntKind.u64.bits x &&& BitVec.ofInt IntKind.u64.bits y).toNat:Int) = (((x % 18446744073709551616).toNat &&& (y % 18446744073709551616).toNat:Nat):Int):=by
 have e:(BitVec.ofInt IntKind.u64.bits x &&& BitVec.ofInt IntKind.u64.bits y).toNat = ((x % 18446744073709551616).toNat &&& (y % 18446744073709551616).toNat:Nat):=by
  rw [BitVec.toNat_and,BitVec.toNat_ofInt,BitVec.toNat_ofInt]; rfl
 rw [e,Jn]
 have h1:((x % 18446744073709551616).toNat &&& (y % 18446744073709551616).toNat)≤(x % 18446744073709551616).toNat:=Nat.and_le_left
 omega
theorem er (x y:Int):IntKind.u64.wrap ((BitVec.ofInt IntKind.u64.bits x ||| BitVec.ofInt IntKind.u64.bits y).toNat:Int) = (((x % 18446744073709551616).toNat ||| (y % 18446744073709551616).toNat:Nat):Int):=by
 have e:(BitVec.ofInt IntKind.u64.bits x ||| BitVec.ofInt IntKind.u64.bits y).toNat = ((x % 18446744073709551616).toNat ||| (y % 18446744073709551616).toNat:Nat):=by
  rw [BitVec.toNat_or,BitVec.toNat_ofInt,BitVec.toNat_ofInt]; rfl
 rw [e,Jn]
 have h1:((x % 18446744073709551616).toNat ||| (y % 18446744073709551616).toNat) < 2 ^ 64:=Nat.or_lt_two_pow (by omega) (by omega)
 omega
theorem dB (x:Int):IntKind.u64.wrap ((BitVec.ofInt IntKind.u64.bits x &&& BitVec.ofInt IntKind.u64.bits 4294967295).toNat:Int) = x % 4294967296:=by
 rw [cM]
 have:((x % 18446744073709551616).toNat &&& ((4294967295:Int) % 18446744073709551616).toNat) = (x % 18446744073709551616).toNat % 2 ^ 32:=Nat.and_two_pow_sub_one_eq_mod _ 32
 rw [this]; omega
theorem OI (x:Int):x.fdiv (2 ^ min (Int.toNat 32) IntKind.u64.bits) = x / 4294967296:=Sr x 32
theorem dS (x y:Int) (hx:0≤x) (hx2:x < 18446744073709551616) (hy:0≤y) (hy2:y < 18446744073709551616) :
 ((x / 4294967296) * (y / 4294967296) + ((x / 4294967296) * (y % 4294967296) + (x % 4294967296) * (y % 4294967296) / 4294967296) / 4294967296 + (((x / 4294967296) * (y % 4294967296) + (x % 4294967296) * (y % 4294967296) / 4294967296) % 4294967296 + (x % 4294967296) * (y / 4294967296)) / 4294967296) = x * y / 18446744073709551616:=by
 have hx':x = 4294967296 * (x / 4294967296) + x % 4294967296:=by omega
 have hy':y = 4294967296 * (y / 4294967296) + y % 4294967296:=by omega
 have hxy:∀ x1 x0 y1 y0:Int,(4294967296 * x1 + x0) * (4294967296 * y1 + y0) = 18446744073709551616 * (x1 * y1) + 4294967296 * (x1 * y0) + 4294967296 * (x0 * y1) + x0 * y0:=by
  intro x1 x0 y1 y0; grind
 have hprod:x * y = (4294967296 * (x / 4294967296) + x % 4294967296) * (4294967296 * (y / 4294967296) + y % 4294967296):=by rw [← hx',← hy']
 rw [hprod,hxy]
 generalize x / 4294967296 * (y / 4294967296) = p
 generalize x / 4294967296 * (y % 4294967296) = q
 generalize x % 4294967296 * (y / 4294967296) = r
 generalize x % 4294967296 * (y % 4294967296) = t
 omega
theorem cT (x y:Int) (hx:0≤x) (hx2:x < 18446744073709551616) (hy:0≤y) (hy2:y < 18446744073709551616) :
 (0≤(x / 4294967296) * (y / 4294967296)∧(x / 4294967296) * (y / 4294967296)≤18446744065119617025)∧(0≤(x / 4294967296) * (y % 4294967296)∧(x / 4294967296) * (y % 4294967296)≤18446744065119617025) ∧
 (0≤(x % 4294967296) * (y / 4294967296)∧(x % 4294967296) * (y / 4294967296)≤18446744065119617025)∧(0≤(x % 4294967296) * (y % 4294967296)∧(x % 4294967296) * (y % 4294967296)≤18446744065119617025):=by
 have hm:∀ u v:Int,(0≤u∧u≤4294967295)→(0≤v∧v≤4294967295)→0≤u * v∧u * v≤18446744065119617025:=by
  intro u v h1 h2
  refine ⟨Int.mul_nonneg h1.1 h2.1,?_⟩
  have:=Int.mul_le_mul h1.2 h2.2 h2.1 (by omega)
  omega
 exact ⟨hm _ _ (by omega) (by omega),hm _ _ (by omega) (by omega),hm _ _ (by omega) (by omega),hm _ _ (by omega) (by omega)⟩
theorem db (x y:Int) (hx:0≤x) (hx2:x < 18446744073709551616) (hy:0≤y) (hy2:y < 18446744073709551616) :
 Aj Tryz.prog 259 [.d (.int .u64 x),.d (.int .u64 y)] (.tup [.d (.int .u64 (x * y / 18446744073709551616)),.d (.int .u64 (x * y % 18446744073709551616))]):=by
 refine BS Tryz.func259 (by kernel_rfl) ?_
 conv=>whnf
 refine ⟨by omega,?_⟩
 conv=>whnf
 refine ⟨by omega,?_⟩
 conv=>whnf
 refine ⟨by omega,?_⟩
 conv=>whnf
 refine ⟨by omega,?_⟩
 conv=>whnf
 refine ⟨by omega,?_⟩
 conv=>whnf
 refine ⟨?_⟩
 simp only [dB,OI]
 simp only [Jn]
 have hh:=dS x y hx hx2 hy hy2
 obtain ⟨m1,m2,m3,m4⟩:=cT x y hx hx2 hy hy2
 rw [← hh]
 generalize x / 4294967296 * (y / 4294967296) = p at *
 generalize x / 4294967296 * (y % 4294967296) = q at *
 generalize x % 4294967296 * (y / 4294967296) = r at *
 generalize x % 4294967296 * (y % 4294967296) = t at *
 congr 4
 clear hh
 omega
theorem bQ (k m:Nat) (h:2 ^ k * (2 * m + 1) < 2 ^ 64):(2 ^ k * (2 * m + 1)) &&& (2 ^ 64 - 2 ^ k * (2 * m + 1)) = 2 ^ k:=by
 have hk:0 < 2 ^ k:=Nat.two_pow_pos k
 have h1:2 ^ 64 - 2 ^ k * (2 * m + 1) = 2 ^ 64 - ((2 ^ k * (2 * m) + (2 ^ k - 1)) + 1):=by
  have:2 ^ k * (2 * m + 1) = 2 ^ k * (2 * m) + 2 ^ k:=by rw [Nat.mul_add,Nat.mul_one]
  omega
 apply Nat.eq_of_testBit_eq
 intro i
 rw [Nat.testBit_and,h1,Nat.testBit_two_pow_sub_succ (by
  have:2 ^ k * (2 * m + 1) = 2 ^ k * (2 * m) + 2 ^ k:=by rw [Nat.mul_add,Nat.mul_one]
  omega),Nat.testBit_two_pow_mul_add _ (by omega),Nat.testBit_two_pow_mul,Nat.testBit_two_pow]
 have hk64:k < 64:=by
  rcases Nat.lt_or_ge k 64 with hk | hk
  ·exact hk
  ·exact z55
 rcases Nat.lt_trichotomy i k with hi | hi | hi
 ·simp [show ¬ k≤i by omega,show k≠i by omega]
 ·subst hi
  simp [hk64,show 2 * m + 1 = 2 * m + 1 from rfl,Nat.testBit_zero]
 ·have e:(2 * m + 1).testBit (i - k) = (2 * m).testBit (i - k):=by
   obtain ⟨j,hj⟩:∃ j,i - k = j + 1:=⟨i - k - 1,by omega⟩
   rw [hj,Nat.testBit_succ,Nat.testBit_succ]
   congr 1; omega
  simp [show k≤i by omega,show ¬ i < k by omega,show k≠i by omega,e]
  intro h _; exact h
theorem dq:∀ k:Nat,k < 64→FS[((2 ^ k * 285870213051353865) % 18446744073709551616 / 288230376151711744)]? = some (k:Int):=by decide +kernel
theorem eP (k m:Nat) (h:2 ^ k * (2 * m + 1) < 18446744073709551616) :
 Aj Tryz.prog 307 [.d (.int .u64 ((2 ^ k * (2 * m + 1):Nat):Int))] (.d (.int .i64 k)):=by
 have hlow:=bQ k m h
 have hk64:k < 64:=by
  rcases Nat.lt_or_ge k 64 with hk | hk
  ·exact hk
  ·exact z55
 have hpos:0 < 2 ^ k * (2 * m + 1):=Nat.mul_pos (Nat.two_pow_pos k) (by omega)
 have htab:=dq k hk64
 generalize hx:2 ^ k * (2 * m + 1) = x at *
 refine BS Tryz.func307 (by kernel_rfl) ?_
 conv=>whnf
 refine br (fun h=>?_) (fun h=>?_)
 ·simp at h; omega
 conv=>whnf
 refine ⟨by omega,?_⟩
 have e1:IntKind.u64.wrap ((BitVec.ofInt IntKind.u64.bits (x:Int) &&& BitVec.ofInt IntKind.u64.bits (IntKind.u64.wrap (0 - (x:Int)))).toNat:Int) = ((2 ^ k:Nat):Int):=by
  rw [cM,Jn,← hlow]
  congr 2 <;> omega
 have e2:(IntKind.u64.wrap (((2 ^ k:Nat):Int) * 285870213051353865)).fdiv (2 ^ min (Int.toNat 58) IntKind.u64.bits) = (((2 ^ k * 285870213051353865) % 18446744073709551616 / 288230376151711744:Nat):Int):=by
  have:(IntKind.u64.wrap (((2 ^ k:Nat):Int) * 285870213051353865)).fdiv (2 ^ min (Int.toNat 58) IntKind.u64.bits) = (IntKind.u64.wrap (((2 ^ k:Nat):Int) * 285870213051353865)) / 288230376151711744:=Sr _ 58
  rw [this,Jn]
  generalize 2 ^ k = q
  omega
 have hlt:(2 ^ k * 285870213051353865) % 18446744073709551616 / 288230376151711744 < 64:=by omega
 generalize hj:(2 ^ k * 285870213051353865) % 18446744073709551616 / 288230376151711744 = j at *
 rw [e1,e2]
 conv=>whnf
 refine ⟨by omega,?_⟩
 refine ⟨⟨by omega,.int .u8 k,?_,?_⟩⟩
 ·rw [Int.toNat_natCast,List.getElem?_map,htab]; rfl
 conv=>whnf
 refine ⟨?_⟩
 rw [wrap_small (by omega) (by omega)]; rfl
def J5 (x n:Nat):Prop:=x < 2 ^ n∧(n = 0∨2 ^ (n - 1)≤x)
theorem J5.unique {x n m:Nat} (h:J5 x n) (k:J5 x m):n = m:=by
 have key:∀ {x n m:Nat},J5 x n→J5 x m→¬ n < m:=by
  intro x n m h k hlt
  rcases k.2 with k0 | k0
  ·omega
  ·have:=Nat.pow_le_pow_right (n:=2) (by omega) (show n≤m - 1 by omega)
   have:=h.1
   omega
 have h1:=key h k
 have h2:=key k h
 omega
theorem J5.shift {x n s:Nat} (h:J5 (x / 2 ^ s) n) (hn:0 < x / 2 ^ s):J5 x (s + n):=by
 have hp:=Nat.two_pow_pos s
 refine ⟨?_,.inr ?_⟩
 ·have:=(Nat.div_lt_iff_lt_mul hp).1 h.1
  rw [Nat.pow_add,Nat.mul_comm]; exact this
 ·rcases h.2 with h0 | h0
  ·subst h0
   have:=h.1
   rw [Nat.pow_zero] at this
   omega
  ·have:=(Nat.le_div_iff_mul_le hp).1 h0
   have hn:n≠0:=by
    intro e; subst e
    have:=h.1
    simp at this; omega
   rw [show s + n - 1 = (n - 1) + s by omega,Nat.pow_add]; exact this
def Gv:List Nat:=(List.range 256).map fun x=>if x = 0 then 0 else x.log2 + 1
theorem ZB:∀ x,x < 256→J5 x (Gv.getD x 0):=by
 intro x hx
 have:Gv.getD x 0 = if x = 0 then 0 else x.log2 + 1:=by
  simp [Gv,List.getD,hx]
 rw [this]
 split
 ·subst_vars; exact ⟨by decide,.inl rfl⟩
 ·rename_i h0
  exact ⟨Nat.lt_log2_self,.inr (Nat.log2_self_le h0)⟩
theorem Hf:∀ x,Gv.getD x 0≤8:=by
 intro x
 by_cases hx:x < 256
 ·revert x; decide +kernel
 ·simp [Gv,List.getD,hx]
theorem SH (x:Int):x.fdiv (2 ^ min (Int.toNat 16) IntKind.u64.bits) = x / 65536:=Sr x 16
theorem ck (x:Int):x.fdiv (2 ^ min (Int.toNat 8) IntKind.u64.bits) = x / 256:=Sr x 8
theorem SJ (n:Int):IntKind.u8.wrap n = n % 256:=by
 have:IntKind.u8.wrap n = n % (2 ^ 8):=by simp [IntKind.wrap,IntKind.signed,IntKind.bits]
 rw [this]; rfl
theorem FM (s:ByteArray) (hs:s.data.toList = Gv.map UInt8.ofNat) (y:Nat) (hy:y < 256):Em s (y:Int) = (Gv.getD y 0:Nat):=by
 unfold Em
 rw [hs,Int.toNat_natCast]
 revert y
 decide +kernel
theorem Od (x n S s y:Nat) (hS:S = 2 ^ s) (hn:J5 x n) (hy:y = x / S) (hb:y < 256) (hp:0 < y∨s = 0):n = s + Gv.getD y 0:=by
 subst hS
 have h1:=ZB y hb
 rcases hp with hp | hp
 ·subst hy
  exact hn.unique (h1.shift hp)
 ·subst hp
  simp at hy
  subst hy
  rw [Nat.zero_add]; exact hn.unique h1
theorem aU (x n:Nat) (hx:x < 18446744073709551616) (hn:J5 x n):Aj Tryz.prog 302 [.d (.int .u64 x)] (.d (.int .i64 n)):=by
 refine BS Tryz.func302 (by kernel_rfl) ?_
 conv=>whnf
 refine br (fun h32=>?_) (fun h32=>?_)
 ·have h32:=of_decide_eq_true h32
  conv=>whnf
  refine ⟨by omega,?_⟩
  conv=>whnf
  refine br (fun h16=>?_) (fun h16=>?_)
  ·have h16:=of_decide_eq_true h16
   rw [OI] at h16
   conv=>whnf
   refine ⟨by omega,?_⟩
   conv=>whnf
   refine br (fun h8=>?_) (fun h8=>?_)
   ·have h8:=of_decide_eq_true h8
    rw [SH,OI] at h8
    conv=>whnf
    refine ⟨by omega,?_⟩
    conv=>whnf
    have e:IntKind.u8.wrap ((((x:Int).fdiv (2 ^ min (Int.toNat 32) IntKind.u64.bits)).fdiv (2 ^ min (Int.toNat 16) IntKind.u64.bits)).fdiv (2 ^ min (Int.toNat 8) IntKind.u64.bits)) = ((x / 72057594037927936:Nat):Int):=by
     rw [SJ,ck,SH,OI]
     omega
    have hf:=Od x n 72057594037927936 56 (x / 72057594037927936) (by decide) hn rfl (by omega) (.inl (by omega))
    have hle:=Hf (x / 72057594037927936)
    refine ⟨⟨by rw [e]; omega,by rw [e,Int.toNat_natCast]; exact Nat.lt_of_lt_of_le (show x / 72057594037927936 < 256 by omega) (by decide +kernel)⟩,?_⟩
    conv=>whnf
    refine ⟨?_⟩
    rw [e,FM _ (by decide +kernel) _ (by omega)]
    generalize Gv.getD (x / 72057594037927936) 0 = q at *
    rw [wrap_small (n:=(q:Int)) (by omega) (by omega)]
    rw [wrap_small (n:=32 + 16) (by omega) (by omega),wrap_small (n:=32 + 16 + 8) (by omega) (by omega),wrap_small (n:=32 + 16 + 8 + (q:Int)) (by omega) (by omega)]
    exact z56
   ·have h8:=of_decide_eq_false h8
    rw [SH,OI] at h8
    conv=>whnf
    have e:IntKind.u8.wrap (((x:Int).fdiv (2 ^ min (Int.toNat 32) IntKind.u64.bits)).fdiv (2 ^ min (Int.toNat 16) IntKind.u64.bits)) = ((x / 281474976710656:Nat):Int):=by
     rw [SJ,SH,OI]
     omega
    have hf:=Od x n 281474976710656 48 (x / 281474976710656) (by decide) hn rfl (by omega) (.inl (by omega))
    have hle:=Hf (x / 281474976710656)
    refine ⟨⟨by rw [e]; omega,by rw [e,Int.toNat_natCast]; exact Nat.lt_of_lt_of_le (show x / 281474976710656 < 256 by omega) (by decide +kernel)⟩,?_⟩
    conv=>whnf
    refine ⟨?_⟩
    rw [e,FM _ (by decide +kernel) _ (by omega)]
    generalize Gv.getD (x / 281474976710656) 0 = q at *
    rw [wrap_small (n:=(q:Int)) (by omega) (by omega)]
    rw [wrap_small (n:=32 + 16) (by omega) (by omega),wrap_small (n:=32 + 16 + (q:Int)) (by omega) (by omega)]
    exact z56
  ·have h16:=of_decide_eq_false h16
   rw [OI] at h16
   conv=>whnf
   refine br (fun h8=>?_) (fun h8=>?_)
   ·have h8:=of_decide_eq_true h8
    rw [OI] at h8
    conv=>whnf
    refine ⟨by omega,?_⟩
    conv=>whnf
    have e:IntKind.u8.wrap (((x:Int).fdiv (2 ^ min (Int.toNat 32) IntKind.u64.bits)).fdiv (2 ^ min (Int.toNat 8) IntKind.u64.bits)) = ((x / 1099511627776:Nat):Int):=by
     rw [SJ,ck,OI]
     omega
    have hf:=Od x n 1099511627776 40 (x / 1099511627776) (by decide) hn rfl (by omega) (.inl (by omega))
    have hle:=Hf (x / 1099511627776)
    refine ⟨⟨by rw [e]; omega,by rw [e,Int.toNat_natCast]; exact Nat.lt_of_lt_of_le (show x / 1099511627776 < 256 by omega) (by decide +kernel)⟩,?_⟩
    conv=>whnf
    refine ⟨?_⟩
    rw [e,FM _ (by decide +kernel) _ (by omega)]
    generalize Gv.getD (x / 1099511627776) 0 = q at *
    rw [wrap_small (n:=(q:Int)) (by omega) (by omega)]
    rw [wrap_small (n:=32 + 8) (by omega) (by omega),wrap_small (n:=32 + 8 + (q:Int)) (by omega) (by omega)]
    exact z56
   ·have h8:=of_decide_eq_false h8
    rw [OI] at h8
    conv=>whnf
    have e:IntKind.u8.wrap ((x:Int).fdiv (2 ^ min (Int.toNat 32) IntKind.u64.bits)) = ((x / 4294967296:Nat):Int):=by
     rw [SJ,OI]
     omega
    have hf:=Od x n 4294967296 32 (x / 4294967296) (by decide) hn rfl (by omega) (.inl (by omega))
    have hle:=Hf (x / 4294967296)
    refine ⟨⟨by rw [e]; omega,by rw [e,Int.toNat_natCast]; exact Nat.lt_of_lt_of_le (show x / 4294967296 < 256 by omega) (by decide +kernel)⟩,?_⟩
    conv=>whnf
    refine ⟨?_⟩
    rw [e,FM _ (by decide +kernel) _ (by omega)]
    generalize Gv.getD (x / 4294967296) 0 = q at *
    rw [wrap_small (n:=(q:Int)) (by omega) (by omega)]
    rw [wrap_small (n:=32 + (q:Int)) (by omega) (by omega)]
    exact z56
 ·have h32:=of_decide_eq_false h32
  conv=>whnf
  refine br (fun h16=>?_) (fun h16=>?_)
  ·have h16:=of_decide_eq_true h16
   conv=>whnf
   refine ⟨by omega,?_⟩
   conv=>whnf
   refine br (fun h8=>?_) (fun h8=>?_)
   ·have h8:=of_decide_eq_true h8
    rw [SH] at h8
    conv=>whnf
    refine ⟨by omega,?_⟩
    conv=>whnf
    have e:IntKind.u8.wrap (((x:Int).fdiv (2 ^ min (Int.toNat 16) IntKind.u64.bits)).fdiv (2 ^ min (Int.toNat 8) IntKind.u64.bits)) = ((x / 16777216:Nat):Int):=by
     rw [SJ,ck,SH]
     omega
    have hf:=Od x n 16777216 24 (x / 16777216) (by decide) hn rfl (by omega) (.inl (by omega))
    have hle:=Hf (x / 16777216)
    refine ⟨⟨by rw [e]; omega,by rw [e,Int.toNat_natCast]; exact Nat.lt_of_lt_of_le (show x / 16777216 < 256 by omega) (by decide +kernel)⟩,?_⟩
    conv=>whnf
    refine ⟨?_⟩
    rw [e,FM _ (by decide +kernel) _ (by omega)]
    generalize Gv.getD (x / 16777216) 0 = q at *
    rw [wrap_small (n:=(q:Int)) (by omega) (by omega)]
    rw [wrap_small (n:=0 + 16) (by omega) (by omega),wrap_small (n:=0 + 16 + 8) (by omega) (by omega),wrap_small (n:=0 + 16 + 8 + (q:Int)) (by omega) (by omega)]
    exact z56
   ·have h8:=of_decide_eq_false h8
    rw [SH] at h8
    conv=>whnf
    have e:IntKind.u8.wrap ((x:Int).fdiv (2 ^ min (Int.toNat 16) IntKind.u64.bits)) = ((x / 65536:Nat):Int):=by
     rw [SJ,SH]
     omega
    have hf:=Od x n 65536 16 (x / 65536) (by decide) hn rfl (by omega) (.inl (by omega))
    have hle:=Hf (x / 65536)
    refine ⟨⟨by rw [e]; omega,by rw [e,Int.toNat_natCast]; exact Nat.lt_of_lt_of_le (show x / 65536 < 256 by omega) (by decide +kernel)⟩,?_⟩
    conv=>whnf
    refine ⟨?_⟩
    rw [e,FM _ (by decide +kernel) _ (by omega)]
    generalize Gv.getD (x / 65536) 0 = q at *
    rw [wrap_small (n:=(q:Int)) (by omega) (by omega)]
    rw [wrap_small (n:=0 + 16) (by omega) (by omega),wrap_small (n:=0 + 16 + (q:Int)) (by omega) (by omega)]
    exact z56
  ·have h16:=of_decide_eq_false h16
   conv=>whnf
   refine br (fun h8=>?_) (fun h8=>?_)
   ·have h8:=of_decide_eq_true h8
    conv=>whnf
    refine ⟨by omega,?_⟩
    conv=>whnf
    have e:IntKind.u8.wrap ((x:Int).fdiv (2 ^ min (Int.toNat 8) IntKind.u64.bits)) = ((x / 256:Nat):Int):=by
     rw [SJ,ck]
     omega
    have hf:=Od x n 256 8 (x / 256) (by decide) hn rfl (by omega) (.inl (by omega))
    have hle:=Hf (x / 256)
    refine ⟨⟨by rw [e]; omega,by rw [e,Int.toNat_natCast]; exact Nat.lt_of_lt_of_le (show x / 256 < 256 by omega) (by decide +kernel)⟩,?_⟩
    conv=>whnf
    refine ⟨?_⟩
    rw [e,FM _ (by decide +kernel) _ (by omega)]
    generalize Gv.getD (x / 256) 0 = q at *
    rw [wrap_small (n:=(q:Int)) (by omega) (by omega)]
    rw [wrap_small (n:=0 + 8) (by omega) (by omega),wrap_small (n:=0 + 8 + (q:Int)) (by omega) (by omega)]
    exact z56
   ·have h8:=of_decide_eq_false h8
    conv=>whnf
    have e:IntKind.u8.wrap (x:Int) = ((x / 1:Nat):Int):=by
     rw [SJ]
     omega
    have hf:=Od x n 1 0 (x / 1) (by decide) hn rfl (by omega) (.inr rfl)
    have hle:=Hf (x / 1)
    refine ⟨⟨by rw [e]; omega,by rw [e,Int.toNat_natCast]; exact Nat.lt_of_lt_of_le (show x / 1 < 256 by omega) (by decide +kernel)⟩,?_⟩
    conv=>whnf
    refine ⟨?_⟩
    rw [e,FM _ (by decide +kernel) _ (by omega)]
    generalize Gv.getD (x / 1) 0 = q at *
    rw [wrap_small (n:=(q:Int)) (by omega) (by omega)]
    rw [wrap_small (n:=0 + (q:Int)) (by omega) (by omega)]
    exact z56
end Go.Proofs.YtjgeigjjfcnojaaGreatDoor.P.F
namespace Go.Proofs.YtjgeigjjfcnojaaGreatDoor.P.F
open Go.Abs Go.Proofs
set_option maxRecDepth 10000
def Hi (z:Int):Int:=z / 18446744073709551616 % 18446744073709551616
def Lo (z:Int):Int:=z % 18446744073709551616
def W (z:Int):D:=.agg [.int .u64 (Hi z),.int .u64 (Lo z)]
theorem QK (z:Int):(0≤Hi z∧Hi z < 18446744073709551616)∧0≤Lo z∧Lo z < 18446744073709551616:=by unfold Hi Lo; omega
theorem M9 {h l z:Int} (h1:h = Hi z) (h2:l = Lo z):D.agg [.int .u64 h,.int .u64 l] = W z:=by subst h1; subst h2; rfl
theorem ak (x y c:Int) (hx:0≤x) (hy:0≤y) (hc:c = 0∨c = 1) :
 Y6 Tryz.prog 257 [.d (.int .u64 x),.d (.int .u64 y),.d (.int .u64 c)] (.tup [.d (.int .u64 ((x + y + c) % 18446744073709551616)),.d (.int .u64 ((x + y + c) / 18446744073709551616))]):=by
 intro O w vs hlen hargs
 obtain ⟨v0,v1,v2,rfl⟩:∃ v0 v1 v2,vs = #[v0,v1,v2]:=by
  obtain ⟨l⟩:=vs
  match l,hlen with
  | [v0,v1,v2],_=>exact ⟨v0,v1,v2,rfl⟩
 have e0:=BD (hargs 0 v0 _ rfl rfl)
 have e1:=BD (hargs 1 v1 _ rfl rfl)
 have e2:=BD (hargs 2 v2 _ rfl rfl)
 subst e0; subst e1; subst e2
 obtain ⟨x',rfl⟩:∃ n:Nat,x = n:=⟨x.toNat,by omega⟩
 obtain ⟨y',rfl⟩:∃ n:Nat,y = n:=⟨y.toNat,by omega⟩
 obtain ⟨c',rfl⟩:∃ n:Nat,c = n:=⟨c.toNat,by omega⟩
 refine ⟨.tuple #[.int .u64 (((x' + y' + c') % 18446744073709551616:Nat):Int),.int .u64 (((x' + y' + c') / 18446744073709551616:Nat):Int)],?_,?_⟩
 ·rw [run_callFunc_extern Tryz.func257 (by kernel_rfl) (by kernel_rfl) (by kernel_rfl) (e:=add64Entry) (by kernel_rfl),run_add64 x' y' c' (by omega) (by omega) (by omega) (by omega)]
  simp only [Result.andThen]
  congr 5 <;> omega
 ·refine ⟨_,rfl,rfl,fun i u x hu hx=>?_,fun i j u u' sz e ys sz' e' ys' b h1 h2 h3=>?_⟩
  ·match i,hu,hx with
   | 0,hu,hx=>simp at hu hx; subst hu; subst hx; exact .int _ _
   | 1,hu,hx=>simp at hu hx; subst hu; subst hx; exact .int _ _
   | i + 2,hu,hx=>simp at hu
  ·match i,h3 with
   | 0,h3=>simp at h3
   | 1,h3=>simp at h3
   | i + 2,h3=>simp at h3
theorem dT (n:Int) (h0:0≤n) (h1:n < 18446744073709551616):IntKind.u64.wrap ((BitVec.ofInt IntKind.u64.bits (if IntKind.u64.signed = true then -1 else IntKind.u64.max) ^^^ BitVec.ofInt IntKind.u64.bits n).toNat:Int) = 18446744073709551615 - n:=by
 have e:(BitVec.ofInt IntKind.u64.bits (if IntKind.u64.signed = true then -1 else IntKind.u64.max) ^^^ BitVec.ofInt IntKind.u64.bits n).toNat = 18446744073709551615 ^^^ n.toNat:=by
  rw [BitVec.toNat_xor,BitVec.toNat_ofInt,BitVec.toNat_ofInt]
  have:(n % ((2 ^ IntKind.u64.bits:Nat):Int)).toNat = n.toNat:=by
   rw [Int.emod_eq_of_lt h0 (by simpa [IntKind.bits] using h1)]
  rw [this]; rfl
 have e2:18446744073709551615 ^^^ n.toNat = 18446744073709551615 - n.toNat:=by
  have hlt:n.toNat < 2 ^ 64:=by omega
  have:(2 ^ 64 - 1) ^^^ n.toNat = 2 ^ 64 - (n.toNat + 1):=by
   apply Nat.eq_of_testBit_eq
   intro i
   rw [Nat.testBit_xor,Nat.testBit_two_pow_sub_one,Nat.testBit_two_pow_sub_succ hlt]
   by_cases hi:i < 64
   ·simp [hi]
   ·simp [hi,Nat.testBit_lt_two_pow (Nat.lt_of_lt_of_le hlt (Nat.pow_le_pow_right (by omega) (show 64≤i by omega)))]
  have h3:(18446744073709551615:Nat) = 2 ^ 64 - 1:=by decide
  rw [h3,this]; omega
 rw [e,e2,Jn]; omega
theorem whole_ (n:Int) (h0:-9223372036854775808≤n) (h1:n≤9223372036854775807):Aj Tryz.prog 177 [.d (.int .i64 n)] (.d (W n)):=by
 refine BS Tryz.func177 (by kernel_rfl) ?_
 conv=>whnf
 refine ⟨by omega,?_⟩
 conv=>whnf
 refine ⟨?_⟩
 have e:n.fdiv (2 ^ min (Int.toNat 63) IntKind.i64.bits) = n / 9223372036854775808:=Sr n 63
 rw [e,Jn,Jn]
 exact congrArg AV.d (M9 (by unfold Hi; omega) (by unfold Lo; omega))
theorem cF (a b:Int):Aj Tryz.prog 195 [.d (W a),.d (W b)] (.d (W (a + b))):=by
 refine BS Tryz.func195 (by kernel_rfl) ?_
 have ha:=QK a
 have hb:=QK b
 conv=>whnf
 refine Y8 (ak (Lo a) (Lo b) 0 (by omega) (by omega) (.inl rfl)) ?_
 conv=>whnf
 refine Y8 (ak (Hi a) (Hi b) ((Lo a + Lo b + 0) / 18446744073709551616) (by omega) (by omega) (by omega)) ?_
 conv=>whnf
 refine ⟨?_⟩
 exact congrArg AV.d (M9 (by unfold Hi Lo; omega) (by unfold Lo; omega))
theorem OV (a:Int):Aj Tryz.prog 242 [.d (W a)] (.d (W (-a))):=by
 refine BS Tryz.func242 (by kernel_rfl) ?_
 have ha:=QK a
 conv=>whnf
 rw [dT _ ha.1.1 ha.1.2,dT _ ha.2.1 ha.2.2,M9 (h:=18446744073709551615 - Hi a) (l:=18446744073709551615 - Lo a) (z:=-a - 1) (by unfold Hi; omega) (by unfold Lo; omega),M9 (h:=0) (l:=1) (z:=1) (by decide) (by decide)]
 refine Av (cF (-a - 1) 1) ?_
 rw [show -a - 1 + 1 = -a by omega]
 exact z54
theorem minus_ (a b:Int):Aj Tryz.prog 196 [.d (W a),.d (W b)] (.d (W (a - b))):=by
 refine BS Tryz.func196 (by kernel_rfl) ?_
 conv=>whnf
 refine ⟨⟨by decide +kernel,by kernel_rfl⟩,?_⟩
 conv=>whnf
 refine Av (OV b) ?_
 conv=>whnf
 refine Av (cF a (-b)) ?_
 rw [show a + -b = a - b by omega]
 exact z54
theorem times_ (a b:Int):Aj Tryz.prog 198 [.d (W a),.d (W b)] (.d (W (a * b))):=by
 refine BS Tryz.func198 (by kernel_rfl) ?_
 have ha:=QK a
 have hb:=QK b
 conv=>whnf
 refine Av (db (Lo a) (Lo b) (by omega) (by omega) (by omega) (by omega)) ?_
 conv=>whnf
 refine ⟨?_⟩
 have hab:a * b = 18446744073709551616 * (18446744073709551616 * ((a / 18446744073709551616) * (b / 18446744073709551616)) + (a / 18446744073709551616) * Lo b + Lo a * (b / 18446744073709551616)) + Lo a * Lo b:=by
  have h1:a = 18446744073709551616 * (a / 18446744073709551616) + Lo a:=by unfold Lo; omega
  have h2:b = 18446744073709551616 * (b / 18446744073709551616) + Lo b:=by unfold Lo; omega
  have:∀ A x B y:Int,(18446744073709551616 * A + x) * (18446744073709551616 * B + y) = 18446744073709551616 * (18446744073709551616 * (A * B) + A * y + x * B) + x * y:=by intro A x B y; grind
  have h3:=this (a / 18446744073709551616) (Lo a) (b / 18446744073709551616) (Lo b)
  rw [← h1,← h2] at h3
  exact h3
 refine congrArg AV.d (M9 ?_ ?_)
 ·rw [Jn,Jn,Jn,Jn]
  have e1:Hi a * Lo b % 18446744073709551616 = (a / 18446744073709551616) * Lo b % 18446744073709551616:=by unfold Hi; rw [Int.mul_emod,Int.emod_emod,← Int.mul_emod]
  have e2:Lo a * Hi b % 18446744073709551616 = Lo a * (b / 18446744073709551616) % 18446744073709551616:=by unfold Hi; rw [Int.mul_emod,Int.emod_emod,← Int.mul_emod]
  rw [e1,e2]
  have e3:Hi (a * b) = (18446744073709551616 * ((a / 18446744073709551616) * (b / 18446744073709551616)) + (a / 18446744073709551616) * Lo b + Lo a * (b / 18446744073709551616) + Lo a * Lo b / 18446744073709551616) % 18446744073709551616:=by
   unfold Hi
   rw [hab]
   congr 1
   omega
  rw [e3]
  generalize (a / 18446744073709551616) * (b / 18446744073709551616) = p
  generalize (a / 18446744073709551616) * Lo b = q
  generalize Lo a * (b / 18446744073709551616) = r
  generalize Lo a * Lo b = t
  omega
 ·unfold Lo
  rw [← Int.mul_emod]
end Go.Proofs.YtjgeigjjfcnojaaGreatDoor.P.F
namespace Go.Proofs.YtjgeigjjfcnojaaGreatDoor.P.F
open Go.Abs Go.Proofs
set_option maxRecDepth 10000
def B127:Int:=170141183460469231731687303715884105728
theorem Vx (z:Int) (h0:-B127≤z) (h1:z < B127):Aj Tryz.prog 241 [.d (W z)] (.d (.int .i64 z.sign)):=by
 unfold B127 at h0 h1
 refine BS Tryz.func241 (by kernel_rfl) ?_
 have e:(Hi z).fdiv (2 ^ min (Int.toNat 63) IntKind.u64.bits) = Hi z / 9223372036854775808:=Sr _ 63
 conv=>whnf
 refine ⟨by omega,?_⟩
 rw [e]
 conv=>whnf
 refine br (fun h=>?_) (fun h=>?_)
 ·have h:Hi z / 9223372036854775808 = 1:=by simpa using h
  have hz:z < 0:=by unfold Hi at h; omega
  conv=>whnf
  exact ⟨by rw [Int.sign_eq_neg_one_of_neg hz]; rfl⟩
 have h:Hi z / 9223372036854775808≠1:=by simpa using h
 have hz:0≤z:=by unfold Hi at h; omega
 conv=>whnf
 refine ⟨⟨by kernel_rfl,by kernel_rfl⟩,?_⟩
 conv=>whnf
 refine ⟨by kernel_rfl,?_⟩
 conv=>whnf
 refine br (fun q=>?_) (fun q=>?_)
 ·have q:Hi z = 0∧Lo z = 0:=by simpa using q
  have:z = 0:=by unfold Hi Lo at q; omega
  subst this
  exact z54
 ·have q:¬ (Hi z = 0∧Lo z = 0):=by simpa using q
  have:0 < z:=by
   rcases Int.lt_or_eq_of_le hz with h | h
   ·exact h
   ·subst h; exact absurd ⟨rfl,rfl⟩ q
  conv=>whnf
  exact ⟨by rw [Int.sign_eq_one_of_pos this]; rfl⟩
theorem Zb (z:Int) (h0:-B127≤z) (h1:z < B127):Aj Tryz.prog 244 [.d (W z)] (.d (W (z.natAbs:Int))):=by
 refine BS Tryz.func244 (by kernel_rfl) ?_
 conv=>whnf
 refine Av (Vx z h0 h1) ?_
 rcases Int.lt_trichotomy z 0 with h | h | h
 ·rw [Int.sign_eq_neg_one_of_neg h,show ((z.natAbs:Nat):Int) = -z by omega]
  conv=>whnf
  refine Av (OV z) ?_
  exact z54
 ·subst h
  exact z54
 ·rw [Int.sign_eq_one_of_pos h,show ((z.natAbs:Nat):Int) = z by omega]
  exact z54
theorem YL (x n:Nat) (hx:(x:Int) < B127) (hn:J5 x n):Aj Tryz.prog 286 [.d (W x)] (.d (.int .i64 n)):=by
 unfold B127 at hx
 refine BS Tryz.func286 (by kernel_rfl) ?_
 conv=>whnf
 have hH:Hi x = ((x / 18446744073709551616:Nat):Int):=by unfold Hi; omega
 have hL:Lo x = ((x % 18446744073709551616:Nat):Int):=by unfold Lo; omega
 refine br (fun h=>?_) (fun h=>?_)
 ·have h:Hi x > 0:=of_decide_eq_true h
  rw [hH] at h
  obtain ⟨m,hm⟩:∃ m,J5 (x / 18446744073709551616) m:=⟨(x / 18446744073709551616).log2 + 1,Nat.lt_log2_self,.inr (Nat.log2_self_le (by omega))⟩
  have e:=hn.unique (hm.shift (s:=64) (by omega))
  have hm64:m≤64:=by
   rcases hm.2 with q | q
   ·omega
   ·rcases Nat.lt_or_ge 64 m with k | k
    ·have:=Nat.pow_le_pow_right (n:=2) (by omega) (show 64≤m - 1 by omega)
     omega
    ·exact k
  conv=>whnf
  rw [hH]
  refine Av (aU _ m (by omega) hm) ?_
  conv=>whnf
  refine ⟨?_⟩
  rw [wrap_small (by omega) (by omega),e]; rfl
 ·have h:¬ Hi x > 0:=of_decide_eq_false h
  rw [hH] at h
  conv=>whnf
  rw [hL]
  refine Av (aU _ n (by omega) (by rw [Nat.mod_eq_of_lt (by omega)]; exact hn)) ?_
  exact z54
theorem TU:∀ (x:Nat),0 < x→∃ k m,x = 2 ^ k * (2 * m + 1):=by
 intro x
 induction x using Nat.strongRecOn with
 | _ x ih =>
   intro hx
   by_cases h:x % 2 = 1
   ·exact ⟨0,x / 2,by rw [Nat.pow_zero]; omega⟩
   ·obtain ⟨k,m,e⟩:=ih (x / 2) (by omega) (by omega)
    refine ⟨k + 1,m,?_⟩
    have:x = 2 * (x / 2):=by omega
    rw [this,e,Nat.pow_succ,Nat.mul_comm (2 ^ k) 2,Nat.mul_assoc]
theorem Wz (k m:Nat) (hx:((2 ^ k * (2 * m + 1):Nat):Int) < B127):Aj Tryz.prog 283 [.d (W ((2 ^ k * (2 * m + 1):Nat):Int))] (.d (.int .i64 k)):=by
 unfold B127 at hx
 refine BS Tryz.func283 (by kernel_rfl) ?_
 have hk127:k < 127:=by
  rcases Nat.lt_or_ge k 127 with hk | hk
  ·exact hk
  ·exact z55
 have hH:Hi ((2 ^ k * (2 * m + 1):Nat):Int) = ((2 ^ k * (2 * m + 1) / 18446744073709551616:Nat):Int):=by unfold Hi; omega
 have hL:Lo ((2 ^ k * (2 * m + 1):Nat):Int) = ((2 ^ k * (2 * m + 1) % 18446744073709551616:Nat):Int):=by unfold Lo; omega
 by_cases hk:64≤k
 ·obtain ⟨j,rfl⟩:∃ j,k = 64 + j:=⟨k - 64,by omega⟩
  have e:2 ^ (64 + j) * (2 * m + 1) = 18446744073709551616 * (2 ^ j * (2 * m + 1)):=by rw [Nat.pow_add,Nat.mul_assoc]
  have hlo:Lo ((2 ^ (64 + j) * (2 * m + 1):Nat):Int) = 0:=by rw [hL,e,Nat.mul_mod_right]; rfl
  have hhi:Hi ((2 ^ (64 + j) * (2 * m + 1):Nat):Int) = ((2 ^ j * (2 * m + 1):Nat):Int):=by rw [hH,e,Nat.mul_div_cancel_left _ (by omega)]
  have hlt:2 ^ j * (2 * m + 1) < 18446744073709551616:=by rw [e] at hx; omega
  generalize ((2 ^ (64 + j) * (2 * m + 1):Nat):Int) = z at hlo hhi
  conv=>whnf
  rw [hlo]
  conv=>whnf
  rw [hhi]
  refine Av (eP j m hlt) ?_
  conv=>whnf
  refine ⟨?_⟩
  rw [wrap_small (by omega) (by omega)]; rfl
 ·have h64:2 ^ 64 = 2 ^ k * 2 ^ (64 - k):=by rw [← Nat.pow_add]; congr 1; omega
  obtain ⟨j,hj⟩:∃ j,64 - k = j + 1:=⟨63 - k,by omega⟩
  have e:2 ^ k * (2 * m + 1) % 18446744073709551616 = 2 ^ k * (2 * (m % 2 ^ j) + 1):=by
   rw [show (18446744073709551616:Nat) = 2 ^ k * 2 ^ (64 - k) from h64,Nat.mul_mod_mul_left,hj,Nat.pow_succ]
   congr 1
   have h2:=Nat.two_pow_pos j
   have h1:m = 2 ^ j * (m / 2 ^ j) + m % 2 ^ j:=(Nat.div_add_mod m _).symm
   have h3:=Nat.mod_lt m h2
   generalize m % 2 ^ j = r at h1 h3
   generalize m / 2 ^ j = q at h1
   generalize 2 ^ j = t at *
   have e1:2 * m + 1 = (2 * r + 1) + (t * 2) * q:=by rw [h1]; grind
   rw [e1,Nat.add_mul_mod_self_left,Nat.mod_eq_of_lt (by omega)]
  have hlo:Lo ((2 ^ k * (2 * m + 1):Nat):Int) = ((2 ^ k * (2 * (m % 2 ^ j) + 1):Nat):Int):=by rw [hL,e]
  have hlt:2 ^ k * (2 * (m % 2 ^ j) + 1) < 18446744073709551616:=by rw [← e]; exact Nat.mod_lt _ (by omega)
  have hpos:0 < 2 ^ k * (2 * (m % 2 ^ j) + 1):=Nat.mul_pos (Nat.two_pow_pos k) (by omega)
  generalize ((2 ^ k * (2 * m + 1):Nat):Int) = z at hlo
  conv=>whnf
  rw [hlo]
  refine br (fun h=>?_) (fun h=>?_)
  ·have h:=eq_of_beq h
   omega
  conv=>whnf
  refine Av (eP k (m % 2 ^ j) hlt) ?_
  exact z54
end Go.Proofs.YtjgeigjjfcnojaaGreatDoor.P.F
namespace Go.Proofs.YtjgeigjjfcnojaaGreatDoor.P.F
open Go.Abs Go.Proofs
set_option maxRecDepth 10000
theorem bw (a:Int) (n:Nat) (hn:n≤64):IntKind.u64.wrap (a * 2 ^ (min ((n:Int)).toNat IntKind.u64.bits)) = a * ((2 ^ n:Nat):Int) % 18446744073709551616:=by
 rw [Jn,Int.toNat_natCast,show IntKind.u64.bits = 64 from rfl,Nat.min_eq_left hn]
 congr 2
theorem Yw (a:Int) (n:Nat) (hn:n≤64):a.fdiv (2 ^ (min ((n:Int)).toNat IntKind.u64.bits)) = a / ((2 ^ n:Nat):Int):=by
 rw [Int.toNat_natCast,show IntKind.u64.bits = 64 from rfl,Nat.min_eq_left hn,Sr]
 congr 1
theorem be (i x y:Nat) (hy:y < 2 ^ i):(2 ^ i * x) ||| y = 2 ^ i * x + y:=(Nat.two_pow_add_eq_or_of_lt hy x).symm
theorem RA {n:Nat} (hn:n≤64):18446744073709551616 = 2 ^ n * 2 ^ (64 - n):=by
 rw [← Nat.pow_add,show n + (64 - n) = 64 by omega]
theorem dH (A u v M:Nat) (hM:M = u * v):(A % M) * u % M = u * (A % v):=by
 rw [Nat.mul_mod,Nat.mod_mod,← Nat.mul_mod,Nat.mul_comm A u,hM,Nat.mul_mod_mul_left]
theorem e8 (x u v M:Nat) (hM:M = u * v) (hu:0 < u) (h0:0 < M):x * u / M = u * (x / M) + x % M / v:=by
 have h:=Nat.div_add_mod x M
 generalize x / M = q at *
 generalize x % M = r at *
 subst h
 rw [Nat.add_mul,Nat.mul_assoc,Nat.mul_add_div h0,Nat.mul_comm q u,Nat.mul_comm r u,hM,Nat.mul_div_mul_left _ _ hu]
theorem dI (q l u v M:Nat) (hM:M = u * v) (hl:l < u) (hv:0 < v):(u * q + l) % M = u * (q % v) + l:=by
 have h:=Nat.div_add_mod q v
 have h2:=Nat.mod_lt q hv
 generalize q / v = a at *
 generalize q % v = r at *
 subst h
 rw [show u * (v * a + r) + l = (u * r + l) + M * a from by rw [hM]; grind,Nat.add_mul_mod_self_left,Nat.mod_eq_of_lt]
 have:u * (r + 1)≤u * v:=Nat.mul_le_mul_left _ h2
 rw [Nat.mul_add,Nat.mul_one] at this
 omega
theorem dJ (x u v M:Nat) (hM:M = u * v) (hu:0 < u):x / u = v * (x / M) + x % M / u:=by
 have h:=Nat.div_add_mod x M
 generalize x / M = q at *
 generalize x % M = r at *
 subst h
 rw [hM,Nat.mul_assoc,Nat.mul_add_div hu]
theorem YK (x n:Nat) (hn:n≤64):(((x / 18446744073709551616 % 18446744073709551616) * 2 ^ n % 18446744073709551616) ||| (x % 18446744073709551616 / 2 ^ (64 - n))) = x * 2 ^ n / 18446744073709551616 % 18446744073709551616:=by
 have hp:=RA hn
 have h1:=Nat.two_pow_pos n
 have h2:=Nat.two_pow_pos (64 - n)
 have hl:x % 18446744073709551616 / 2 ^ (64 - n) < 2 ^ n:=by
  rw [Nat.div_lt_iff_lt_mul h2]
  have:=Nat.mod_lt x (show 18446744073709551616 > 0 by omega)
  rw [← hp]; exact this
 rw [dH _ _ _ _ hp,be n _ _ hl,e8 x _ _ _ hp h1 (by omega),dI _ _ _ _ _ hp hl h2]
theorem bl (x n:Nat) (hn:n≤64):((x % 18446744073709551616 / 2 ^ n) ||| ((x / 18446744073709551616 % 18446744073709551616) * 2 ^ (64 - n) % 18446744073709551616)) = x / 2 ^ n % 18446744073709551616:=by
 have hp:=RA hn
 have hp':18446744073709551616 = 2 ^ (64 - n) * 2 ^ n:=by rw [Nat.mul_comm]; exact hp
 have h1:=Nat.two_pow_pos n
 have h2:=Nat.two_pow_pos (64 - n)
 have hl:x % 18446744073709551616 / 2 ^ n < 2 ^ (64 - n):=by
  rw [Nat.div_lt_iff_lt_mul h1,← hp']
  exact Nat.mod_lt x (by omega)
 rw [dH _ _ _ _ hp',Nat.or_comm,be _ _ _ hl,dJ x _ _ _ hp h1,dI _ _ _ _ _ hp' hl h1]
theorem VE (a b:Nat):(((a:Nat):Int) * ((b:Nat):Int) % 18446744073709551616 % 18446744073709551616).toNat = a * b % 18446744073709551616:=by rw [← Int.natCast_mul]; omega
theorem VD (a b:Nat) (h:a < 18446744073709551616):(((a:Nat):Int) / ((b:Nat):Int) % 18446744073709551616).toNat = a / b:=by
 rw [← Int.natCast_ediv]
 have:=Nat.div_le_self a b
 generalize a / b = q at *
 omega
theorem ab (x:Nat):Hi (x:Int) = ((x / 18446744073709551616 % 18446744073709551616:Nat):Int):=by unfold Hi; omega
theorem W0 (x:Nat):Lo (x:Int) = ((x % 18446744073709551616:Nat):Int):=by unfold Lo; omega
theorem c9 (x n:Nat) (hn:n < 128):Aj Tryz.prog 285 [.d (W x),.d (.int .i64 n)] (.d (W ((x * 2 ^ n:Nat):Int))):=by
 refine BS Tryz.func285 (by kernel_rfl) ?_
 conv=>whnf
 refine br (fun h=>?_) (fun h=>?_)
 ·have h:=of_decide_eq_true h
  obtain ⟨j,rfl⟩:∃ j,n = 64 + j:=⟨n - 64,by omega⟩
  have e:IntKind.i64.wrap (((64 + j:Nat):Int) - 64) = (j:Int):=by rw [wrap_small (by omega) (by omega)]; omega
  conv=>whnf
  rw [e]
  refine ⟨by omega,?_⟩
  rw [bw _ j (by omega)]
  conv=>whnf
  refine ⟨?_⟩
  refine congrArg AV.d (M9 ?_ ?_)
  ·rw [ab,W0,Nat.pow_add,show x * (2 ^ 64 * 2 ^ j) = 18446744073709551616 * (x * 2 ^ j) from by rw [Nat.mul_left_comm],Nat.mul_div_cancel_left _ (by omega)]
   rw [← Int.natCast_mul]
   have:x % 18446744073709551616 * 2 ^ j % 18446744073709551616 = x * 2 ^ j % 18446744073709551616:=by rw [Nat.mul_mod,Nat.mod_mod,← Nat.mul_mod]
   rw [← this]; rfl
  ·rw [W0,Nat.pow_add,show x * (2 ^ 64 * 2 ^ j) = 18446744073709551616 * (x * 2 ^ j) from by rw [Nat.mul_left_comm],Nat.mul_mod_right]; rfl
 ·have h:=of_decide_eq_false h
  have hn64:n≤64:=by omega
  have e:IntKind.i64.wrap (64 - (n:Int)) = ((64 - n:Nat):Int):=by rw [wrap_small (by omega) (by omega)]; omega
  conv=>whnf
  refine ⟨⟨by decide +kernel,by kernel_rfl⟩,?_⟩
  conv=>whnf
  refine ⟨by omega,?_⟩
  conv=>whnf
  rw [e]
  refine ⟨by omega,?_⟩
  conv=>whnf
  refine ⟨by omega,?_⟩
  rw [bw _ n hn64,bw _ n hn64,Yw _ (64 - n) (by omega)]
  conv=>whnf
  refine ⟨?_⟩
  refine congrArg AV.d (M9 ?_ ?_)
  ·rw [er,ab x,W0 x,ab (x * 2 ^ n),← YK x n hn64,VE,VD _ _ (Nat.mod_lt _ (by omega))]
  ·rw [W0,W0,← Int.natCast_mul]
   have:x % 18446744073709551616 * 2 ^ n % 18446744073709551616 = x * 2 ^ n % 18446744073709551616:=by rw [Nat.mul_mod,Nat.mod_mod,← Nat.mul_mod]
   rw [← this]; rfl
theorem bk (x n:Nat) (hx:x < 340282366920938463463374607431768211456) (hn:n < 128):Aj Tryz.prog 284 [.d (W x),.d (.int .i64 n)] (.d (W ((x / 2 ^ n:Nat):Int))):=by
 refine BS Tryz.func284 (by kernel_rfl) ?_
 conv=>whnf
 refine br (fun h=>?_) (fun h=>?_)
 ·have h:=of_decide_eq_true h
  obtain ⟨j,rfl⟩:∃ j,n = 64 + j:=⟨n - 64,by omega⟩
  have e:IntKind.i64.wrap (((64 + j:Nat):Int) - 64) = (j:Int):=by rw [wrap_small (by omega) (by omega)]; omega
  conv=>whnf
  rw [e]
  refine ⟨by omega,?_⟩
  rw [Yw _ j (by omega)]
  conv=>whnf
  refine ⟨?_⟩
  have hq:x / 2 ^ (64 + j) = x / 18446744073709551616 / 2 ^ j:=by rw [Nat.pow_add,← Nat.div_div_eq_div_mul]
  have hle:=Nat.div_le_self (x / 18446744073709551616) (2 ^ j)
  refine congrArg AV.d (M9 ?_ ?_)
  ·rw [ab,hq]
   generalize x / 18446744073709551616 / 2 ^ j = q at *
   omega
  ·rw [ab,W0,hq,Nat.mod_eq_of_lt (show x / 18446744073709551616 < 18446744073709551616 by omega),← Int.natCast_ediv]
   generalize x / 18446744073709551616 / 2 ^ j = q at *
   omega
 ·have h:=of_decide_eq_false h
  have hn64:n≤64:=by omega
  have e:IntKind.i64.wrap (64 - (n:Int)) = ((64 - n:Nat):Int):=by rw [wrap_small (by omega) (by omega)]; omega
  conv=>whnf
  refine ⟨⟨by decide +kernel,by kernel_rfl⟩,?_⟩
  conv=>whnf
  refine ⟨by omega,?_⟩
  conv=>whnf
  refine ⟨by omega,?_⟩
  conv=>whnf
  rw [e]
  refine ⟨by omega,?_⟩
  rw [Yw _ n hn64,Yw _ n hn64,bw _ (64 - n) (by omega)]
  conv=>whnf
  refine ⟨?_⟩
  refine congrArg AV.d (M9 ?_ ?_)
  ·rw [ab,ab,Nat.mod_eq_of_lt (show x / 18446744073709551616 < 18446744073709551616 by omega),← Int.natCast_ediv,Nat.div_div_eq_div_mul x (2 ^ n),Nat.mul_comm (2 ^ n),← Nat.div_div_eq_div_mul]
   have:=Nat.div_le_self (x / 18446744073709551616) (2 ^ n)
   generalize x / 18446744073709551616 / 2 ^ n = q at *
   omega
  ·rw [er,ab x,W0 x,W0 (x / 2 ^ n),← bl x n hn64,VE,VD _ _ (Nat.mod_lt _ (by omega))]
end Go.Proofs.YtjgeigjjfcnojaaGreatDoor.P.F
namespace Go.Proofs.YtjgeigjjfcnojaaGreatDoor.P.F
open Go.Abs Go.Proofs
set_option maxRecDepth 10000
theorem Ti (A j B:Nat) (hA:A % 2 = 1):Nat.gcd A (2 ^ j * B) = Nat.gcd A B:=by
 have h2:Nat.Coprime 2 A:=by
  unfold Nat.Coprime
  have h1:=Nat.gcd_dvd_left 2 A
  have h3:=Nat.gcd_dvd_right 2 A
  have hle:=Nat.le_of_dvd (by omega) h1
  have hpos:=Nat.gcd_pos_of_pos_left A (show 0 < 2 by omega)
  rcases (show Nat.gcd 2 A = 1∨Nat.gcd 2 A = 2 by omega) with h | h
  ·exact h
  ·rw [h] at h3; omega
 exact Nat.Coprime.gcd_mul_left_cancel_right B (Nat.Coprime.pow_left j h2)
theorem bL (i j A B:Nat) (hA:A % 2 = 1) (hB:B % 2 = 1):Nat.gcd (2 ^ i * A) (2 ^ j * B) = Nat.gcd A B * 2 ^ min i j:=by
 rcases Nat.le_total i j with h | h
 ·obtain ⟨e,rfl⟩:=Nat.le.dest h
  rw [Nat.pow_add,Nat.mul_assoc,Nat.gcd_mul_left,Ti A e B hA,Nat.min_eq_left h,Nat.mul_comm]
 ·obtain ⟨e,rfl⟩:=Nat.le.dest h
  rw [Nat.pow_add,Nat.mul_assoc,Nat.gcd_mul_left,Nat.gcd_comm,Ti B e A hB,Nat.gcd_comm,Nat.min_eq_right h,Nat.mul_comm]
theorem Ts (x:Nat) (hx:(x:Int) < B127):(Hi x = 0∧Lo x = 0)↔x = 0:=by
 unfold B127 at hx
 unfold Hi Lo
 omega
theorem R9 {k m:Nat} (hx:((2 ^ k * (2 * m + 1):Nat):Int) < B127):k < 127:=by
 unfold B127 at hx
 rcases Nat.lt_or_ge k 127 with hk | hk
 ·exact hk
 ·exact z55
theorem YO (k m:Nat):2 ^ k * (2 * m + 1) / 2 ^ k = 2 * m + 1:=Nat.mul_div_cancel_left _ (Nat.two_pow_pos k)
set_option maxHeartbeats 1000000 in
theorem YB (a b:Nat) (ha:0 < a) (ha2:(a:Int) < B127) (hb2:(b:Int) < B127):Aj Tryz.prog 243 [.d (W a),.d (W b)] (.d (W ((Nat.gcd a b:Nat):Int))):=by
 refine BS Tryz.func243 (by kernel_rfl) ?_
 conv=>whnf
 refine ⟨⟨by kernel_rfl,by kernel_rfl⟩,?_⟩
 conv=>whnf
 refine ⟨by kernel_rfl,?_⟩
 conv=>whnf
 refine br (fun q=>?_) (fun q=>?_)
 ·have q:Hi b = 0∧Lo b = 0:=by simpa using q
  obtain rfl:=(Ts b hb2).1 q
  rw [Nat.gcd_zero_right]
  exact z54
 have q:¬ (Hi b = 0∧Lo b = 0):=by simpa using q
 have hb:0 < b:=Nat.pos_of_ne_zero fun e=>q ((Ts b hb2).2 e)
 clear q
 obtain ⟨i,A,rfl⟩:=TU a ha
 obtain ⟨j,B,rfl⟩:=TU b hb
 have hi:=R9 ha2
 have hj:=R9 hb2
 conv=>whnf
 refine ⟨⟨by decide +kernel,by kernel_rfl⟩,?_⟩
 conv=>whnf
 refine Av (Wz i A ha2) ?_
 conv=>whnf
 refine Av (Wz j B hb2) ?_
 conv=>whnf
 refine ⟨⟨by decide +kernel,by kernel_rfl⟩,?_⟩
 conv=>whnf
 refine Av (Wz i A ha2) ?_
 conv=>whnf
 refine Av (bk _ i (by unfold B127 at ha2; omega) (by omega)) ?_
 rw [YO]
 have hA2:((2 * A + 1:Nat):Int) < B127:=by
  have:2 * A + 1≤2 ^ i * (2 * A + 1):=Nat.le_mul_of_pos_left _ (Nat.two_pow_pos i)
  omega
 have hg0:Nat.gcd (2 * A + 1) (2 ^ j * (2 * B + 1)) * 2 ^ min i j = Nat.gcd (2 ^ i * (2 * A + 1)) (2 ^ j * (2 * B + 1)):=by
  rw [bL i j _ _ (by omega) (by omega),Ti _ _ _ (by omega)]
 generalize Nat.gcd (2 ^ i * (2 * A + 1)) (2 ^ j * (2 * B + 1)) = res at hg0
 generalize hy0:2 ^ j * (2 * B + 1) = y0 at *
 have htw:(if (j:Int) < i then (j:Int) else i) = ((min i j:Nat):Int):=by split <;> omega
 conv=>whnf
 refine loop {s:Nat × Nat // (s.1 % 2 = 1∧(s.1:Int) < B127)∧(s.2:Int) < B127∧Nat.gcd s.1 s.2 * 2 ^ min i j = res} (fun s=>BB 39 [(2,.ptr 2 1 0),(3,.ptr 3 1 0),(4,.ptr 4 1 0),(5,.d (.int .i64 ((min i j:Nat):Int)))]
  [(2,.var [.d (.int .u64 (Hi s.1.1)),.d (.int .u64 (Lo s.1.1))],1),(3,.var [.d (.int .u64 (Hi s.1.2)),.d (.int .u64 (Lo s.1.2))],1),(4,.var [.d (.int .u64 0),.d (.int .u64 0)],1)])
  (fun s=>s.1.1 + s.1.2) ⟨(2 * A + 1,y0),⟨by simp only; omega,hA2⟩,hb2,hg0⟩ ?_ fun s=>?_
 ·refine QM ?_
  conv=>whnf
  rw [htw]
  repeat (first | exact trivial | refine And.intro (by first | with_reducible rfl | exact .inl rfl | (rw [next (by first | omega | (simp only; omega))]) | rfl) ?_)
 obtain ⟨⟨x,y⟩,⟨hxo,hx⟩,hy,hg⟩:=s
 simp only at hxo hx hy hg
 have hB:B127 = 170141183460469231731687303715884105728:=rfl
 conv=>whnf
 refine ⟨⟨by kernel_rfl,by kernel_rfl⟩,?_⟩
 conv=>whnf
 refine ⟨by kernel_rfl,?_⟩
 conv=>whnf
 refine br (fun q=>?_) (fun q=>?_)
 ·have q:¬ (Hi y = 0∧Lo y = 0):=by
   rintro ⟨h1,h2⟩
   simp [h1,h2] at q
  have hy0:0 < y:=Nat.pos_of_ne_zero fun e=>q ((Ts y hy).2 e)
  clear q
  obtain ⟨k,m,rfl⟩:=TU y hy0
  have hk:=R9 hy
  have hle:2 * m + 1≤2 ^ k * (2 * m + 1):=Nat.le_mul_of_pos_left _ (Nat.two_pow_pos k)
  rw [Ti _ _ _ hxo] at hg
  conv=>whnf
  refine ⟨⟨by decide +kernel,by kernel_rfl⟩,?_⟩
  conv=>whnf
  refine Av (Wz k m hy) ?_
  conv=>whnf
  refine Av (bk (2 ^ k * (2 * m + 1)) k (by omega) (by omega)) ?_
  rw [YO]
  generalize 2 ^ k * (2 * m + 1) = y at *
  generalize hz:2 * m + 1 = z at *
  have hz1:0 < z:=by omega
  have hzo:z % 2 = 1:=by omega
  conv=>whnf
  refine Av (minus_ z x) ?_
  conv=>whnf
  refine Av (Vx ((z:Int) - x) (by omega) (by omega)) ?_
  by_cases hs:(z:Int) - x < 0
  ·rw [Int.sign_eq_neg_one_of_neg hs]
   conv=>whnf
   refine Av (minus_ x z) ?_
   rw [show ((x:Int) - z) = ((x - z:Nat):Int) by omega]
   conv=>whnf
   refine ⟨⟨(z,x - z),⟨hzo,by omega⟩,by simp only; omega,?_⟩,?_,by simp only; omega⟩
   ·show Nat.gcd z (x - z) * 2 ^ min i j = res
    rw [Nat.gcd_comm,Nat.gcd_sub_self_left (by omega)]
    exact hg
   ·refine QM ?_
    conv=>whnf
    repeat (first | exact trivial | refine And.intro (by first | with_reducible rfl | exact .inl rfl | (rw [next (by first | omega | (simp only; omega))]) | rfl) ?_)
  ·have hge:¬ (((z:Int) - x).sign < 0):=by
    intro h
    have:=Int.sign_neg_iff.1 h
    omega
   generalize Int.sign ((z:Int) - x) = sg at hge
   conv=>whnf
   refine br (fun h=>?_) (fun _=>?_)
   ·exact absurd (of_decide_eq_true h) hge
   conv=>whnf
   refine Av (minus_ z x) ?_
   rw [show ((z:Int) - x) = ((z - x:Nat):Int) by omega]
   conv=>whnf
   refine ⟨⟨(x,z - x),⟨hxo,hx⟩,by simp only; omega,?_⟩,?_,by simp only; omega⟩
   ·show Nat.gcd x (z - x) * 2 ^ min i j = res
    rw [Nat.gcd_sub_self_right (by omega)]
    exact hg
   ·refine QM ?_
    conv=>whnf
    repeat (first | exact trivial | refine And.intro (by first | with_reducible rfl | exact .inl rfl | (rw [next (by first | omega | (simp only; omega))]) | rfl) ?_)
 ·have q:Hi y = 0∧Lo y = 0:=by simpa using q
  obtain rfl:=(Ts y hy).1 q
  rw [Nat.gcd_zero_right] at hg
  conv=>whnf
  refine Av (c9 x (min i j) (by omega)) ?_
  rw [hg]
  exact z54
end Go.Proofs.YtjgeigjjfcnojaaGreatDoor.P.F
namespace Go.Proofs.YtjgeigjjfcnojaaGreatDoor.P.F
open Go.Abs Go.Proofs
set_option maxRecDepth 10000
def eJ:Int:=1152921504606846976
theorem J5.le {x n m:Nat} (h:J5 x n) (hx:x < 2 ^ m):n≤m:=by
 rcases h.2 with h0 | h0
 ·omega
 ·rcases Nat.lt_or_ge m n with k | k
  ·have:=Nat.pow_le_pow_right (n:=2) (by omega) (show m≤n - 1 by omega)
   omega
  ·exact k
theorem WY (x:Nat):∃ n,J5 x n:=by
 by_cases h:x = 0
 ·subst h; exact ⟨0,by decide,.inl rfl⟩
 ·exact ⟨x.log2 + 1,Nat.lt_log2_self,.inr (Nat.log2_self_le h)⟩
def eS (a b:Nat) (v:Int):Prop:=((a / b:Nat):Int)≤eJ→v = ((a / b:Nat):Int)
set_option maxHeartbeats 1000000 in
theorem YR (a b:Nat) (hb0:0 < b) (ha2:(a:Int) < B127) (hb2:(b:Int) < B127) :
 ∃ v,eS a b v∧Aj Tryz.prog 245 [.d (W a),.d (W b)] (.tup [.d (.int .i64 v),.d (.bool (decide (((a / b:Nat):Int)≤1152921504606846976)))]):=by
 obtain ⟨la,hla⟩:=WY a
 obtain ⟨lb,hlb⟩:=WY b
 have hB:B127 = 170141183460469231731687303715884105728:=rfl
 have hla7:la≤127:=hla.le (by omega)
 have hlb7:lb≤127:=hlb.le (by omega)
 have hlb1:1≤lb:=by
  have:=hlb.1
  rcases Nat.eq_zero_or_pos lb with h | h
  ·subst h; rw [Nat.pow_zero] at this; omega
  ·exact h
 have hlb2:2 ^ (lb - 1)≤b:=hlb.2.resolve_left (by omega)
 refine ⟨if (la:Int) - lb > 61 then 0 else ((a / b:Nat):Int),?_,?_⟩
 ·intro h
  split
  ·rename_i hn
   exfalso
   have h1:2 ^ (la - 1)≤a:=hla.2.resolve_left (by omega)
   have h2:2 ^ (61 + lb)≤2 ^ (la - 1):=Nat.pow_le_pow_right (by omega) (by omega)
   rw [Nat.pow_add] at h2
   have h3:=hlb.1
   have h4:2 ^ 61 * b≤2 ^ 61 * 2 ^ lb:=Nat.mul_le_mul_left _ (by omega)
   have h5:2 ^ 61≤a / b:=(Nat.le_div_iff_mul_le hb0).2 (by omega)
   unfold eJ at h
   omega
  ·rfl
 refine BS Tryz.func245 (by kernel_rfl) ?_
 conv=>whnf
 refine ⟨⟨by decide +kernel,by kernel_rfl⟩,?_⟩
 conv=>whnf
 refine Av (YL a la ha2 hla) ?_
 conv=>whnf
 refine Av (YL b lb hb2 hlb) ?_
 have e:IntKind.i64.wrap ((la:Int) - lb) = (la:Int) - lb:=wrap_small (by omega) (by omega)
 conv=>whnf
 rw [e]
 refine br (fun h=>?_) (fun h=>?_)
 ·have hn:=of_decide_eq_true h
  have:decide (((a / b:Nat):Int)≤1152921504606846976) = false:=by
   apply decide_eq_false
   intro h
   have h1:2 ^ (la - 1)≤a:=hla.2.resolve_left (by omega)
   have h2:2 ^ (61 + lb)≤2 ^ (la - 1):=Nat.pow_le_pow_right (by omega) (by omega)
   rw [Nat.pow_add] at h2
   have h3:=hlb.1
   have h4:2 ^ 61 * b≤2 ^ 61 * 2 ^ lb:=Nat.mul_le_mul_left _ (by omega)
   have h5:2 ^ 61≤a / b:=(Nat.le_div_iff_mul_le hb0).2 (by omega)
   omega
  rw [this,if_pos hn]
  exact z54
 have hn:=of_decide_eq_false h
 rw [if_neg hn]
 have hA:a < 2 ^ 62 * b:=by
  have h1:=hla.1
  have h2:2 ^ la≤2 ^ (62 + (lb - 1)):=Nat.pow_le_pow_right (by omega) (by omega)
  rw [Nat.pow_add] at h2
  have h4:2 ^ 62 * 2 ^ (lb - 1)≤2 ^ 62 * b:=Nat.mul_le_mul_left _ hlb2
  omega
 have hInit:a < 2 ^ ((la:Int) - lb + 1).toNat * b:=by
  have h1:=hla.1
  by_cases q:lb≤la + 1
  ·have h2:2 ^ la = 2 ^ ((la:Int) - lb + 1).toNat * 2 ^ (lb - 1):=by rw [← Nat.pow_add]; congr 1; omega
   have h4:2 ^ ((la:Int) - lb + 1).toNat * 2 ^ (lb - 1)≤2 ^ ((la:Int) - lb + 1).toNat * b:=Nat.mul_le_mul_left _ hlb2
   omega
  ·rw [show ((la:Int) - lb + 1).toNat = 0 by omega,Nat.pow_zero,Nat.one_mul]
   have:=Nat.pow_le_pow_right (n:=2) (by omega) (show la≤lb - 1 by omega)
   omega
 conv=>whnf
 refine loop {s:Int × Nat × Nat // (s.1≤(la:Int) - lb∧-200≤s.1)∧s.2.1 * (2 ^ (s.1 + 1).toNat * b) + s.2.2 = a∧s.2.2 < 2 ^ (s.1 + 1).toNat * b} (fun s=>BB 38 [(2,.ptr 2 1 0),(3,.ptr 3 1 0),(7,.d (.int .i64 s.1.2.1)),(8,.d (.int .i64 s.1.1))]
  [(2,.var [.d (.int .u64 (Hi s.1.2.2)),.d (.int .u64 (Lo s.1.2.2))],1),(3,.var [.d (.int .u64 (Hi b)),.d (.int .u64 (Lo b))],1)]) (fun s=>(s.1.1 + 1).toNat) ⟨((la:Int) - lb,0,a),⟨by simp only; omega,by simp only; omega⟩,by simp,hInit⟩ ?_ fun s=>?_
 ·refine QM ?_
  conv=>whnf
  repeat (first | exact trivial | refine And.intro (by first | with_reducible rfl | exact .inl rfl | (rw [next (by first | omega | (simp only; omega))]) | rfl) ?_)
 obtain ⟨⟨k,q,r⟩,⟨hk1,hk0⟩,hqr,hr⟩:=s
 simp only at hk1 hk0 hqr hr
 have hq62:q * 2 ^ (k + 1).toNat < 2 ^ 62:=by
  have:q * 2 ^ (k + 1).toNat * b < 2 ^ 62 * b:=by rw [Nat.mul_assoc]; omega
  exact Nat.lt_of_mul_lt_mul_right this
 have hp:=Nat.two_pow_pos (k + 1).toNat
 conv=>whnf
 refine br (fun h=>?_) (fun h=>?_)
 ·have hk:k ≥ 0:=of_decide_eq_true h
  obtain ⟨j,hj⟩:∃ j:Nat,k = j:=⟨k.toNat,by omega⟩
  subst hj
  have hpw:2 ^ ((j:Int) + 1).toNat = 2 * 2 ^ j:=by rw [show ((j:Int) + 1).toNat = j + 1 by omega,Nat.pow_succ,Nat.mul_comm]
  rw [hpw] at hqr hr hq62 hp
  have hpj:=Nat.two_pow_pos j
  have hq2:2 * q < 2 ^ 62:=by
   have:2 * q≤q * (2 * 2 ^ j):=by
    rw [← Nat.mul_assoc,Nat.mul_comm q 2]; exact Nat.le_mul_of_pos_right _ hpj
   omega
  have e2:IntKind.i64.wrap ((q:Int) * 2) = ((2 * q:Nat):Int):=by rw [wrap_small (by omega) (by omega)]; omega
  have e3:IntKind.i64.wrap ((j:Int) - 1) = (j:Int) - 1:=wrap_small (by omega) (by omega)
  have hbj:b * 2 ^ j < 2 ^ 127:=by
   have h1:=hlb.1
   have h2:b * 2 ^ j < 2 ^ lb * 2 ^ j:=Nat.mul_lt_mul_of_pos_right h1 hpj
   rw [← Nat.pow_add] at h2
   have:=Nat.pow_le_pow_right (n:=2) (by omega) (show lb + j≤127 by omega)
   omega
  have hra:r≤a:=by omega
  conv=>whnf
  rw [e2]
  refine ⟨⟨by decide +kernel,by kernel_rfl⟩,?_⟩
  conv=>whnf
  refine Av (c9 b j (by omega)) ?_
  conv=>whnf
  refine Av (minus_ r ((b * 2 ^ j:Nat):Int)) ?_
  rw [show 2 * 2 ^ j * b = 2 * (b * 2 ^ j) from by rw [Nat.mul_assoc,Nat.mul_comm (2 ^ j) b]] at hqr hr
  have hpj1:((j:Int) - 1 + 1).toNat = j:=by omega
  generalize hd:b * 2 ^ j = d at *
  conv=>whnf
  refine Av (Vx ((r:Int) - d) (by omega) (by omega)) ?_
  by_cases hs:(r:Int) - d < 0
  ·rw [Int.sign_eq_neg_one_of_neg hs]
   conv=>whnf
   refine ⟨⟨((j:Int) - 1,2 * q,r),⟨by simp only; omega,by simp only; omega⟩,?_,?_⟩,?_,by simp only; omega⟩
   ·simp only [hpj1]
    rw [Nat.mul_comm (2 ^ j) b,hd,Nat.mul_comm 2 q,Nat.mul_assoc]; exact hqr
   ·simp only [hpj1]
    rw [Nat.mul_comm (2 ^ j) b,hd]; omega
   ·refine QM ?_
    conv=>whnf
    rw [e3]
    repeat (first | exact trivial | refine And.intro (by first | with_reducible rfl | exact .inl rfl | (rw [next (by first | omega | (simp only; omega))]) | rfl) ?_)
  ·have hge:¬ (((r:Int) - d).sign < 0):=fun h=>hs (Int.sign_neg_iff.1 h)
   have e4:IntKind.i64.wrap (((2 * q:Nat):Int) + 1) = ((2 * q + 1:Nat):Int):=by rw [wrap_small (by omega) (by omega)]; omega
   rw [show (r:Int) - d = ((r - d:Nat):Int) by omega] at hge ⊢
   generalize Int.sign ((r - d:Nat):Int) = sg at hge
   conv=>whnf
   refine br (fun _=>?_) (fun h=>?_)
   ·conv=>whnf
    rw [e4]
    refine ⟨⟨((j:Int) - 1,2 * q + 1,r - d),⟨by simp only; omega,by simp only; omega⟩,?_,?_⟩,?_,by simp only; omega⟩
    ·simp only [hpj1]
     rw [Nat.mul_comm (2 ^ j) b,hd,Nat.add_mul,Nat.one_mul,Nat.mul_comm 2 q,Nat.mul_assoc]; omega
    ·simp only [hpj1]
     rw [Nat.mul_comm (2 ^ j) b,hd]; omega
    ·refine QM ?_
     conv=>whnf
     rw [e3]
     repeat (first | exact trivial | refine And.intro (by first | with_reducible rfl | exact .inl rfl | (rw [next (by first | omega | (simp only; omega))]) | rfl) ?_)
   ·have:=of_decide_eq_false h
    omega
 ·have hk:¬ k ≥ 0:=of_decide_eq_false h
  have hk1:(k + 1).toNat = 0:=by omega
  rw [hk1,Nat.pow_zero,Nat.one_mul] at hqr hr
  have hdiv:a / b = q:=Nat.div_eq_of_lt_le (by omega) (by rw [Nat.add_mul,Nat.one_mul]; omega)
  rw [hdiv]
  exact z54
end Go.Proofs.YtjgeigjjfcnojaaGreatDoor.P.F
namespace Go.Proofs.YtjgeigjjfcnojaaGreatDoor.P.F
open Go.Abs Go.Proofs
set_option maxRecDepth 10000
def frD (p:Int × Int):D:=.agg [.int .i64 p.1,.int .i64 p.2]
set_option maxHeartbeats 1000000 in
theorem reduced_ (num den:Int) (hd0:den≠0) (h1:-B127 < num∧num < B127) (h2:-B127 < den∧den < B127) :
 Aj Tryz.prog 176 [.d (W num),.d (W den)] (.tup [.d (frD (redF (nn num den) den.natAbs)),.d (.int .i64 (redE (nn num den) den.natAbs))]):=by
 have hB:B127 = 170141183460469231731687303715884105728:=rfl
 refine BS Tryz.func176 (by kernel_rfl) ?_
 conv=>whnf
 refine Av (Vx den (by omega) (by omega)) ?_
 by_cases hneg:den < 0
 ·rw [Int.sign_eq_neg_one_of_neg hneg,show nn num den = -num from if_pos hneg]
  conv=>whnf
  refine ⟨⟨by decide +kernel,by kernel_rfl⟩,?_⟩
  conv=>whnf
  refine Av (OV num) ?_
  conv=>whnf
  refine Av (OV den) ?_
  obtain ⟨d,hd⟩:∃ d:Nat,-den = d:=⟨den.natAbs,by omega⟩
  rw [hd,show den.natAbs = d by omega]
  unfold redF redE okR
  conv=>whnf
  refine ⟨⟨by decide +kernel,by kernel_rfl⟩,?_⟩
  conv=>whnf
  refine Av (Zb (-num) (by omega) (by omega)) ?_
  conv=>whnf
  refine Av (YB d ((-num)).natAbs (by omega) (by omega) (by omega)) ?_
  have hg0:0 < Nat.gcd d ((-num)).natAbs:=Nat.gcd_pos_of_pos_left _ (by omega)
  have hgd:Nat.gcd d ((-num)).natAbs≤d:=Nat.gcd_le_left _ (by omega)
  generalize Nat.gcd d ((-num)).natAbs = g at hg0 hgd ⊢
  conv=>whnf
  refine ⟨⟨by decide +kernel,by kernel_rfl⟩,?_⟩
  conv=>whnf
  refine Av (Zb (-num) (by omega) (by omega)) ?_
  conv=>whnf
  obtain ⟨v,hv,hov⟩:=YR ((-num)).natAbs g hg0 (by omega) (by omega)
  refine Av hov ?_
  obtain ⟨v2,hv2,hov2⟩:=YR d g hg0 (by omega) (by omega)
  by_cases c1:(((((-num)).natAbs / g:Nat):Int)≤1152921504606846976)
  ·rw [decide_eq_true c1]
   have hv:=hv c1
   subst hv
   conv=>whnf
   refine Av hov2 ?_
   by_cases c2:(((d / g:Nat):Int)≤1152921504606846976)
   ·rw [decide_eq_true c2]
    have hv2:=hv2 c2
    subst hv2
    conv=>whnf
    refine Av (Vx (-num) (by omega) (by omega)) ?_
    have hn1:0≤((((-num)).natAbs / g:Nat):Int):=Int.natCast_nonneg _
    generalize ((((-num)).natAbs / g:Nat):Int) = n1 at c1 hn1 ⊢
    generalize ((d / g:Nat):Int) = d1 at c2 ⊢
    conv=>whnf
    refine ⟨?_⟩
    have hs:-n1≤n1 * ((-num)).sign∧n1 * ((-num)).sign≤n1:=by
     rcases Int.sign_trichotomy ((-num)) with h | h | h <;> rw [h] <;> omega
    rw [wrap_small (by omega) (by omega)]; rfl
   ·rw [decide_eq_false c2]
    exact z54
  ·rw [decide_eq_false c1]
   conv=>whnf
   refine Av hov2 ?_
   exact z54
 ·have hpos:0 < den:=by omega
  rw [Int.sign_eq_one_of_pos hpos,show nn num den = num from if_neg hneg]
  obtain ⟨d,rfl⟩:∃ d:Nat,den = d:=⟨den.natAbs,by omega⟩
  rw [Int.natAbs_natCast]
  unfold redF redE okR
  conv=>whnf
  refine ⟨⟨by decide +kernel,by kernel_rfl⟩,?_⟩
  conv=>whnf
  refine Av (Zb num (by omega) (by omega)) ?_
  conv=>whnf
  refine Av (YB d (num).natAbs (by omega) (by omega) (by omega)) ?_
  have hg0:0 < Nat.gcd d (num).natAbs:=Nat.gcd_pos_of_pos_left _ (by omega)
  have hgd:Nat.gcd d (num).natAbs≤d:=Nat.gcd_le_left _ (by omega)
  generalize Nat.gcd d (num).natAbs = g at hg0 hgd ⊢
  conv=>whnf
  refine ⟨⟨by decide +kernel,by kernel_rfl⟩,?_⟩
  conv=>whnf
  refine Av (Zb num (by omega) (by omega)) ?_
  conv=>whnf
  obtain ⟨v,hv,hov⟩:=YR (num).natAbs g hg0 (by omega) (by omega)
  refine Av hov ?_
  obtain ⟨v2,hv2,hov2⟩:=YR d g hg0 (by omega) (by omega)
  by_cases c1:((((num).natAbs / g:Nat):Int)≤1152921504606846976)
  ·rw [decide_eq_true c1]
   have hv:=hv c1
   subst hv
   conv=>whnf
   refine Av hov2 ?_
   by_cases c2:(((d / g:Nat):Int)≤1152921504606846976)
   ·rw [decide_eq_true c2]
    have hv2:=hv2 c2
    subst hv2
    conv=>whnf
    refine Av (Vx num (by omega) (by omega)) ?_
    have hn1:0≤(((num).natAbs / g:Nat):Int):=Int.natCast_nonneg _
    generalize (((num).natAbs / g:Nat):Int) = n1 at c1 hn1 ⊢
    generalize ((d / g:Nat):Int) = d1 at c2 ⊢
    conv=>whnf
    refine ⟨?_⟩
    have hs:-n1≤n1 * (num).sign∧n1 * (num).sign≤n1:=by
     rcases Int.sign_trichotomy (num) with h | h | h <;> rw [h] <;> omega
    rw [wrap_small (by omega) (by omega)]; rfl
   ·rw [decide_eq_false c2]
    exact z54
  ·rw [decide_eq_false c1]
   conv=>whnf
   refine Av hov2 ?_
   exact z54
theorem of_ (num den:Int) (hd0:den≠0) (h1:-9223372036854775808≤num∧num≤9223372036854775807) (h2:-9223372036854775808≤den∧den≤9223372036854775807) :
 Aj Tryz.prog 102 [.d (.int .i64 num),.d (.int .i64 den)] (.tup [.d (frD (redF (nn num den) den.natAbs)),.d (.int .i64 (redE (nn num den) den.natAbs))]):=by
 have hB:B127 = 170141183460469231731687303715884105728:=rfl
 refine BS Tryz.func102 (by kernel_rfl) ?_
 conv=>whnf
 refine br (fun h=>?_) (fun h=>?_)
 ·exact absurd (eq_of_beq h) hd0
 conv=>whnf
 refine Av (whole_ num h1.1 h1.2) ?_
 conv=>whnf
 refine Av (whole_ den h2.1 h2.2) ?_
 conv=>whnf
 refine Av (reduced_ num den hd0 (by omega) (by omega)) ?_
 exact z57
theorem e7 (a b:Int) (ha:-4611686018427387904≤a∧a≤4611686018427387904) (hb:-4611686018427387904≤b∧b≤4611686018427387904) :
 Aj Tryz.prog 258 [.d (.int .i64 a),.d (.int .i64 b)] (.d (.int .i64 (Nat.gcd a.natAbs b.natAbs:Nat))):=by
 refine BS Tryz.func258 (by kernel_rfl) ?_
 generalize hg:Nat.gcd a.natAbs b.natAbs = g
 conv=>whnf
 refine loop {s:Int × Int // (-4611686018427387904≤s.1∧s.1≤4611686018427387904)∧(-4611686018427387904≤s.2∧s.2≤4611686018427387904)∧Nat.gcd s.1.natAbs s.2.natAbs = g} (fun s=>BB 15 [(0,.d (.int .i64 s.1.1)),(1,.d (.int .i64 s.1.2))] []) (fun s=>s.1.2.natAbs) ⟨(a,b),ha,hb,hg⟩ ?_ fun s=>?_
 ·refine QM ?_
  conv=>whnf
  repeat (first | exact trivial | refine And.intro (by first | with_reducible rfl | exact .inl rfl | (rw [next (by first | omega | (simp only; omega))]) | rfl) ?_)
 obtain ⟨⟨x,y⟩,hx,hy,hxy⟩:=s
 simp only at hx hy hxy
 conv=>whnf
 refine br (fun h=>?_) (fun h=>?_)
 ·have h:y≠0:=by simpa using h
  have hlt:(x.tmod y).natAbs < y.natAbs:=by rw [Int.natAbs_tmod]; exact Nat.mod_lt _ (by omega)
  conv=>whnf
  refine ⟨⟨by decide +kernel,by kernel_rfl⟩,?_⟩
  conv=>whnf
  refine ⟨h,?_⟩
  conv=>whnf
  refine ⟨⟨(y,x.tmod y),hy,by simp only; omega,?_⟩,?_,hlt⟩
  ·show Nat.gcd y.natAbs (x.tmod y).natAbs = g
   rw [Int.natAbs_tmod,← hxy,Nat.gcd_comm y.natAbs,← Nat.gcd_rec,Nat.gcd_comm]
  ·refine QM ?_
   conv=>whnf
   repeat (first | exact trivial | refine And.intro (by first | with_reducible rfl | exact .inl rfl | (rw [next (by first | omega | (simp only; omega))]) | rfl) ?_)
 ·have h:y = 0:=by simpa using h
  subst h
  simp only [Int.natAbs_zero,Nat.gcd_zero_right] at hxy
  conv=>whnf
  refine ⟨?_⟩
  simp only [an]
  rw [wrap_small (by omega) (by omega)]
  congr 2
  split <;> omega
end Go.Proofs.YtjgeigjjfcnojaaGreatDoor.P.F
namespace Go.Proofs.YtjgeigjjfcnojaaGreatDoor.P.F
open Go.Abs Go.Proofs
set_option maxRecDepth 10000
def VF (p:Int × Int):Prop:=(1≤p.2∧p.2≤1152921504606846976)∧(-1152921504606846976≤p.1∧p.1≤1152921504606846976)∧Nat.gcd p.1.natAbs p.2.natAbs = 1
theorem valid_ (p:Int × Int) (hp:VF p):Aj Tryz.prog 197 [.d (frD p)] (.d (.bool true)):=by
 obtain ⟨n,d⟩:=p
 obtain ⟨⟨h1,h2⟩,⟨h3,h4⟩,h5⟩:=hp
 simp only at h1 h2 h3 h4 h5
 refine BS Tryz.func197 (by kernel_rfl) ?_
 conv=>whnf
 refine br (fun _=>?_) (fun h=>?_)
 rotate_left
 ·exfalso
  have e1:decide (d ≥ 1) = true:=decide_eq_true h1
  have e2:decide (d≤1152921504606846976) = true:=decide_eq_true h2
  have e3:decide (n ≥ -1152921504606846976) = true:=decide_eq_true h3
  have e4:decide (n≤1152921504606846976) = true:=decide_eq_true h4
  simp only [e1,e2,e3,e4,cond_true] at h
  cases h
 conv=>whnf
 refine Av (e7 n d (by omega) (by omega)) ?_
 rw [h5]
 exact z54
theorem prod_bound {a b:Int} (ha:-1152921504606846976≤a∧a≤1152921504606846976) (hb:-1152921504606846976≤b∧b≤1152921504606846976):-1329227995784915872903807060280344576≤a * b∧a * b≤1329227995784915872903807060280344576:=by
 have h1:(a * b).natAbs≤1329227995784915872903807060280344576:=by
  rw [Int.natAbs_mul]
  exact Nat.mul_le_mul (show a.natAbs≤1152921504606846976 by omega) (show b.natAbs≤1152921504606846976 by omega)
 omega
theorem mul_ (p q:Int × Int) (hp:VF p) (hq:VF q):Aj Tryz.prog 119 [.d (frD p),.d (frD q)]
 (.tup [.d (frD (redF (p.1 * q.1) (p.2 * q.2).toNat)),.d (.int .i64 (redE (p.1 * q.1) (p.2 * q.2).toNat))]):=by
 have vp:=valid_ p hp
 have vq:=valid_ q hq
 obtain ⟨a,b⟩:=p
 obtain ⟨c,d⟩:=q
 have hB:B127 = 170141183460469231731687303715884105728:=rfl
 obtain ⟨⟨h1,h2⟩,h3,_⟩:=hp
 obtain ⟨⟨k1,k2⟩,k3,_⟩:=hq
 simp only at h1 h2 h3 k1 k2 k3
 have hac:=prod_bound h3 k3
 have hbd:=prod_bound (a:=b) (b:=d) (by omega) (by omega)
 have hbd0:0 < b * d:=Int.mul_pos (by omega) (by omega)
 have hred:=reduced_ (a * c) (b * d) (by omega) (by omega) (by omega)
 rw [show nn (a * c) (b * d) = a * c from if_neg (by omega),show (b * d).natAbs = (b * d).toNat by omega] at hred
 refine BS Tryz.func119 (by kernel_rfl) ?_
 conv=>whnf
 refine Av vp ?_
 conv=>whnf
 refine Av vq ?_
 conv=>whnf
 refine ⟨⟨by decide +kernel,by kernel_rfl⟩,?_⟩
 conv=>whnf
 refine Av (whole_ a (by omega) (by omega)) ?_
 conv=>whnf
 refine Av (whole_ c (by omega) (by omega)) ?_
 conv=>whnf
 refine Av (times_ a c) ?_
 conv=>whnf
 refine Av (whole_ b (by omega) (by omega)) ?_
 conv=>whnf
 refine Av (whole_ d (by omega) (by omega)) ?_
 conv=>whnf
 refine Av (times_ b d) ?_
 conv=>whnf
 refine Av hred ?_
 generalize redF (a * c) (b * d).toNat = r
 generalize redE (a * c) (b * d).toNat = e
 obtain ⟨r1,r2⟩:=r
 exact z54
end Go.Proofs.YtjgeigjjfcnojaaGreatDoor.P.F
namespace Go.Proofs.YtjgeigjjfcnojaaGreatDoor.P.F
open Go.Proofs
set_option maxRecDepth 10000
theorem ZD {x:Int} {xs:List Int}:x∈Ex xs↔x∈xs:=by simp [Ex,List.mem_mergeSort]
theorem PR (d:Array Int) (hd:∀ i,i + 1 < d.size→d[i]!≤d[i + 1]!):∀ m,m≤d.size→(Go.Lib.compactUpTo d m).Pairwise (· < ·)∧(∀ x,x∈Go.Lib.compactUpTo d m↔∃ j,j < m∧d[j]! = x)∧∀ x∈Go.Lib.compactUpTo d m,x≤d[m - 1]!:=by
 intro m
 induction m with
 | zero=>intro _; simp [Go.Lib.compactUpTo]
 | succ m ih =>
   intro hm
   obtain ⟨h1,h2,h3⟩:=ih (by omega)
   rw [Go.Lib.compactUpTo_succ]
   by_cases hz:m = 0
   ·subst hz
    have:Go.Lib.compactUpTo d 0 = []:=rfl
    rw [this]
    have hk:Go.Lib.keeps d 0 = true:=Go.Lib.keeps_lt_one d 0 (by omega)
    rw [if_pos hk]
    refine ⟨by simp,fun x=>?_,by simp⟩
    constructor
    ·intro h; simp at h; exact ⟨0,by omega,h.symm⟩
    ·rintro ⟨j,hj,rfl⟩; have:j = 0:=by omega
     subst this; simp
   have hle:=hd (m - 1) (by omega)
   rw [show m - 1 + 1 = m by omega] at hle
   by_cases he:d[m]! = d[m - 1]!
   ·rw [Go.Lib.keeps_neg (by omega) he]
    simp only [Bool.false_eq_true,if_false,List.append_nil]
    refine ⟨h1,fun x=>?_,fun x hx=>?_⟩
    ·rw [h2]
     constructor
     ·rintro ⟨j,hj,rfl⟩; exact ⟨j,by omega,rfl⟩
     ·rintro ⟨j,hj,rfl⟩
      by_cases e:j = m
      ·subst e; exact ⟨j - 1,by omega,he.symm⟩
      ·exact ⟨j,by omega,rfl⟩
    ·have:=h3 x hx
     rw [show m + 1 - 1 = m by omega,he]; exact this
   ·rw [Go.Lib.keeps_pos he,if_pos rfl]
    refine ⟨List.pairwise_append.2 ⟨h1,by simp,fun a ha b hb=>?_⟩,fun x=>?_,fun x hx=>?_⟩
    ·simp at hb; subst hb
     have:=h3 a ha; omega
    ·rw [List.mem_append,h2]
     constructor
     ·rintro (⟨j,hj,rfl⟩ | h)
      ·exact ⟨j,by omega,rfl⟩
      ·simp at h; exact ⟨m,by omega,h.symm⟩
     ·rintro ⟨j,hj,rfl⟩
      by_cases e:j = m
      ·subst e; exact .inr (by simp)
      ·exact .inl ⟨j,by omega,rfl⟩
    ·rw [show m + 1 - 1 = m by omega]
     rcases List.mem_append.1 hx with hx | hx
     ·have:=h3 x hx; omega
     ·simp at hx; omega
theorem Ws (xs:List Int):(Ex xs).Pairwise (·≤·):=by
 have:=List.pairwise_mergeSort (le:=fun x y:Int=>decide (x≤y)) (fun a b c h1 h2=>by simp at *; omega) (fun a b=>by simp; omega) xs
 exact this.imp (by simp)
theorem RO (xs:List Int):(setI xs).Pairwise (· < ·)∧∀ x,x∈setI xs↔x∈xs:=by
 have hs:=Ws xs
 have hm:∀ x,x∈Ex xs↔x∈xs:=fun x=>ZD
 unfold setI
 generalize Ex xs = s at hs hm
 have hg:∀ i (h:i < s.length),s.toArray[i]! = s[i]:=fun i h=>by simp [h]
 obtain ⟨h1,h2,_⟩:=PR s.toArray (fun i hi=>by
  have hi:i + 1 < s.length:=by simpa using hi
  rw [hg i (by omega),hg (i + 1) hi]
  exact List.pairwise_iff_getElem.1 hs i (i + 1) (by omega) hi (by omega)) s.length (by simp)
 refine ⟨h1,fun x=>?_⟩
 unfold Go.Lib.compact
 rw [h2,← hm]
 constructor
 ·rintro ⟨j,hj,rfl⟩; rw [hg j hj]; exact List.getElem_mem hj
 ·intro h
  obtain ⟨j,hj,rfl⟩:=List.getElem_of_mem h
  exact ⟨j,hj,hg j hj⟩
theorem Y7 {a b:List Int} (ha:a.Pairwise (· < ·)) (hb:b.Pairwise (· < ·)) (h:∀ x,x∈a↔x∈b):a = b:=by
 have hp:a.Perm b:=(List.perm_ext_iff_of_nodup (ha.imp fun h=>by omega) (hb.imp fun h=>by omega)).2 h
 exact List.Perm.eq_of_pairwise (le:=(· < ·)) (fun x y _ _ h1 h2=>by omega) ha hb hp
theorem Vq (x:Int):∀ (l:List Int),l.Pairwise (· < ·)→(Yd x l).Pairwise (· < ·)∧∀ y,y∈Yd x l↔y = x∨y∈l
 | [],_=>by simp [Yd]
 | z :: r,h=>by
   obtain ⟨h1,h2⟩:=List.pairwise_cons.1 h
   unfold Yd
   by_cases c:x < z
   ·rw [decide_eq_true c,cond_true]
    refine ⟨List.pairwise_cons.2 ⟨fun y hy=>?_,h⟩,fun y=>by simp⟩
    rcases List.mem_cons.1 hy with rfl | hy
    ·exact c
    ·have:=h1 y hy; omega
   ·rw [decide_eq_false c,cond_false]
    by_cases e:x = z
    ·rw [show (x==z) = true by simp [e],cond_true]
     exact ⟨h,fun y=>by subst e; simp⟩
    ·rw [show (x==z) = false by simp [e],cond_false]
     obtain ⟨k1,k2⟩:=Vq x r h2
     refine ⟨List.pairwise_cons.2 ⟨fun y hy=>?_,k1⟩,fun y=>by simp only [List.mem_cons,k2]; exact ⟨fun h=>by rcases h with h | h | h <;> simp [h],fun h=>by rcases h with h | h | h <;> simp [h]⟩⟩
     rcases (k2 y).1 hy with rfl | hy
     ·omega
     ·exact h1 y hy
theorem RP:∀ (xs:List Int),(setU xs).Pairwise (· < ·)∧∀ x,x∈setU xs↔x∈xs
 | []=>by simp [setU]
 | z :: r=>by
   obtain ⟨h1,h2⟩:=RP r
   obtain ⟨k1,k2⟩:=Vq z (setU r) h1
   exact ⟨k1,fun x=>by rw [show setU (z :: r) = Yd z (setU r) from rfl,k2,h2]; simp⟩
theorem setU_eq (xs:List Int):setU xs = setI xs :=
 Y7 (RP xs).1 (RO xs).1 fun x=>((RP xs).2 x).trans ((RO xs).2 x).symm
theorem setI_with {a b:List Int} (hb:b.Pairwise (· < ·)) (h:∀ x∈a,x∈b):setI (a++b) = b:=by
 obtain ⟨h1,h2⟩:=RO (a++b)
 refine Y7 h1 hb fun x=>?_
 rw [h2,List.mem_append]
 exact ⟨fun h3=>h3.elim (h x) id,.inr⟩
end Go.Proofs.YtjgeigjjfcnojaaGreatDoor.P.F
namespace Go.Proofs.YtjgeigjjfcnojaaGreatDoor.P.F
open Go.Abs Go.Proofs
set_option maxRecDepth 10000
def ints (xs:List Int):D:=.list 1 (xs.map (D.int .i64))
theorem aP (xs:List Int) (k:Nat) (h:k < xs.length):(xs.map (D.int .i64))[((k:Nat):Int).toNat]? = some (D.int .i64 xs[k]):=by simp [h]
theorem bytes_int:Ke Tryz.prog 3 = 8:=by kernel_rfl
theorem Zn (xs:List Int):∀ x∈xs.map (D.int .i64),∀ y∈x.cells,y.bare = true:=by
 intro x hx y hy
 obtain ⟨n,_,rfl⟩:=List.mem_map.1 hx
 simp [D.cells] at hy
 subst hy; rfl
def Qb (p:Int→Bool) (xs:List Int):Int:=match xs.findIdx? p with | some i=>i | none=>-1
theorem Z1 (p:Int→Bool) (xs:List Int):decide (Qb p xs ≥ 0) = xs.any p:=by
 unfold Qb
 cases h:xs.findIdx? p with
 | none =>
   have:=List.findIdx?_eq_none_iff.1 h
   simp only [ge_iff_le,Int.reduceNeg,Int.reduceLE,decide_false]
   symm
   rw [List.any_eq_false]
   intro x hx; simp [this x hx]
 | some i =>
   obtain ⟨hi,hp,_⟩:=List.findIdx?_eq_some_iff_getElem.1 h
   simp only [ge_iff_le,Int.natCast_nonneg,decide_true]
   symm
   rw [List.any_eq_true]
   exact ⟨_,List.getElem_mem hi,hp⟩
theorem Z0 {p:Int→Bool} {xs:List Int} {k:Nat} (hk:k < xs.length) (h:∀ j (hj:j < k),p (xs[j]'(by omega)) = false) (hp:p xs[k] = true):Qb p xs = k:=by
 unfold Qb
 rw [List.findIdx?_eq_some_iff_getElem.2 ⟨hk,hp,fun j hj=>by simp [h j hj]⟩]
theorem WS {p:Int→Bool} {xs:List Int} (h:∀ j (hj:j < xs.length),p xs[j] = false):Qb p xs = -1:=by
 unfold Qb
 rw [List.findIdx?_eq_none_iff.2 fun x hx=>by obtain ⟨j,hj,rfl⟩:=List.getElem_of_mem hx; exact h j hj]
theorem index (f:FuncId) (p:Int→Bool) (xs:List Int) (hx:xs.length≤1000000) (hf:∀ x∈xs,Aj Tryz.prog f [.d (.int .i64 x)] (.d (.bool (p x)))) :
 Aj Tryz.prog 240 [.d (ints xs),.d (.fn f [])] (.d (.int .i64 (Qb p xs))):=by
 refine BS Tryz.func240 (by kernel_rfl) ?_
 conv=>whnf
 refine loop {k:Nat // ∀ j (hj:j < xs.length),j < k→p xs[j] = false} (fun k=>BB 19 [(0,.d (ints xs)),(1,.d (.fn f [])),(7,.d (.int .i64 xs.length)),(8,.d (.int .i64 k.1))] []) (fun k=>xs.length - k.1) ⟨0,by simp⟩ ?_ fun k=>?_
 ·exact And.intro rfl (And.intro rfl (And.intro (by simp) (And.intro rfl trivial)))
 ·obtain ⟨k,hk⟩:=k
  conv=>whnf
  refine br (fun h=>?_) (fun h=>?_)
  ·have hlt:k < xs.length:=by simpa using h
   conv=>whnf
   refine ⟨⟨by simp only; omega,_,aP xs k hlt,?_⟩⟩
   conv=>whnf
   refine Av (hf xs[k] (List.getElem_mem hlt)) ?_
   conv=>whnf
   refine br (fun hp=>?_) (fun hp=>?_)
   ·conv=>whnf
    exact ⟨by rw [Z0 hlt (fun j hj=>hk j (by omega) hj) hp]; rfl⟩
   ·conv=>whnf
    refine ⟨⟨k + 1,fun j hj hjk=>?_⟩,?_,by show xs.length - (k + 1) < xs.length - k; omega⟩
    ·by_cases e:j = k
     ·subst e; exact hp
     ·exact hk j hj (by omega)
    ·exact And.intro rfl (And.intro rfl (And.intro rfl (And.intro (by rw [next (by first | omega | (simp only; omega))]) trivial)))
  ·have hge:xs.length≤k:=by simpa using h
   conv=>whnf
   exact ⟨by rw [WS fun j hj=>hk j hj (by omega)]; rfl⟩
theorem contains (f:FuncId) (p:Int→Bool) (xs:List Int) (hx:xs.length≤1000000) (hf:∀ x∈xs,Aj Tryz.prog f [.d (.int .i64 x)] (.d (.bool (p x)))) :
 Aj Tryz.prog 174 [.d (ints xs),.d (.fn f [])] (.d (.bool (xs.any p))):=by
 refine BS Tryz.func174 (by kernel_rfl) ?_
 conv=>whnf
 refine Av (index f p xs hx hf) ?_
 conv=>whnf
 exact ⟨by rw [Z1]; rfl⟩
theorem clone (xs:List Int) (hx:xs.length≤1000000):Aj Tryz.prog 48 [.d (ints xs)] (.own 1 3 (xs.map (D.int .i64))):=by
 refine BS Tryz.func48 (by kernel_rfl) ?_
 conv=>whnf
 refine ⟨fun b hb=>?_⟩
 cases b with
 | true =>
   have:xs = []:=by
    cases xs with
    | nil=>rfl
    | cons x r=>have:=hb (by simp); simp at this
   subst this
   conv=>whnf
   refine ⟨.inr ?_⟩
   conv=>whnf
   refine ⟨fun x hx=>by simp at hx,?_⟩
   exact z54
 | false =>
   conv=>whnf
   refine ⟨?_,?_⟩
   ·rw [bytes_int]
    simp only [List.length_map,List.length_nil]
    exact ⟨by unfold maxLen; omega,by omega,.inr (by trivial)⟩
   conv=>whnf
   refine ⟨.inr ?_⟩
   conv=>whnf
   refine ⟨by rw [List.nil_append]; exact Zn xs,?_⟩
   exact z54
def dA:Prop:=∀ xs:List Int,xs.length < 4611686018427387904→CZ Tryz.prog 190 [.own 1 3 (xs.map (D.int .i64))] [.own 1 3 ((Ex xs).map (D.int .i64))] (.tup [])
theorem length_sortI (xs:List Int):(Ex xs).length = xs.length:=by simp [Ex,List.length_mergeSort]
def aa:Prop:=∀ xs:List Int,xs.length < 4611686018427387904→CZ Tryz.prog 191 [.own 1 3 (xs.map (D.int .i64))] [.any] (.own 1 3 ((Go.Lib.compact xs).map (D.int .i64)))
end Go.Proofs.YtjgeigjjfcnojaaGreatDoor.P.F
