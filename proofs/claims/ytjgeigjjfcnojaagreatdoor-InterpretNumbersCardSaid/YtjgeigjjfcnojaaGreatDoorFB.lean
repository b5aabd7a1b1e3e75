/- FB -/
import Derived.Test.YtjgeigjjfcnojaaGreatDoorFA
import Derived.Test.YtjgeigjjfcnojaaGreatDoorP3HW
import Derived.WalkKit
import Derived.Lib.Hide
set_option linter.unusedVariables false
set_option linter.unusedSimpArgs false
namespace Go.Proofs.YtjgeigjjfcnojaaGreatDoor.P.F
open Go.Abs Go.Proofs
set_option maxRecDepth 10000
theorem b4 (x y c:Int) (hx:0≤x) (hy:0≤y) (hx2:x < 18446744073709551616) (hy2:y < 18446744073709551616) (hc:c = 0∨c = 1) :
 Y6 Tryz.prog 127 [.d (.int .u64 x),.d (.int .u64 y),.d (.int .u64 c)] (.tup [.d (.int .u64 ((x - y - c) % 18446744073709551616)),.d (.int .u64 (if x < y + c then 1 else 0))]):=by
 intro O w vs hlen hargs
 obtain ⟨v0,v1,v2,rfl⟩:∃ v0 v1 v2,vs = #[v0,v1,v2]:=by
  obtain ⟨l⟩:=vs
  match l,hlen with
  | [v0,v1,v2],_=>exact ⟨v0,v1,v2,rfl⟩
 have e0:=BD (hargs 0 v0 _ rfl rfl)
 have e1:=BD (hargs 1 v1 _ rfl rfl)
 have e2:=BD (hargs 2 v2 _ rfl rfl)
 subst e0; subst e1; subst e2
 obtain ⟨x',rfl⟩:∃ n:Nat,x = n:=⟨x.toNat,by omega⟩
 obtain ⟨y',rfl⟩:∃ n:Nat,y = n:=⟨y.toNat,by omega⟩
 obtain ⟨c',rfl⟩:∃ n:Nat,c = n:=⟨c.toNat,by omega⟩
 refine ⟨.tuple #[.int .u64 (((x' + 18446744073709551616 - y' - c') % 18446744073709551616:Nat):Int),.int .u64 ((if x' < y' + c' then 1 else 0:Nat):Int)],?_,?_⟩
 ·rw [run_callFunc_extern Tryz.func127 (by kernel_rfl) (by kernel_rfl) (by kernel_rfl) (e:=sub64Entry) (by kernel_rfl),run_sub64 x' y' c' (by omega)]
  rfl
 ·have f1:(((x' + 18446744073709551616 - y' - c') % 18446744073709551616:Nat):Int) = ((x':Int) - y' - c') % 18446744073709551616:=by omega
  have f2:((if x' < y' + c' then 1 else 0:Nat):Int) = if (x':Int) < y' + c' then 1 else 0:=by split <;> split <;> omega
  rw [f1,f2]
  refine ⟨_,rfl,rfl,fun i u x hu hx=>?_,fun i j u u' sz e ys sz' e' ys' b h1 h2 h3=>?_⟩
  ·match i,hu,hx with
   | 0,hu,hx=>simp at hu hx; subst hu; subst hx; exact .int _ _
   | 1,hu,hx=>simp at hu hx; subst hu; subst hx; exact .int _ _
   | i + 2,hu,hx=>simp at hu
  ·match i,h3 with
   | 0,h3=>simp at h3
   | 1,h3=>simp at h3
   | i + 2,h3=>simp at h3
theorem cH (n:Int) (h0:-9223372036854775808≤n) (h1:n≤9223372036854775807):Aj Tryz.prog 24 [.d (.int .i64 n)] (.d (W n)):=by
 refine BS Tryz.func24 (by kernel_rfl) ?_
 conv=>whnf
 refine br (fun h=>?_) (fun h=>?_)
 ·have h:=of_decide_eq_true h
  conv=>whnf
  exact ⟨congrArg AV.d (M9 (by unfold Hi; omega) (by rw [Jn]; rfl))⟩
 ·have h:=of_decide_eq_false h
  conv=>whnf
  exact ⟨congrArg AV.d (M9 (by unfold Hi; omega) (by rw [Jn]; rfl))⟩
theorem Ub (a b:Int):Aj Tryz.prog 58 [.d (W a),.d (W b)] (.d (W (a - b))):=by
 refine BS Tryz.func58 (by kernel_rfl) ?_
 have ha:=QK a
 have hb:=QK b
 conv=>whnf
 refine Y8 (b4 (Lo a) (Lo b) 0 (by omega) (by omega) (by omega) (by omega) (.inl rfl)) ?_
 conv=>whnf
 refine Y8 (b4 (Hi a) (Hi b) (if Lo a < Lo b + 0 then 1 else 0) (by omega) (by omega) (by omega) (by omega) (by split <;> simp)) ?_
 conv=>whnf
 refine ⟨?_⟩
 refine congrArg AV.d (M9 ?_ ?_)
 ·unfold Hi Lo; split <;> omega
 ·unfold Lo; omega
theorem OX (z:Int) (h0:-B127≤z) (h1:z < B127):Aj Tryz.prog 57 [.d (W z)] (.d (.bool (decide (z < 0)))):=by
 unfold B127 at h0 h1
 refine BS Tryz.func57 (by kernel_rfl) ?_
 have e:(Hi z).fdiv (2 ^ min (Int.toNat 63) IntKind.u64.bits) = Hi z / 9223372036854775808:=Sr _ 63
 conv=>whnf
 refine ⟨by omega,?_⟩
 rw [e]
 conv=>whnf
 refine ⟨?_⟩
 have:(Hi z / 9223372036854775808==1) = decide (z < 0):=by
  rw [Bool.eq_iff_iff,beq_iff_eq,decide_eq_true_iff]
  unfold Hi
  omega
 rw [this]; rfl
theorem dY (x:Nat) (hx:(x:Int) < B127):Aj Tryz.prog 128 [.d (W x)] (.d (.bool (decide (x = 0)))):=by
 refine BS Tryz.func128 (by kernel_rfl) ?_
 conv=>whnf
 refine ⟨⟨by kernel_rfl,by kernel_rfl⟩,?_⟩
 conv=>whnf
 refine ⟨by kernel_rfl,?_⟩
 conv=>whnf
 refine ⟨?_⟩
 have:(Hi x==0 && (Lo x==0 && true)) = decide (x = 0):=by
  rw [Bool.eq_iff_iff,decide_eq_true_iff,← Ts x hx]
  simp
 rw [this]; rfl
theorem cI (z:Int) (h0:-B127≤z) (h1:z < B127):Aj Tryz.prog 59 [.d (W z)] (.d (W (z.natAbs:Int))):=by
 refine BS Tryz.func59 (by kernel_rfl) ?_
 conv=>whnf
 refine Av (OX z h0 h1) ?_
 by_cases h:z < 0
 ·rw [decide_eq_true h,show ((z.natAbs:Nat):Int) = 0 - z by omega]
  conv=>whnf
  refine Av (Ub 0 z) ?_
  exact z54
 ·rw [decide_eq_false h,show ((z.natAbs:Nat):Int) = z by omega]
  exact z54
theorem RJ (x y:Nat) (hx:x < 340282366920938463463374607431768211456) (hy:y < 340282366920938463463374607431768211456):Aj Tryz.prog 62 [.d (W x),.d (W y)] (.d (.bool (decide (x < y)))):=by
 refine BS Tryz.func62 (by kernel_rfl) ?_
 have hxx:(x:Int) = 18446744073709551616 * Hi x + Lo x:=by unfold Hi Lo; omega
 have hyy:(y:Int) = 18446744073709551616 * Hi y + Lo y:=by unfold Hi Lo; omega
 have hbx:=QK x
 have hby:=QK y
 conv=>whnf
 refine ⟨?_⟩
 have:(bif decide (Hi x < Hi y) then true else bif Hi x==Hi y then decide (Lo x < Lo y) else false) = decide (x < y):=by
  rw [Bool.eq_iff_iff,decide_eq_true_iff]
  by_cases q:Hi x < Hi y
  ·simp [q]; omega
  ·by_cases q2:Hi x = Hi y
   ·simp [q2]; omega
   ·simp [q,q2]; omega
 rw [← this]; rfl
theorem Yo (x:Nat):Aj Tryz.prog 129 [.d (W x)] (.d (W ((2 * x:Nat):Int))):=by
 refine BS Tryz.func129 (by kernel_rfl) ?_
 conv=>whnf
 refine ⟨by omega,?_⟩
 conv=>whnf
 refine ⟨by omega,?_⟩
 conv=>whnf
 refine ⟨by omega,?_⟩
 have e1:∀ a:Int,IntKind.u64.wrap (a * 2 ^ (min (Int.toNat 1) IntKind.u64.bits)) = a * ((2 ^ 1:Nat):Int) % 18446744073709551616:=fun a=>bw a 1 (by omega)
 have e2:∀ a:Int,a.fdiv (2 ^ (min (Int.toNat 63) IntKind.u64.bits)) = a / ((2 ^ 63:Nat):Int):=fun a=>Yw a 63 (by omega)
 rw [e1,e1,e2]
 conv=>whnf
 refine ⟨?_⟩
 have hx2:(2 * x:Nat) = x * 2 ^ 1:=by omega
 rw [hx2]
 refine congrArg AV.d (M9 ?_ ?_)
 ·rw [er,ab x,W0 x,ab (x * 2 ^ 1),← YK x 1 (by omega),VE,VD _ _ (Nat.mod_lt _ (by omega))]
 ·rw [W0,W0]; omega
end Go.Proofs.YtjgeigjjfcnojaaGreatDoor.P.F
namespace Go.Proofs.YtjgeigjjfcnojaaGreatDoor.P.F
open Go.Abs Go.Proofs
set_option maxRecDepth 10000
theorem dj (n b:Nat) (hb:b≤1):(2 * n) ||| b = 2 * n + b:=by
 have:=be 1 n b (by omega)
 rw [Nat.pow_one] at this
 exact this
theorem cw (x:Int) (h0:0≤x) (h1:x < 18446744073709551616):IntKind.u64.wrap ((BitVec.ofInt IntKind.u64.bits x &&& BitVec.ofInt IntKind.u64.bits 1).toNat:Int) = x % 2:=by
 rw [cM]
 have:((x % 18446744073709551616).toNat &&& ((1:Int) % 18446744073709551616).toNat) = (x % 18446744073709551616).toNat % 2 ^ 1:=Nat.and_two_pow_sub_one_eq_mod _ 1
 rw [this]; omega
theorem S4 (n:Nat) (b:Int) (hb:b = 0∨b = 1):IntKind.u64.wrap ((BitVec.ofInt IntKind.u64.bits (Lo ((2 * n:Nat):Int)) ||| BitVec.ofInt IntKind.u64.bits b).toNat:Int) = Lo (((2 * n:Nat):Int) + b)∧Hi (((2 * n:Nat):Int) + b) = Hi ((2 * n:Nat):Int):=by
 rw [er,W0]
 have e:((((2 * n % 18446744073709551616:Nat):Int) % 18446744073709551616).toNat ||| (b % 18446744073709551616).toNat) = 2 * (n % 9223372036854775808) + b.toNat:=by
  rw [show (((2 * n % 18446744073709551616:Nat):Int) % 18446744073709551616).toNat = 2 * (n % 9223372036854775808) by omega,show (b % 18446744073709551616).toNat = b.toNat by omega]
  exact dj _ _ (by omega)
 rw [e]
 unfold Lo Hi
 omega
set_option maxHeartbeats 1000000 in
theorem Xp (a b:Nat) (hb0:0 < b) (ha2:(a:Int) < B127) (hb2:(b:Int) < B127) :
 Aj Tryz.prog 61 [.d (W a),.d (W b)] (.tup [.d (W ((a / b:Nat):Int)),.d (W ((a % b:Nat):Int))]):=by
 have hB:B127 = 170141183460469231731687303715884105728:=rfl
 refine BS Tryz.func61 (by kernel_rfl) ?_
 conv=>whnf
 refine loop {s:Int × Nat × Nat // (-1≤s.1∧s.1≤127)∧s.2.1 = a / 2 ^ (s.1 + 1).toNat / b∧s.2.2 = a / 2 ^ (s.1 + 1).toNat % b} (fun s=>BB 51 [(2,.ptr 2 1 0),(3,.ptr 3 1 0),(4,.ptr 4 1 0),(5,.ptr 5 1 0),(6,.ptr 6 1 0),(7,.ptr 7 1 0),(8,.d (.int .i64 s.1.1))]
  [(2,.var [.d (.int .u64 (Hi a)),.d (.int .u64 (Lo a))],1),(3,.var [.d (.int .u64 (Hi b)),.d (.int .u64 (Lo b))],1),(4,.var [.d (.int .u64 0),.d (.int .u64 0)],1),(5,.var [.d (.int .u64 0),.d (.int .u64 0)],1),
   (6,.var [.d (.int .u64 (Hi s.1.2.1)),.d (.int .u64 (Lo s.1.2.1))],1),(7,.var [.d (.int .u64 (Hi s.1.2.2)),.d (.int .u64 (Lo s.1.2.2))],1)]) (fun s=>(s.1.1 + 1).toNat) ⟨(127,0,0),by simp only; omega,?_,?_⟩ ?_ fun s=>?_
 ·show 0 = a / 2 ^ 128 / b
  rw [Nat.div_eq_of_lt (show a < 2 ^ 128 by omega),Nat.zero_div]
 ·show 0 = a / 2 ^ 128 % b
  rw [Nat.div_eq_of_lt (show a < 2 ^ 128 by omega),Nat.zero_mod]
 ·have z1:Hi ((0:Nat):Int) = 0:=by decide
  have z2:Lo ((0:Nat):Int) = 0:=by decide
  refine QM ?_
  conv=>whnf
  repeat (first | exact trivial | refine And.intro (by first | with_reducible rfl | (simp only [z1,z2]; done) | (rw [z1]) | (rw [z2]) | rfl) ?_)
 obtain ⟨⟨i,q,r⟩,⟨hi0,hi1⟩,hq,hr⟩:=s
 simp only at hi0 hi1 hq hr
 conv=>whnf
 refine br (fun h=>?_) (fun h=>?_)
 ·have hk:i ≥ 0:=of_decide_eq_true h
  obtain ⟨j,rfl⟩:∃ j:Nat,i = j:=⟨i.toNat,by omega⟩
  rw [show ((j:Int) + 1).toNat = j + 1 by omega] at hq hr
  have e3:IntKind.i64.wrap ((j:Int) - 1) = (j:Int) - 1:=wrap_small (by omega) (by omega)
  have hrb:r < b:=by rw [hr]; exact Nat.mod_lt _ hb0
  have hA:a / 2 ^ j = 2 * (a / 2 ^ (j + 1)) + a / 2 ^ j % 2:=by rw [Nat.pow_succ,← Nat.div_div_eq_div_mul]; omega
  have hAr:a / 2 ^ (j + 1) = b * q + r:=by rw [hq,hr]; exact (Nat.div_add_mod _ _).symm
  have hbit:∃ t:Nat,t = a / 2 ^ j % 2∧t≤1:=⟨_,rfl,by omega⟩
  obtain ⟨t,ht,ht1⟩:=hbit
  rw [← ht] at hA
  have hqa:q≤a:=by rw [hq]; exact Nat.le_trans (Nat.div_le_self _ _) (Nat.div_le_self _ _)
  conv=>whnf
  refine Av (Yo r) ?_
  have e4:(j:Int).tmod 64 = ((j % 64:Nat):Int):=by rw [Int.tmod_eq_emod_of_nonneg (by omega)]; omega
  conv=>whnf
  refine ⟨by omega,?_⟩
  rw [e4]
  obtain ⟨d,hd⟩:∃ d:Nat,(j % 64:Nat) = d∧d < 64:=⟨j % 64,rfl,by omega⟩
  have w1:IntKind.u64.wrap ((j % 64:Nat):Int) = ((j % 64:Nat):Int):=by rw [Jn]; omega
  have w2:IntKind.u64.wrap (j:Int) = (j:Int):=by rw [Jn]; omega
  have hHi:=ab a
  have hLo:=W0 a
  have hj1:((j:Int) - 1 + 1).toNat = j:=by omega
  have hA2:a / 2 ^ j = b * (2 * q) + (2 * r + t):=by rw [hA,hAr]; grind
  have hA3:b≤2 * r + t→a / 2 ^ j = b * (2 * q + 1) + (2 * r + t - b):=fun h=>by rw [hA2,Nat.mul_add,Nat.mul_one]; omega
  have pj:=Nat.two_pow_pos j
  have b1:64≤j→((a / 18446744073709551616 % 18446744073709551616:Nat):Int) / ((2 ^ (j % 64):Nat):Int) % 2 = (t:Int):=fun h=>by
   rw [Nat.mod_eq_of_lt (show a / 18446744073709551616 < 18446744073709551616 by omega),← Int.natCast_ediv,Nat.div_div_eq_div_mul,show 18446744073709551616 * 2 ^ (j % 64) = 2 ^ j from by rw [show (18446744073709551616:Nat) = 2 ^ 64 from rfl,← Nat.pow_add]; congr 1; omega]
   omega
  have b2:j < 64→((a % 18446744073709551616:Nat):Int) / ((2 ^ j:Nat):Int) % 2 = (t:Int):=fun h=>by
   rw [← Int.natCast_ediv]
   have h1:=dJ a (2 ^ j) (2 ^ (64 - j)) 18446744073709551616 (RA (by omega)) pj
   have h2:2 ^ (64 - j) = 2 * 2 ^ (63 - j):=by rw [show 64 - j = (63 - j) + 1 by omega,Nat.pow_succ,Nat.mul_comm]
   rw [h2,Nat.mul_assoc] at h1
   omega
  have hdl:∀ n:Nat,Hi a / ((n:Nat):Int) < 18446744073709551616∧0≤Hi a / ((n:Nat):Int):=fun n=>by
   have:=Nat.div_le_self (a / 18446744073709551616 % 18446744073709551616) n
   rw [hHi,← Int.natCast_ediv]
   generalize a / 18446744073709551616 % 18446744073709551616 / n = w at *
   omega
  have hdl2:∀ n:Nat,Lo a / ((n:Nat):Int) < 18446744073709551616∧0≤Lo a / ((n:Nat):Int):=fun n=>by
   have:=Nat.div_le_self (a % 18446744073709551616) n
   rw [hLo,← Int.natCast_ediv]
   generalize a % 18446744073709551616 / n = w at *
   omega
  conv=>whnf
  rw [w1]
  refine ⟨by omega,?_⟩
  rw [Yw _ (j % 64) (by omega)]
  conv=>whnf
  rw [cw _ (hdl _).2 (hdl _).1]
  refine br (fun h=>?_) (fun h=>?_)
  ·have hj64:(j:Int) < 64:=of_decide_eq_true h
   conv=>whnf
   rw [w2]
   refine ⟨by omega,?_⟩
   rw [Yw _ j (by omega)]
   conv=>whnf
   rw [cw _ (hdl2 _).2 (hdl2 _).1,hLo,b2 (by omega),← hLo]
   rw [(S4 r t (by omega)).1,← (S4 r t (by omega)).2,show ((2 * r:Nat):Int) + (t:Int) = ((2 * r + t:Nat):Int) from by omega]
   refine Av (Yo q) ?_
   conv=>whnf
   refine Av (RJ (2 * r + t) b (by omega) (by omega)) ?_
   by_cases hlt:2 * r + t < b
   ·rw [decide_eq_true hlt]
    conv=>whnf
    refine ⟨⟨((j:Int) - 1,2 * q,2 * r + t),⟨by simp only; omega,by simp only; omega⟩,?_,?_⟩,?_,by simp only; omega⟩
    ·simp only [hj1]
     rw [hA2,Nat.mul_add_div hb0,Nat.div_eq_of_lt hlt,Nat.add_zero]
    ·simp only [hj1]
     rw [hA2,Nat.mul_add_mod,Nat.mod_eq_of_lt hlt]
    ·refine QM ?_
     conv=>whnf
     rw [e3]
     repeat (first | exact trivial | refine And.intro (by first | with_reducible rfl | exact .inl rfl | (rw [next (by first | omega | (simp only; omega))]) | rfl) ?_)
   ·rw [decide_eq_false hlt]
    conv=>whnf
    refine Av (Ub ((2 * r + t:Nat):Int) b) ?_
    rw [show ((2 * r + t:Nat):Int) - (b:Int) = ((2 * r + t - b:Nat):Int) from by omega]
    conv=>whnf
    rw [(S4 q 1 (by omega)).1,← (S4 q 1 (by omega)).2,show ((2 * q:Nat):Int) + 1 = ((2 * q + 1:Nat):Int) from by omega]
    refine ⟨⟨((j:Int) - 1,2 * q + 1,2 * r + t - b),⟨by simp only; omega,by simp only; omega⟩,?_,?_⟩,?_,by simp only; omega⟩
    ·simp only [hj1]
     rw [hA3 (by omega),Nat.mul_add_div hb0,Nat.div_eq_of_lt (by omega),Nat.add_zero]
    ·simp only [hj1]
     rw [hA3 (by omega),Nat.mul_add_mod,Nat.mod_eq_of_lt (by omega)]
    ·refine QM ?_
     conv=>whnf
     rw [e3]
     repeat (first | exact trivial | refine And.intro (by first | with_reducible rfl | exact .inl rfl | (rw [next (by first | omega | (simp only; omega))]) | rfl) ?_)
  ·have hj64:¬ (j:Int) < 64:=of_decide_eq_false h
   conv=>whnf
   rw [hHi,b1 (by omega),← hHi]
   rw [(S4 r t (by omega)).1,← (S4 r t (by omega)).2,show ((2 * r:Nat):Int) + (t:Int) = ((2 * r + t:Nat):Int) from by omega]
   refine Av (Yo q) ?_
   conv=>whnf
   refine Av (RJ (2 * r + t) b (by omega) (by omega)) ?_
   by_cases hlt:2 * r + t < b
   ·rw [decide_eq_true hlt]
    conv=>whnf
    refine ⟨⟨((j:Int) - 1,2 * q,2 * r + t),⟨by simp only; omega,by simp only; omega⟩,?_,?_⟩,?_,by simp only; omega⟩
    ·simp only [hj1]
     rw [hA2,Nat.mul_add_div hb0,Nat.div_eq_of_lt hlt,Nat.add_zero]
    ·simp only [hj1]
     rw [hA2,Nat.mul_add_mod,Nat.mod_eq_of_lt hlt]
    ·refine QM ?_
     conv=>whnf
     rw [e3]
     repeat (first | exact trivial | refine And.intro (by first | with_reducible rfl | exact .inl rfl | (rw [next (by first | omega | (simp only; omega))]) | rfl) ?_)
   ·rw [decide_eq_false hlt]
    conv=>whnf
    refine Av (Ub ((2 * r + t:Nat):Int) b) ?_
    rw [show ((2 * r + t:Nat):Int) - (b:Int) = ((2 * r + t - b:Nat):Int) from by omega]
    conv=>whnf
    rw [(S4 q 1 (by omega)).1,← (S4 q 1 (by omega)).2,show ((2 * q:Nat):Int) + 1 = ((2 * q + 1:Nat):Int) from by omega]
    refine ⟨⟨((j:Int) - 1,2 * q + 1,2 * r + t - b),⟨by simp only; omega,by simp only; omega⟩,?_,?_⟩,?_,by simp only; omega⟩
    ·simp only [hj1]
     rw [hA3 (by omega),Nat.mul_add_div hb0,Nat.div_eq_of_lt (by omega),Nat.add_zero]
    ·simp only [hj1]
     rw [hA3 (by omega),Nat.mul_add_mod,Nat.mod_eq_of_lt (by omega)]
    ·refine QM ?_
     conv=>whnf
     rw [e3]
     repeat (first | exact trivial | refine And.intro (by first | with_reducible rfl | exact .inl rfl | (rw [next (by first | omega | (simp only; omega))]) | rfl) ?_)
 ·have hk:¬ i ≥ 0:=of_decide_eq_false h
  obtain rfl:i = -1:=by omega
  have e0:((-1:Int) + 1).toNat = 0:=rfl
  rw [e0,Nat.pow_zero,Nat.div_one] at hq hr
  subst hq; subst hr
  conv=>whnf
  refine ⟨⟨by decide +kernel,by kernel_rfl⟩,?_⟩
  exact z54
end Go.Proofs.YtjgeigjjfcnojaaGreatDoor.P.F
namespace Go.Proofs.YtjgeigjjfcnojaaGreatDoor.P.F
open Go.Abs Go.Proofs
set_option maxRecDepth 10000
theorem YV (a b:Nat) (ha2:(a:Int) < B127) (hb2:(b:Int) < B127):Aj Tryz.prog 60 [.d (W a),.d (W b)] (.d (W ((Nat.gcd a b:Nat):Int))):=by
 refine BS Tryz.func60 (by kernel_rfl) ?_
 generalize hg:Nat.gcd a b = g
 conv=>whnf
 refine loop {s:Nat × Nat // (s.1:Int) < B127∧(s.2:Int) < B127∧Nat.gcd s.1 s.2 = g} (fun s=>BB 19 [(2,.ptr 2 1 0),(3,.ptr 3 1 0),(4,.ptr 4 1 0)]
  [(2,.var [.d (.int .u64 (Hi s.1.1)),.d (.int .u64 (Lo s.1.1))],1),(3,.var [.d (.int .u64 (Hi s.1.2)),.d (.int .u64 (Lo s.1.2))],1),(4,.var [.d (.int .u64 0),.d (.int .u64 0)],1)]) (fun s=>s.1.2) ⟨(a,b),ha2,hb2,hg⟩ ?_ fun s=>?_
 ·refine QM ?_
  conv=>whnf
  repeat (first | exact trivial | refine And.intro (by first | with_reducible rfl | exact .inl rfl | (rw [next (by first | omega | (simp only; omega))]) | rfl) ?_)
 obtain ⟨⟨x,y⟩,hx,hy,hxy⟩:=s
 simp only at hx hy hxy
 conv=>whnf
 refine Av (dY y hy) ?_
 by_cases h:y = 0
 ·rw [decide_eq_true h]
  subst h
  rw [Nat.gcd_zero_right] at hxy
  subst hxy
  exact z54
 ·rw [decide_eq_false h]
  have hlt:=Nat.mod_lt x (show y > 0 by omega)
  conv=>whnf
  refine Av (Xp x y (by omega) hx hy) ?_
  generalize x / y = q
  have hm:Nat.gcd y (x % y) = g:=by rw [← hxy,Nat.gcd_comm y,← Nat.gcd_rec,Nat.gcd_comm]
  generalize x % y = r at hlt hm
  conv=>whnf
  refine ⟨⟨by decide +kernel,by kernel_rfl⟩,?_⟩
  conv=>whnf
  refine ⟨⟨(y,r),hy,by simp only; omega,hm⟩,?_,hlt⟩
  refine QM ?_
  conv=>whnf
  repeat (first | exact trivial | refine And.intro (by first | with_reducible rfl | exact .inl rfl | (rw [next (by first | omega | (simp only; omega))]) | rfl) ?_)
set_option maxHeartbeats 1000000 in
theorem bW (num den:Int) (hd0:den≠0) (h1:-B127 < num∧num < B127) (h2:-B127 < den∧den < B127) :
 Aj Tryz.prog 23 [.d (W num),.d (W den)] (.tup [.d (frD (redF (nn num den) den.natAbs)),.d (.int .i64 (redE (nn num den) den.natAbs))]):=by
 have hB:B127 = 170141183460469231731687303715884105728:=rfl
 refine BS Tryz.func23 (by kernel_rfl) ?_
 conv=>whnf
 refine Av (OX den (by omega) (by omega)) ?_
 by_cases hneg:den < 0
 ·rw [decide_eq_true hneg,show nn num den = -num from if_pos hneg]
  conv=>whnf
  refine ⟨⟨by decide +kernel,by kernel_rfl⟩,?_⟩
  conv=>whnf
  rw [M9 (h:=0) (l:=0) (z:=0) (by decide) (by decide)]
  refine Av (Ub 0 num) ?_
  conv=>whnf
  rw [M9 (h:=0) (l:=0) (z:=0) (by decide) (by decide)]
  refine Av (Ub 0 den) ?_
  obtain ⟨d,hd⟩:∃ d:Nat,0 - den = d:=⟨den.natAbs,by omega⟩
  rw [hd,show den.natAbs = d by omega,show 0 - num = -num by omega]
  unfold redF redE okR
  conv=>whnf
  refine Av (cI (-num) (by omega) (by omega)) ?_
  conv=>whnf
  refine Av (YV d (-num).natAbs (by omega) (by omega)) ?_
  have hg0:0 < Nat.gcd d (-num).natAbs:=Nat.gcd_pos_of_pos_left _ (by omega)
  have hgd:Nat.gcd d (-num).natAbs≤d:=Nat.gcd_le_left _ (by omega)
  generalize Nat.gcd d (-num).natAbs = g at hg0 hgd ⊢
  have hna:=Nat.div_le_self (-num).natAbs g
  have hda:=Nat.div_le_self d g
  conv=>whnf
  refine Av (Xp (-num).natAbs g hg0 (by omega) (by omega)) ?_
  conv=>whnf
  refine Av (Xp d g hg0 (by omega) (by omega)) ?_
  generalize hn1:(-num).natAbs / g = n1 at *
  generalize hd1:d / g = d1 at *
  generalize (-num).natAbs % g = m1
  generalize d % g = m2
  conv=>whnf
  rw [M9 (h:=0) (l:=1152921504606846976) (z:=((1152921504606846976:Nat):Int)) (by decide) (by decide)]
  refine Av (RJ 1152921504606846976 n1 (by omega) (by omega)) ?_
  by_cases c1:((n1:Nat):Int)≤1152921504606846976
  ·rw [decide_eq_true c1,decide_eq_false (show ¬ 1152921504606846976 < n1 by omega)]
   conv=>whnf
   rw [M9 (h:=0) (l:=1152921504606846976) (z:=((1152921504606846976:Nat):Int)) (by decide) (by decide)]
   refine Av (RJ 1152921504606846976 d1 (by omega) (by omega)) ?_
   by_cases c2:((d1:Nat):Int)≤1152921504606846976
   ·rw [decide_eq_true c2,decide_eq_false (show ¬ 1152921504606846976 < d1 by omega)]
    have f1:IntKind.i64.wrap (Lo n1) = (n1:Int):=by rw [W0,wrap_small (by omega) (by omega)]; omega
    have f2:IntKind.i64.wrap (Lo d1) = (d1:Int):=by rw [W0,wrap_small (by omega) (by omega)]; omega
    conv=>whnf
    rw [f1,f2]
    refine Av (OX (-num) (by omega) (by omega)) ?_
    by_cases hs:(-num) < 0
    ·rw [decide_eq_true hs,Int.sign_eq_neg_one_of_neg hs]
     have f3:IntKind.i64.wrap (0 - (n1:Int)) = (n1:Int) * -1:=by rw [wrap_small (by omega) (by omega)]; omega
     conv=>whnf
     refine ⟨?_⟩
     rw [f3]; rfl
    ·rw [decide_eq_false hs]
     have f3:(n1:Int) * (-num).sign = n1:=by
      rcases Int.lt_or_eq_of_le (show 0≤(-num) by omega) with h | h
      ·rw [Int.sign_eq_one_of_pos h,Int.mul_one]
      ·have:n1 = 0:=by rw [← hn1,← h]; simp
       rw [this]; simp
     rw [f3]
     exact z54
   ·rw [decide_eq_false c2,decide_eq_true (show 1152921504606846976 < d1 by omega)]
    exact z54
  ·rw [decide_eq_false c1,decide_eq_true (show 1152921504606846976 < n1 by omega)]
   exact z54
 ·rw [decide_eq_false hneg,show nn num den = num from if_neg hneg]
  obtain ⟨d,rfl⟩:∃ d:Nat,den = d:=⟨den.natAbs,by omega⟩
  rw [Int.natAbs_natCast]
  unfold redF redE okR
  conv=>whnf
  refine Av (cI num (by omega) (by omega)) ?_
  conv=>whnf
  refine Av (YV d (num).natAbs (by omega) (by omega)) ?_
  have hg0:0 < Nat.gcd d (num).natAbs:=Nat.gcd_pos_of_pos_left _ (by omega)
  have hgd:Nat.gcd d (num).natAbs≤d:=Nat.gcd_le_left _ (by omega)
  generalize Nat.gcd d (num).natAbs = g at hg0 hgd ⊢
  have hna:=Nat.div_le_self (num).natAbs g
  have hda:=Nat.div_le_self d g
  conv=>whnf
  refine Av (Xp (num).natAbs g hg0 (by omega) (by omega)) ?_
  conv=>whnf
  refine Av (Xp d g hg0 (by omega) (by omega)) ?_
  generalize hn1:(num).natAbs / g = n1 at *
  generalize hd1:d / g = d1 at *
  generalize (num).natAbs % g = m1
  generalize d % g = m2
  conv=>whnf
  rw [M9 (h:=0) (l:=1152921504606846976) (z:=((1152921504606846976:Nat):Int)) (by decide) (by decide)]
  refine Av (RJ 1152921504606846976 n1 (by omega) (by omega)) ?_
  by_cases c1:((n1:Nat):Int)≤1152921504606846976
  ·rw [decide_eq_true c1,decide_eq_false (show ¬ 1152921504606846976 < n1 by omega)]
   conv=>whnf
   rw [M9 (h:=0) (l:=1152921504606846976) (z:=((1152921504606846976:Nat):Int)) (by decide) (by decide)]
   refine Av (RJ 1152921504606846976 d1 (by omega) (by omega)) ?_
   by_cases c2:((d1:Nat):Int)≤1152921504606846976
   ·rw [decide_eq_true c2,decide_eq_false (show ¬ 1152921504606846976 < d1 by omega)]
    have f1:IntKind.i64.wrap (Lo n1) = (n1:Int):=by rw [W0,wrap_small (by omega) (by omega)]; omega
    have f2:IntKind.i64.wrap (Lo d1) = (d1:Int):=by rw [W0,wrap_small (by omega) (by omega)]; omega
    conv=>whnf
    rw [f1,f2]
    refine Av (OX num (by omega) (by omega)) ?_
    by_cases hs:num < 0
    ·rw [decide_eq_true hs,Int.sign_eq_neg_one_of_neg hs]
     have f3:IntKind.i64.wrap (0 - (n1:Int)) = (n1:Int) * -1:=by rw [wrap_small (by omega) (by omega)]; omega
     conv=>whnf
     refine ⟨?_⟩
     rw [f3]; rfl
    ·rw [decide_eq_false hs]
     have f3:(n1:Int) * (num).sign = n1:=by
      rcases Int.lt_or_eq_of_le (show 0≤num by omega) with h | h
      ·rw [Int.sign_eq_one_of_pos h,Int.mul_one]
      ·have:n1 = 0:=by rw [← hn1,← h]; simp
       rw [this]; simp
     rw [f3]
     exact z54
   ·rw [decide_eq_false c2,decide_eq_true (show 1152921504606846976 < d1 by omega)]
    exact z54
  ·rw [decide_eq_false c1,decide_eq_true (show 1152921504606846976 < n1 by omega)]
   exact z54
theorem rOf (num den:Int) (hd0:den≠0) (h1:-9223372036854775808≤num∧num≤9223372036854775807) (h2:-9223372036854775808≤den∧den≤9223372036854775807) :
 Aj Tryz.prog 11 [.d (.int .i64 num),.d (.int .i64 den)] (.tup [.d (frD (redF (nn num den) den.natAbs)),.d (.int .i64 (redE (nn num den) den.natAbs))]):=by
 have hB:B127 = 170141183460469231731687303715884105728:=rfl
 refine BS Tryz.func11 (by kernel_rfl) ?_
 conv=>whnf
 refine br (fun h=>?_) (fun h=>?_)
 ·exact absurd (eq_of_beq h) hd0
 conv=>whnf
 refine Av (cH num h1.1 h1.2) ?_
 conv=>whnf
 refine Av (cH den h2.1 h2.2) ?_
 conv=>whnf
 refine Av (bW num den hd0 (by omega) (by omega)) ?_
 exact z57
end Go.Proofs.YtjgeigjjfcnojaaGreatDoor.P.F
namespace Go.Proofs.YtjgeigjjfcnojaaGreatDoor.P.F
open Go.Abs Go.Proofs
theorem sortC:dA:=fun xs hl=>dR Tryz.lays189 (by kernel_rfl) 3 xs hl
theorem compactC:aa:=fun xs hl=>aX Tryz.lays20 (by kernel_rfl) 3 xs hl
#print axioms sortC
#print axioms compactC
end Go.Proofs.YtjgeigjjfcnojaaGreatDoor.P.F
namespace Go.Proofs.YtjgeigjjfcnojaaGreatDoor.P
open Go Go.Abs Go.Proofs
set_option maxRecDepth 20000
set_option maxHeartbeats 4000000
theorem dL (n:Nat) (hn:n≤1000000):ZY Tryz.prog 260 [0] [.d (.list 1 []),.d (.int .i64 n)] (.own 1 3 []):=by
 refine ⟨by kernel_rfl,fun O w vs hO hG hlen hnil hargs=>?_⟩
 obtain ⟨v,u,rfl⟩:∃ v u,vs = #[v,u]:=by
  obtain ⟨l⟩:=vs
  match l,hlen with
  | [v,u],_=>exact ⟨v,u,rfl⟩
 have hv:=hnil 0 (by simp)
 simp at hv
 subst hv
 have hu:=BD (hargs 1 u _ rfl rfl)
 subst hu
 have El:∀ {e:Ending} {v:Value} {w':World},e = .returned v→RowKit.Below w.heap.size w w'→(v = .slice none 0 0∨∃ cap cur,v = .slice (some ⟨w.heap.size,0,none⟩) 0 cap∧w'.heap[w.heap.size]? = some (.cells cur 3 (0,0))∧cap≤maxLen∧cur.size = cap) →
  ∃ v,e = .returned v∧RowKit.Below w.heap.size w w'∧C2 (fun b=>w.heap.size≤b) O w' v (.own 1 3 []):=by
  intro e v w' he hb hv
  refine ⟨v,he,hb,by decide,(fun _ h=>by cases h),fun b hbk=>?_,[],?_,Bo.nil⟩
  ·rcases hv with rfl | ⟨cap,cur,rfl,_⟩
   ·simp [Ay] at hbk
   ·simp [Ay] at hbk; omega
  ·rcases hv with rfl | ⟨cap,cur,rfl,h1,h2,h3⟩
   ·exact .inl (World.ownsRow_nil w' _ _ _)
   ·exact .inl ⟨rfl,.inr ⟨_,cap,cur,rfl,Nat.zero_le _,h1,Nat.zero_le _,h2,by omega,by simp⟩⟩
 by_cases h0:n = 0
 ·subst h0
  go_enter Tryz.func260,Tryz.ntmps260
  go_wp2
  go_ret
  exact El rfl (RowKit.Below.refl _ _) (.inl rfl)
 ·have hg:(0:Int) < n:=by omega
  have hnx:Builtin.nextslicecap n 0 = n:=by unfold Builtin.nextslicecap; simp; omega
  have H:=Lib.hid hnx
  clear hnx
  go_enter Tryz.func260,Tryz.ntmps260
  go_wp2
  all_goals try (exfalso; have hnx:=H.out; simp only [show Tryz.t3.bytes = 8 from rfl,hnx] at *; omega)
  go_ret
  have h1:=grownCap_ge w n 0 3
  have h2:=grownCap_le_maxLen w n 0 3 (by unfold maxLen; omega)
  unfold grownCap at h1 h2
  refine El rfl ((RowKit.Below.refl _ _).alloc (Nat.le_refl _) _).drew (.inr ⟨_,_,rfl,heap_alloc_new w _,h2,?_⟩)
  rw [Array.size_append,size_zeroCells,size_zeroCells]
  simp
  omega
def XF (a b:List Int):Fin 3→Int
 | 0=>0
 | 1=>(a.length:Int)
 | 2=>((a.length + b.length:Nat):Int)
def aj (a b:List Int):Fin 3→List D
 | 0=>[]
 | 1=>a.map (D.int .i64)
 | 2=>(a++b).map (D.int .i64)
theorem bJ (a b:List Int) (ha:a.length≤200000) (hb:b.length≤200000) :
 Aj Tryz.prog 201 [.d (.list 1 [F.ints a,F.ints b])] (.d (F.ints (a++b))):=by
 have w1:IntKind.i64.wrap (XF a b 0 + (((a.map (D.int .i64)).length:Nat):Int)) = XF a b 1:=by
  show IntKind.i64.wrap (0 + (((a.map (D.int .i64)).length:Nat):Int)) = (a.length:Int)
  rw [List.length_map,F.wrap_small (by omega) (by omega)]; omega
 have w2:IntKind.i64.wrap (XF a b 1 + (((b.map (D.int .i64)).length:Nat):Int)) = XF a b 2:=by
  show IntKind.i64.wrap ((a.length:Int) + (((b.map (D.int .i64)).length:Nat):Int)) = ((a.length + b.length:Nat):Int)
  rw [List.length_map,F.wrap_small (by omega) (by omega)]; omega
 refine BS Tryz.func201 (by kernel_rfl) ?_
 conv=>whnf
 refine loop (Fin 3) (fun k=>BB 36 [(0,.d (.list 1 [F.ints a,F.ints b])),(3,.d (.int .i64 (XF a b k))),(9,.d (.list 1 [F.ints a,F.ints b])),(10,.d (.int .i64 2)),(11,.d (.int .i64 (k.val:Int)))] []) (fun k=>2 - k.val) 0 ?_ fun k=>?_
 ·refine QM ?_
  conv=>whnf
  repeat (first | exact trivial | refine And.intro (by first | with_reducible rfl | exact .inl rfl | (rw [next (by first | omega | (simp only; omega))]) | rfl) ?_)
 match k with
 | 0 =>
   conv=>whnf
   refine ⟨⟨by decide,_,rfl,?_⟩⟩
   conv=>whnf
   refine br (fun h=>?_) (fun h=>?_)
   ·exact absurd (of_decide_eq_true h) (by show ¬ (IntKind.i64.wrap (XF a b 0 + (((a.map (D.int .i64)).length:Nat):Int)) < 0); rw [w1]; show ¬ ((a.length:Int) < 0); omega)
   conv=>whnf
   refine ⟨1,?_,by decide⟩
   refine QM ?_
   conv=>whnf
   repeat (first | exact trivial | refine And.intro (by first | with_reducible rfl | rfl | rw [w1]) ?_)
 | 1 =>
   conv=>whnf
   refine ⟨⟨by decide,_,rfl,?_⟩⟩
   conv=>whnf
   refine br (fun h=>?_) (fun h=>?_)
   ·exact absurd (of_decide_eq_true h) (by show ¬ (IntKind.i64.wrap (XF a b 1 + (((b.map (D.int .i64)).length:Nat):Int)) < 0); rw [w2]; show ¬ (((a.length + b.length:Nat):Int) < 0); omega)
   conv=>whnf
   refine ⟨2,?_,by decide⟩
   refine QM ?_
   conv=>whnf
   repeat (first | exact trivial | refine And.intro (by first | with_reducible rfl | rfl | rw [w2]) ?_)
 | 2 =>
   conv=>whnf
   refine dD (dL (a.length + b.length) (by omega)) ?_
   conv=>whnf
   refine loop (Fin 3) (fun k=>BB 36 [(6,.sl 24 1),(25,.d (.list 1 [F.ints a,F.ints b])),(26,.d (.int .i64 2)),(27,.d (.int .i64 (k.val:Int)))] [(24,.row 1 3 (aj a b k),1)]) (fun k=>2 - k.val) 0 ?_ fun k=>?_
   ·refine QM ?_
    conv=>whnf
    repeat (first | exact trivial | refine And.intro (by first | with_reducible rfl | exact .inl rfl | (rw [next (by first | omega | (simp only; omega))]) | rfl) ?_)
   match k with
   | 0 =>
     conv=>whnf
     refine ⟨⟨by decide,_,rfl,?_⟩⟩
     conv=>whnf
     refine ⟨by rw [F.bytes_int]; simp only [aj,List.length_map,List.length_nil]; exact ⟨by unfold maxLen; omega,by omega,.inr (by kernel_rfl)⟩,?_⟩
     conv=>whnf
     refine ⟨1,?_,by decide⟩
     refine QM ?_
     conv=>whnf
     repeat (first | exact trivial | refine And.intro (by first | with_reducible rfl | exact .inl rfl | (rw [next (by first | omega | (simp only; omega))]) | rfl) ?_)
   | 1 =>
     conv=>whnf
     refine ⟨⟨by decide,_,rfl,?_⟩⟩
     conv=>whnf
     refine ⟨by rw [F.bytes_int]; simp only [aj,List.length_map,List.length_nil]; exact ⟨by unfold maxLen; omega,by omega,.inr (by kernel_rfl)⟩,?_⟩
     conv=>whnf
     refine ⟨2,?_,by decide⟩
     refine QM ?_
     conv=>whnf
     repeat (first | exact trivial | refine And.intro (by first | with_reducible rfl | rfl | (simp only [aj,List.map_append]; done) | (simp only [aj,List.map_append]; rfl)) ?_)
   | 2 =>
     conv=>whnf
     refine ⟨.inl ?_⟩
     exact z54
theorem eE (xs:List Int) (h:xs.length≤400000):Aj Tryz.prog 200 [.d (F.ints xs)] (.d (F.ints (F.setI xs))):=by
 refine BS Tryz.func200 (by kernel_rfl) ?_
 conv=>whnf
 refine Av (F.clone xs (by omega)) ?_
 conv=>whnf
 refine E5 (F.sortC xs (by omega)) ?_
 conv=>whnf
 refine E5 (F.compactC (Ex xs) (by have:=Go.Abs.length_sortI xs; omega)) ?_
 rw [show Go.Lib.compact (Ex xs) = F.setI xs from rfl]
 conv=>whnf
 refine ⟨.inl ?_⟩
 exact z54
theorem Cy (p0 p1:List Int) (R:List Int) (hF:Es p0 p1 = some R):Aj Tryz.prog 121 [.d (Ah 1 (D.int .i64) p0),.d (Ah 1 (D.int .i64) p1)] (.d (Ah 1 (D.int .i64) R)):=by
 obtain ⟨hr,hF⟩:=Dm hF
 obtain rfl:=Option.some.inj hF
 obtain ⟨h1,h2⟩:=of_decide_eq_true hr
 rw [F.setU_eq]
 refine BS Tryz.func121 (by kernel_rfl) ?_
 conv=>whnf
 refine Av (bJ p0 p1 (by omega) (by omega)) ?_
 conv=>whnf
 refine Av (eE (p0++p1) (by rw [List.length_append]; omega)) ?_
 exact z54
theorem Dp (p0 p1:Int) (R:AI × Int) (hF:Ca p0 p1 = some R):Aj Tryz.prog 102 [.d (.int .i64 p0),.d (.int .i64 p1)] (.tup [.d (Cf R.1),.d (.int .i64 R.2)]):=by
 unfold Ca at hF
 obtain ⟨hr,hF⟩:=Dm hF
 obtain ⟨k0,k1⟩:=Bool.and_eq_true_iff.1 hr
 have k0:=of_decide_eq_true k0
 have k1:=of_decide_eq_true k1
 cases hz:(p1==0) with
 | true =>
   have hz':=eq_of_beq hz
   subst hz'
   rw [hz] at hF
   obtain rfl:=Option.some.inj hF
   refine BS Tryz.func102 (by kernel_rfl) ?_
   exact z54
 | false =>
   rw [hz] at hF
   obtain rfl:=Option.some.inj hF
   exact F.of_ p0 p1 (by intro h; rw [h] at hz; cases hz) k0 k1
theorem Yr (p0 p1:Int) (R:AI × Int) (hF:Ri p0 p1 = some R):Aj Tryz.prog 11 [.d (.int .i64 p0),.d (.int .i64 p1)] (.tup [.d (Cf R.1),.d (.int .i64 R.2)]):=by
 unfold Ri Ca at hF
 obtain ⟨hr,hF⟩:=Dm hF
 obtain ⟨k0,k1⟩:=Bool.and_eq_true_iff.1 hr
 have k0:=of_decide_eq_true k0
 have k1:=of_decide_eq_true k1
 cases hz:(p1==0) with
 | true =>
   have hz':=eq_of_beq hz
   subst hz'
   rw [hz] at hF
   obtain rfl:=Option.some.inj hF
   refine BS Tryz.func11 (by kernel_rfl) ?_
   exact z54
 | false =>
   rw [hz] at hF
   obtain rfl:=Option.some.inj hF
   exact F.rOf p0 p1 (by intro h; rw [h] at hz; cases hz) k0 k1
theorem Ze {p:AI} (h:d3 p = true):F.VF (p.Num,p.Den):=by
 have h2:=of_decide_eq_true h
 exact h2
theorem NU (p0 p1:AI) (R:AI × Int) (hF:QI p0 p1 = some R):Aj Tryz.prog 119 [.d (Cf p0),.d (Cf p1)] (.tup [.d (Cf R.1),.d (.int .i64 R.2)]):=by
 obtain ⟨hr,hF⟩:=Dm hF
 obtain rfl:=Option.some.inj hF
 obtain ⟨k0,k1⟩:=Bool.and_eq_true_iff.1 hr
 exact F.mul_ (p0.Num,p0.Den) (p1.Num,p1.Den) (Ze k0) (Ze k1)
theorem ao (p q:Int × Int) (hp:F.VF p) (hq:F.VF q) (f:FuncId) (op:Int→Int→Int) (hop:∀ a b,Aj Tryz.prog f [.d (F.W a),.d (F.W b)] (.d (F.W (op a b))))
 (hb:-F.B127 < op (p.1 * q.2) (p.2 * q.1)∧op (p.1 * q.2) (p.2 * q.1) < F.B127) :
 Aj Tryz.prog 194 [.d (F.frD p),.d (F.frD q),.d (.fn f [])]
 (.tup [.d (F.frD (F.redF (op (p.1 * q.2) (p.2 * q.1)) (p.2 * q.2).toNat)),.d (.int .i64 (F.redE (op (p.1 * q.2) (p.2 * q.1)) (p.2 * q.2).toNat))]):=by
 have vp:=F.valid_ p hp
 have vq:=F.valid_ q hq
 obtain ⟨a,b⟩:=p
 obtain ⟨c,d⟩:=q
 have hB:F.B127 = 170141183460469231731687303715884105728:=rfl
 obtain ⟨⟨h1,h2⟩,h3,_⟩:=hp
 obtain ⟨⟨k1,k2⟩,k3,_⟩:=hq
 simp only at h1 h2 h3 k1 k2 k3 hb
 have hbd:=F.prod_bound (a:=b) (b:=d) (by omega) (by omega)
 have hbd0:0 < b * d:=Int.mul_pos (by omega) (by omega)
 have hred:=F.reduced_ (op (a * d) (b * c)) (b * d) (by omega) hb (by omega)
 rw [show F.nn (op (a * d) (b * c)) (b * d) = op (a * d) (b * c) from if_neg (by omega),show (b * d).natAbs = (b * d).toNat by omega] at hred
 have hcr:Aj Tryz.prog 199 [.d (F.frD (a,b)),.d (F.frD (c,d))] (.tup [.d (F.W (a * d)),.d (F.W (b * c))]):=by
  refine BS Tryz.func199 (by kernel_rfl) ?_
  conv=>whnf
  refine ⟨⟨by decide +kernel,by kernel_rfl⟩,?_⟩
  conv=>whnf
  refine Av (F.whole_ a (by omega) (by omega)) ?_
  conv=>whnf
  refine Av (F.whole_ d (by omega) (by omega)) ?_
  conv=>whnf
  refine Av (F.times_ a d) ?_
  conv=>whnf
  refine Av (F.whole_ c (by omega) (by omega)) ?_
  conv=>whnf
  refine Av (F.whole_ b (by omega) (by omega)) ?_
  conv=>whnf
  refine Av (F.times_ c b) ?_
  rw [Int.mul_comm c b]
  exact z54
 refine BS Tryz.func194 (by kernel_rfl) ?_
 conv=>whnf
 refine Av vp ?_
 conv=>whnf
 refine Av vq ?_
 conv=>whnf
 refine ⟨⟨by decide +kernel,by kernel_rfl⟩,?_⟩
 conv=>whnf
 refine Av hcr ?_
 conv=>whnf
 refine Av (hop (a * d) (b * c)) ?_
 conv=>whnf
 refine Av (F.whole_ b (by omega) (by omega)) ?_
 conv=>whnf
 refine Av (F.whole_ d (by omega) (by omega)) ?_
 conv=>whnf
 refine Av (F.times_ b d) ?_
 conv=>whnf
 refine Av hred ?_
 generalize F.redF (op (a * d) (b * c)) (b * d).toNat = r
 generalize F.redE (op (a * d) (b * c)) (b * d).toNat = e
 obtain ⟨r1,r2⟩:=r
 exact z54
theorem NV (p0 p1:AI) (R:AI × Int) (hF:JC p0 p1 = some R):Aj Tryz.prog 118 [.d (Cf p0),.d (Cf p1)] (.tup [.d (Cf R.1),.d (.int .i64 R.2)]):=by
 obtain ⟨hr,hF⟩:=Dm hF
 obtain rfl:=Option.some.inj hF
 obtain ⟨k0,k1⟩:=Bool.and_eq_true_iff.1 hr
 have v0:=Ze k0
 have v1:=Ze k1
 have hc:=ao (p0.Num,p0.Den) (p1.Num,p1.Den) v0 v1 196 (fun a b=>a - b) F.minus_ (by
  obtain ⟨⟨h1,h2⟩,h3,_⟩:=v0
  obtain ⟨⟨k1,k2⟩,k3,_⟩:=v1
  simp only at h1 h2 h3 k1 k2 k3 ⊢
  have e1:=F.prod_bound (a:=p0.Num) (b:=p1.Den) h3 (by omega)
  have e2:=F.prod_bound (a:=p0.Den) (b:=p1.Num) (by omega) k3
  have hB:F.B127 = 170141183460469231731687303715884105728:=rfl
  omega)
 rw [Int.mul_comm p0.Den p1.Num] at hc
 simp only at hc
 rw [show p0.Den * p1.Den = p0.Den * p1.Den from rfl] at hc
 refine BS Tryz.func118 (by kernel_rfl) ?_
 conv=>whnf
 refine Av hc ?_
 unfold Xq
 generalize F.redF (p0.Num * p1.Den - p1.Num * p0.Den) (p0.Den * p1.Den).toNat = r
 generalize F.redE (p0.Num * p1.Den - p1.Num * p0.Den) (p0.Den * p1.Den).toNat = e
 obtain ⟨r1,r2⟩:=r
 exact z54
theorem NS (p0 p1:AI) (R:AI × Int) (hF:QG p0 p1 = some R):Aj Tryz.prog 117 [.d (Cf p0),.d (Cf p1)] (.tup [.d (Cf R.1),.d (.int .i64 R.2)]):=by cases hF
theorem NT (p0 p1:AI) (R:AI × Int) (hF:QH p0 p1 = some R):Aj Tryz.prog 120 [.d (Cf p0),.d (Cf p1)] (.tup [.d (Cf R.1),.d (.int .i64 R.2)]):=by cases hF
end Go.Proofs.YtjgeigjjfcnojaaGreatDoor.P
