/- FB -/
import Derived.Test.YtejfnieiaecpkaaGreatDoorFA
import Derived.Test.YtejfnieiaecpkaaGreatDoorLaid
set_option linter.unusedVariables false
set_option linter.unusedSimpArgs false
namespace Go.Proofs.YtejfnieiaecpkaaGreatDoor.P.F
open Go.Abs Go.Proofs
set_option maxRecDepth 10000
theorem fT (x y c:Int) (hx:0≤x) (hy:0≤y) (hx2:x < 18446744073709551616) (hy2:y < 18446744073709551616) (hc:c = 0∨c = 1) :
 aY Tryz.prog 288 [.d (.int .u64 x),.d (.int .u64 y),.d (.int .u64 c)] (.tup [.d (.int .u64 ((x - y - c) % 18446744073709551616)),.d (.int .u64 (if x < y + c then 1 else 0))]):=by
 intro O w vs hlen hargs
 obtain ⟨v0,v1,v2,rfl⟩:∃ v0 v1 v2,vs = #[v0,v1,v2]:=by
  obtain ⟨l⟩:=vs
  match l,hlen with
  | [v0,v1,v2],_=>exact ⟨v0,v1,v2,rfl⟩
 have e0:=Cf (hargs 0 v0 _ rfl rfl)
 have e1:=Cf (hargs 1 v1 _ rfl rfl)
 have e2:=Cf (hargs 2 v2 _ rfl rfl)
 subst e0; subst e1; subst e2
 obtain ⟨x',rfl⟩:∃ n:Nat,x = n:=⟨x.toNat,by omega⟩
 obtain ⟨y',rfl⟩:∃ n:Nat,y = n:=⟨y.toNat,by omega⟩
 obtain ⟨c',rfl⟩:∃ n:Nat,c = n:=⟨c.toNat,by omega⟩
 refine ⟨.tuple #[.int .u64 (((x' + 18446744073709551616 - y' - c') % 18446744073709551616:Nat):Int),.int .u64 ((if x' < y' + c' then 1 else 0:Nat):Int)],?_,?_⟩
 ·rw [run_callFunc_extern Tryz.func288 (by kernel_rfl) (by kernel_rfl) (by kernel_rfl) (e:=sub64Entry) (by kernel_rfl),run_sub64 x' y' c' (by omega)]
  rfl
 ·have f1:(((x' + 18446744073709551616 - y' - c') % 18446744073709551616:Nat):Int) = ((x':Int) - y' - c') % 18446744073709551616:=by omega
  have f2:((if x' < y' + c' then 1 else 0:Nat):Int) = if (x':Int) < y' + c' then 1 else 0:=by split <;> split <;> omega
  rw [f1,f2]
  refine ⟨_,rfl,rfl,fun i u x hu hx=>?_,fun i j u u' sz e ys sz' e' ys' b h1 h2 h3=>?_⟩
  ·match i,hu,hx with
   | 0,hu,hx=>simp at hu hx; subst hu; subst hx; exact .int _ _
   | 1,hu,hx=>simp at hu hx; subst hu; subst hx; exact .int _ _
   | i + 2,hu,hx=>simp at hu
  ·match i,h3 with
   | 0,h3=>simp at h3
   | 1,h3=>simp at h3
   | i + 2,h3=>simp at h3
theorem W3 (n:Int) (h0:-9223372036854775808≤n) (h1:n≤9223372036854775807):Aj Tryz.prog 196 [.d (.int .i64 n)] (.d (W n)):=by
 refine Co Tryz.func196 (by kernel_rfl) ?_
 conv=>whnf
 refine br (fun h=>?_) (fun h=>?_)
 ·have h:=of_decide_eq_true h
  conv=>whnf
  exact ⟨congrArg AV.d (Na (by unfold Hi; omega) (by rw [HY]; rfl))⟩
 ·have h:=of_decide_eq_false h
  conv=>whnf
  exact ⟨congrArg AV.d (Na (by unfold Hi; omega) (by rw [HY]; rfl))⟩
theorem UG (a b:Int):Aj Tryz.prog 255 [.d (W a),.d (W b)] (.d (W (a - b))):=by
 refine Co Tryz.func255 (by kernel_rfl) ?_
 have ha:=Pu a
 have hb:=Pu b
 conv=>whnf
 refine bX (fT (Lo a) (Lo b) 0 (by omega) (by omega) (by omega) (by omega) (.inl rfl)) ?_
 conv=>whnf
 refine bX (fT (Hi a) (Hi b) (if Lo a < Lo b + 0 then 1 else 0) (by omega) (by omega) (by omega) (by omega) (by split <;> simp)) ?_
 conv=>whnf
 refine ⟨?_⟩
 refine congrArg AV.d (Na ?_ ?_)
 ·unfold Hi Lo; split <;> omega
 ·unfold Lo; omega
theorem dY (a b:Int):Aj Tryz.prog 198 [.d (W a),.d (W b)] (.d (W (a * b))):=by
 refine Co Tryz.func198 (by kernel_rfl) ?_
 have ha:=Pu a
 have hb:=Pu b
 conv=>whnf
 refine Au (dN (Lo a) (Lo b) (by omega) (by omega) (by omega) (by omega)) ?_
 conv=>whnf
 refine ⟨?_⟩
 have hab:a * b = 18446744073709551616 * (18446744073709551616 * ((a / 18446744073709551616) * (b / 18446744073709551616)) + (a / 18446744073709551616) * Lo b + Lo a * (b / 18446744073709551616)) + Lo a * Lo b:=by
  have h1:a = 18446744073709551616 * (a / 18446744073709551616) + Lo a:=by unfold Lo; omega
  have h2:b = 18446744073709551616 * (b / 18446744073709551616) + Lo b:=by unfold Lo; omega
  have:∀ A x B y:Int,(18446744073709551616 * A + x) * (18446744073709551616 * B + y) = 18446744073709551616 * (18446744073709551616 * (A * B) + A * y + x * B) + x * y:=by intro A x B y; grind
  have h3:=this (a / 18446744073709551616) (Lo a) (b / 18446744073709551616) (Lo b)
  rw [← h1,← h2] at h3
  exact h3
 refine congrArg AV.d (Na ?_ ?_)
 ·rw [HY,HY,HY,HY]
  have e1:Hi a * Lo b % 18446744073709551616 = (a / 18446744073709551616) * Lo b % 18446744073709551616:=by unfold Hi; rw [Int.mul_emod,Int.emod_emod,← Int.mul_emod]
  have e2:Lo a * Hi b % 18446744073709551616 = Lo a * (b / 18446744073709551616) % 18446744073709551616:=by unfold Hi; rw [Int.mul_emod,Int.emod_emod,← Int.mul_emod]
  rw [e1,e2]
  have e3:Hi (a * b) = (18446744073709551616 * ((a / 18446744073709551616) * (b / 18446744073709551616)) + (a / 18446744073709551616) * Lo b + Lo a * (b / 18446744073709551616) + Lo a * Lo b / 18446744073709551616) % 18446744073709551616:=by
   unfold Hi
   rw [hab]
   congr 1
   omega
  rw [e3]
  generalize (a / 18446744073709551616) * (b / 18446744073709551616) = p
  exact z59
 ·unfold Lo
  rw [← Int.mul_emod]
theorem PQ (z:Int) (h0:-Ek≤z) (h1:z < Ek):Aj Tryz.prog 254 [.d (W z)] (.d (.bool (decide (z < 0)))):=by
 unfold Ek at h0 h1
 refine Co Tryz.func254 (by kernel_rfl) ?_
 have e:(Hi z).fdiv (2 ^ min (Int.toNat 63) IntKind.u64.bits) = Hi z / 9223372036854775808:=T7 _ 63
 conv=>whnf
 refine ⟨by omega,?_⟩
 rw [e]
 conv=>whnf
 refine ⟨?_⟩
 have:(Hi z / 9223372036854775808==1) = decide (z < 0):=by
  rw [Bool.eq_iff_iff,beq_iff_eq,decide_eq_true_iff]
  unfold Hi
  omega
 rw [this]; rfl
theorem iS (x:Nat) (hx:(x:Int) < Ek):Aj Tryz.prog 289 [.d (W x)] (.d (.bool (decide (x = 0)))):=by
 refine Co Tryz.func289 (by kernel_rfl) ?_
 conv=>whnf
 refine ⟨⟨by kernel_rfl,by kernel_rfl⟩,?_⟩
 conv=>whnf
 refine ⟨by kernel_rfl,?_⟩
 conv=>whnf
 refine ⟨?_⟩
 have:(Hi x==0 && (Lo x==0 && true)) = decide (x = 0):=by
  rw [Bool.eq_iff_iff,decide_eq_true_iff,← Vi x hx]
  simp
 rw [this]; rfl
theorem hU (z:Int) (h0:-Ek≤z) (h1:z < Ek):Aj Tryz.prog 256 [.d (W z)] (.d (W (z.natAbs:Int))):=by
 refine Co Tryz.func256 (by kernel_rfl) ?_
 conv=>whnf
 refine Au (PQ z h0 h1) ?_
 by_cases h:z < 0
 ·rw [decide_eq_true h,show ((z.natAbs:Nat):Int) = 0 - z by omega]
  conv=>whnf
  refine Au (UG 0 z) ?_
  exact z54
 ·rw [decide_eq_false h,show ((z.natAbs:Nat):Int) = z by omega]
  exact z54
theorem SK (x y:Nat) (hx:x < 340282366920938463463374607431768211456) (hy:y < 340282366920938463463374607431768211456):Aj Tryz.prog 259 [.d (W x),.d (W y)] (.d (.bool (decide (x < y)))):=by
 refine Co Tryz.func259 (by kernel_rfl) ?_
 have hxx:(x:Int) = 18446744073709551616 * Hi x + Lo x:=by unfold Hi Lo; omega
 have hyy:(y:Int) = 18446744073709551616 * Hi y + Lo y:=by unfold Hi Lo; omega
 have hbx:=Pu x
 have hby:=Pu y
 conv=>whnf
 refine ⟨?_⟩
 have:(bif decide (Hi x < Hi y) then true else bif Hi x==Hi y then decide (Lo x < Lo y) else false) = decide (x < y):=by
  rw [Bool.eq_iff_iff,decide_eq_true_iff]
  by_cases q:Hi x < Hi y
  ·simp [q]; omega
  ·by_cases q2:Hi x = Hi y
   ·simp [q2]; omega
   ·simp [q,q2]; omega
 rw [← this]; rfl
theorem ak (x:Nat):Aj Tryz.prog 290 [.d (W x)] (.d (W ((2 * x:Nat):Int))):=by
 refine Co Tryz.func290 (by kernel_rfl) ?_
 conv=>whnf
 refine ⟨by omega,?_⟩
 conv=>whnf
 refine ⟨by omega,?_⟩
 conv=>whnf
 refine ⟨by omega,?_⟩
 have e1:∀ a:Int,IntKind.u64.wrap (a * 2 ^ (min (Int.toNat 1) IntKind.u64.bits)) = a * ((2 ^ 1:Nat):Int) % 18446744073709551616:=fun a=>eL a 1 (by omega)
 have e2:∀ a:Int,a.fdiv (2 ^ (min (Int.toNat 63) IntKind.u64.bits)) = a / ((2 ^ 63:Nat):Int):=fun a=>aF a 63 (by omega)
 rw [e1,e1,e2]
 conv=>whnf
 refine ⟨?_⟩
 have hx2:(2 * x:Nat) = x * 2 ^ 1:=by omega
 rw [hx2]
 refine congrArg AV.d (Na ?_ ?_)
 ·rw [jy,eG x,Yt x,eG (x * 2 ^ 1),← bP x 1 (by omega),XB,Xn _ _ (Nat.mod_lt _ (by omega))]
 ·rw [Yt,Yt]; omega
end Go.Proofs.YtejfnieiaecpkaaGreatDoor.P.F
namespace Go.Proofs.YtejfnieiaecpkaaGreatDoor.P.F
open Go.Abs Go.Proofs
set_option maxRecDepth 10000
theorem iH (n b:Nat) (hb:b≤1):(2 * n) ||| b = 2 * n + b:=by
 have:=fz 1 n b (by omega)
 rw [Nat.pow_one] at this
 exact this
theorem ib (x:Int) (h0:0≤x) (h1:x < 18446744073709551616):IntKind.u64.wrap ((BitVec.ofInt IntKind.u64.bits x &&& BitVec.ofInt IntKind.u64.bits 1).toNat:Int) = x % 2:=by
 rw [iB]
 have:((x % 18446744073709551616).toNat &&& ((1:Int) % 18446744073709551616).toNat) = (x % 18446744073709551616).toNat % 2 ^ 1:=Nat.and_two_pow_sub_one_eq_mod _ 1
 rw [this]; omega
theorem Tx (n:Nat) (b:Int) (hb:b = 0∨b = 1):IntKind.u64.wrap ((BitVec.ofInt IntKind.u64.bits (Lo ((2 * n:Nat):Int)) ||| BitVec.ofInt IntKind.u64.bits b).toNat:Int) = Lo (((2 * n:Nat):Int) + b)∧Hi (((2 * n:Nat):Int) + b) = Hi ((2 * n:Nat):Int):=by
 rw [jy,Yt]
 have e:((((2 * n % 18446744073709551616:Nat):Int) % 18446744073709551616).toNat ||| (b % 18446744073709551616).toNat) = 2 * (n % 9223372036854775808) + b.toNat:=by
  rw [show (((2 * n % 18446744073709551616:Nat):Int) % 18446744073709551616).toNat = 2 * (n % 9223372036854775808) by omega,show (b % 18446744073709551616).toNat = b.toNat by omega]
  exact iH _ _ (by omega)
 rw [e]
 unfold Lo Hi
 omega
set_option maxHeartbeats 1000000 in
theorem YA (a b:Nat) (hb0:0 < b) (ha2:(a:Int) < Ek) (hb2:(b:Int) < Ek) :
 Aj Tryz.prog 258 [.d (W a),.d (W b)] (.tup [.d (W ((a / b:Nat):Int)),.d (W ((a % b:Nat):Int))]):=by
 have hB:Ek = 170141183460469231731687303715884105728:=rfl
 refine Co Tryz.func258 (by kernel_rfl) ?_
 conv=>whnf
 refine loop {s:Int × Nat × Nat // (-1≤s.1∧s.1≤127)∧s.2.1 = a / 2 ^ (s.1 + 1).toNat / b∧s.2.2 = a / 2 ^ (s.1 + 1).toNat % b} (fun s=>B8 51 [(2,.ptr 2 1 0),(3,.ptr 3 1 0),(4,.ptr 4 1 0),(5,.ptr 5 1 0),(6,.ptr 6 1 0),(7,.ptr 7 1 0),(8,.d (.int .i64 s.1.1))]
  [(2,.var [.d (.int .u64 (Hi a)),.d (.int .u64 (Lo a))],1),(3,.var [.d (.int .u64 (Hi b)),.d (.int .u64 (Lo b))],1),(4,.var [.d (.int .u64 0),.d (.int .u64 0)],1),(5,.var [.d (.int .u64 0),.d (.int .u64 0)],1),
   (6,.var [.d (.int .u64 (Hi s.1.2.1)),.d (.int .u64 (Lo s.1.2.1))],1),(7,.var [.d (.int .u64 (Hi s.1.2.2)),.d (.int .u64 (Lo s.1.2.2))],1)]) (fun s=>(s.1.1 + 1).toNat) ⟨(127,0,0),by simp only; omega,?_,?_⟩ ?_ fun s=>?_
 ·show 0 = a / 2 ^ 128 / b
  rw [Nat.div_eq_of_lt (show a < 2 ^ 128 by omega),Nat.zero_div]
 ·show 0 = a / 2 ^ 128 % b
  rw [Nat.div_eq_of_lt (show a < 2 ^ 128 by omega),Nat.zero_mod]
 ·have z1:Hi ((0:Nat):Int) = 0:=by decide
  have z2:Lo ((0:Nat):Int) = 0:=by decide
  refine Nv ?_
  conv=>whnf
  repeat (first | exact trivial | refine And.intro (by first | with_reducible rfl | (simp only [z1,z2]; done) | (rw [z1]) | (rw [z2]) | rfl) ?_)
 obtain ⟨⟨i,q,r⟩,⟨hi0,hi1⟩,hq,hr⟩:=s
 simp only at hi0 hi1 hq hr
 conv=>whnf
 refine br (fun h=>?_) (fun h=>?_)
 ·have hk:i ≥ 0:=of_decide_eq_true h
  obtain ⟨j,rfl⟩:∃ j:Nat,i = j:=⟨i.toNat,by omega⟩
  rw [show ((j:Int) + 1).toNat = j + 1 by omega] at hq hr
  have e3:IntKind.i64.wrap ((j:Int) - 1) = (j:Int) - 1:=A0 (by omega) (by omega)
  have hrb:r < b:=by rw [hr]; exact Nat.mod_lt _ hb0
  have hA:a / 2 ^ j = 2 * (a / 2 ^ (j + 1)) + a / 2 ^ j % 2:=by rw [Nat.pow_succ,← Nat.div_div_eq_div_mul]; omega
  have hAr:a / 2 ^ (j + 1) = b * q + r:=by rw [hq,hr]; exact (Nat.div_add_mod _ _).symm
  have hbit:∃ t:Nat,t = a / 2 ^ j % 2∧t≤1:=⟨_,rfl,by omega⟩
  obtain ⟨t,ht,ht1⟩:=hbit
  rw [← ht] at hA
  have hqa:q≤a:=by rw [hq]; exact Nat.le_trans (Nat.div_le_self _ _) (Nat.div_le_self _ _)
  conv=>whnf
  refine Au (ak r) ?_
  have e4:(j:Int).tmod 64 = ((j % 64:Nat):Int):=by rw [Int.tmod_eq_emod_of_nonneg (by omega)]; omega
  conv=>whnf
  refine ⟨by omega,?_⟩
  rw [e4]
  obtain ⟨d,hd⟩:∃ d:Nat,(j % 64:Nat) = d∧d < 64:=⟨j % 64,rfl,by omega⟩
  have w1:IntKind.u64.wrap ((j % 64:Nat):Int) = ((j % 64:Nat):Int):=by rw [HY]; omega
  have w2:IntKind.u64.wrap (j:Int) = (j:Int):=by rw [HY]; omega
  have hHi:=eG a
  have hLo:=Yt a
  have hj1:((j:Int) - 1 + 1).toNat = j:=by omega
  have hA2:a / 2 ^ j = b * (2 * q) + (2 * r + t):=by rw [hA,hAr]; grind
  have hA3:b≤2 * r + t→a / 2 ^ j = b * (2 * q + 1) + (2 * r + t - b):=fun h=>by rw [hA2,Nat.mul_add,Nat.mul_one]; omega
  have pj:=Nat.two_pow_pos j
  have b1:64≤j→((a / 18446744073709551616 % 18446744073709551616:Nat):Int) / ((2 ^ (j % 64):Nat):Int) % 2 = (t:Int):=fun h=>by
   rw [Nat.mod_eq_of_lt (show a / 18446744073709551616 < 18446744073709551616 by omega),← Int.natCast_ediv,Nat.div_div_eq_div_mul,show 18446744073709551616 * 2 ^ (j % 64) = 2 ^ j from by rw [show (18446744073709551616:Nat) = 2 ^ 64 from rfl,← Nat.pow_add]; congr 1; omega]
   omega
  have b2:j < 64→((a % 18446744073709551616:Nat):Int) / ((2 ^ j:Nat):Int) % 2 = (t:Int):=fun h=>by
   rw [← Int.natCast_ediv]
   have h1:=jb a (2 ^ j) (2 ^ (64 - j)) 18446744073709551616 (SY (by omega)) pj
   have h2:2 ^ (64 - j) = 2 * 2 ^ (63 - j):=by rw [show 64 - j = (63 - j) + 1 by omega,Nat.pow_succ,Nat.mul_comm]
   rw [h2,Nat.mul_assoc] at h1
   omega
  have hdl:∀ n:Nat,Hi a / ((n:Nat):Int) < 18446744073709551616∧0≤Hi a / ((n:Nat):Int):=fun n=>by
   have:=Nat.div_le_self (a / 18446744073709551616 % 18446744073709551616) n
   rw [hHi,← Int.natCast_ediv]
   generalize a / 18446744073709551616 % 18446744073709551616 / n = w at *
   omega
  have hdl2:∀ n:Nat,Lo a / ((n:Nat):Int) < 18446744073709551616∧0≤Lo a / ((n:Nat):Int):=fun n=>by
   have:=Nat.div_le_self (a % 18446744073709551616) n
   rw [hLo,← Int.natCast_ediv]
   generalize a % 18446744073709551616 / n = w at *
   omega
  conv=>whnf
  rw [w1]
  refine ⟨by omega,?_⟩
  rw [aF _ (j % 64) (by omega)]
  conv=>whnf
  rw [ib _ (hdl _).2 (hdl _).1]
  refine br (fun h=>?_) (fun h=>?_)
  ·have hj64:(j:Int) < 64:=of_decide_eq_true h
   conv=>whnf
   rw [w2]
   refine ⟨by omega,?_⟩
   rw [aF _ j (by omega)]
   conv=>whnf
   rw [ib _ (hdl2 _).2 (hdl2 _).1,hLo,b2 (by omega),← hLo]
   rw [(Tx r t (by omega)).1,← (Tx r t (by omega)).2,show ((2 * r:Nat):Int) + (t:Int) = ((2 * r + t:Nat):Int) from by omega]
   refine Au (ak q) ?_
   conv=>whnf
   refine Au (SK (2 * r + t) b (by omega) (by omega)) ?_
   by_cases hlt:2 * r + t < b
   ·rw [decide_eq_true hlt]
    conv=>whnf
    refine ⟨⟨((j:Int) - 1,2 * q,2 * r + t),⟨by simp only; omega,by simp only; omega⟩,?_,?_⟩,?_,by simp only; omega⟩
    ·simp only [hj1]
     rw [hA2,Nat.mul_add_div hb0,Nat.div_eq_of_lt hlt,Nat.add_zero]
    ·simp only [hj1]
     rw [hA2,Nat.mul_add_mod,Nat.mod_eq_of_lt hlt]
    ·refine Nv ?_
     conv=>whnf
     rw [e3]
     repeat (first | exact trivial | refine And.intro (by first | with_reducible rfl | exact .inl rfl | (rw [next (by first | omega | (simp only; omega))]) | rfl) ?_)
   ·rw [decide_eq_false hlt]
    conv=>whnf
    refine Au (UG ((2 * r + t:Nat):Int) b) ?_
    rw [show ((2 * r + t:Nat):Int) - (b:Int) = ((2 * r + t - b:Nat):Int) from by omega]
    conv=>whnf
    rw [(Tx q 1 (by omega)).1,← (Tx q 1 (by omega)).2,show ((2 * q:Nat):Int) + 1 = ((2 * q + 1:Nat):Int) from by omega]
    refine ⟨⟨((j:Int) - 1,2 * q + 1,2 * r + t - b),⟨by simp only; omega,by simp only; omega⟩,?_,?_⟩,?_,by simp only; omega⟩
    ·simp only [hj1]
     rw [hA3 (by omega),Nat.mul_add_div hb0,Nat.div_eq_of_lt (by omega),Nat.add_zero]
    ·simp only [hj1]
     rw [hA3 (by omega),Nat.mul_add_mod,Nat.mod_eq_of_lt (by omega)]
    ·refine Nv ?_
     conv=>whnf
     rw [e3]
     repeat (first | exact trivial | refine And.intro (by first | with_reducible rfl | exact .inl rfl | (rw [next (by first | omega | (simp only; omega))]) | rfl) ?_)
  ·have hj64:¬ (j:Int) < 64:=of_decide_eq_false h
   conv=>whnf
   rw [hHi,b1 (by omega),← hHi]
   rw [(Tx r t (by omega)).1,← (Tx r t (by omega)).2,show ((2 * r:Nat):Int) + (t:Int) = ((2 * r + t:Nat):Int) from by omega]
   refine Au (ak q) ?_
   conv=>whnf
   refine Au (SK (2 * r + t) b (by omega) (by omega)) ?_
   by_cases hlt:2 * r + t < b
   ·rw [decide_eq_true hlt]
    conv=>whnf
    refine ⟨⟨((j:Int) - 1,2 * q,2 * r + t),⟨by simp only; omega,by simp only; omega⟩,?_,?_⟩,?_,by simp only; omega⟩
    ·simp only [hj1]
     rw [hA2,Nat.mul_add_div hb0,Nat.div_eq_of_lt hlt,Nat.add_zero]
    ·simp only [hj1]
     rw [hA2,Nat.mul_add_mod,Nat.mod_eq_of_lt hlt]
    ·refine Nv ?_
     conv=>whnf
     rw [e3]
     repeat (first | exact trivial | refine And.intro (by first | with_reducible rfl | exact .inl rfl | (rw [next (by first | omega | (simp only; omega))]) | rfl) ?_)
   ·rw [decide_eq_false hlt]
    conv=>whnf
    refine Au (UG ((2 * r + t:Nat):Int) b) ?_
    rw [show ((2 * r + t:Nat):Int) - (b:Int) = ((2 * r + t - b:Nat):Int) from by omega]
    conv=>whnf
    rw [(Tx q 1 (by omega)).1,← (Tx q 1 (by omega)).2,show ((2 * q:Nat):Int) + 1 = ((2 * q + 1:Nat):Int) from by omega]
    refine ⟨⟨((j:Int) - 1,2 * q + 1,2 * r + t - b),⟨by simp only; omega,by simp only; omega⟩,?_,?_⟩,?_,by simp only; omega⟩
    ·simp only [hj1]
     rw [hA3 (by omega),Nat.mul_add_div hb0,Nat.div_eq_of_lt (by omega),Nat.add_zero]
    ·simp only [hj1]
     rw [hA3 (by omega),Nat.mul_add_mod,Nat.mod_eq_of_lt (by omega)]
    ·refine Nv ?_
     conv=>whnf
     rw [e3]
     repeat (first | exact trivial | refine And.intro (by first | with_reducible rfl | exact .inl rfl | (rw [next (by first | omega | (simp only; omega))]) | rfl) ?_)
 ·have hk:¬ i ≥ 0:=of_decide_eq_false h
  obtain rfl:i = -1:=by omega
  have e0:((-1:Int) + 1).toNat = 0:=rfl
  rw [e0,Nat.pow_zero,Nat.div_one] at hq hr
  subst hq; subst hr
  conv=>whnf
  refine ⟨⟨by decide +kernel,by kernel_rfl⟩,?_⟩
  exact z54
end Go.Proofs.YtejfnieiaecpkaaGreatDoor.P.F
namespace Go.Proofs.YtejfnieiaecpkaaGreatDoor.P.F
open Go.Abs Go.Proofs
set_option maxRecDepth 10000
theorem bi (a b:Nat) (ha2:(a:Int) < Ek) (hb2:(b:Int) < Ek):Aj Tryz.prog 257 [.d (W a),.d (W b)] (.d (W ((Nat.gcd a b:Nat):Int))):=by
 refine Co Tryz.func257 (by kernel_rfl) ?_
 generalize hg:Nat.gcd a b = g
 conv=>whnf
 refine loop {s:Nat × Nat // (s.1:Int) < Ek∧(s.2:Int) < Ek∧Nat.gcd s.1 s.2 = g} (fun s=>B8 19 [(2,.ptr 2 1 0),(3,.ptr 3 1 0),(4,.ptr 4 1 0)]
  [(2,.var [.d (.int .u64 (Hi s.1.1)),.d (.int .u64 (Lo s.1.1))],1),(3,.var [.d (.int .u64 (Hi s.1.2)),.d (.int .u64 (Lo s.1.2))],1),(4,.var [.d (.int .u64 0),.d (.int .u64 0)],1)]) (fun s=>s.1.2) ⟨(a,b),ha2,hb2,hg⟩ ?_ fun s=>?_
 ·refine Nv ?_
  conv=>whnf
  repeat (first | exact trivial | refine And.intro (by first | with_reducible rfl | exact .inl rfl | (rw [next (by first | omega | (simp only; omega))]) | rfl) ?_)
 obtain ⟨⟨x,y⟩,hx,hy,hxy⟩:=s
 simp only at hx hy hxy
 conv=>whnf
 refine Au (iS y hy) ?_
 by_cases h:y = 0
 ·rw [decide_eq_true h]
  subst h
  rw [Nat.gcd_zero_right] at hxy
  subst hxy
  exact z54
 ·rw [decide_eq_false h]
  have hlt:=Nat.mod_lt x (show y > 0 by omega)
  conv=>whnf
  refine Au (YA x y (by omega) hx hy) ?_
  generalize x / y = q
  have hm:Nat.gcd y (x % y) = g:=by rw [← hxy,Nat.gcd_comm y,← Nat.gcd_rec,Nat.gcd_comm]
  generalize x % y = r at hlt hm
  conv=>whnf
  refine ⟨⟨by decide +kernel,by kernel_rfl⟩,?_⟩
  conv=>whnf
  refine ⟨⟨(y,r),hy,by simp only; omega,hm⟩,?_,hlt⟩
  refine Nv ?_
  conv=>whnf
  repeat (first | exact trivial | refine And.intro (by first | with_reducible rfl | exact .inl rfl | (rw [next (by first | omega | (simp only; omega))]) | rfl) ?_)
set_option maxHeartbeats 1000000 in
theorem bv (num den:Int) (hd0:den≠0) (h1:-Ek < num∧num < Ek) (h2:-Ek < den∧den < Ek) :
 Aj Tryz.prog 195 [.d (W num),.d (W den)] (.tup [.d (cM (HJ (nn num den) den.natAbs)),.d (.int .i64 (O3 (nn num den) den.natAbs))]):=by
 have hB:Ek = 170141183460469231731687303715884105728:=rfl
 refine Co Tryz.func195 (by kernel_rfl) ?_
 conv=>whnf
 refine Au (PQ den (by omega) (by omega)) ?_
 by_cases hneg:den < 0
 ·rw [decide_eq_true hneg,show nn num den = -num from if_pos hneg]
  conv=>whnf
  refine ⟨⟨by decide +kernel,by kernel_rfl⟩,?_⟩
  conv=>whnf
  rw [Na (h:=0) (l:=0) (z:=0) (by decide) (by decide)]
  refine Au (UG 0 num) ?_
  conv=>whnf
  rw [Na (h:=0) (l:=0) (z:=0) (by decide) (by decide)]
  refine Au (UG 0 den) ?_
  obtain ⟨d,hd⟩:∃ d:Nat,0 - den = d:=⟨den.natAbs,by omega⟩
  rw [hd,show den.natAbs = d by omega,show 0 - num = -num by omega]
  unfold HJ O3 ZC
  conv=>whnf
  refine Au (hU (-num) (by omega) (by omega)) ?_
  conv=>whnf
  refine Au (bi d (-num).natAbs (by omega) (by omega)) ?_
  have hg0:0 < Nat.gcd d (-num).natAbs:=Nat.gcd_pos_of_pos_left _ (by omega)
  have hgd:Nat.gcd d (-num).natAbs≤d:=Nat.gcd_le_left _ (by omega)
  generalize Nat.gcd d (-num).natAbs = g at hg0 hgd ⊢
  have hna:=Nat.div_le_self (-num).natAbs g
  have hda:=Nat.div_le_self d g
  conv=>whnf
  refine Au (YA (-num).natAbs g hg0 (by omega) (by omega)) ?_
  conv=>whnf
  refine Au (YA d g hg0 (by omega) (by omega)) ?_
  generalize hn1:(-num).natAbs / g = n1 at *
  generalize hd1:d / g = d1 at *
  generalize (-num).natAbs % g = m1
  generalize d % g = m2
  conv=>whnf
  rw [Na (h:=0) (l:=1152921504606846976) (z:=((1152921504606846976:Nat):Int)) (by decide) (by decide)]
  refine Au (SK 1152921504606846976 n1 (by omega) (by omega)) ?_
  by_cases c1:((n1:Nat):Int)≤1152921504606846976
  ·rw [decide_eq_true c1,decide_eq_false (show ¬ 1152921504606846976 < n1 by omega)]
   conv=>whnf
   rw [Na (h:=0) (l:=1152921504606846976) (z:=((1152921504606846976:Nat):Int)) (by decide) (by decide)]
   refine Au (SK 1152921504606846976 d1 (by omega) (by omega)) ?_
   by_cases c2:((d1:Nat):Int)≤1152921504606846976
   ·rw [decide_eq_true c2,decide_eq_false (show ¬ 1152921504606846976 < d1 by omega)]
    have f1:IntKind.i64.wrap (Lo n1) = (n1:Int):=by rw [Yt,A0 (by omega) (by omega)]; omega
    have f2:IntKind.i64.wrap (Lo d1) = (d1:Int):=by rw [Yt,A0 (by omega) (by omega)]; omega
    conv=>whnf
    rw [f1,f2]
    refine Au (PQ (-num) (by omega) (by omega)) ?_
    by_cases hs:(-num) < 0
    ·rw [decide_eq_true hs,Int.sign_eq_neg_one_of_neg hs]
     have f3:IntKind.i64.wrap (0 - (n1:Int)) = (n1:Int) * -1:=by rw [A0 (by omega) (by omega)]; omega
     conv=>whnf
     refine ⟨?_⟩
     rw [f3]; rfl
    ·rw [decide_eq_false hs]
     have f3:(n1:Int) * (-num).sign = n1:=by
      rcases Int.lt_or_eq_of_le (show 0≤(-num) by omega) with h | h
      ·rw [Int.sign_eq_one_of_pos h,Int.mul_one]
      ·have:n1 = 0:=by rw [← hn1,← h]; simp
       rw [this]; simp
     rw [f3]
     exact z54
   ·rw [decide_eq_false c2,decide_eq_true (show 1152921504606846976 < d1 by omega)]
    exact z54
  ·rw [decide_eq_false c1,decide_eq_true (show 1152921504606846976 < n1 by omega)]
   exact z54
 ·rw [decide_eq_false hneg,show nn num den = num from if_neg hneg]
  obtain ⟨d,rfl⟩:∃ d:Nat,den = d:=⟨den.natAbs,by omega⟩
  rw [Int.natAbs_natCast]
  unfold HJ O3 ZC
  conv=>whnf
  refine Au (hU num (by omega) (by omega)) ?_
  conv=>whnf
  refine Au (bi d (num).natAbs (by omega) (by omega)) ?_
  have hg0:0 < Nat.gcd d (num).natAbs:=Nat.gcd_pos_of_pos_left _ (by omega)
  have hgd:Nat.gcd d (num).natAbs≤d:=Nat.gcd_le_left _ (by omega)
  generalize Nat.gcd d (num).natAbs = g at hg0 hgd ⊢
  have hna:=Nat.div_le_self (num).natAbs g
  have hda:=Nat.div_le_self d g
  conv=>whnf
  refine Au (YA (num).natAbs g hg0 (by omega) (by omega)) ?_
  conv=>whnf
  refine Au (YA d g hg0 (by omega) (by omega)) ?_
  generalize hn1:(num).natAbs / g = n1 at *
  generalize hd1:d / g = d1 at *
  generalize (num).natAbs % g = m1
  generalize d % g = m2
  conv=>whnf
  rw [Na (h:=0) (l:=1152921504606846976) (z:=((1152921504606846976:Nat):Int)) (by decide) (by decide)]
  refine Au (SK 1152921504606846976 n1 (by omega) (by omega)) ?_
  by_cases c1:((n1:Nat):Int)≤1152921504606846976
  ·rw [decide_eq_true c1,decide_eq_false (show ¬ 1152921504606846976 < n1 by omega)]
   conv=>whnf
   rw [Na (h:=0) (l:=1152921504606846976) (z:=((1152921504606846976:Nat):Int)) (by decide) (by decide)]
   refine Au (SK 1152921504606846976 d1 (by omega) (by omega)) ?_
   by_cases c2:((d1:Nat):Int)≤1152921504606846976
   ·rw [decide_eq_true c2,decide_eq_false (show ¬ 1152921504606846976 < d1 by omega)]
    have f1:IntKind.i64.wrap (Lo n1) = (n1:Int):=by rw [Yt,A0 (by omega) (by omega)]; omega
    have f2:IntKind.i64.wrap (Lo d1) = (d1:Int):=by rw [Yt,A0 (by omega) (by omega)]; omega
    conv=>whnf
    rw [f1,f2]
    refine Au (PQ num (by omega) (by omega)) ?_
    by_cases hs:num < 0
    ·rw [decide_eq_true hs,Int.sign_eq_neg_one_of_neg hs]
     have f3:IntKind.i64.wrap (0 - (n1:Int)) = (n1:Int) * -1:=by rw [A0 (by omega) (by omega)]; omega
     conv=>whnf
     refine ⟨?_⟩
     rw [f3]; rfl
    ·rw [decide_eq_false hs]
     have f3:(n1:Int) * (num).sign = n1:=by
      rcases Int.lt_or_eq_of_le (show 0≤num by omega) with h | h
      ·rw [Int.sign_eq_one_of_pos h,Int.mul_one]
      ·have:n1 = 0:=by rw [← hn1,← h]; simp
       rw [this]; simp
     rw [f3]
     exact z54
   ·rw [decide_eq_false c2,decide_eq_true (show 1152921504606846976 < d1 by omega)]
    exact z54
  ·rw [decide_eq_false c1,decide_eq_true (show 1152921504606846976 < n1 by omega)]
   exact z54
theorem kb (num den:Int) (hd0:den≠0) (h1:-9223372036854775808≤num∧num≤9223372036854775807) (h2:-9223372036854775808≤den∧den≤9223372036854775807) :
 Aj Tryz.prog 127 [.d (.int .i64 num),.d (.int .i64 den)] (.tup [.d (cM (HJ (nn num den) den.natAbs)),.d (.int .i64 (O3 (nn num den) den.natAbs))]):=by
 have hB:Ek = 170141183460469231731687303715884105728:=rfl
 refine Co Tryz.func127 (by kernel_rfl) ?_
 conv=>whnf
 refine br (fun h=>?_) (fun h=>?_)
 ·exact absurd (eq_of_beq h) hd0
 conv=>whnf
 refine Au (W3 num h1.1 h1.2) ?_
 conv=>whnf
 refine Au (W3 den h2.1 h2.2) ?_
 conv=>whnf
 refine Au (bv num den hd0 (by omega) (by omega)) ?_
 generalize HJ (nn num den) den.natAbs = p
 generalize O3 (nn num den) den.natAbs = e
 obtain ⟨p1,p2⟩:=p
 exact z54
end Go.Proofs.YtejfnieiaecpkaaGreatDoor.P.F
namespace Go.Proofs.YtejfnieiaecpkaaGreatDoor.P.F
open Go.Abs Go.Proofs
set_option maxRecDepth 10000
theorem bj (l:List Int) (hl:l.Pairwise (· < ·)):∀ ps:PS,WV ps l = ((ps.filter fun p=>decide (p.1∈l)).length:Nat)
 | []=>cb l
 | p :: ps=>by
   rw [Va p ps l hl,bj l hl ps]
   by_cases h:p.1∈l
   ·rw [if_pos h,List.filter_cons_of_pos (by simpa using h),List.length_cons]; omega
   ·rw [if_neg h,List.filter_cons_of_neg (by simpa using h)]; omega
theorem dT (a b:Int) (ha:0≤a∧a≤4611686018427387904) (hb:0≤b∧b≤4611686018427387904) :
 Aj Tryz.prog 260 [.d (.int .i64 a),.d (.int .i64 b)] (.d (.int .i64 (Nat.gcd a.natAbs b.natAbs:Nat))):=by
 refine Co Tryz.func260 (by kernel_rfl) ?_
 generalize hg:Nat.gcd a.natAbs b.natAbs = g
 conv=>whnf
 refine loop {s:Int × Int // (0≤s.1∧s.1≤4611686018427387904)∧(0≤s.2∧s.2≤4611686018427387904)∧Nat.gcd s.1.natAbs s.2.natAbs = g} (fun s=>B8 12 [(0,.d (.int .i64 s.1.1)),(1,.d (.int .i64 s.1.2))] []) (fun s=>s.1.2.natAbs) ⟨(a,b),ha,hb,hg⟩ ?_ fun s=>?_
 ·refine Nv ?_
  conv=>whnf
  repeat (first | exact trivial | refine And.intro (by first | with_reducible rfl | exact .inl rfl | (rw [next (by first | omega | (simp only; omega))]) | rfl) ?_)
 obtain ⟨⟨x,y⟩,hx,hy,hxy⟩:=s
 simp only at hx hy hxy
 conv=>whnf
 refine br (fun h=>?_) (fun h=>?_)
 ·have h:y≠0:=by simpa using h
  have hlt:(x.tmod y).natAbs < y.natAbs:=by rw [Int.natAbs_tmod]; exact Nat.mod_lt _ (by omega)
  have hnn:0≤x.tmod y:=Int.tmod_nonneg _ hx.1
  conv=>whnf
  refine ⟨⟨by decide +kernel,by kernel_rfl⟩,?_⟩
  conv=>whnf
  refine ⟨h,?_⟩
  conv=>whnf
  refine ⟨⟨(y,x.tmod y),hy,by simp only; omega,?_⟩,?_,hlt⟩
  ·show Nat.gcd y.natAbs (x.tmod y).natAbs = g
   rw [Int.natAbs_tmod,← hxy,Nat.gcd_comm y.natAbs,← Nat.gcd_rec,Nat.gcd_comm]
  ·refine Nv ?_
   conv=>whnf
   repeat (first | exact trivial | refine And.intro (by first | with_reducible rfl | exact .inl rfl | (rw [next (by first | omega | (simp only; omega))]) | rfl) ?_)
 ·have h:y = 0:=by simpa using h
  subst h
  simp only [Int.natAbs_zero,Nat.gcd_zero_right] at hxy
  conv=>whnf
  refine ⟨?_⟩
  simp only [d9]
  congr 2
  omega
theorem dB (p:Int × Int) (hp:VF p):Aj Tryz.prog 197 [.d (cM p)] (.d (.bool true)):=by
 obtain ⟨n,d⟩:=p
 obtain ⟨⟨h1,h2⟩,⟨h3,h4⟩,h5⟩:=hp
 simp only at h1 h2 h3 h4 h5
 have e1:decide (d < 1) = false:=decide_eq_false (by omega)
 have e2:decide (d > 1152921504606846976) = false:=decide_eq_false (by omega)
 have e3:decide (n < -1152921504606846976) = false:=decide_eq_false (by omega)
 have e4:decide (n > 1152921504606846976) = false:=decide_eq_false (by omega)
 have e5:IntKind.i64.wrap (0 - n) = 0 - n:=A0 (by omega) (by omega)
 refine Co Tryz.func197 (by kernel_rfl) ?_
 conv=>whnf
 refine br (fun h=>?_) (fun _=>?_)
 ·exfalso
  simp only [e1,e2,e3,e4,cond_false] at h
  cases h
 conv=>whnf
 rw [e5]
 have hm:(if 0 - n > n then 0 - n else n) = ((n.natAbs:Nat):Int):=by split <;> omega
 rw [show (if 0 - n > (n,d).fst then 0 - n else (n,d).fst) = ((n.natAbs:Nat):Int) from hm]
 refine Au (dT d ((n.natAbs:Nat):Int) (by omega) (by omega)) ?_
 rw [Int.natAbs_natCast,Nat.gcd_comm,h5]
 exact z54
theorem j6 (p q:Int × Int) (hp:VF p) (hq:VF q):Aj Tryz.prog 128 [.d (cM p),.d (cM q)]
 (.tup [.d (cM (HJ (p.1 * q.1) (p.2 * q.2).toNat)),.d (.int .i64 (O3 (p.1 * q.1) (p.2 * q.2).toNat))]):=by
 have vp:=dB p hp
 have vq:=dB q hq
 obtain ⟨a,b⟩:=p
 obtain ⟨c,d⟩:=q
 have hB:Ek = 170141183460469231731687303715884105728:=rfl
 obtain ⟨⟨h1,h2⟩,h3,_⟩:=hp
 obtain ⟨⟨k1,k2⟩,k3,_⟩:=hq
 simp only at h1 h2 h3 k1 k2 k3
 have hac:=NJ h3 k3
 have hbd:=NJ (a:=b) (b:=d) (by omega) (by omega)
 have hbd0:0 < b * d:=Int.mul_pos (by omega) (by omega)
 have hred:=bv (a * c) (b * d) (by omega) (by omega) (by omega)
 rw [show nn (a * c) (b * d) = a * c from if_neg (by omega),show (b * d).natAbs = (b * d).toNat by omega] at hred
 refine Co Tryz.func128 (by kernel_rfl) ?_
 conv=>whnf
 refine Au vp ?_
 conv=>whnf
 refine Au vq ?_
 conv=>whnf
 refine ⟨⟨by decide +kernel,by kernel_rfl⟩,?_⟩
 conv=>whnf
 refine Au (W3 a (by omega) (by omega)) ?_
 conv=>whnf
 refine Au (W3 c (by omega) (by omega)) ?_
 conv=>whnf
 refine Au (dY a c) ?_
 conv=>whnf
 refine Au (W3 b (by omega) (by omega)) ?_
 conv=>whnf
 refine Au (W3 d (by omega) (by omega)) ?_
 conv=>whnf
 refine Au (dY b d) ?_
 conv=>whnf
 refine Au hred ?_
 generalize HJ (a * c) (b * d).toNat = r
 generalize O3 (a * c) (b * d).toNat = e
 obtain ⟨r1,r2⟩:=r
 exact z54
theorem jC (xs:List Int) (n:Int) (hx:xs.length≤1000000):Aj Tryz.prog 174 [.d (CI xs),.d (.int .i64 n)] (.d (.bool (decide (n∈xs)))):=by
 refine Co Tryz.func174 (by kernel_rfl) ?_
 conv=>whnf
 refine loop {k:Nat // ∀ j (hj:j < xs.length),j < k→xs[j]≠n} (fun k=>B8 18 [(0,.d (CI xs)),(1,.d (.int .i64 n)),(5,.d (.int .i64 k.1))] []) (fun k=>xs.length - k.1) ⟨0,by simp⟩ ?_ fun k=>?_
 ·exact And.intro rfl (And.intro rfl (And.intro rfl trivial))
 ·obtain ⟨k,hk⟩:=k
  conv=>whnf
  refine br (fun h=>?_) (fun h=>?_)
  ·have hlt:k < xs.length:=by simpa using h
   conv=>whnf
   refine ⟨⟨by first | omega | (simp only; omega),_,GJ xs k hlt,?_⟩⟩
   conv=>whnf
   refine br (fun hp=>?_) (fun hp=>?_)
   ·have hp':xs[k] = n:=by simpa using hp
    conv=>whnf
    refine ⟨?_⟩
    have:n∈xs:=by rw [← hp']; exact List.getElem_mem hlt
    simp [this]; rfl
   ·have hp':xs[k]≠n:=by simpa using hp
    conv=>whnf
    refine ⟨⟨k + 1,fun j hj hjk=>?_⟩,?_,by show xs.length - (k + 1) < xs.length - k; omega⟩
    ·by_cases e:j = k
     ·subst e; exact hp'
     ·exact hk j hj (by omega)
    ·exact And.intro rfl (And.intro rfl (And.intro (by rw [next (by first | omega | (simp only; omega))]) trivial))
  ·have hge:xs.length≤k:=by simpa using h
   conv=>whnf
   refine ⟨?_⟩
   have:n ∉ xs:=by
    intro hm
    obtain ⟨j,hj,hjn⟩:=List.getElem_of_mem hm
    exact hk j hj (by omega) hjn
   simp [this]; rfl
def IS (n:Int):List Int→List Int
 | []=>[n]
 | x :: r=>if x > n then n :: x :: r else x :: IS n r
def Z7 (xs:List Int) (n:Int):List Int:=if n∈xs then xs else IS n xs
theorem UD (n:Int):∀ xs:List Int,(IS n xs).length = xs.length + 1
 | []=>rfl
 | x :: r=>by unfold IS; split <;> simp [UD n r]
theorem UC (n x:Int):∀ xs:List Int,x∈IS n xs↔x = n∨x∈xs
 | []=>by simp [IS]
 | y :: r=>by
   unfold IS
   split
   ·simp
   ·simp only [List.mem_cons,UC n x r]
    constructor
    ·rintro (h | h | h)
     ·exact .inr (.inl h)
     ·exact .inl h
     ·exact .inr (.inr h)
    ·rintro (h | h | h)
     ·exact .inr (.inl h)
     ·exact .inl h
     ·exact .inr (.inr h)
theorem Zk (n:Int):∀ xs:List Int,xs.Pairwise (· < ·)→n ∉ xs→(IS n xs).Pairwise (· < ·)
 | [],_,_=>by simp [IS]
 | y :: r,h,hn=>by
   have h':=List.pairwise_cons.1 h
   have hny:n≠y:=fun e=>hn (by simp [e])
   unfold IS
   split
   ·rename_i hy
    refine List.pairwise_cons.2 ⟨fun z hz=>?_,h⟩
    rcases List.mem_cons.1 hz with rfl | hz
    ·omega
    ·have:=h'.1 z hz; omega
   ·rename_i hy
    refine List.pairwise_cons.2 ⟨fun z hz=>?_,Zk n r h'.2 (fun hm=>hn (.tail _ hm))⟩
    rcases (UC n z r).1 hz with rfl | hz
    ·omega
    ·exact h'.1 z hz
theorem jI (xs:List Int) (n:Int) (hx:xs.length≤100000):Aj Tryz.prog 107 [.d (CI xs),.d (.int .i64 n)] (.d (CI (Z7 xs n))):=by
 refine Co Tryz.func107 (by kernel_rfl) ?_
 conv=>whnf
 refine Au (jC xs n (by omega)) ?_
 by_cases hm:n∈xs
 ·rw [decide_eq_true hm,show Z7 xs n = xs from if_pos hm]
  exact z54
 rw [decide_eq_false hm,show Z7 xs n = IS n xs from if_neg hm]
 generalize hR:IS n xs = R
 have hRl:R.length = xs.length + 1:=by rw [← hR,UD]
 conv=>whnf
 refine loop {s:Nat × Bool × List Int // s.1≤xs.length∧s.2.2++(bif s.2.1 then xs.drop s.1 else IS n (xs.drop s.1)) = R} (fun s=>B8 46 [(0,.d (CI xs)),(1,.d (.int .i64 n)),(5,.sl 5 1),(6,.d (.bool s.1.2.1)),(7,.d (.int .i64 s.1.1))]
  [(5,.row 1 3 (s.1.2.2.map (D.int .i64)),1)]) (fun s=>xs.length - s.1.1) ⟨(0,false,[]),by simp,hR⟩ ?_ fun s=>?_
 ·refine Nv ?_
  conv=>whnf
  repeat (first | exact trivial | refine And.intro (by first | with_reducible rfl | exact .inl rfl | (rw [next (by first | omega | (simp only; omega))]) | rfl) ?_)
 obtain ⟨⟨i,done,out⟩,hi,ho⟩:=s
 simp only at hi ho
 have hol:out.length≤xs.length + 1:=by
  have:=congrArg List.length ho
  rw [List.length_append,hRl] at this
  omega
 conv=>whnf
 refine br (fun h=>?_) (fun h=>?_)
 ·have hlt:i < xs.length:=by simpa using h
  rw [List.drop_eq_getElem_cons hlt] at ho
  conv=>whnf
  refine ⟨⟨by first | omega | (simp only; omega),_,GJ xs i hlt,?_⟩⟩
  have gx:=GJ xs i hlt
  generalize xs[i] = x at ho gx
  by_cases c:x > n∧done = false
  ·obtain ⟨c1,rfl⟩:=c
   have ho:out++n :: x :: List.drop (i + 1) xs = R:=by simpa [IS,c1] using ho
   have hdc:decide (x > n) = true:=decide_eq_true c1
   conv=>whnf
   rw [hdc]
   conv=>whnf
   refine ⟨Rw out _ (by omega),?_⟩
   rw [R0]
   conv=>whnf
   refine ⟨⟨by first | omega | (simp only; omega),_,gx,?_⟩⟩
   conv=>whnf
   refine ⟨Rw (out++[n]) _ (by simp; omega),?_⟩
   rw [R0]
   conv=>whnf
   refine ⟨⟨(i + 1,true,out++[n]++[x]),hlt,by simpa using ho⟩,?_,by show xs.length - (i + 1) < xs.length - i; omega⟩
   refine Nv ?_
   conv=>whnf
   repeat (first | exact trivial | refine And.intro (by first | with_reducible rfl | exact .inl rfl | (rw [next (by first | omega | (simp only; omega))]) | rfl) ?_)
  ·have hcond:(bif decide (x > n) then !done else false) = false:=by
    by_cases c1:x > n
    ·have:done = true:=by
      cases done with
      | true=>rfl
      | false=>exact absurd ⟨c1,rfl⟩ c
     simp [this]
    ·simp [c1]
   have ho:out++[x]++(bif done then List.drop (i + 1) xs else IS n (List.drop (i + 1) xs)) = R:=by
    cases done with
    | true=>simpa using ho
    | false =>
      have c1:¬ x > n:=fun h=>c ⟨h,rfl⟩
      simpa [IS,c1] using ho
   conv=>whnf
   refine br (fun q=>?_) (fun q=>?_)
   ·exact absurd q (by rw [hcond]; simp)
   conv=>whnf
   refine ⟨⟨by first | omega | (simp only; omega),_,gx,?_⟩⟩
   conv=>whnf
   refine ⟨Rw out _ (by omega),?_⟩
   rw [R0]
   conv=>whnf
   refine ⟨⟨(i + 1,done,out++[x]),hlt,ho⟩,?_,by show xs.length - (i + 1) < xs.length - i; omega⟩
   refine Nv ?_
   conv=>whnf
   repeat (first | exact trivial | refine And.intro (by first | with_reducible rfl | exact .inl rfl | (rw [next (by first | omega | (simp only; omega))]) | rfl) ?_)
 ·have hge:xs.length≤i:=by simpa using h
  rw [List.drop_eq_nil_of_le hge] at ho
  cases done with
  | true =>
    have ho:out = R:=by simpa using ho
    subst ho
    exact z55
  | false =>
    have ho:out++[n] = R:=ho
    conv=>whnf
    refine ⟨Rw out _ (by omega),?_⟩
    rw [R0,ho]
    exact z55
end Go.Proofs.YtejfnieiaecpkaaGreatDoor.P.F
namespace Go.Proofs.YtejfnieiaecpkaaGreatDoor.P.F
open Go.Abs Go.Proofs
set_option maxRecDepth 10000
theorem aX:∀ (ts:List Int) (evs:List Bool),ts.length = evs.length→∃ ps:PS,tm ps = ts∧es ps = evs
 | [],[],_=>⟨[],rfl,rfl⟩
 | t :: ts,e :: evs,h=>by
   obtain ⟨ps,h1,h2⟩:=aX ts evs (by simpa using h)
   exact ⟨(t,e) :: ps,by rw [← h1]; rfl,by rw [← h2]; rfl⟩
 | [],_ :: _,h=>by simp at h
 | _ :: _,[],h=>by simp at h
def d7 (t:Int) (ps:PS):Int:=((ps.filter fun p=>decide (p.1 ≥ t)).length:Nat)
theorem fJ (t:Int) (ps:PS) (p:Int × Bool):d7 t (ps++[p]) = d7 t ps + (if p.1 ≥ t then 1 else 0):=by
 unfold d7
 rw [List.filter_append,List.length_append]
 by_cases h:p.1 ≥ t
 ·rw [if_pos h,List.filter_cons_of_pos (by simpa using h)]; simp
 ·rw [if_neg h,List.filter_cons_of_neg (by simpa using h)]; simp
theorem fS (t:Int) (ps:PS):d7 t ps≤ps.length:=by unfold d7; have:=List.length_filter_le (fun p:Int × Bool=>decide (p.1 ≥ t)) ps; omega
theorem ar (t:Int) (ps:PS):0≤d7 t ps:=Int.natCast_nonneg _
theorem gC (ps:PS) (l:List Int) (hl:l.Pairwise (· < ·)) (hm:∀ p∈ps,p.1∈l) (k:Nat) (hk:k < l.length):d7 l[k] ps = WV ps (l.drop k):=by
 rw [bj _ (hl.drop (i:=k))]
 unfold d7
 congr 2
 apply List.filter_congr
 intro p hp
 rw [Bool.eq_iff_iff,decide_eq_true_iff,decide_eq_true_iff]
 obtain ⟨j,hj,e⟩:=List.getElem_of_mem (hm p hp)
 rw [← e]
 constructor
 ·intro h
  have:k≤j:=by
   rcases Nat.lt_or_ge j k with q | q
   ·have:=List.pairwise_iff_getElem.1 hl j k hj hk q; omega
   ·exact q
  rw [List.mem_iff_getElem]
  exact ⟨j - k,by simp; omega,by simp [show k + (j - k) = j by omega]⟩
 ·intro h
  obtain ⟨i,hi,e2⟩:=List.getElem_of_mem h
  rw [List.getElem_drop] at e2
  rcases Nat.eq_zero_or_pos i with q | q
  ·subst q; simp only [Nat.add_zero] at e2; omega
  ·have:=List.pairwise_iff_getElem.1 hl k (k + i) hk (by simp at hi; omega) (by omega); omega
def stepsG (ts:List Int) (evs:List Bool) (R:List St × Int):Prop :=
 (ts.length≠evs.length→R = ([],17))∧(ts.length = evs.length→ts.length > 200→R = ([],1))∧(ts.length = evs.length→ts.length≤200→ts.any lrgT = true→R = ([],2)) ∧
 ∀ ps,tm ps = ts→es ps = evs→ts.length≤200→ts.any lrgT = false→R = stepsF ps
theorem R6 (v:Int):lrgT v = false↔0≤v∧v≤1000000:=by
 unfold lrgT
 by_cases h:v < 0 <;> simp [h] <;> omega
theorem stepsAll (hS:bc) (hC:Ry) (ts:List Int) (evs:List Bool) (R:List St × Int) (hR:stepsG ts evs R) (h1:ts.length≤100000) :
 Aj Tryz.prog 59 [.d (CI ts),.d (bl evs)] (.tup [.d (sts R.1),.d (.int .i64 R.2)]):=by
 by_cases c:ts.length = evs.length∧ts.length≤200∧ts.any lrgT = false
 ·obtain ⟨c1,c2,c3⟩:=c
  obtain ⟨ps,rfl,rfl⟩:=aX ts evs c1
  rw [hR.2.2.2 ps rfl rfl c2 c3]
  refine eH hS hC ps (by simpa [tm] using c2) fun p hp=>?_
  have:=List.any_eq_false.1 c3 p.1 (List.mem_map_of_mem (f:=fun p:Int × Bool=>p.1) hp)
  exact (R6 _).1 (by simpa using this)
 refine Co Tryz.func59 (by kernel_rfl) ?_
 conv=>whnf
 refine br (fun h=>?_) (fun h=>?_)
 ·have:ts.length≠evs.length:=by simp at h; omega
  rw [hR.1 this]
  exact z55
 have q1:ts.length = evs.length:=by simp at h; omega
 conv=>whnf
 refine br (fun h=>?_) (fun h=>?_)
 ·have:ts.length > 200:=by simp at h; omega
  rw [hR.2.1 q1 this]
  exact z55
 have q2:ts.length≤200:=by simp at h; omega
 have q3:ts.any lrgT = true:=by
  cases q:ts.any lrgT with
  | true=>rfl
  | false=>exact absurd ⟨q1,q2,q⟩ c
 conv=>whnf
 refine Au (contains _ lrgT ts (by omega) fun x _=>dW x) ?_
 rw [q3,hR.2.2.1 q1 q2 q3]
 exact z55
set_option maxHeartbeats 4000000 in
theorem rStepsAll (ts:List Int) (evs:List Bool) (R:List St × Int) (hR:stepsG ts evs R) (h1:ts.length≤100000) :
 Aj Tryz.prog 66 [.d (CI ts),.d (bl evs)] (.tup [.d (sts R.1),.d (.int .i64 R.2)]):=by
 refine Co Tryz.func66 (by kernel_rfl) ?_
 conv=>whnf
 refine br (fun h=>?_) (fun h=>?_)
 ·have:ts.length≠evs.length:=by simp at h; omega
  rw [hR.1 this]
  exact z55
 have q1:ts.length = evs.length:=by simp at h; omega
 conv=>whnf
 refine br (fun h=>?_) (fun h=>?_)
 ·have:ts.length > 200:=by simp at h; omega
  rw [hR.2.1 q1 this]
  exact z55
 have q2:ts.length≤200:=by simp at h; omega
 conv=>whnf
 refine loop {s:Nat × List Int // s.1≤ts.length∧(∀ x∈ts.take s.1,lrgT x = false)∧s.2.Pairwise (· < ·)∧(∀ x,x∈s.2↔x∈ts.take s.1)∧s.2.length≤s.1} (fun s=>B8 141 [(0,.d (CI ts)),(1,.d (bl evs)),(6,.d (CI s.1.2)),(7,.d (.int .i64 s.1.1))] []) (fun s=>ts.length - s.1.1) ⟨(0,[]),by simp⟩ ?_ fun s=>?_
 ·refine Nv ?_
  conv=>whnf
  repeat (first | exact trivial | refine And.intro (by first | with_reducible rfl | exact .inl rfl | (rw [next (by first | omega | (simp only; omega))]) | rfl) ?_)
 obtain ⟨⟨i,A⟩,hi,hok,hasc,hmem,hAl⟩:=s
 simp only at hi hok hasc hmem hAl
 conv=>whnf
 refine br (fun h=>?_) (fun h=>?_)
 ·have hlt:i < ts.length:=by simpa using h
  have gx:=GJ ts i hlt
  have hsn:=PL ts i hlt
  have hin:ts[i]∈ts:=List.getElem_mem hlt
  conv=>whnf
  refine ⟨⟨by first | omega | (simp only; omega),_,gx,?_⟩⟩
  generalize ts[i] = x at gx hsn hin
  have hbad:lrgT x = true→R = ([],2):=fun hx=>hR.2.2.1 q1 q2 (List.any_eq_true.2 ⟨x,hin,hx⟩)
  conv=>whnf
  refine br (fun q=>?_) (fun q=>?_)
  ·have q:=of_decide_eq_true q
   rw [hbad (by cases hh:lrgT x with | true=>rfl | false=>have:=(R6 x).1 hh; omega)]
   exact z55
  have q:=of_decide_eq_false q
  conv=>whnf
  refine ⟨⟨by first | omega | (simp only; omega),_,gx,?_⟩⟩
  conv=>whnf
  refine br (fun q4=>?_) (fun q4=>?_)
  ·have q4:x > 1000000:=by simpa using q4
   rw [hbad (by cases hh:lrgT x with | true=>rfl | false=>have:=(R6 x).1 hh; omega)]
   exact z55
  have q4:¬ x > 1000000:=by simpa using q4
  conv=>whnf
  refine ⟨⟨by first | omega | (simp only; omega),_,gx,?_⟩⟩
  conv=>whnf
  refine Au (jI A x (by omega)) ?_
  conv=>whnf
  refine ⟨⟨(i + 1,Z7 A x),hlt,?_,?_,?_,?_⟩,?_,by show ts.length - (i + 1) < ts.length - i; omega⟩
  ·intro y hy
   simp only [hsn] at hy
   rcases List.mem_append.1 hy with hy | hy
   ·exact hok y hy
   ·simp at hy; subst hy; exact (R6 y).2 (by omega)
  ·unfold Z7
   split
   ·exact hasc
   ·rename_i hn; exact Zk x A hasc hn
  ·intro y
   simp only [hsn]
   unfold Z7
   rw [List.mem_append,← hmem]
   split
   ·rename_i hn
    constructor
    ·intro h; exact .inl h
    ·rintro (h | h)
     ·exact h
     ·simp at h; subst h; exact hn
   ·rw [UC]
    simp only [List.mem_singleton]
    exact Or.comm
  ·show (Z7 A x).length≤i + 1
   unfold Z7
   split
   ·omega
   ·rw [UD]; omega
  ·refine Nv ?_
   conv=>whnf
   repeat (first | exact trivial | refine And.intro (by first | with_reducible rfl | exact .inl rfl | (rw [next (by first | omega | (simp only; omega))]) | rfl) ?_)
 ·have hge:ts.length≤i:=by simpa using h
  rw [List.take_of_length_le hge] at hok hmem
  obtain ⟨ps,rfl,rfl⟩:=aX ts evs q1
  have q3:(tm ps).any lrgT = false:=by
   rw [List.any_eq_false]
   intro x hx
   simp [hok x hx]
  have hRS:=hR.2.2.2 ps rfl rfl q2 q3
  have hA:A = setI (tm ps):=by
   obtain ⟨h3,h4⟩:=WO (tm ps)
   exact be _ _ hasc h3 fun x=>by rw [hmem,h4]
  have hlen:(tm ps).length = ps.length:=by simp [tm]
  have hR2:stepGo ps A ps.length (1,1) [] = R:=by rw [hA,hRS]; rfl
  have hall:∀ p∈ps,p.1∈A:=fun p hp=>(hmem _).2 (List.mem_map_of_mem (f:=fun p:Int × Bool=>p.1) hp)
  have htot:WV ps A = ps.length:=XC _ hasc ps hall
  have hcnt:∀ t∈A,1≤K1 t ps + Re t ps:=fun t ht=>Xu t ps ((hmem t).1 ht)
  have hrk:=fun (k:Nat) (hk:k < A.length)=>gC ps A hasc hall k hk
  have gt:∀ i (hi:i < ps.length),((tm ps).map (D.int .i64))[((i:Nat):Int).toNat]? = some (D.int .i64 ps[i].1):=fun i hi=>by simp [tm,hi]
  have ge:∀ i (hi:i < ps.length),((es ps).map D.bool)[((i:Nat):Int).toNat]? = some (D.bool ps[i].2):=fun i hi=>by simp [es,hi]
  have hn:ps.length≤200:=by omega
  clear hR hRS hA hmem hok hge q3 h q1 q2 h1
  generalize tm ps = ts at *
  generalize es ps = evs at *
  conv=>whnf
  refine loop {s:Nat × Int × (Int × Int) × List St // s.1≤A.length∧VF s.2.2.1∧stepGo ps (A.drop s.1) s.2.1 s.2.2.1 s.2.2.2 = R∧s.2.1 = WV ps (A.drop s.1)∧s.2.2.2.length≤s.1}
   (fun s=>B8 141 [(0,.d (CI ts)),(1,.d (bl evs)),(6,.d (CI A)),(8,.sl 8 1),(9,.ptr 9 1 0),(10,.d (.int .i64 s.1.1))]
    [(8,.row 6 122 (s.1.2.2.2.map Rh),1),(9,.var [.d (.int .i64 s.1.2.2.1.1),.d (.int .i64 s.1.2.2.1.2)],1)]) (fun s=>A.length - s.1.1) ⟨(0,ps.length,(1,1),[]),by simp,eT,hR2,htot.symm,by simp⟩ ?_ fun s=>?_
  ·refine Nv ?_
   conv=>whnf
   repeat (first | exact trivial | refine And.intro (by first | with_reducible rfl | exact .inl rfl | (rw [next (by first | omega | (simp only; omega))]) | rfl) ?_)
  obtain ⟨⟨k,left,s,acc⟩,hk,hv,hgo,hleft,hacc⟩:=s
  simp only at hk hv hgo hleft hacc
  conv=>whnf
  refine br (fun h=>?_) (fun h=>?_)
  ·have hlt:k < A.length:=by simpa using h
   have hm1:=hcnt A[k] (List.getElem_mem hlt)
   have hrisk:=hrk k hlt
   rw [← hleft] at hrisk
   rw [List.drop_eq_getElem_cons hlt] at hgo hleft
   conv=>whnf
   refine ⟨⟨by first | omega | (simp only; omega),_,GJ A k hlt,?_⟩⟩
   generalize A[k] = t at *
   have hev:=I8 t ps
   have hlf:=I1 t ps
   have hrest:=aE ps (A.drop (k + 1))
   have hleft2:left = K1 t ps + Re t ps + WV ps (A.drop (k + 1)):=by rw [hleft]; rfl
   have hrkle:=fS t ps
   conv=>whnf
   refine loop {i:Nat // i≤ps.length} (fun i=>B8 141 [(0,.d (CI ts)),(1,.d (bl evs)),(6,.d (CI A)),(8,.sl 8 1),(9,.ptr 9 1 0),(10,.d (.int .i64 k)),(11,.ptr 11 1 0),(12,.d (.int .i64 i.1))]
    [(8,.row 6 122 (acc.map Rh),1),(9,.var [.d (.int .i64 s.1),.d (.int .i64 s.2)],1),(11,.var [.d (.int .i64 t),.d (.int .i64 (d7 t (ps.take i.1))),.d (.int .i64 (K1 t (ps.take i.1))),.d (.int .i64 (Re t (ps.take i.1))),.d (.int .i64 0),.d (.int .i64 0)],1)]) (fun i=>ps.length - i.1) ⟨0,by omega⟩ ?_ fun i=>?_
   ·refine Nv ?_
    conv=>whnf
    rw [show d7 t (List.take 0 ps) = 0 from rfl,show K1 t (List.take 0 ps) = 0 from rfl,show Re t (List.take 0 ps) = 0 from rfl]
    repeat (first | exact trivial | refine And.intro (by first | with_reducible rfl | exact .inl rfl | (rw [next (by first | omega | (simp only; omega))]) | rfl) ?_)
   obtain ⟨i,hi⟩:=i
   have hle1:=Ym t (ps.take i)
   have hle2:=XE t (ps.take i)
   have hle3:=fS t (ps.take i)
   have hb0:=I8 t (ps.take i)
   have hb1:=I1 t (ps.take i)
   have hb2:=ar t (ps.take i)
   have htl:(ps.take i).length≤200:=by simp; omega
   conv=>whnf
   refine br (fun h=>?_) (fun h=>?_)
   ·have hlt2:i < ps.length:=by have:i < ts.length:=by simpa using h
                                omega
    have hn1:=Y9 t (ps.take i) ps[i]
    have hn2:=YD t (ps.take i) ps[i]
    have hn3:=fJ t (ps.take i) ps[i]
    rw [← PL ps i hlt2] at hn1 hn2 hn3
    have gt':=gt i hlt2
    have ge':=ge i hlt2
    have w1:IntKind.i64.wrap (d7 t (ps.take i) + 1) = d7 t (ps.take i) + 1:=A0 (by omega) (by omega)
    have w2:IntKind.i64.wrap (K1 t (ps.take i) + 1) = K1 t (ps.take i) + 1:=A0 (by omega) (by omega)
    have w3:IntKind.i64.wrap (Re t (ps.take i) + 1) = Re t (ps.take i) + 1:=A0 (by omega) (by omega)
    conv=>whnf
    refine ⟨⟨by decide +kernel,by kernel_rfl⟩,?_⟩
    conv=>whnf
    refine ⟨⟨by first | omega | (simp only; omega),_,gt',?_⟩⟩
    generalize ps[i] = p at hn1 hn2 hn3 gt' ge'
    obtain ⟨x,b⟩:=p
    simp only at hn1 hn2 hn3 gt' ge'
    rcases Int.lt_trichotomy x t with c | c | c
    ·rw [if_neg (by omega)] at hn1 hn2 hn3
     conv=>whnf
     refine br (fun q=>?_) (fun q=>?_)
     ·exfalso; have:=of_decide_eq_true q; omega
     conv=>whnf
     refine ⟨⟨by decide +kernel,by kernel_rfl⟩,?_⟩
     conv=>whnf
     refine ⟨⟨by first | omega | (simp only; omega),_,gt',?_⟩⟩
     conv=>whnf
     refine br (fun q=>?_) (fun q=>?_)
     ·exfalso; simp at q; omega
     conv=>whnf
     refine ⟨⟨by decide +kernel,by kernel_rfl⟩,?_⟩
     conv=>whnf
     refine ⟨⟨by first | omega | (simp only; omega),_,gt',?_⟩⟩
     conv=>whnf
     refine br (fun q=>?_) (fun q=>?_)
     ·exfalso; simp at q; omega
     conv=>whnf
     refine ⟨⟨i + 1,hlt2⟩,?_,by show ps.length - (i + 1) < ps.length - i; omega⟩
     refine Nv ?_
     conv=>whnf
     rw [hn1,hn2,hn3,Int.add_zero,Int.add_zero,Int.add_zero]
     repeat (first | exact trivial | refine And.intro (by first | with_reducible rfl | exact .inl rfl | (rw [next (by first | omega | (simp only; omega))]) | rfl) ?_)
    ·subst c
     rw [if_pos (Int.le_refl _)] at hn3
     conv=>whnf
     refine br (fun q=>?_) (fun q=>?_)
     rotate_left
     ·exfalso; have:=of_decide_eq_false q; omega
     cases b with
     | true =>
       rw [if_pos ⟨rfl,rfl⟩] at hn1
       rw [if_neg (fun h=>by cases h.2)] at hn2
       conv=>whnf
       refine ⟨⟨by decide +kernel,by kernel_rfl⟩,?_⟩
       conv=>whnf
       refine ⟨⟨by first | omega | (simp only; omega),_,gt',?_⟩⟩
       conv=>whnf
       refine br (fun q=>?_) (fun q=>?_)
       rotate_left
       ·exfalso; simp at q
       conv=>whnf
       refine ⟨⟨by first | omega | (simp only; omega),_,ge',?_⟩⟩
       conv=>whnf
       refine ⟨⟨by decide +kernel,by kernel_rfl⟩,?_⟩
       conv=>whnf
       refine ⟨⟨by first | omega | (simp only; omega),_,gt',?_⟩⟩
       conv=>whnf
       refine br (fun q=>?_) (fun q=>?_)
       rotate_left
       ·exfalso; simp at q
       conv=>whnf
       refine ⟨⟨by first | omega | (simp only; omega),_,ge',?_⟩⟩
       conv=>whnf
       refine ⟨⟨i + 1,hlt2⟩,?_,by show ps.length - (i + 1) < ps.length - i; omega⟩
       refine Nv ?_
       conv=>whnf
       rw [hn1,hn2,hn3,Int.add_zero,w1,w2]
       repeat (first | exact trivial | refine And.intro (by first | with_reducible rfl | exact .inl rfl | (rw [next (by first | omega | (simp only; omega))]) | rfl) ?_)
     | false =>
       rw [if_neg (fun h=>by cases h.2)] at hn1
       rw [if_pos ⟨rfl,rfl⟩] at hn2
       conv=>whnf
       refine ⟨⟨by decide +kernel,by kernel_rfl⟩,?_⟩
       conv=>whnf
       refine ⟨⟨by first | omega | (simp only; omega),_,gt',?_⟩⟩
       conv=>whnf
       refine br (fun q=>?_) (fun q=>?_)
       rotate_left
       ·exfalso; simp at q
       conv=>whnf
       refine ⟨⟨by first | omega | (simp only; omega),_,ge',?_⟩⟩
       conv=>whnf
       refine ⟨⟨by decide +kernel,by kernel_rfl⟩,?_⟩
       conv=>whnf
       refine ⟨⟨by first | omega | (simp only; omega),_,gt',?_⟩⟩
       conv=>whnf
       refine br (fun q=>?_) (fun q=>?_)
       rotate_left
       ·exfalso; simp at q
       conv=>whnf
       refine ⟨⟨by first | omega | (simp only; omega),_,ge',?_⟩⟩
       conv=>whnf
       refine ⟨⟨i + 1,hlt2⟩,?_,by show ps.length - (i + 1) < ps.length - i; omega⟩
       refine Nv ?_
       conv=>whnf
       rw [hn1,hn2,hn3,Int.add_zero,w1,w3]
       repeat (first | exact trivial | refine And.intro (by first | with_reducible rfl | exact .inl rfl | (rw [next (by first | omega | (simp only; omega))]) | rfl) ?_)
    ·rw [if_neg (by omega)] at hn1 hn2
     rw [if_pos (by omega)] at hn3
     conv=>whnf
     refine br (fun q=>?_) (fun q=>?_)
     rotate_left
     ·exfalso; have:=of_decide_eq_false q; omega
     conv=>whnf
     refine ⟨⟨by decide +kernel,by kernel_rfl⟩,?_⟩
     conv=>whnf
     refine ⟨⟨by first | omega | (simp only; omega),_,gt',?_⟩⟩
     conv=>whnf
     refine br (fun q=>?_) (fun q=>?_)
     ·exfalso; simp at q; omega
     conv=>whnf
     refine ⟨⟨by decide +kernel,by kernel_rfl⟩,?_⟩
     conv=>whnf
     refine ⟨⟨by first | omega | (simp only; omega),_,gt',?_⟩⟩
     conv=>whnf
     refine br (fun q=>?_) (fun q=>?_)
     ·exfalso; simp at q; omega
     conv=>whnf
     refine ⟨⟨i + 1,hlt2⟩,?_,by show ps.length - (i + 1) < ps.length - i; omega⟩
     refine Nv ?_
     conv=>whnf
     rw [hn1,hn2,hn3,Int.add_zero,Int.add_zero,w1]
     repeat (first | exact trivial | refine And.intro (by first | with_reducible rfl | exact .inl rfl | (rw [next (by first | omega | (simp only; omega))]) | rfl) ?_)
   ·have hge:ps.length≤i:=by have:ts.length≤i:=by simpa using h
                             omega
    rw [List.take_of_length_le hge]
    clear hle1 hle2 hle3 hb0 hb1 hb2 htl
    have hle1:=Ym t ps
    have hle2:=XE t ps
    rw [hrisk]
    have e1:IntKind.i64.wrap (left - K1 t ps) = left - K1 t ps:=A0 (by omega) (by omega)
    conv=>whnf
    rw [e1]
    refine Au (kb (left - K1 t ps) left (by omega) (by omega) (by omega)) ?_
    rw [show nn (left - K1 t ps) left = left - K1 t ps from if_neg (by omega),show left.natAbs = left.toNat by omega]
    have hvp:VF (HJ (left - K1 t ps) left.toNat):=NK (by omega) (WE (by omega) (by omega) (by omega))
    unfold stepGo at hgo
    generalize HJ (left - K1 t ps) left.toNat = p at hgo hvp
    generalize O3 (left - K1 t ps) left.toNat = e0
    have hmul:=j6 s p hv hvp
    have hdpos:0 < s.2 * p.2:=Int.mul_pos (by have:=hv.1.1; omega) (by have:=hvp.1.1; omega)
    have hval:=NK (n:=s.1 * p.1) (d:=(s.2 * p.2).toNat) (by omega)
    have hE:O3 (s.1 * p.1) (s.2 * p.2).toNat = bif ZC (s.1 * p.1) (s.2 * p.2).toNat then 0 else 14:=rfl
    have hleft3:left - (K1 t ps + Re t ps) = WV ps (A.drop (k + 1)):=by omega
    generalize K1 t ps = ev at *
    generalize Re t ps = lf at *
    obtain ⟨p1,p2⟩:=p
    obtain ⟨s1,s2⟩:=s
    conv=>whnf
    refine Au hmul ?_
    rw [hE]
    generalize HJ ((s1,s2).1 * (p1,p2).1) ((s1,s2).2 * (p1,p2).2).toNat = r at *
    cases hok:ZC ((s1,s2).1 * (p1,p2).1) ((s1,s2).2 * (p1,p2).2).toNat with
    | false =>
      rw [hok] at hgo
      have hgo:(([]:List St),(14:Int)) = R:=hgo
      subst hgo
      obtain ⟨r1,r2⟩:=r
      exact z55
    | true =>
      rw [hok] at hgo
      have hgo:stepGo ps (List.drop (k + 1) A) (left - (ev + lf)) r (acc++[⟨t,left,ev,lf,r⟩]) = R:=hgo
      have hval:=hval hok
      obtain ⟨r1,r2⟩:=r
      conv=>whnf
      refine ⟨⟨by decide +kernel,by kernel_rfl⟩,?_⟩
      conv=>whnf
      refine ⟨bp acc _ (by omega),?_⟩
      rw [show List.map Rh acc++[D.agg [D.int .i64 t,D.int .i64 left,D.int .i64 ev,D.int .i64 lf,D.int .i64 (r1,r2).1,D.int .i64 (r1,r2).2]] = (acc++[(⟨t,left,ev,lf,(r1,r2)⟩:St)]).map Rh from by simp [Rh]]
      conv=>whnf
      refine ⟨⟨(k + 1,left - (ev + lf),(r1,r2),acc++[⟨t,left,ev,lf,(r1,r2)⟩]),hlt,hval,hgo,hleft3,by simp; omega⟩,?_,by show A.length - (k + 1) < A.length - k; omega⟩
      refine Nv ?_
      conv=>whnf
      repeat (first | exact trivial | refine And.intro (by first | with_reducible rfl | exact .inl rfl | (rw [next (by first | omega | (simp only; omega))]) | rfl) ?_)
  ·have hge:A.length≤k:=by simpa using h
   rw [List.drop_eq_nil_of_le hge] at hgo
   have hgo:(acc,(0:Int)) = R:=hgo
   subst hgo
   exact z55
end Go.Proofs.YtejfnieiaecpkaaGreatDoor.P.F
namespace Go.Proofs.YtejfnieiaecpkaaGreatDoor.P.F
open Go.Abs Go.Proofs
theorem sortC:bc:=fun xs hl=>jr Tryz.lays189 (by kernel_rfl) 3 xs hl
theorem compactC:Ry:=fun xs hl=>dG Tryz.lays20 (by kernel_rfl) 3 xs hl
#print axioms sortC
#print axioms compactC
end Go.Proofs.YtejfnieiaecpkaaGreatDoor.P.F
namespace Go.Proofs.YtejfnieiaecpkaaGreatDoor.P
open Go.Abs Go.Proofs
set_option maxRecDepth 10000
theorem Zv (ts:List Int) (evs:List Bool):F.stepsG ts evs (KO ts evs):=by
 refine ⟨fun h=>?_,fun h1 h2=>?_,fun h1 h2 h3=>?_,fun ps h1 h2 h3 h4=>?_⟩
 ·unfold KO; rw [decide_eq_false h]; rfl
 ·unfold KO; rw [decide_eq_true h1,decide_eq_false (by omega)]; rfl
 ·unfold KO; rw [decide_eq_true h1,decide_eq_true h2,h3]; rfl
 ·have hz:∀ qs:F.PS,(F.tm qs).zip (F.es qs) = qs:=by
   intro qs
   induction qs with
   | nil=>rfl
   | cons p r ih =>
     obtain ⟨a,b⟩:=p
     show (a,b) :: (F.tm r).zip (F.es r) = _
     rw [ih]
  subst h1; subst h2
  unfold KO
  rw [decide_eq_true (by simp [F.tm,F.es]),decide_eq_true h3,h4,hz]
  rfl
theorem cd (l:List F.St):F.sts l = Al 6 CR (l.map fa):=by
 unfold F.sts Al
 rw [List.map_map]
 rfl
theorem Ug (p0:List Int) (p1:List Bool) (R:List Be × Int) (hF:Kh p0 p1 = some R):Aj Tryz.prog 59 [.d (Al 1 (D.int .i64) p0),.d (Al 1 D.bool p1)] (.tup [.d (Al 6 CR R.1),.d (.int .i64 R.2)]):=by
 obtain ⟨hr,hF⟩:=Eg hF
 obtain rfl:=Option.some.inj hF
 have:=F.stepsAll F.sortC F.compactC p0 p1 (KO p0 p1) (Zv p0 p1) (of_decide_eq_true hr)
 rw [cd] at this
 exact this
theorem VO (p0:List Int) (p1:List Bool) (R:List Be × Int) (hF:Ps p0 p1 = some R):Aj Tryz.prog 66 [.d (Al 1 (D.int .i64) p0),.d (Al 1 D.bool p1)] (.tup [.d (Al 6 CR R.1),.d (.int .i64 R.2)]):=by
 obtain ⟨hr,hF⟩:=Eg hF
 obtain rfl:=Option.some.inj hF
 have:=F.rStepsAll p0 p1 (KO p0 p1) (Zv p0 p1) (of_decide_eq_true hr)
 rw [cd] at this
 exact this
theorem Q0 (R:Bool) (hF:Pq = some R):Aj Tryz.prog 22 [] (.d (.bool R)):=by
 obtain rfl:=Option.some.inj hF
 exact F.awake20 F.sortC F.compactC
end Go.Proofs.YtejfnieiaecpkaaGreatDoor.P
