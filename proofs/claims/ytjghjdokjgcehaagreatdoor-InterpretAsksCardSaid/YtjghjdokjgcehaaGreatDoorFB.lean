/- FB -/
import Derived.Test.YtjghjdokjgcehaaGreatDoorFA
import Derived.Test.YtjghjdokjgcehaaGreatDoorP3HW
import Derived.WalkKit
import Derived.Lib.Hide
set_option linter.unusedVariables false
set_option linter.unusedSimpArgs false
namespace Go.Proofs.YtjghjdokjgcehaaGreatDoor.P.F
open Go.Abs Go.Proofs
theorem sortC:dU:=fun xs hl=>e8 Tryz.lays189 (by kernel_rfl) 3 xs hl
theorem compactC:aF:=fun xs hl=>b8 Tryz.lays20 (by kernel_rfl) 3 xs hl
#print axioms sortC
#print axioms compactC
end Go.Proofs.YtjghjdokjgcehaaGreatDoor.P.F
namespace Go.Proofs.YtjghjdokjgcehaaGreatDoor.P
open Go Go.Abs Go.Proofs
set_option maxRecDepth 20000
set_option maxHeartbeats 4000000
theorem eh (n:Nat) (hn:n≤1000000):aE Tryz.prog 250 [0] [.d (.list 1 []),.d (.int .i64 n)] (.own 1 3 []):=by
 refine ⟨by kernel_rfl,fun O w vs hO hG hlen hnil hargs=>?_⟩
 obtain ⟨v,u,rfl⟩:∃ v u,vs = #[v,u]:=by
  obtain ⟨l⟩:=vs
  match l,hlen with
  | [v,u],_=>exact ⟨v,u,rfl⟩
 have hv:=hnil 0 (by simp)
 simp at hv
 subst hv
 have hu:=Cm (hargs 1 u _ rfl rfl)
 subst hu
 have fin:∀ {e:Ending} {v:Value} {w':World},e = .returned v→RowKit.Below w.heap.size w w'→(v = .slice none 0 0∨∃ cap cur,v = .slice (some ⟨w.heap.size,0,none⟩) 0 cap∧w'.heap[w.heap.size]? = some (.cells cur 3 (0,0))∧cap≤maxLen∧cur.size = cap) →
  ∃ v,e = .returned v∧RowKit.Below w.heap.size w w'∧Dg (fun b=>w.heap.size≤b) O w' v (.own 1 3 []):=by
  intro e v w' he hb hv
  refine ⟨v,he,hb,by decide,(fun _ h=>by cases h),fun b hbk=>?_,[],?_,Bo.nil⟩
  ·rcases hv with rfl | ⟨cap,cur,rfl,_⟩
   ·simp [A2] at hbk
   ·simp [A2] at hbk; omega
  ·rcases hv with rfl | ⟨cap,cur,rfl,h1,h2,h3⟩
   ·exact .inl (World.ownsRow_nil w' _ _ _)
   ·exact .inl ⟨rfl,.inr ⟨_,cap,cur,rfl,Nat.zero_le _,h1,Nat.zero_le _,h2,by omega,by simp⟩⟩
 by_cases h0:n = 0
 ·subst h0
  go_enter Tryz.func250,Tryz.ntmps250
  go_wp2
  go_ret
  exact fin rfl (RowKit.Below.refl _ _) (.inl rfl)
 ·have hg:(0:Int) < n:=by omega
  have hnx:Builtin.nextslicecap n 0 = n:=by unfold Builtin.nextslicecap; simp; omega
  have H:=Lib.hid hnx
  clear hnx
  go_enter Tryz.func250,Tryz.ntmps250
  go_wp2
  all_goals try (exfalso; have hnx:=H.out; simp only [show Tryz.t3.bytes = 8 from rfl,hnx] at *; omega)
  go_ret
  have h1:=grownCap_ge w n 0 3
  have h2:=grownCap_le_maxLen w n 0 3 (by unfold maxLen; omega)
  unfold grownCap at h1 h2
  refine fin rfl ((RowKit.Below.refl _ _).alloc (Nat.le_refl _) _).drew (.inr ⟨_,_,rfl,heap_alloc_new w _,h2,?_⟩)
  rw [Array.size_append,size_zeroCells,size_zeroCells]
  simp
  omega
def Ya (a b:List Int):Fin 3→Int
 | 0=>0
 | 1=>(a.length:Int)
 | 2=>((a.length + b.length:Nat):Int)
def aL (a b:List Int):Fin 3→List D
 | 0=>[]
 | 1=>a.map (D.int .i64)
 | 2=>(a++b).map (D.int .i64)
theorem cm (a b:List Int) (ha:a.length≤200000) (hb:b.length≤200000) :
 Al Tryz.prog 207 [.d (.list 1 [F.ints a,F.ints b])] (.d (F.ints (a++b))):=by
 have w1:IntKind.i64.wrap (Ya a b 0 + (((a.map (D.int .i64)).length:Nat):Int)) = Ya a b 1:=by
  show IntKind.i64.wrap (0 + (((a.map (D.int .i64)).length:Nat):Int)) = (a.length:Int)
  rw [List.length_map,F.wrap_small (by omega) (by omega)]; omega
 have w2:IntKind.i64.wrap (Ya a b 1 + (((b.map (D.int .i64)).length:Nat):Int)) = Ya a b 2:=by
  show IntKind.i64.wrap ((a.length:Int) + (((b.map (D.int .i64)).length:Nat):Int)) = ((a.length + b.length:Nat):Int)
  rw [List.length_map,F.wrap_small (by omega) (by omega)]; omega
 refine DO Tryz.func207 (by kernel_rfl) ?_
 conv=>whnf
 refine loop (Fin 3) (fun k=>Cd 36 [(0,.d (.list 1 [F.ints a,F.ints b])),(3,.d (.int .i64 (Ya a b k))),(9,.d (.list 1 [F.ints a,F.ints b])),(10,.d (.int .i64 2)),(11,.d (.int .i64 (k.val:Int)))] []) (fun k=>2 - k.val) 0 ?_ fun k=>?_
 ·refine TW ?_
  conv=>whnf
  repeat (first | exact trivial | refine And.intro (by first | with_reducible rfl | exact .inl rfl | (rw [next (by first | omega | (simp only; omega))]) | rfl) ?_)
 match k with
 | 0 =>
   conv=>whnf
   refine ⟨⟨by decide,_,rfl,?_⟩⟩
   conv=>whnf
   refine br (fun h=>?_) (fun h=>?_)
   ·exact absurd (of_decide_eq_true h) (by show ¬ (IntKind.i64.wrap (Ya a b 0 + (((a.map (D.int .i64)).length:Nat):Int)) < 0); rw [w1]; show ¬ ((a.length:Int) < 0); omega)
   conv=>whnf
   refine ⟨1,?_,by decide⟩
   refine TW ?_
   conv=>whnf
   repeat (first | exact trivial | refine And.intro (by first | with_reducible rfl | rfl | rw [w1]) ?_)
 | 1 =>
   conv=>whnf
   refine ⟨⟨by decide,_,rfl,?_⟩⟩
   conv=>whnf
   refine br (fun h=>?_) (fun h=>?_)
   ·exact absurd (of_decide_eq_true h) (by show ¬ (IntKind.i64.wrap (Ya a b 1 + (((b.map (D.int .i64)).length:Nat):Int)) < 0); rw [w2]; show ¬ (((a.length + b.length:Nat):Int) < 0); omega)
   conv=>whnf
   refine ⟨2,?_,by decide⟩
   refine TW ?_
   conv=>whnf
   repeat (first | exact trivial | refine And.intro (by first | with_reducible rfl | rfl | rw [w2]) ?_)
 | 2 =>
   conv=>whnf
   refine dY (eh (a.length + b.length) (by omega)) ?_
   conv=>whnf
   refine loop (Fin 3) (fun k=>Cd 36 [(6,.sl 24 1),(25,.d (.list 1 [F.ints a,F.ints b])),(26,.d (.int .i64 2)),(27,.d (.int .i64 (k.val:Int)))] [(24,.row 1 3 (aL a b k),1)]) (fun k=>2 - k.val) 0 ?_ fun k=>?_
   ·refine TW ?_
    conv=>whnf
    repeat (first | exact trivial | refine And.intro (by first | with_reducible rfl | exact .inl rfl | (rw [next (by first | omega | (simp only; omega))]) | rfl) ?_)
   match k with
   | 0 =>
     conv=>whnf
     refine ⟨⟨by decide,_,rfl,?_⟩⟩
     conv=>whnf
     refine ⟨by rw [F.bytes_int]; simp only [aL,List.length_map,List.length_nil]; exact ⟨by unfold maxLen; omega,by omega,.inr (by kernel_rfl)⟩,?_⟩
     conv=>whnf
     refine ⟨1,?_,by decide⟩
     refine TW ?_
     conv=>whnf
     repeat (first | exact trivial | refine And.intro (by first | with_reducible rfl | exact .inl rfl | (rw [next (by first | omega | (simp only; omega))]) | rfl) ?_)
   | 1 =>
     conv=>whnf
     refine ⟨⟨by decide,_,rfl,?_⟩⟩
     conv=>whnf
     refine ⟨by rw [F.bytes_int]; simp only [aL,List.length_map,List.length_nil]; exact ⟨by unfold maxLen; omega,by omega,.inr (by kernel_rfl)⟩,?_⟩
     conv=>whnf
     refine ⟨2,?_,by decide⟩
     refine TW ?_
     conv=>whnf
     repeat (first | exact trivial | refine And.intro (by first | with_reducible rfl | rfl | (simp only [aL,List.map_append]; done) | (simp only [aL,List.map_append]; rfl)) ?_)
   | 2 =>
     conv=>whnf
     refine ⟨.inl ?_⟩
     exact z55
theorem fm (xs:List Int) (h:xs.length≤400000):Al Tryz.prog 206 [.d (F.ints xs)] (.d (F.ints (F.setI xs))):=by
 refine DO Tryz.func206 (by kernel_rfl) ?_
 conv=>whnf
 refine A1 (F.clone xs (by omega)) ?_
 conv=>whnf
 refine BN (F.sortC xs (by omega)) ?_
 conv=>whnf
 refine BN (F.compactC (Fb xs) (by have:=Go.Abs.length_sortI xs; omega)) ?_
 rw [show Go.Lib.compact (Fb xs) = F.setI xs from rfl]
 conv=>whnf
 refine ⟨.inl ?_⟩
 exact z55
theorem H1 (p0 p1:List Int) (R:List Int) (hF:Hg p0 p1 = some R):Al Tryz.prog 139 [.d (Ah 1 (D.int .i64) p0),.d (Ah 1 (D.int .i64) p1)] (.d (Ah 1 (D.int .i64) R)):=by
 obtain ⟨hr,hF⟩:=E0 hF
 obtain rfl:=Option.some.inj hF
 obtain ⟨h1,h2⟩:=of_decide_eq_true hr
 rw [F.setU_eq]
 refine DO Tryz.func139 (by kernel_rfl) ?_
 conv=>whnf
 refine A1 (cm p0 p1 (by omega) (by omega)) ?_
 conv=>whnf
 refine A1 (fm (p0++p1) (by rw [List.length_append]; omega)) ?_
 exact z55
theorem J3 (p0 p1:Int) (R:AX × Int) (hF:L4 p0 p1 = some R):Al Tryz.prog 121 [.d (.int .i64 p0),.d (.int .i64 p1)] (.tup [.d (CQ R.1),.d (.int .i64 R.2)]):=by
 unfold L4 at hF
 obtain ⟨hr,hF⟩:=E0 hF
 obtain ⟨k0,k1⟩:=Bool.and_eq_true_iff.1 hr
 have k0:=of_decide_eq_true k0
 have k1:=of_decide_eq_true k1
 cases hz:(p1==0) with
 | true =>
   have hz':=eq_of_beq hz
   subst hz'
   rw [hz] at hF
   obtain rfl:=Option.some.inj hF
   refine DO Tryz.func121 (by kernel_rfl) ?_
   exact z55
 | false =>
   rw [hz] at hF
   obtain rfl:=Option.some.inj hF
   exact F.of_ p0 p1 (by intro h; rw [h] at hz; cases hz) k0 k1
theorem Zz {p:AX} (h:eO p = true):F.VF (p.Num,p.Den):=by
 have h2:=of_decide_eq_true h
 exact h2
theorem TK (p0 p1:AX) (R:AX × Int) (hF:QI p0 p1 = some R):Al Tryz.prog 137 [.d (CQ p0),.d (CQ p1)] (.tup [.d (CQ R.1),.d (.int .i64 R.2)]):=by
 obtain ⟨hr,hF⟩:=E0 hF
 obtain rfl:=Option.some.inj hF
 obtain ⟨k0,k1⟩:=Bool.and_eq_true_iff.1 hr
 exact F.mul_ (p0.Num,p0.Den) (p1.Num,p1.Den) (Zz k0) (Zz k1)
theorem aU (p q:Int × Int) (hp:F.VF p) (hq:F.VF q) (f:FuncId) (op:Int→Int→Int) (hop:∀ a b,Al Tryz.prog f [.d (F.W a),.d (F.W b)] (.d (F.W (op a b))))
 (hb:-F.B127 < op (p.1 * q.2) (p.2 * q.1)∧op (p.1 * q.2) (p.2 * q.1) < F.B127) :
 Al Tryz.prog 200 [.d (F.frD p),.d (F.frD q),.d (.fn f [])]
 (.tup [.d (F.frD (F.redF (op (p.1 * q.2) (p.2 * q.1)) (p.2 * q.2).toNat)),.d (.int .i64 (F.redE (op (p.1 * q.2) (p.2 * q.1)) (p.2 * q.2).toNat))]):=by
 have vp:=F.valid_ p hp
 have vq:=F.valid_ q hq
 obtain ⟨a,b⟩:=p
 obtain ⟨c,d⟩:=q
 have hB:F.B127 = 170141183460469231731687303715884105728:=rfl
 obtain ⟨⟨h1,h2⟩,h3,_⟩:=hp
 obtain ⟨⟨k1,k2⟩,k3,_⟩:=hq
 simp only at h1 h2 h3 k1 k2 k3 hb
 have hbd:=F.prod_bound (a:=b) (b:=d) (by omega) (by omega)
 have hbd0:0 < b * d:=Int.mul_pos (by omega) (by omega)
 have hred:=F.reduced_ (op (a * d) (b * c)) (b * d) (by omega) hb (by omega)
 rw [show F.nn (op (a * d) (b * c)) (b * d) = op (a * d) (b * c) from if_neg (by omega),show (b * d).natAbs = (b * d).toNat by omega] at hred
 have hcr:Al Tryz.prog 205 [.d (F.frD (a,b)),.d (F.frD (c,d))] (.tup [.d (F.W (a * d)),.d (F.W (b * c))]):=by
  refine DO Tryz.func205 (by kernel_rfl) ?_
  conv=>whnf
  refine ⟨⟨by decide +kernel,by kernel_rfl⟩,?_⟩
  conv=>whnf
  refine A1 (F.whole_ a (by omega) (by omega)) ?_
  conv=>whnf
  refine A1 (F.whole_ d (by omega) (by omega)) ?_
  conv=>whnf
  refine A1 (F.times_ a d) ?_
  conv=>whnf
  refine A1 (F.whole_ c (by omega) (by omega)) ?_
  conv=>whnf
  refine A1 (F.whole_ b (by omega) (by omega)) ?_
  conv=>whnf
  refine A1 (F.times_ c b) ?_
  rw [Int.mul_comm c b]
  exact z55
 refine DO Tryz.func200 (by kernel_rfl) ?_
 conv=>whnf
 refine A1 vp ?_
 conv=>whnf
 refine A1 vq ?_
 conv=>whnf
 refine ⟨⟨by decide +kernel,by kernel_rfl⟩,?_⟩
 conv=>whnf
 refine A1 hcr ?_
 conv=>whnf
 refine A1 (hop (a * d) (b * c)) ?_
 conv=>whnf
 refine A1 (F.whole_ b (by omega) (by omega)) ?_
 conv=>whnf
 refine A1 (F.whole_ d (by omega) (by omega)) ?_
 conv=>whnf
 refine A1 (F.times_ b d) ?_
 conv=>whnf
 refine A1 hred ?_
 generalize F.redF (op (a * d) (b * c)) (b * d).toNat = r
 generalize F.redE (op (a * d) (b * c)) (b * d).toNat = e
 obtain ⟨r1,r2⟩:=r
 exact z55
theorem TL (p0 p1:AX) (R:AX × Int) (hF:QJ p0 p1 = some R):Al Tryz.prog 136 [.d (CQ p0),.d (CQ p1)] (.tup [.d (CQ R.1),.d (.int .i64 R.2)]):=by
 obtain ⟨hr,hF⟩:=E0 hF
 obtain rfl:=Option.some.inj hF
 obtain ⟨k0,k1⟩:=Bool.and_eq_true_iff.1 hr
 have v0:=Zz k0
 have v1:=Zz k1
 have hc:=aU (p0.Num,p0.Den) (p1.Num,p1.Den) v0 v1 202 (fun a b=>a - b) F.minus_ (by
  obtain ⟨⟨h1,h2⟩,h3,_⟩:=v0
  obtain ⟨⟨k1,k2⟩,k3,_⟩:=v1
  simp only at h1 h2 h3 k1 k2 k3 ⊢
  have e1:=F.prod_bound (a:=p0.Num) (b:=p1.Den) h3 (by omega)
  have e2:=F.prod_bound (a:=p0.Den) (b:=p1.Num) (by omega) k3
  have hB:F.B127 = 170141183460469231731687303715884105728:=rfl
  omega)
 rw [Int.mul_comm p0.Den p1.Num] at hc
 simp only at hc
 rw [show p0.Den * p1.Den = p0.Den * p1.Den from rfl] at hc
 refine DO Tryz.func136 (by kernel_rfl) ?_
 conv=>whnf
 refine A1 hc ?_
 unfold cC
 generalize F.redF (p0.Num * p1.Den - p1.Num * p0.Den) (p0.Den * p1.Den).toNat = r
 generalize F.redE (p0.Num * p1.Den - p1.Num * p0.Den) (p0.Den * p1.Den).toNat = e
 obtain ⟨r1,r2⟩:=r
 exact z55
theorem TI (p0 p1:AX) (R:AX × Int) (hF:QG p0 p1 = some R):Al Tryz.prog 135 [.d (CQ p0),.d (CQ p1)] (.tup [.d (CQ R.1),.d (.int .i64 R.2)]):=by cases hF
theorem TJ (p0 p1:AX) (R:AX × Int) (hF:QH p0 p1 = some R):Al Tryz.prog 138 [.d (CQ p0),.d (CQ p1)] (.tup [.d (CQ R.1),.d (.int .i64 R.2)]):=by cases hF
end Go.Proofs.YtjghjdokjgcehaaGreatDoor.P
