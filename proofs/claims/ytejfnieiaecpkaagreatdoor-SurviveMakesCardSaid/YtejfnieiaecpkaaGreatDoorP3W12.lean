/- P3W12 -/
import Derived.Test.YtejfnieiaecpkaaGreatDoorP3W4
import Derived.Test.YtejfnieiaecpkaaGreatDoorP3W9
import Derived.Test.YtejfnieiaecpkaaGreatDoorP3W11
set_option linter.unusedSimpArgs false
namespace Go.Proofs.YtejfnieiaecpkaaGreatDoor.P
open Go.Abs Go.Proofs
set_option maxRecDepth 100000
set_option maxHeartbeats 4000000
set_option linter.unusedVariables false
theorem Ph (d:Nat) (p0:(List Int)) (p1:Int) (p2:Af) (R:Bool) (h:Gx d p0 p1 p2 = some R):Aj Tryz.prog 5 [.d (Al 1 (D.int .u8) p0),.d (.int .i64 p1),.d (Ax p2)] (.d (.bool R)):=by
 refine Dt [15] Tryz.func5 (by kernel_rfl) ?_
 unfold Gx at h
 refine AW h (fun h=>?_) fun h=>?_
 ·refine A7 h (fun _=>Q0  _) fun x40 h=>?_
  exact AM h
 refine A7 h (fun _=>V3 _ _) fun x42 h=>?_
 refine KP h (fun _=>QW _ _ _ _) fun x45 h=>?_
 refine A7 h (fun _=>V3 _ _) fun x50 h=>?_
 refine KP h (fun _=>OD _ _ _ _) fun x51 h=>?_
 conv=>whnf
 refine z11 ?_
 refine KP h (fun _=>Ff _ _ _ _ _) fun x59 h=>?_
 refine KP h (fun _=>Ff _ _ _ _ _) fun x62 h=>?_
 refine F0 {p:Unit // ED x62 x45 d x51 x59 p1 p2 = some R} (fun p=>B8 161 [(1,.d (.int .i64 p1)),(5,.ptr 5 1 0),(7,.ptr 42 1 0),(9,.ptr 9 1 0),(12,.ptr 12 1 0),(13,.ptr 13 1 0),(14,.ptr 14 1 0),(15,.ptr 15 1 0)] [(5,.var [.d (.int .i64 p2.Op),.d (.int .i64 p2.Column),.d (.int .i64 p2.Code),.d (.int .i64 p2.Low),.d (.int .i64 p2.High),.d (Al 6 Ao p2.Kids)],1),(9,.var [.d (.str x45.2.1.Project),.d (.int .i64 x45.2.1.Version),.d (Al 2 Ag x45.2.1.Picks),.d (Al 1 (Al 1 (D.int .i64)) x45.2.1.Rows)],1),(12,.var [.d (.str x51.2.2.1.Project),.d (.int .i64 x51.2.2.1.Version),.d (Al 2 Ag x51.2.2.1.Picks),.d (Al 1 (Al 1 (D.int .i64)) x51.2.2.1.Rows)],1),(13,.var [.d (Al 2 Ac x45.1.Schema.Lists),.d (Al 7 Ad x45.1.Schema.Columns)],1),(14,.var [.d (.int .i64 x59.1.Op),.d (.int .i64 x59.1.Column),.d (.int .i64 x59.1.Code),.d (.int .i64 x59.1.Low),.d (.int .i64 x59.1.High),.d (Al 6 Ao x59.1.Kids)],1),(15,.var [.d (.int .i64 x62.1.Op),.d (.int .i64 x62.1.Column),.d (.int .i64 x62.1.Code),.d (.int .i64 x62.1.Low),.d (.int .i64 x62.1.High),.d (Al 6 Ao x62.1.Kids)],1),(42,.var [.d (Al 1 (D.int .u8) x62.2.f_l),.d (.int .i64 x62.2.f_at)],1)]) ?_ fun p=>?_
 ·refine z3 h (fun p=>B8 161 [(1,.d (.int .i64 p1)),(5,.ptr 5 1 0),(7,.ptr 42 1 0),(9,.ptr 9 1 0),(12,.ptr 12 1 0),(13,.ptr 13 1 0),(14,.ptr 14 1 0),(15,.ptr 15 1 0),(16,.d (.int .i64 p))] [(5,.var [.d (.int .i64 p2.Op),.d (.int .i64 p2.Column),.d (.int .i64 p2.Code),.d (.int .i64 p2.Low),.d (.int .i64 p2.High),.d (Al 6 Ao p2.Kids)],1),(9,.var [.d (.str x45.2.1.Project),.d (.int .i64 x45.2.1.Version),.d (Al 2 Ag x45.2.1.Picks),.d (Al 1 (Al 1 (D.int .i64)) x45.2.1.Rows)],1),(12,.var [.d (.str x51.2.2.1.Project),.d (.int .i64 x51.2.2.1.Version),.d (Al 2 Ag x51.2.2.1.Picks),.d (Al 1 (Al 1 (D.int .i64)) x51.2.2.1.Rows)],1),(13,.var [.d (Al 2 Ac x45.1.Schema.Lists),.d (Al 7 Ad x45.1.Schema.Columns)],1),(14,.var [.d (.int .i64 x59.1.Op),.d (.int .i64 x59.1.Column),.d (.int .i64 x59.1.Code),.d (.int .i64 x59.1.Low),.d (.int .i64 x59.1.High),.d (Al 6 Ao x59.1.Kids)],1),(15,.var [.d (.int .i64 x62.1.Op),.d (.int .i64 x62.1.Column),.d (.int .i64 x62.1.Code),.d (.int .i64 x62.1.Low),.d (.int .i64 x62.1.High),.d (Al 6 Ao x62.1.Kids)],1),(42,.var [.d (Al 1 (D.int .u8) x62.2.f_l),.d (.int .i64 x62.2.f_at)],1)]) Aq fun _ _ v16_1 h=>?_
  simp only [GT] at h
  refine AW h (fun h=>?_) fun h=>?_
  ·refine A7 h (fun _=>LS _ _ _ _ _ _ _) fun x76 h=>?_
   refine A7 h (fun _=>Oe _ _ _ _ _ _ _) fun x86 h=>?_
   refine A2 h fun h=>?_
   refine A7 h (fun _=>Yo _ _ _) fun x96 h=>?_
   refine A2 h fun h=>?_
   refine A7 h (fun _=>Yq _ _ _) fun x102 h=>?_
   exact z28
  conv=>whnf
  exact ⟨⟨(),h⟩,Aq⟩
 obtain ⟨_,h⟩:=p
 simp only [ED] at h
 refine KP h (fun _=>D2 _ _ _) fun x107 h=>?_
 refine A7 h (fun _=>LS _ _ _ _ _ _ _) fun x114 h=>?_
 refine A7 h (fun _=>Oe _ _ _ _ _ _ _) fun x124 h=>?_
 conv=>whnf
 refine z11 ?_
 refine A7 h (fun _=>V8 _ _ _) fun x132 h=>?_
 refine A7 h (fun _=>LS _ _ _ _ _ _ _) fun x135 h=>?_
 conv=>whnf
 refine z11 ?_
 refine A7 h (fun _=>V8 _ _ _) fun x143 h=>?_
 refine A7 h (fun _=>Oe _ _ _ _ _ _ _) fun x146 h=>?_
 refine Cb h fun h=>?_
 refine A7 h (fun _=>Q0  _) fun x159 h=>?_
 exact AM h
end Go.Proofs.YtejfnieiaecpkaaGreatDoor.P
