/- Plain laws: R21 .. R29. -/
import Derived.Test.YtejfnieiaecpkaaGreatDoorRB
set_option linter.unusedVariables false
set_option linter.unusedSimpArgs false
namespace Go.Proofs.YtejfnieiaecpkaaGreatDoor.P
open Go Go.Abs Go.Proofs
set_option maxRecDepth 100000
variable {s:Aa}
def PN (s:Aa) (c:Ag) (i L:Int) (picks:List Ae):Prop:=(∀ a∈J8 59 c,one picks a.Column (O1 s a))∧one picks i L
theorem DS.rcond_zero (h:DS s) (d:Nat):Ce (d + 1) s Nz = some 4:=by unfold Ce; rw [h.rcheck]; rfl
theorem DS.rneeds_zero (h:DS s) (d:Nat):CN (d + 1) s Nz = some []:=by unfold CN; rw [h.rcond_zero]; rfl
theorem add_zero (hs:DS s) (out:List Ae):I8 59 s out Nz = some out:=by
 refine Ok.val ?_
 unfold I8
 refine Ok.bindE (hs.rneeds_zero 58) ?_
 refine Ok.for (fun q=>q.2) 0 (fun _ q=>q.1 = out) 0 (Nat.zero_le _) rfl rfl (by omega) (fun rec q hq hI=>?_) fun rec k q hk hq hI ih=>absurd hk (by omega)
 simp only [Jq,hq,hI]
 exact Ok.no rfl (Ok.some rfl)
theorem aP (hs:DS s) {i:Nat} (hi0:1≤i) (hi:i < s.Columns.length) (h:Ci s.Columns[i]) {n:Nat} (hn:n < s.Columns[i].Widths.length) (c:Ag) {L:Int} (hL:Dx s i ((s.Columns[i].Widths.length:Int) - n) = some L) :
 I9 s (hE i s.Columns[i].Widths[n] c) = some [({ Column:=i,Level:=L }:Ae)]:=by
 refine Ok.val ?_
 unfold I9
 refine Ok.for (fun q=>q.1) 0 (fun _ q=>q.2 = []) 0 (Nat.zero_le _) rfl rfl (by omega) (fun rec q hq hI=>?_) fun rec i q hi hq hI ih=>absurd hi (by omega)
 simp only [KU,hq,hI]
 refine Ok.no rfl ?_
 unfold Jt
 refine Ok.no rfl (Ok.no rfl (Ok.no rfl (Ok.no rfl (Ok.no rfl (Ok.no rfl (Ok.yes rfl (Ok.bindE (XS hi h hn) (Ok.bindE hL (Ok.rm (by simp) ?_)))))))))
 unfold BA
 refine Ok.for (fun q=>q.1) 0 (fun _ q=>q.2 = [({ Column:=i,Level:=L }:Ae)]) 0 (Nat.zero_le _) rfl rfl (by omega) (fun rec q hq hI=>?_) fun rec i q hi hq hI ih=>absurd hi (by omega)
 simp only [KX,hq,hI]
 exact Ok.no rfl (Ok.some rfl)
theorem cA (hs:DS s) {i:Nat} (hi0:1≤i) (hi:i < s.Columns.length) (c:Ag) {L:Int} (hL:Dx s i (fin s i) = some L) :
 I9 s (bE i c) = some [({ Column:=i,Level:=L }:Ae)]:=by
 refine Ok.val ?_
 unfold I9
 refine Ok.for (fun q=>q.1) 0 (fun _ q=>q.2 = []) 0 (Nat.zero_le _) rfl rfl (by omega) (fun rec q hq hI=>?_) fun rec i q hi hq hI ih=>absurd hi (by omega)
 simp only [KU,hq,hI]
 refine Ok.no rfl ?_
 unfold Jt
 refine Ok.no rfl (Ok.no rfl (Ok.no rfl (Ok.no rfl (Ok.no rfl (Ok.yes rfl (Ok.yes ?_ (Ok.bindE (x:=[({ Column:=i,Level:=L }:Ae)]) ?_ ?_)))))))
 ·show decide ((i:Int) > 0) = true
  exact decide_eq_true (by omega)
 ·unfold D0
  exact Ok.val (Ok.bindE (hs.pFinest hi0 hi) (Ok.bindE hL (Ok.rm (by simp) (Ok.some rfl))))
 unfold BA
 refine Ok.for (fun q=>q.1) 0 (fun _ q=>q.2 = [({ Column:=i,Level:=L }:Ae)]) 0 (Nat.zero_le _) rfl rfl (by omega) (fun rec q hq hI=>?_) fun rec i q hi hq hI ih=>absurd hi (by omega)
 simp only [KX,hq,hI]
 exact Ok.no rfl (Ok.some rfl)
theorem XW (hs:DS s) {e:AA} {n:Nat} {c:Ag} (hc:RC s n c) (hn:n≤3) (h1:e.Cond = c) (h2:e.Event = Nz) (h3:e.Kids = []) {i:Nat} (hi:i < s.Columns.length) {L:Int} (hown:I9 s e = some [({ Column:=i,Level:=L }:Ae)]) :
 Ok (Io DD s e) fun r=>NP r 1001 (PN s c i L):=by
 have hcl:=hs.cols_length
 show Ok (H6 59 (Io 59) s e) _
 unfold H6
 rw [h1,h2]
 refine Ok.bindE hown (Ok.bind (ct hs hc (by omega:n < 59) hn) fun l hl=>Ok.bindE (hs.pneeds_zero 58) ?_)
 have hat:=Vd hs n 59 hc
 refine Ok.for (fun q=>q.1) 0 (fun _ q=>q.2 = [[({ Column:=i,Level:=L }:Ae)],l,[]]) 0 (Nat.zero_le _) rfl rfl (by omega) (fun rec q hq hI=>?_) fun rec i q hi hq hI ih=>absurd hi (by omega)
 simp only [LJ,hq,hI,h3]
 refine Ok.no rfl (Ok.bind (bv (by simp) (fun z hz=>?_) fun z hz p hp=>?_) fun x hx=>Ok.some (hx.congr fun picks=>?_))
 ·have:=hl.len
  simp only [List.mem_cons,List.not_mem_nil,or_false] at hz
  rcases hz with rfl | rfl | rfl
  ·simp
  ·omega
  ·simp
 ·simp only [List.mem_cons,List.not_mem_nil,or_false] at hz
  rcases hz with rfl | rfl | rfl
  ·rw [List.mem_singleton] at hp; subst hp
   show 0≤(i:Int)∧(i:Int)≤1000
   omega
  ·obtain ⟨a,ha,e⟩:=hl.cols p hp
   obtain ⟨j,S,hA⟩:=hat a ha
   have:=hA.i1
   rw [e,hA.col]; omega
  ·cases hp
 ·unfold PN
  rw [← hl.iff picks]
  constructor
  ·intro h
   exact ⟨h l (by simp),h [({ Column:=i,Level:=L }:Ae)] (by simp) _ (List.mem_singleton.2 rfl)⟩
  ·rintro ⟨h4,h5⟩ z hz
   simp only [List.mem_cons,List.not_mem_nil,or_false] at hz
   rcases hz with rfl | rfl | rfl
   ·intro p hp
    rw [List.mem_singleton] at hp; subst hp; exact h5
   ·exact h4
   ·exact fun p hp=>by cases hp
theorem VG {e:AA} (h1:e.Columns = []) (h2:e.Kids = []) (self:Aa→AA→Option (List Ae)) (r:List Ae):BM e s self r = some r:=by
 refine Ok.val ?_
 unfold BM
 refine Ok.for (fun q=>q.2) 0 (fun _ q=>q.1 = r) 0 (Nat.zero_le _) rfl rfl (by omega) (fun rec q hq hI=>?_) fun rec k q hk hq hI ih=>absurd hk (by omega)
 simp only [LS,hq,hI,h1]
 refine Ok.no rfl ?_
 unfold J5
 refine Ok.for (fun q=>q.2) 0 (fun _ q=>q.1 = r) 0 (Nat.zero_le _) rfl rfl (by omega) (fun rec q hq hI=>?_) fun rec k q hk hq hI ih=>absurd hk (by omega)
 simp only [LZ,hq,hI,h2]
 exact Ok.no rfl (Ok.some rfl)
theorem XZ (hs:DS s) {n:Nat} {c:Ag} (hc:RC s n c) (hn:n≤3) {i:Nat} (hi0:1≤i) (hi:i < s.Columns.length) (h:Ci s.Columns[i]) {t:Nat} (ht:t < s.Columns[i].Widths.length) {L:Int} (hL:Cd s i ((s.Columns[i].Widths.length:Int) - t) = some L) :
 Ok (F5 DD s (hE i s.Columns[i].Widths[t] c)) fun r=>NP r 1001 (PN s c i L):=by
 show Ok (EU 59 (F5 59) s (hE i s.Columns[i].Widths[t] c)) _
 unfold EU
 refine Ok.bind (Tp hs hc hn (d:=57) (by omega) i s.Columns[i].Widths[t]) fun b hb=>Ok.no ?_ ?_
 ·rw [hb.2 ⟨i,hi,hi0,rfl,h,List.getElem_mem ht⟩]; rfl
 refine Ok.bind (bJ NP.nil (m:=0) (by omega) (N6 hs hc (by omega:n < 59) hn)) fun r hr=>Ok.bindE (add_zero hs r) ?_
 have hrl:=hr.len
 refine Ok.for (fun q=>q.2) 0 (fun _ q=>q.1 = r) 0 (Nat.zero_le _) rfl rfl (by omega) (fun rec q hq hI=>?_) fun rec k q hk hq hI ih=>absurd hk (by omega)
 simp only [Js,hq,hI]
 refine Ok.no rfl ?_
 unfold Hb
 refine Ok.no rfl (Ok.no rfl (Ok.no rfl (Ok.no rfl (Ok.no rfl (Ok.no rfl (Ok.yes rfl (Ok.bindE (VU hi h ht) (Ok.bindE hL (Ok.bind (U0 (by omega) hr.pos) fun z hz=>?_)))))))))
 refine ⟨z,VG rfl rfl _ z,by omega,hz.2.1,fun picks=>?_⟩
 rw [hz.2.2 picks,hr.iff picks]
 unfold PN
 exact ⟨fun h=>⟨h.1.2,h.2⟩,fun h=>⟨⟨trivial,h.1⟩,h.2⟩⟩
theorem YO (hs:DS s) {n:Nat} {c:Ag} (hc:RC s n c) (hn:n≤3) {i:Nat} (hi0:1≤i) (hi:i < s.Columns.length) (h:Ci s.Columns[i]) {L:Int} (hL:Cd s i (fin s i) = some L) :
 Ok (F5 DD s (bE i c)) fun r=>NP r 1001 (PN s c i L):=by
 show Ok (EU 59 (F5 59) s (bE i c)) _
 unfold EU
 refine Ok.bind (U4 hs hc hn (d:=57) (by omega) i) fun b hb=>Ok.no ?_ ?_
 ·rw [hb.2 ⟨i,hi,hi0,rfl,h⟩]; rfl
 refine Ok.bind (bJ NP.nil (m:=0) (by omega) (N6 hs hc (by omega:n < 59) hn)) fun r hr=>Ok.bindE (add_zero hs r) ?_
 have hrl:=hr.len
 refine Ok.for (fun q=>q.2) 0 (fun _ q=>q.1 = r) 0 (Nat.zero_le _) rfl rfl (by omega) (fun rec q hq hI=>?_) fun rec k q hk hq hI ih=>absurd hk (by omega)
 simp only [Js,hq,hI]
 refine Ok.no rfl ?_
 unfold Hb
 refine Ok.no rfl (Ok.no rfl (Ok.no rfl (Ok.no rfl (Ok.yes rfl (Ok.bind (P:=fun z:List Ae=>z.length≤r.length + 1∧(∀ p∈z,0 < p.Level)∧∀ picks,(∀ p∈z,one picks p.Column p.Level)↔(∀ p∈r,one picks p.Column p.Level)∧one picks i L) ?_ fun z hz=>?_)))))
 ·unfold DP
  exact Ok.bindE (hs.rfinest hi0 hi) (Ok.bindE hL (Ok.bind (U0 (by omega) hr.pos) fun z hz=>Ok.some hz))
 refine ⟨z,VG rfl rfl _ z,by omega,hz.2.1,fun picks=>?_⟩
 rw [hz.2.2 picks,hr.iff picks]
 unfold PN
 exact ⟨fun h=>⟨h.1.2,h.2⟩,fun h=>⟨⟨trivial,h.1⟩,h.2⟩⟩
end Go.Proofs.YtejfnieiaecpkaaGreatDoor.P
namespace Go.Proofs.YtejfnieiaecpkaaGreatDoor.P
open Go Go.Abs Go.Proofs
set_option maxRecDepth 100000
variable {s:Aa}
def tG (c:Av) (a v b:Int):Int × Bool :=
 if 1≤a∧v = Bq then (Bq,true)
 else if a = 0∧c.Optional = true then (0,false)
 else if Ob c a v - Ob c a v % DB c b = VI c a v - VI c a v % DB c b then (Ob c a v - Ob c a v % DB c b,true) else (0,false)
theorem U2 {c:Av} (h:Ci c) {a v:Int} (h0:0≤a) (h1:a≤c.Widths.length) (hv:c.Low≤v∧v≤c.High):(c.Low≤Ob c a v∧Ob c a v≤c.High)∧c.Low≤VI c a v∧VI c a v≤c.High:=by
 unfold Ob VI
 by_cases e:a = 0
 ·rw [if_pos e,if_pos e]; omega
 ·have hw:=E2 h (l:=a) (by omega) h1
  have hm:=Gr h (l:=a) (by omega) h1 hv
  rw [if_neg e,if_neg e]
  omega
theorem Yt {c:Av} (h:Ci c) {a v b:Int} (h0:0≤a) (h1:a≤c.Widths.length) (hb:1≤b) (hb2:b≤c.Widths.length) (hv:MV c v):((tG c a v b).1 = Bq∧(tG c a v b).2 = true)∨(-1000≤(tG c a v b).1∧(tG c a v b).1≤1000):=by
 obtain ⟨a1,a2⟩:=h.low
 obtain ⟨a3,a4⟩:=h.high
 unfold tG
 split
 ·exact .inl ⟨rfl,rfl⟩
 ·split
  ·exact .inr ⟨by show (-1000:Int)≤0; omega,by show (0:Int)≤1000; omega⟩
  ·rename_i e1 e2
   have hr:c.Low≤v∧v≤c.High:=by
    rcases hv with hv | ⟨ho,hv⟩
    ·exact hv
    ·by_cases e:a = 0
     ·exact absurd ⟨e,ho⟩ e2
     ·exact absurd ⟨by omega,hv⟩ e1
   have:=U2 h h0 h1 hr
   have hw:=E2 h hb hb2
   have h3:=Int.emod_nonneg (Ob c a v) (by omega:DB c b≠0)
   have h4:=Int.emod_lt_of_pos (Ob c a v) (by omega:0 < DB c b)
   split
   ·exact .inr ⟨by show -1000≤Ob c a v - Ob c a v % DB c b; omega,by show Ob c a v - Ob c a v % DB c b≤1000; omega⟩
   ·exact .inr ⟨by show (-1000:Int)≤0; omega,by show (0:Int)≤1000; omega⟩
theorem VD (hs:DS s) {i:Nat} (hi0:1≤i) (hi:i < s.Columns.length) (h:Ci s.Columns[i]) {a b v:Int} (h0:0≤a) (h1:a≤s.Columns[i].Widths.length) (hb:1≤b) (hb2:b≤s.Columns[i].Widths.length) (hv:MV s.Columns[i] v) :
 EV s i a (mv s.Columns[i] a v) b = some (tG s.Columns[i] a v b):=by
 have hf:fin s i = s.Columns[i].Widths.length:=by rw [DF hi,Cl h]
 obtain ⟨a1,a2⟩:=h.low
 obtain ⟨a3,a4⟩:=h.high
 have eb:(b==0) = false:=by rw [beq_eq_false_iff_ne]; omega
 have hgo:∀ {r:Int × Bool} {r':Int × Bool},Cm s.Columns[i] a (mv s.Columns[i] a v) b = some r→r' = (bif r.2 then (r.1,true) else (0,false))→EV s i a (mv s.Columns[i] a v) b = some r':=by
  intro r r' hr e
  refine Ok.val ?_
  unfold EV
  refine Ok.bindE (hs.pfinest hi0 hi) (Ok.no ?_ (Ok.idxn hi (Ok.no (by rw [h.kind]; rfl) (Ok.bindE hr ?_))))
  ·rw [decide_eq_false (by omega),decide_eq_false (by omega),decide_eq_false (by omega),decide_eq_false (by omega)]; rfl
  ·rw [e]
   cases r.2
   ·exact Ok.yes rfl (Ok.some rfl)
   ·exact Ok.no rfl (Ok.some rfl)
 by_cases ea:a = 0
 ·subst ea
  by_cases ho:s.Columns[i].Optional = true
  ·refine hgo (r:=(0,false)) ?_ ?_
   ·unfold Cm
    refine Ok.val (Ok.no rfl (Ok.bindE (x:=(s.Columns[i].Low,s.Columns[i].High,true)) rfl (Ok.no rfl (Ok.no eb (Ok.yes ?_ (Ok.some rfl))))))
    rw [ho]; rfl
   ·unfold tG
    rw [if_neg (by omega),if_pos ⟨rfl,ho⟩]; rfl
  ·have hv:s.Columns[i].Low≤v∧v≤s.Columns[i].High:=by
    rcases hv with hv | hv
    ·exact hv
    ·exact absurd hv.1 ho
   have ho2:s.Columns[i].Optional = false:=by simpa using ho
   have hw:=E2 h hb hb2
   have d1:=NA (n:=s.Columns[i].Low) hw.1 (by omega) (by omega) (by omega)
   have d2:=NA (n:=s.Columns[i].High) hw.1 (by omega) (by omega) (by omega)
   refine hgo (r:=(s.Columns[i].Low - s.Columns[i].Low % DB s.Columns[i] b,(s.Columns[i].Low - s.Columns[i].Low % DB s.Columns[i] b==s.Columns[i].High - s.Columns[i].High % DB s.Columns[i] b))) ?_ ?_
   ·unfold Cm
    refine Ok.val (Ok.no rfl (Ok.bindE (x:=(s.Columns[i].Low,s.Columns[i].High,true)) rfl (Ok.no rfl (Ok.no eb (Ok.no ?_ (Ok.bindE (YM h hb hb2) (Ok.bindE d1 (Ok.bindE d1 (Ok.bindE d2 (Ok.some rfl))))))))))
    rw [ho2]; rfl
   ·unfold tG Ob VI
    rw [if_neg (by omega),if_neg (fun hh=>ho hh.2),if_pos rfl,if_pos rfl]
    by_cases e:s.Columns[i].Low - s.Columns[i].Low % DB s.Columns[i] b = s.Columns[i].High - s.Columns[i].High % DB s.Columns[i] b
    ·rw [if_pos e,beq_iff_eq.2 e]; rfl
    ·rw [if_neg e,beq_eq_false_iff_ne.2 e]; rfl
 ·have ea1:(a==0) = false:=by rw [beq_eq_false_iff_ne]; exact ea
  rcases hv with hv | ⟨ho,rfl⟩
  ·have hm:=Gr h (l:=a) (by omega) h1 hv
   have hbl:=U2 h h0 h1 hv
   have hw:=E2 h hb hb2
   have d1:=NA (n:=Ob s.Columns[i] a v) hw.1 (by omega) (by omega) (by omega)
   have d2:=NA (n:=VI s.Columns[i] a v) hw.1 (by omega) (by omega) (by omega)
   have e3:(mv s.Columns[i] a v==-1099511627776) = false:=by rw [beq_eq_false_iff_ne]; exact hm.2.2.2.1
   refine hgo (r:=(Ob s.Columns[i] a v - Ob s.Columns[i] a v % DB s.Columns[i] b,(Ob s.Columns[i] a v - Ob s.Columns[i] a v % DB s.Columns[i] b==VI s.Columns[i] a v - VI s.Columns[i] a v % DB s.Columns[i] b))) ?_ ?_
   ·unfold Cm
    refine Ok.val (Ok.no (by rw [decide_eq_true (by omega),e3]; rfl) (Ok.bindE (b7 h h0 h1 hv) (Ok.no rfl (Ok.no eb (Ok.no (by rw [ea1]; rfl) (Ok.bindE (YM h hb hb2) (Ok.bindE d1 (Ok.bindE d1 (Ok.bindE d2 (Ok.some rfl))))))))))
   ·have hvm:v≠Bq:=by unfold Bq; omega
    unfold tG
    rw [if_neg (fun hh=>hvm hh.2),if_neg (fun hh=>ea hh.1)]
    by_cases e:Ob s.Columns[i] a v - Ob s.Columns[i] a v % DB s.Columns[i] b = VI s.Columns[i] a v - VI s.Columns[i] a v % DB s.Columns[i] b
    ·rw [if_pos e,beq_iff_eq.2 e]; rfl
    ·rw [if_neg e,beq_eq_false_iff_ne.2 e]; rfl
  ·have e:mv s.Columns[i] a Bq = Bq:=by unfold mv; rw [if_neg ea,if_pos rfl]
   refine hgo (r:=(Bq,true)) ?_ ?_
   ·unfold Cm
    rw [e,decide_eq_true (by omega:a > 0),ho]
    exact Ok.val (Ok.yes rfl (Ok.no eb (Ok.some rfl)))
   ·unfold tG
    rw [if_pos ⟨by omega,rfl⟩]; rfl
theorem ZJ (hs:DS s) {i:Nat} (hi0:1≤i) (hi:i < s.Columns.length) (h:Ci s.Columns[i]) {a b v:Int} (h0:0≤a) (h1:a≤s.Columns[i].Widths.length) (hb:1≤b) (hb2:b≤s.Columns[i].Widths.length) (hv:MV s.Columns[i] v) :
 JF s i a (mv s.Columns[i] a v) b = some (tG s.Columns[i] a v b):=by
 have hf:fin s i = s.Columns[i].Widths.length:=by rw [DF hi,Cl h]
 obtain ⟨a1,a2⟩:=h.low
 obtain ⟨a3,a4⟩:=h.high
 have eb:(b==0) = false:=by rw [beq_eq_false_iff_ne]; omega
 refine Ok.val ?_
 unfold JF
 refine Ok.bindE (bm hs hi0 hi h h0 h1 hv) (Ok.no rfl (Ok.bindE (hs.rfinest hi0 hi) ?_))
 rw [Hy,Option.bind_some,decide_eq_true (by omega)]
 refine Ok.no rfl ?_
 unfold Ka
 refine Ok.idxn hi (Ok.no (by rw [h.kind]; rfl) (Ok.no eb ?_))
 have hrest:∀ (hr:s.Columns[i].Low≤v∧v≤s.Columns[i].High),¬ (a = 0∧s.Columns[i].Optional = true)→Ok ((F4 s.Columns[i] a (mv s.Columns[i] a v)).bind fun x98 =>
  (AP s i b x98.1).bind fun x106 =>
  (AP s i b x98.2.1).bind fun x111 =>
  bif (x106 != x111) then
   some (0,false)
  else
   some (x106,true)) (· = tG s.Columns[i] a v b):=by
  intro hr hno
  have hbl:=U2 h h0 h1 hr
  have c1:=So hs hi0 hi h (l:=b) (v:=Ob s.Columns[i] a v) (by omega) (by omega) (.inl (by omega))
  have c2:=So hs hi0 hi h (l:=b) (v:=VI s.Columns[i] a v) (by omega) (by omega) (.inl (by omega))
  rw [(Gr h (l:=b) hb hb2 hbl.1).1] at c1
  rw [(Gr h (l:=b) hb hb2 hbl.2).1] at c2
  have hvm:v≠Bq:=by unfold Bq; omega
  have et:tG s.Columns[i] a v b = if Ob s.Columns[i] a v - Ob s.Columns[i] a v % DB s.Columns[i] b = VI s.Columns[i] a v - VI s.Columns[i] a v % DB s.Columns[i] b then (Ob s.Columns[i] a v - Ob s.Columns[i] a v % DB s.Columns[i] b,true) else (0,false):=by
   unfold tG
   rw [if_neg (fun hh=>hvm hh.2),if_neg hno]
  rw [et]
  refine Ok.bindE (Y8 h h0 h1 hr) (Ok.bindE c1 (Ok.bindE c2 ?_))
  by_cases e:Ob s.Columns[i] a v - Ob s.Columns[i] a v % DB s.Columns[i] b = VI s.Columns[i] a v - VI s.Columns[i] a v % DB s.Columns[i] b
  ·rw [if_pos e]
   exact Ok.no (by rw [e]; simp) (Ok.some rfl)
  ·rw [if_neg e]
   exact Ok.yes (by rw [bne_iff_ne]; exact e) (Ok.some rfl)
 by_cases ea:a = 0
 ·subst ea
  refine Ok.no rfl (Ok.br (fun ho=>Ok.some ?_) fun ho=>?_)
  ·have ho:s.Columns[i].Optional = true:=ho
   unfold tG
   rw [if_neg (by omega),if_pos ⟨rfl,ho⟩]
  ·have ho:s.Columns[i].Optional = false:=ho
   refine hrest ?_ (fun hh=>by rw [ho] at hh; cases hh.2)
   rcases hv with hv | hv
   ·exact hv
   ·rw [ho] at hv; cases hv.1
 ·have ea1:(a==0) = false:=by rw [beq_eq_false_iff_ne]; exact ea
  rcases hv with hv | ⟨ho,rfl⟩
  ·have hm:=Gr h (l:=a) (by omega) h1 hv
   have e3:(mv s.Columns[i] a v==-1099511627776) = false:=by rw [beq_eq_false_iff_ne]; exact hm.2.2.2.1
   refine Ok.no (by rw [decide_eq_true (by omega),e3]; rfl) (Ok.no (by rw [ea1]; rfl) (hrest hv fun hh=>ea hh.1))
  ·have e:mv s.Columns[i] a Bq = Bq:=by unfold mv; rw [if_neg ea,if_pos rfl]
   rw [e,decide_eq_true (by omega:a > 0)]
   refine Ok.yes rfl (Ok.some ?_)
   unfold tG
   rw [if_pos ⟨by omega,rfl⟩]; rfl
end Go.Proofs.YtejfnieiaecpkaaGreatDoor.P
namespace Go.Proofs.YtejfnieiaecpkaaGreatDoor.P
open Go Go.Abs Go.Proofs
set_option maxRecDepth 100000
variable {s:Aa}
def KV (s:Aa) (x:Au) (i:Nat) (b:Int) (j:Nat):Int × Bool:=(CP s x j i b).getD (0,false)
def MQ (s:Aa) (x:Au) (i:Nat) (b:Int) (j:Nat):Bool:=bif (KV s x i b j).2 then (KV s x i b j).1 != -1099511627776 else false
theorem UM {x:Au} (hs:DS s) (hx:GX s x) {i:Nat} (hi0:1≤i) (hi:i < s.Columns.length) (h:Ci s.Columns[i]) {b:Int} (hb:1≤b) (hb2:b≤s.Columns[i].Widths.length) {j:Nat} (hj:j < x.Rows.length) :
 CP s x j i b = some (KV s x i b j)∧EM s x j i b = some (KV s x i b j)∧(((KV s x i b j).1 = Bq∧(KV s x i b j).2 = true)∨(-1000≤(KV s x i b j).1∧(KV s x i b j).1≤1000)):=by
 have hpl:=hx.picks_len hs
 have hf:fin s i = s.Columns[i].Widths.length:=by rw [DF hi,Cl h]
 suffices hgo:∃ r:Int × Bool,CP s x j i b = some r∧EM s x j i b = some r∧((r.1 = Bq∧r.2 = true)∨(-1000≤r.1∧r.1≤1000)) by
  obtain ⟨r,h1,h2,h3⟩:=hgo
  have e:KV s x i b j = r:=by unfold KV; rw [h1]; rfl
  rw [e]; exact ⟨h1,h2,h3⟩
 have hfi:Bj x.Picks (fun a0=>Hr a0 (i:Int)) = some (Gy (fun p=>p.Column==(i:Int)) x.Picks):=Lt (fun _ _=>rfl) (by omega)
 have hr:=hx.rows _ (List.getElem_mem hj)
 cases hff:x.Picks.findIdx? (fun p=>p.Column==(i:Int)) with
 | none =>
   have hno:=List.findIdx?_eq_none_iff.1 hff
   have hlow:MV s.Columns[i] s.Columns[i].Low:=.inl ⟨Int.le_refl _,h.high.1⟩
   refine ⟨tG s.Columns[i] 0 s.Columns[i].Low b,?_,?_,Yt h (Int.le_refl _) (by omega) hb hb2 hlow⟩
   ·refine Ok.val ?_
    unfold CP
    refine Ok.bindE hfi ?_
    unfold Gy
    rw [hff]
    exact Ok.yes rfl (Ok.bindE (VD hs hi0 hi h (Int.le_refl _) (by omega) hb hb2 hlow) (Ok.some rfl))
   ·refine Ok.val ?_
    unfold EM
    refine Ok.no ?_ ?_
    ·rw [decide_eq_false (by omega),decide_eq_false (by omega),decide_eq_false (by omega),decide_eq_false (by omega)]; rfl
    refine Ok.for (fun q=>q) x.Picks.length (fun _ _=>True) 0 (Nat.zero_le _) rfl trivial (by omega) (fun rec q hq hI=>?_) fun rec m q hm hq hI ih=>?_
    ·simp only [GM,hq]
     rw [AO (by omega)]
     exact Ok.bindE (ZJ hs hi0 hi h (Int.le_refl _) (by omega) hb hb2 hlow) (Ok.some rfl)
    ·simp only [GM,hq]
     rw [AC (by omega)]
     exact Ok.idxn hm (Ok.no (hno _ (List.getElem_mem hm)) (ih _ (CH (by omega)) trivial))
 | some k =>
   obtain ⟨hk,hkc,hbef⟩:=List.findIdx?_eq_some_iff_getElem.1 hff
   have hkc:x.Picks[k].Column = (i:Int):=by simpa using hkc
   obtain ⟨i',h1,h2,h3,h4,h5⟩:=hx.picks _ (List.getElem_mem hk)
   obtain rfl:i' = i:=by omega
   have hk1:k + 1 < x.Rows[j].length:=by omega
   obtain ⟨i2,hi2,w,_,g1,g2,g3⟩:=hr.2.2.2 k _ _ (List.getElem?_eq_getElem hk) (List.getElem?_eq_getElem hk1)
   obtain rfl:i2 = i':=by omega
   rw [RM h] at g3
   have hw:=g2.meas h
   refine ⟨tG s.Columns[i2] x.Picks[k].Level w b,?_,?_,Yt h h4 (by omega) hb hb2 hw⟩
   ·refine Ok.val ?_
    unfold CP
    refine Ok.bindE hfi ?_
    unfold Gy
    rw [hff]
    refine Ok.no (decide_eq_false (by show ¬ ((k:Nat):Int) < 0; omega)) (Ok.idxn hk (Ok.idxn hj ?_))
    rw [CH (by omega)]
    refine Ok.idxn hk1 ?_
    rw [g3]
    exact Ok.bindE (VD hs hi0 hi h h4 (by omega) hb hb2 hw) (Ok.some rfl)
   ·refine Ok.val ?_
    unfold EM
    refine Ok.no ?_ ?_
    ·rw [decide_eq_false (by omega),decide_eq_false (by omega),decide_eq_false (by omega),decide_eq_false (by omega)]; rfl
    refine Ok.for (fun q=>q) x.Picks.length (fun m _=>m≤k) 0 (Nat.zero_le _) rfl (Nat.zero_le _) (by omega) (fun rec q hq hI=>by omega) fun rec m q hm hq hI ih=>?_
    simp only [GM,hq]
    rw [AC (by omega)]
    by_cases e:m = k
    ·subst e
     refine Ok.idxn hk (Ok.yes (by rw [hkc]; exact beq_self_eq_true _) (Ok.idxn hk (Ok.idxn hj ?_)))
     rw [CH (by omega)]
     refine Ok.idxn hk1 ?_
     rw [g3]
     exact Ok.bindE (ZJ hs hi0 hi h h4 (by omega) hb hb2 hw) (Ok.some rfl)
    ·have:=hbef m (by omega)
     exact Ok.idxn hm (Ok.no (by simpa using this) (ih _ (CH (by omega)) (by omega)))
theorem Zt (p:Nat→Bool) (l:List Nat) {k:Nat} (hk:k < l.length):(l.take (k + 1)).filter p = bif p l[k] then (l.take k).filter p++[l[k]] else (l.take k).filter p:=by
 rw [JJ l p hk]
 cases p l[k]
 ·simp
 ·simp
theorem fa (p:Nat→Bool) (l:List Nat) (k:Nat):((l.take k).filter p).length≤k:=by
 have:=List.length_filter_le p (l.take k)
 rw [List.length_take] at this
 omega
def vals (s:Aa) (x:Au) (i:Nat) (b:Int) (l:List Nat):List Int:=l.map fun j=>(KV s x i b j).1
theorem Zv {x:Au} (hs:DS s) (hx:GX s x) {i:Nat} (hi0:1≤i) (hi:i < s.Columns.length) (h:Ci s.Columns[i]) {b:Int} (hb:1≤b) (hb2:b≤s.Columns[i].Widths.length) {l:List Nat} (hlm:∀ j∈l,j < x.Rows.length∧MQ s x i b j = true) :
 ∀ v∈vals s x i b l,-1000000≤v∧v≤1000000:=by
 intro v hv
 obtain ⟨j,hj,rfl⟩:=List.mem_map.1 hv
 obtain ⟨h1,h2⟩:=hlm j hj
 rcases (UM hs hx hi0 hi h hb hb2 h1).2.2 with h3 | h3
 ·unfold MQ at h2
  rw [h3.1,h3.2] at h2
  cases h2
 ·omega
theorem YZ {x:Au} (hs:DS s) (hx:GX s x) {i:Nat} (hi0:1≤i) (hi:i < s.Columns.length) (h:Ci s.Columns[i]) {n:Nat} (hn:n < s.Columns[i].Widths.length) {l:List Nat} (hl:l.length≤200) (hlm:∀ j∈l,j < x.Rows.length)
 {bins:List B4} (hbins:Fk (vals s x i ((s.Columns[i].Widths.length:Int) - n) (l.filter (MQ s x i ((s.Columns[i].Widths.length:Int) - n)))) s.Columns[i].Widths[n] = some (bins,0)) :
 iter (fun rec1 st=>Ji (IA l) s (i:Int) s.Columns[i].Widths[n] x (Lp s.Columns[i].Widths[n] x) rec1 st.1 st.2.1 st.2.2) A6 (0,[],[]) = some (bins,(l.filter (MQ s x i ((s.Columns[i].Widths.length:Int) - n))).map fun j=>hd (x.Rows.getD j []),0):=by
 refine Ok.val ?_
 refine Ok.for (fun q=>q.1) l.length (fun m q=>q.2.1 = IA ((l.take m).filter (MQ s x i ((s.Columns[i].Widths.length:Int) - n)))∧q.2.2 = vals s x i ((s.Columns[i].Widths.length:Int) - n) ((l.take m).filter (MQ s x i ((s.Columns[i].Widths.length:Int) - n)))) 0 (Nat.zero_le _) rfl ⟨rfl,rfl⟩ (by omega) (fun rec q hq hI=>?_) fun rec m q hm hq hI ih=>?_
 ·simp only [Ji,hq,hI.1,hI.2,Cb,List.take_length]
  rw [AO (by omega)]
  unfold Lp
  have hkl:=List.length_filter_le (MQ s x i ((s.Columns[i].Widths.length:Int) - n)) l
  exact Ok.bindE hbins (Ok.no rfl (Ok.bindE (bo (by omega) (fun j hj=>hlm j (List.mem_filter.1 hj).1) fun r hr=>hx.ne hr) (Ok.some rfl)))
 ·have hkl:=fa (MQ s x i ((s.Columns[i].Widths.length:Int) - n)) l m
  have hjm:=hlm _ (List.getElem_mem hm)
  simp only [Ji,hq,hI.1,hI.2,Cb]
  rw [AC (by omega)]
  obtain ⟨h1,_,_⟩:=UM hs hx hi0 hi h (b:=(s.Columns[i].Widths.length:Int) - n) (by omega) (by omega) hjm
  refine Ok.idxn (by rw [Cb]; exact hm) ?_
  rw [OI hm]
  refine Ok.bindE (XS hi h hn) (Ok.bindE h1 (Ok.br (fun e=>Ok.rm (by simp; omega) (Ok.rm (by simp [vals]; omega) (ih _ (CH (by omega)) ?_))) fun e=>ih _ (CH (by omega)) ?_))
  ·rw [Zt _ _ hm,show MQ s x i ((s.Columns[i].Widths.length:Int) - n) l[m] = true from e]
   exact ⟨(Ny _ _).symm,by simp [vals]⟩
  ·rw [Zt _ _ hm,show MQ s x i ((s.Columns[i].Widths.length:Int) - n) l[m] = false from e]
   exact ⟨rfl,rfl⟩
theorem YP {x:Au} (hs:DS s) (hx:GX s x) {i:Nat} (hi0:1≤i) (hi:i < s.Columns.length) (h:Ci s.Columns[i]) {n:Nat} (hn:n < s.Columns[i].Widths.length) {l:List Nat} (hl:l.length≤200) (hlm:∀ j∈l,j < x.Rows.length)
 {bins:List B4} (hbins:GU (vals s x i ((s.Columns[i].Widths.length:Int) - n) (l.filter (MQ s x i ((s.Columns[i].Widths.length:Int) - n)))) s.Columns[i].Widths[n] = some (bins,0)) :
 iter (fun rec1 st=>H5 (IA l) s (i:Int) s.Columns[i].Widths[n] x (Kg s.Columns[i].Widths[n] x) rec1 st.1 st.2.1 st.2.2) A6 (0,[],[]) = some (bins,(l.filter (MQ s x i ((s.Columns[i].Widths.length:Int) - n))).map fun j=>hd (x.Rows.getD j []),0):=by
 refine Ok.val ?_
 refine Ok.for (fun q=>q.1) l.length (fun m q=>q.2.1 = IA ((l.take m).filter (MQ s x i ((s.Columns[i].Widths.length:Int) - n)))∧q.2.2 = vals s x i ((s.Columns[i].Widths.length:Int) - n) ((l.take m).filter (MQ s x i ((s.Columns[i].Widths.length:Int) - n)))) 0 (Nat.zero_le _) rfl ⟨rfl,rfl⟩ (by omega) (fun rec q hq hI=>?_) fun rec m q hm hq hI ih=>?_
 ·simp only [H5,hq,hI.1,hI.2,Cb,List.take_length]
  rw [AO (by omega)]
  unfold Kg
  have hkl:=List.length_filter_le (MQ s x i ((s.Columns[i].Widths.length:Int) - n)) l
  exact Ok.bindE hbins (Ok.no rfl (Ok.bindE (dP (by omega) (fun j hj=>hlm j (List.mem_filter.1 hj).1) fun r hr=>hx.ne hr) (Ok.some rfl)))
 ·have hkl:=fa (MQ s x i ((s.Columns[i].Widths.length:Int) - n)) l m
  have hjm:=hlm _ (List.getElem_mem hm)
  simp only [H5,hq,hI.1,hI.2,Cb]
  rw [AC (by omega)]
  obtain ⟨_,h1,_⟩:=UM hs hx hi0 hi h (b:=(s.Columns[i].Widths.length:Int) - n) (by omega) (by omega) hjm
  have hil:m < (IA l).length:=by rw [Cb]; exact hm
  refine Ok.idxn hil ?_
  rw [OI hm]
  refine Ok.bindE (VU hi h hn) (Ok.bindE h1 (Ok.br (fun e=>Ok.idxn hil ?_) fun e=>ih _ (CH (by omega)) ?_))
  ·rw [OI hm]
   refine Ok.rm (by simp; omega) (Ok.rm (by simp [vals]; omega) (ih _ (CH (by omega)) ?_))
   rw [Zt _ _ hm,show MQ s x i ((s.Columns[i].Widths.length:Int) - n) l[m] = true from e]
   exact ⟨(Ny _ _).symm,by simp [vals]⟩
  ·rw [Zt _ _ hm,show MQ s x i ((s.Columns[i].Widths.length:Int) - n) l[m] = false from e]
   exact ⟨rfl,rfl⟩
theorem SL {x:Au} (hs:DS s) (hx:GX s x) {i:Nat} (hi0:1≤i) (hi:i < s.Columns.length) (h:Ci s.Columns[i]) {l:List Nat} (hl:l.length≤200) (hlm:∀ j∈l,j < x.Rows.length) :
 Gq s x (IA l) (i:Int) = some (vals s x i (fin s i) l):=by
 have hf:fin s i = s.Columns[i].Widths.length:=by rw [DF hi,Cl h]
 have hwl:=Bk h
 refine Ok.val ?_
 unfold Gq
 refine Ok.for (fun q=>q.1) l.length (fun m q=>q.2 = vals s x i (fin s i) (l.take m)) 0 (Nat.zero_le _) rfl rfl (by omega) (fun rec q hq hI=>?_) fun rec m q hm hq hI ih=>?_
 ·simp only [FR,hq,hI,Cb,List.take_length]
  rw [AO (by omega)]
  exact Ok.some rfl
 ·have hjm:=hlm _ (List.getElem_mem hm)
  simp only [FR,hq,hI,Cb]
  rw [AC (by omega)]
  obtain ⟨h1,_,_⟩:=UM hs hx hi0 hi h (b:=fin s i) (by omega) (by omega) hjm
  refine Ok.idxn (by rw [Cb]; exact hm) ?_
  rw [OI hm]
  refine Ok.bindE (hs.pFinest hi0 hi) (Ok.bindE h1 (Ok.rm (by simp [vals]; omega) (ih _ (CH (by omega)) ?_)))
  show vals s x i (fin s i) (l.take m)++[_] = _
  rw [List.take_succ_eq_append_getElem hm]
  unfold vals
  rw [List.map_append]
  rfl
theorem ZU {x:Au} (hs:DS s) (hx:GX s x) {i:Nat} (hi0:1≤i) (hi:i < s.Columns.length) (h:Ci s.Columns[i]) {l:List Nat} (hl:l.length≤200) (hlm:∀ j∈l,j < x.Rows.length)
 {r:He × Int} (hq:DG (vals s x i (fin s i) l) = some r) :
 iter (fun rec1 st=>Hq (IA l) s (i:Int) x (IB x (IA l)) rec1 st.1 st.2) A6 (0,[]) = (bif (r.2 != 0) then some (({ Count:=0,Least:=0,Lower:=0,Middle:=0,Upper:=0,Greatest:=0 }:He),[],r.2) else some (r.1,l.map fun j=>hd (x.Rows.getD j []),0)):=by
 have hf:fin s i = s.Columns[i].Widths.length:=by rw [DF hi,Cl h]
 have hwl:=Bk h
 have goal:Ok (iter (fun rec1 st=>Hq (IA l) s (i:Int) x (IB x (IA l)) rec1 st.1 st.2) A6 (0,[])) fun z=>some z = (bif (r.2 != 0) then some (({ Count:=0,Least:=0,Lower:=0,Middle:=0,Upper:=0,Greatest:=0 }:He),[],r.2) else some (r.1,l.map fun j=>hd (x.Rows.getD j []),0)):=by
  refine Ok.for (fun q=>q.1) l.length (fun m q=>q.2 = vals s x i (fin s i) (l.take m)) 0 (Nat.zero_le _) rfl rfl (by omega) (fun rec q hq2 hI=>?_) fun rec m q hm hq2 hI ih=>?_
  ·simp only [Hq,hq2,hI,Cb,List.take_length]
   rw [AO (by omega)]
   unfold IB
   refine Ok.bindE hq (Ok.br (fun e=>Ok.some ?_) fun e=>Ok.bindE (dP (by omega) hlm fun r hr=>hx.ne hr) (Ok.some ?_))
   ·rw [e]; rfl
   ·rw [e]; rfl
  ·have hjm:=hlm _ (List.getElem_mem hm)
   simp only [Hq,hq2,hI,Cb]
   rw [AC (by omega)]
   obtain ⟨_,h1,_⟩:=UM hs hx hi0 hi h (b:=fin s i) (by omega) (by omega) hjm
   refine Ok.idxn (by rw [Cb]; exact hm) ?_
   rw [OI hm]
   refine Ok.bindE (hs.rfinest hi0 hi) (Ok.bindE h1 (Ok.rm (by simp [vals]; omega) (ih _ (CH (by omega)) ?_)))
   show vals s x i (fin s i) (l.take m)++[_] = _
   rw [List.take_succ_eq_append_getElem hm]
   unfold vals
   rw [List.map_append]
   rfl
 obtain ⟨z,hz,hz2⟩:=goal
 rw [hz,hz2]
theorem cL {x:Au} (hs:DS s) (hx:GX s x) {i:Nat} (hi0:1≤i) (hi:i < s.Columns.length) (hM:Ci s.Columns[i]) {n d:Nat} {c:Ag} (h:RC s n c) (hd:n < d) (hn:n≤3) (hcov:∀ a∈J8 d c,one x.Picks a.Column (O1 s a)):EH d s x c [(i:Int)] = some (IA ((QH (D9 d s c x) x.Rows.length).filter (MQ s x i (fin s i)))):=by
 have hf:fin s i = s.Columns[i].Widths.length:=by rw [DF hi,Cl hM]
 have hwl:=Bk hM
 have hl:=hx.len
 refine Ok.val ?_
 unfold EH
 refine Ok.bindE (hx.rcheck hs) (Ok.no rfl ?_)
 refine Ok.for (fun q=>q.1) x.Rows.length (fun m q=>q.2 = IA ((QH (D9 d s c x) m).filter (MQ s x i (fin s i)))) 0 (Nat.zero_le _) rfl rfl (by omega) (fun rec q hq hI=>?_) fun rec m q hm hq hI ih=>?_
 ·simp only [E0,hq,hI]
  rw [AO (by omega)]
  exact Ok.some rfl
 ·simp only [E0,hq,hI]
  rw [AC (by omega)]
  have hr:=List.getElem_mem hm
  have hrl:=(hx.rows _ hr).1
  obtain ⟨t,h1,h2,_⟩:=Pt hs hx hr h hd hcov
  have hfl:=JH (D9 d s c x) m
  have hfl2:=List.length_filter_le (MQ s x i (fin s i)) (QH (D9 d s c x) m)
  have hb:D9 d s c x m = (t==1):=by
   unfold D9
   rw [Rr hm,h2]
   rfl
  obtain ⟨_,hin,_⟩:=UM hs hx hi0 hi hM (b:=fin s i) (by omega) (by omega) hm
  have hstep:(QH (D9 d s c x) (m + 1)).filter (MQ s x i (fin s i)) = bif (bif (t==1) then MQ s x i (fin s i) m else false) then (QH (D9 d s c x) m).filter (MQ s x i (fin s i))++[m] else (QH (D9 d s c x) m).filter (MQ s x i (fin s i)):=by
   rw [Pf,hb]
   cases t==1
   ·rfl
   ·rw [cond_true,cond_true,List.filter_append]
    cases e:MQ s x i (fin s i) m
    ·rw [List.filter_cons_of_neg (by simp [e])]; simp
    ·rw [List.filter_cons_of_pos e]; rfl
  refine Ok.idxn hm (Ok.gdd (by omega) ?_)
  rw [eL]
  refine Ok.bindE (Tz hs hx hr h hd hn hcov h2) ?_
  have hk1:∀ (b:Bool) (z:Int),b = (bif (t==1) then MQ s x i (fin s i) m else false)→Ok (E5 (IA ((QH (D9 d s c x) m).filter (MQ s x i (fin s i)))) (m:Int) rec b z) (· = IA ((QH (D9 d s c x) x.Rows.length).filter (MQ s x i (fin s i)))):=by
   intro b z e
   unfold E5
   refine Ok.br (fun e2=>Ok.rm (by rw [Cb]; simp; omega) (ih _ (CH (by omega)) ?_)) fun e2=>ih _ (CH (by omega)) ?_
   ·rw [hstep,← e,e2]; exact (Ny _ _).symm
   ·rw [hstep,← e,e2]; rfl
  refine Ok.loop (fun q=>(q.2 = 0∧q.1 = (t==1))∨(q.2 = 1∧q.1 = (bif (t==1) then MQ s x i (fin s i) m else false))) (fun q=>(1 - q.2).toNat) (.inl ⟨rfl,rfl⟩) (by unfold A6; show (1 - 0:Int).toNat < _; omega) fun rec2 q2 hI2 ih2=>?_
  rcases hI2 with ⟨e1,e2⟩ | ⟨e1,e2⟩
  ·simp only [Gm,e1]
   refine Ok.br (fun e3=>?_) fun e3=>hk1 _ _ ?_
   ·have e4:q2.1 = true:=e3
    refine Ok.bindE (x:=(i:Int)) rfl (Ok.bindE (x:=(i:Int)) rfl (Ok.bindE (hs.rfinest hi0 hi) (Ok.bindE hin (ih2 _ (.inr ⟨rfl,?_⟩) ?_))))
    ·rw [← e2,e4]; rfl
    ·show (1 - IntKind.i64.wrap (0 + 1)).toNat < (1 - q2.2).toNat
     rw [e1]; decide
   ·have e4:q2.1 = false:=e3
    rw [← e2,e4]; rfl
  ·simp only [Gm,e1]
   exact Ok.no rfl (hk1 _ _ e2)
end Go.Proofs.YtejfnieiaecpkaaGreatDoor.P
namespace Go.Proofs.YtejfnieiaecpkaaGreatDoor.P
open Go Go.Abs Go.Proofs
set_option maxRecDepth 100000
variable {s:Aa}
theorem ND {p:Prop} {a b:Bool} (ha:a = true↔p) (hb:b = true↔p):a = b:=by
 cases a
 ·cases b
  ·rfl
  ·exact absurd (ha.2 (hb.1 rfl)) (by simp)
 ·exact (hb.2 (ha.1 rfl)).symm
theorem cn {x:Au} (hs:DS s) (hx:GX s x) {k:Nat} {c:Ag} (hc:RC s k c) (hk:k≤3) (m w:Int):∃ u,Cc DD s x (hE m w c) = some u∧Cz DD s x (hE m w c) = some u ∧
 (u = 0→∃ (i:Nat) (hi:i < s.Columns.length) (n:Nat) (hn:n < s.Columns[i].Widths.length),1≤i∧m = (i:Int)∧Ci s.Columns[i]∧w = s.Columns[i].Widths[n]∧∀ a∈J8 59 c,one x.Picks a.Column (O1 s a)):=by
 have hpl:=hx.picks_len hs
 obtain ⟨b1,hb1,hr1⟩:=WE hs hc hk m w
 obtain ⟨b2,hb2,hr2⟩:=Tp hs hc hk (d:=58) (by omega) m w
 obtain rfl:=ND hr1 hr2
 cases b1 with
 | false =>
   refine ⟨11,?_,?_,fun h=>by cases h⟩
   ·unfold Cc
    exact Ok.val (Ok.bindE (hx.check hs) (Ok.no rfl (Ok.bindE hb1 (Ok.yes rfl (Ok.some rfl)))))
   ·unfold Cz
    exact Ok.val (Ok.bindE (hx.rcheck hs) (Ok.no rfl (Ok.bindE hb2 (Ok.yes rfl (Ok.some rfl)))))
 | true =>
   obtain ⟨i,hi,hi0,rfl,h,hw⟩:=hr1.1 rfl
   obtain ⟨n,hn,rfl⟩:=List.mem_iff_getElem.1 hw
   have hwl:=Bk h
   obtain ⟨L,hL1,hL2,_,_⟩:=Qu hs hi0 hi h (l:=(s.Columns[i].Widths.length:Int) - n) (by omega) (by omega)
   obtain ⟨z1,hz1,hp1⟩:=XW hs (e:=hE i s.Columns[i].Widths[n] c) hc hk rfl rfl rfl hi (aP hs hi0 hi h hn c hL1)
   obtain ⟨z2,hz2,hp2⟩:=XZ hs hc hk hi0 hi h hn hL2
   have hl1:=hp1.len
   have hl2:=hp2.len
   have hN:GY DD s (hE i s.Columns[i].Widths[n] c) = some z1:=by
    unfold GY
    exact Ok.val (Ok.bindE hs.check (Ok.no rfl (Ok.bindE hb1 (Ok.no rfl (Ok.bindE hz1 (Ok.some rfl))))))
   have ec:covers x.Picks z1 = covers x.Picks z2:=ND (hp1.covers x.Picks) (hp2.covers x.Picks)
   have hP:=hp1.covers x.Picks
   cases e:covers x.Picks z1 with
   | false =>
     refine ⟨23,?_,?_,fun h=>by cases h⟩
     ·unfold Cc
      exact Ok.val (Ok.bindE (hx.check hs) (Ok.no rfl (Ok.bindE hb1 (Ok.no rfl (Ok.bindE hN (Ok.bindE (Rs _ _ (by omega) (by omega)) (Ok.yes (by rw [e]; rfl) (Ok.some rfl))))))))
     ·unfold Cz
      exact Ok.val (Ok.bindE (hx.rcheck hs) (Ok.no rfl (Ok.bindE hb2 (Ok.no rfl (Ok.bindE hz2 (Ok.bindE (P0 _ _ (by omega) (by omega)) (Ok.yes (by rw [← ec,e]; rfl) (Ok.some rfl))))))))
   | true =>
     refine ⟨0,?_,?_,fun _=>⟨i,hi,n,hn,hi0,rfl,h,rfl,(hP.1 e).1⟩⟩
     ·unfold Cc
      exact Ok.val (Ok.bindE (hx.check hs) (Ok.no rfl (Ok.bindE hb1 (Ok.no rfl (Ok.bindE hN (Ok.bindE (Rs _ _ (by omega) (by omega)) (Ok.no (by rw [e]; rfl) (Ok.some rfl))))))))
     ·unfold Cz
      exact Ok.val (Ok.bindE (hx.rcheck hs) (Ok.no rfl (Ok.bindE hb2 (Ok.no rfl (Ok.bindE hz2 (Ok.bindE (P0 _ _ (by omega) (by omega)) (Ok.no (by rw [← ec,e]; rfl) (Ok.some rfl))))))))
theorem bZ {x:Au} (hs:DS s) (hx:GX s x) {k:Nat} {c:Ag} (hc:RC s k c) (hk:k≤3) (m:Int):∃ u,Cc DD s x (bE m c) = some u∧Cz DD s x (bE m c) = some u ∧
 (u = 0→∃ (i:Nat) (hi:i < s.Columns.length),1≤i∧m = (i:Int)∧Ci s.Columns[i]∧∀ a∈J8 59 c,one x.Picks a.Column (O1 s a)):=by
 have hpl:=hx.picks_len hs
 obtain ⟨b1,hb1,hr1⟩:=X7 hs hc hk m
 obtain ⟨b2,hb2,hr2⟩:=U4 hs hc hk (d:=58) (by omega) m
 obtain rfl:=ND hr1 hr2
 cases b1 with
 | false =>
   refine ⟨11,?_,?_,fun h=>by cases h⟩
   ·unfold Cc
    exact Ok.val (Ok.bindE (hx.check hs) (Ok.no rfl (Ok.bindE hb1 (Ok.yes rfl (Ok.some rfl)))))
   ·unfold Cz
    exact Ok.val (Ok.bindE (hx.rcheck hs) (Ok.no rfl (Ok.bindE hb2 (Ok.yes rfl (Ok.some rfl)))))
 | true =>
   obtain ⟨i,hi,hi0,rfl,h⟩:=hr1.1 rfl
   have hwl:=Bk h
   have hf:fin s i = s.Columns[i].Widths.length:=by rw [DF hi,Cl h]
   obtain ⟨L,hL1,hL2,_,_⟩:=Qu hs hi0 hi h (l:=fin s i) (by omega) (by omega)
   obtain ⟨z1,hz1,hp1⟩:=XW hs (e:=bE i c) hc hk rfl rfl rfl hi (cA hs hi0 hi c hL1)
   obtain ⟨z2,hz2,hp2⟩:=YO hs hc hk hi0 hi h hL2
   have hl1:=hp1.len
   have hl2:=hp2.len
   have hN:GY DD s (bE i c) = some z1:=by
    unfold GY
    exact Ok.val (Ok.bindE hs.check (Ok.no rfl (Ok.bindE hb1 (Ok.no rfl (Ok.bindE hz1 (Ok.some rfl))))))
   have ec:covers x.Picks z1 = covers x.Picks z2:=ND (hp1.covers x.Picks) (hp2.covers x.Picks)
   have hP:=hp1.covers x.Picks
   cases e:covers x.Picks z1 with
   | false =>
     refine ⟨23,?_,?_,fun h=>by cases h⟩
     ·unfold Cc
      exact Ok.val (Ok.bindE (hx.check hs) (Ok.no rfl (Ok.bindE hb1 (Ok.no rfl (Ok.bindE hN (Ok.bindE (Rs _ _ (by omega) (by omega)) (Ok.yes (by rw [e]; rfl) (Ok.some rfl))))))))
     ·unfold Cz
      exact Ok.val (Ok.bindE (hx.rcheck hs) (Ok.no rfl (Ok.bindE hb2 (Ok.no rfl (Ok.bindE hz2 (Ok.bindE (P0 _ _ (by omega) (by omega)) (Ok.yes (by rw [← ec,e]; rfl) (Ok.some rfl))))))))
   | true =>
     refine ⟨0,?_,?_,fun _=>⟨i,hi,hi0,rfl,h,(hP.1 e).1⟩⟩
     ·unfold Cc
      exact Ok.val (Ok.bindE (hx.check hs) (Ok.no rfl (Ok.bindE hb1 (Ok.no rfl (Ok.bindE hN (Ok.bindE (Rs _ _ (by omega) (by omega)) (Ok.no (by rw [e]; rfl) (Ok.some rfl))))))))
     ·unfold Cz
      exact Ok.val (Ok.bindE (hx.rcheck hs) (Ok.no rfl (Ok.bindE hb2 (Ok.no rfl (Ok.bindE hz2 (Ok.bindE (P0 _ _ (by omega) (by omega)) (Ok.no (by rw [← ec,e]; rfl) (Ok.some rfl))))))))
theorem Pg {x:Au} {p:Nat→Bool}:∀ j∈QH p x.Rows.length,j < x.Rows.length:=fun j hj=>(d9 hj).1
theorem VL {x:Au} (hs:DS s) (hx:GX s x) {k:Nat} {c:Ag} (hc:RC s k c) (hk:k≤3) (m w:Int) :
 ∃ r:List B4 × List Int × Int,Hj DD s x m w c = some r∧FU DD s x m w c = some r∧r.1.length≤200∧r.2.1.length≤200:=by
 have hl:=hx.len
 obtain ⟨u,hu1,hu2,h0⟩:=cn hs hx hc hk m w
 by_cases e:u = 0
 ·subst e
  obtain ⟨i,hi,n,hn,hi0,rfl,h,rfl,hcov⟩:=h0 rfl
  have hwl:=Bk h
  have hcov2:∀ a∈J8 DD c,one x.Picks a.Column (O1 s a):=by rw [U3 k DD 59 hc (by show k < 60; omega) (by omega)]; exact hcov
  have hfl:=JH (D9 DD s c x) x.Rows.length
  have hfk:=List.length_filter_le (MQ s x i ((s.Columns[i].Widths.length:Int) - n)) (QH (D9 DD s c x) x.Rows.length)
  have hw:=bF h hn
  obtain ⟨bins,hbl,hb1,hb2⟩:=dA (l:=vals s x i ((s.Columns[i].Widths.length:Int) - n) ((QH (D9 DD s c x) x.Rows.length).filter (MQ s x i ((s.Columns[i].Widths.length:Int) - n)))) (w:=s.Columns[i].Widths[n]) (by unfold vals; rw [List.length_map]; omega) hw.1 (by omega)
   (Zv hs hx hi0 hi h (by omega) (by omega) fun j hj=>⟨Pg j (List.mem_filter.1 hj).1,(List.mem_filter.1 hj).2⟩)
  refine ⟨(bins,((QH (D9 DD s c x) x.Rows.length).filter (MQ s x i ((s.Columns[i].Widths.length:Int) - n))).map fun j=>hd (x.Rows.getD j []),0),?_,?_,hbl,?_⟩
  ·unfold Hj
   exact Ok.val (Ok.bindE hu1 (Ok.no rfl (Ok.bindE (VZ hs hx hc (by show k < 60; omega) hk hcov2) (Ok.eq (YZ hs hx hi0 hi h hn (by omega) Pg hb1)))))
  ·unfold FU
   exact Ok.val (Ok.bindE hu2 (Ok.no rfl (Ok.bindE (cD hs hx hc (by show k < 60; omega) hk hcov2) (Ok.eq (YP hs hx hi0 hi h hn (by omega) Pg hb2)))))
  ·show (List.map _ _).length≤200
   rw [List.length_map]; omega
 ·have hne:(u != 0) = true:=by rw [bne_iff_ne]; exact e
  refine ⟨([],[],u),?_,?_,by simp,by simp⟩
  ·unfold Hj
   exact Ok.val (Ok.bindE hu1 (Ok.yes hne (Ok.some rfl)))
  ·unfold FU
   exact Ok.val (Ok.bindE hu2 (Ok.yes hne (Ok.some rfl)))
def Nt:Au:={ Project:=ByteArray.empty,Version:=0,Picks:=[],Rows:=[] }
theorem TR (hs:DS s):∃ u,u≠0∧DR s Nt = some u∧F8 s Nt = some u:=by
 refine ⟨3,by decide,?_,?_⟩
 ·unfold DR
  rw [hs.check]
  rfl
 ·unfold F8
  rw [hs.rcheck]
  rfl
end Go.Proofs.YtejfnieiaecpkaaGreatDoor.P
namespace Go.Proofs.YtejfnieiaecpkaaGreatDoor.P
open Go Go.Abs Go.Proofs
set_option maxRecDepth 100000
variable {s:Aa}
theorem du {l:List Int} {p:Int→Option Bool} (q:Int→Bool) (hp:∀ x∈l,p x = some (q x)) (hl:l.length≤1000000):CU l p = some (l.filter fun x=>!q x):=by
 unfold CU
 have h1:(l.all fun x=>(p x).isSome) = true:=List.all_eq_true.2 fun x hx=>by rw [hp x hx]; rfl
 have h2:rm 0 l.length = true:=OA (by omega)
 rw [h1,h2]
 show some _ = some _
 congr 1
 refine List.filter_congr fun x hx=>?_
 rw [hp x hx]
 cases q x <;> rfl
theorem X3 (l:List Nat) (q:Int→Bool):(IA l).filter q = IA (l.filter fun j=>q (j:Int)):=by
 unfold IA
 rw [List.filter_map]
 rfl
theorem aY {x:Au} (hs:DS s) (hx:GX s x) {i:Nat} (hi0:1≤i) (hi:i < s.Columns.length) (hM:Ci s.Columns[i]) {n d:Nat} {c:Ag} (h:RC s n c) (hd:n < d) (hn:n≤3) (hcov:∀ a∈J8 d c,one x.Picks a.Column (O1 s a)):Gv d s x c [(i:Int)] = some (IA ((QH (D9 d s c x) x.Rows.length).filter (MQ s x i (fin s i)))):=by
 have hf:fin s i = s.Columns[i].Widths.length:=by rw [DF hi,Cl hM]
 have hwl:=Bk hM
 have hl:=hx.len
 have hfl:=JH (D9 d s c x) x.Rows.length
 refine Ok.val ?_
 unfold Gv
 refine Ok.bindE (hx.check hs) (Ok.no rfl (Ok.bindE (VZ hs hx h hd hn hcov) (Ok.bindE (du (fun z=>!MQ s x i (fin s i) z.toNat) (fun z hz=>?_) (by rw [Cb]; omega)) (Ok.some ?_))))
 ·obtain ⟨j,hj,rfl⟩:=List.mem_map.1 hz
  have hj2:=Pg j hj
  obtain ⟨h1,_,_⟩:=UM hs hx hi0 hi hM (b:=fin s i) (by omega) (by omega) hj2
  unfold FK
  have hc1:∀ z∈[(i:Int)],Dl z s x (j:Int) = some (!MQ s x i (fin s i) j):=by
   intro z hz
   rw [List.mem_singleton] at hz
   subst hz
   refine Ok.val ?_
   unfold Dl
   refine Ok.bindE (hs.pFinest hi0 hi) (Ok.bindE h1 (Ok.some ?_))
   unfold MQ
   generalize KV s x i (fin s i) j = r
   obtain ⟨a,b⟩:=r
   cases b
   ·rfl
   ·show (a==-1099511627776) = !(a != -1099511627776)
    simp [bne]
  rw [WP _ hc1 (by simp),Int.toNat_natCast]
  simp
 ·rw [X3]
  congr 1
  refine List.filter_congr fun j _=>?_
  simp
theorem Yp {x:Au} (hs:DS s) (hx:GX s x) {k:Nat} {c:Ag} (hc:RC s k c) (hk:k≤3) (m:Int) :
 ∃ r:He × List Int × Int,H3 DD s x m c = some r∧G2 DD s x m c = some r∧r.2.1.length≤200:=by
 have hl:=hx.len
 obtain ⟨u,hu1,hu2,h0⟩:=bZ hs hx hc hk m
 by_cases e:u = 0
 ·subst e
  obtain ⟨i,hi,hi0,rfl,h,hcov⟩:=h0 rfl
  have hwl:=Bk h
  have hf:fin s i = s.Columns[i].Widths.length:=by rw [DF hi,Cl h]
  have hcov2:∀ a∈J8 DD c,one x.Picks a.Column (O1 s a):=by rw [U3 k DD 59 hc (by show k < 60; omega) (by omega)]; exact hcov
  have hfl:=JH (D9 DD s c x) x.Rows.length
  have hfk:=List.length_filter_le (MQ s x i (fin s i)) (QH (D9 DD s c x) x.Rows.length)
  have hrows:∀ j∈(QH (D9 DD s c x) x.Rows.length).filter (MQ s x i (fin s i)),j < x.Rows.length:=fun j hj=>Pg j (List.mem_filter.1 hj).1
  have hv:=Zv hs hx hi0 hi h (b:=fin s i) (by omega) (by omega) (l:=(QH (D9 DD s c x) x.Rows.length).filter (MQ s x i (fin s i))) fun j hj=>⟨hrows j hj,(List.mem_filter.1 hj).2⟩
  have hvl:(vals s x i (fin s i) ((QH (D9 DD s c x) x.Rows.length).filter (MQ s x i (fin s i)))).length≤200:=by unfold vals; rw [List.length_map]; omega
  obtain ⟨r,hr⟩:=ZW hvl hv
  have hr2:DG (vals s x i (fin s i) ((QH (D9 DD s c x) x.Rows.length).filter (MQ s x i (fin s i)))) = some r:=by rw [← bq hvl hv]; exact hr
  have hc1:=aY hs hx hi0 hi h hc (by show k < 60; omega:k < DD) hk hcov2
  have hc2:=cL hs hx hi0 hi h hc (by show k < 60; omega:k < DD) hk hcov2
  have hloop:=ZU hs hx hi0 hi h (by omega) hrows hr2
  cases er:(r.2 != 0) with
  | true =>
    rw [er] at hloop
    refine ⟨(({ Count:=0,Least:=0,Lower:=0,Middle:=0,Upper:=0,Greatest:=0 }:He),[],r.2),?_,?_,by simp⟩
    ·unfold H3
     exact Ok.val (Ok.bindE hu1 (Ok.no rfl (Ok.bindE hc1 (Ok.bindE (SL hs hx hi0 hi h (by omega) hrows) (Ok.bindE hr (Ok.yes er (Ok.some rfl)))))))
    ·unfold G2
     exact Ok.val (Ok.bindE hu2 (Ok.no rfl (Ok.bindE hc2 (Ok.eq hloop))))
  | false =>
    rw [er] at hloop
    refine ⟨(r.1,((QH (D9 DD s c x) x.Rows.length).filter (MQ s x i (fin s i))).map fun j=>hd (x.Rows.getD j []),0),?_,?_,by show (List.map _ _).length≤200; rw [List.length_map]; omega⟩
    ·unfold H3
     exact Ok.val (Ok.bindE hu1 (Ok.no rfl (Ok.bindE hc1 (Ok.bindE (SL hs hx hi0 hi h (by omega) hrows) (Ok.bindE hr (Ok.no er (Ok.bindE (bo (by omega) hrows fun r hr=>hx.ne hr) (Ok.some rfl))))))))
    ·unfold G2
     exact Ok.val (Ok.bindE hu2 (Ok.no rfl (Ok.bindE hc2 (Ok.eq hloop))))
 ·have hne:(u != 0) = true:=by rw [bne_iff_ne]; exact e
  refine ⟨(({ Count:=0,Least:=0,Lower:=0,Middle:=0,Upper:=0,Greatest:=0 }:He),[],u),?_,?_,by simp⟩
  ·unfold H3
   exact Ok.val (Ok.bindE hu1 (Ok.yes hne (Ok.some rfl)))
  ·unfold G2
   exact Ok.val (Ok.bindE hu2 (Ok.yes hne (Ok.some rfl)))
theorem an (hs:DS s) (m w:Int) (c:Ag):∃ r:List B4 × List Int × Int,Hj DD s Nt m w c = some r∧FU DD s Nt m w c = some r∧r.1.length≤200∧r.2.1.length≤200:=by
 obtain ⟨u,hu,h1,h2⟩:=TR hs
 have hne:(u != 0) = true:=by rw [bne_iff_ne]; exact hu
 have hu1:∀ e,Cc DD s Nt e = some u:=fun e=>by
  unfold Cc
  exact Ok.val (Ok.bindE h1 (Ok.yes hne (Ok.some rfl)))
 have hu2:∀ e,Cz DD s Nt e = some u:=fun e=>by
  unfold Cz
  exact Ok.val (Ok.bindE h2 (Ok.yes hne (Ok.some rfl)))
 refine ⟨([],[],u),?_,?_,by simp,by simp⟩
 ·unfold Hj
  exact Ok.val (Ok.bindE (hu1 _) (Ok.yes hne (Ok.some rfl)))
 ·unfold FU
  exact Ok.val (Ok.bindE (hu2 _) (Ok.yes hne (Ok.some rfl)))
theorem cw (hs:DS s) (m:Int) (c:Ag):∃ r:He × List Int × Int,H3 DD s Nt m c = some r∧G2 DD s Nt m c = some r∧r.2.1.length≤200:=by
 obtain ⟨u,hu,h1,h2⟩:=TR hs
 have hne:(u != 0) = true:=by rw [bne_iff_ne]; exact hu
 have hu1:∀ e,Cc DD s Nt e = some u:=fun e=>by
  unfold Cc
  exact Ok.val (Ok.bindE h1 (Ok.yes hne (Ok.some rfl)))
 have hu2:∀ e,Cz DD s Nt e = some u:=fun e=>by
  unfold Cz
  exact Ok.val (Ok.bindE h2 (Ok.yes hne (Ok.some rfl)))
 refine ⟨(({ Count:=0,Least:=0,Lower:=0,Middle:=0,Upper:=0,Greatest:=0 }:He),[],u),?_,?_,by simp⟩
 ·unfold H3
  exact Ok.val (Ok.bindE (hu1 _) (Ok.yes hne (Ok.some rfl)))
 ·unfold G2
  exact Ok.val (Ok.bindE (hu2 _) (Ok.yes hne (Ok.some rfl)))
end Go.Proofs.YtejfnieiaecpkaaGreatDoor.P
namespace Go.Proofs.YtejfnieiaecpkaaGreatDoor.P
open Go Go.Abs Go.Proofs
set_option maxRecDepth 100000
variable {s:Aa}
theorem Ok.any {α:Type} {m:Option α} {P:α→Prop} (h:Ok m P):Ok m fun _=>True:=h.mono fun _ _=>trivial
theorem YA (s:Aa) (m k:Int):Ok (Fq s m k) fun b=>b = true→∃ i:Nat,m = (i:Int)∧i < s.Columns.length:=by
 unfold Fq
 by_cases h:0≤m∧m < s.Columns.length
 ·obtain ⟨i,rfl⟩:∃ i:Nat,m = i:=⟨m.toNat,by omega⟩
  rw [decide_eq_true (by omega:(i:Int) ≥ 0),decide_eq_true h.2]
  have hi:i < s.Columns.length:=by omega
  exact Ok.yes rfl (Ok.idxn hi (Ok.some fun _=>⟨i,rfl,hi⟩))
 ·refine Ok.no ?_ (Ok.some fun h=>by cases h)
  by_cases h0:m ≥ 0
  ·rw [decide_eq_true h0,decide_eq_false (by omega)]; rfl
  ·rw [decide_eq_false h0]; rfl
theorem ZM (hs:DS s) (p:Ae):Ok (FL s p) fun e=>e = 0→cR s p:=by
 have hc:=hs.cols_length
 unfold FL
 refine Ok.bindE hs.rcheck (Ok.no rfl (Ok.br (fun _=>Ok.some fun h=>by cases h) fun h=>?_))
 have h1:1≤p.Column∧p.Column < s.Columns.length:=by
  by_cases e:p.Column < 1
  ·rw [decide_eq_true e] at h; cases h
  ·rw [decide_eq_false e,cond_false] at h
   have:=of_decide_eq_false h
   omega
 obtain ⟨i,hi⟩:∃ i:Nat,p.Column = i:=⟨p.Column.toNat,by omega⟩
 rw [hi]
 refine Ok.bindE (hs.rfinest (i:=i) (by omega) (by omega)) ?_
 rw [Hy,Option.bind_some]
 by_cases e:0≤p.Level∧p.Level≤fin s i
 ·rw [decide_eq_true e]
  exact Ok.no rfl (Ok.some fun _=>⟨i,by omega,by omega,hi,e.1,e.2⟩)
 ·rw [decide_eq_false e]
  exact Ok.yes rfl (Ok.some fun h=>by cases h)
theorem Yz (hs:DS s) {l:List Ae} (hl:l.length≤1000000):Ok (Df s l) fun e=>e = 0→(∀ p∈l,cR s p)∧l.Pairwise fun a b=>a.Column < b.Column:=by
 unfold Df
 refine Ok.bindE hs.rcheck (Ok.no rfl ?_)
 refine Ok.for (fun q=>q) l.length (fun k _=>(∀ p∈l.take k,cR s p)∧∀ (j:Nat) (hj:j + 1 < l.length),j + 1 < k→l[j].Column < l[j + 1].Column) 0 (Nat.zero_le _) rfl ⟨fun p hp=>by simp at hp,fun j hj h=>by omega⟩ (by omega) (fun rec q hq hI=>?_) fun rec k q hk hq hI ih=>?_
 ·simp only [D4,hq]
  rw [AO (by omega)]
  refine Ok.some fun _=>⟨by rw [List.take_length] at hI; exact hI.1,List.pairwise_iff_getElem.2 fun a b ha hb hab=>?_⟩
  obtain ⟨n,rfl⟩:∃ n,b = a + n + 1:=⟨b - a - 1,by omega⟩
  clear hab
  induction n with
  | zero=>exact hI.2 a hb (by omega)
  | succ n ih =>
    have h1:=ih (by omega)
    have h2:=hI.2 (a + n + 1) hb (by omega)
    exact Int.lt_trans h1 h2
 ·simp only [D4,hq]
  rw [AC (by omega)]
  obtain ⟨e,he,hP⟩:=ZM hs l[k]
  refine Ok.idxn hk (Ok.bindE he (Ok.br (fun _=>Ok.some fun h=>?_) fun h0=>?_))
  ·subst h
   rename_i h
   cases h
  ·have h0:e = 0:=by simpa using h0
   have hP:=hP h0
   have hmem:∀ p∈l.take (k + 1),cR s p:=by
    intro p hp
    rw [List.take_succ_eq_append_getElem hk] at hp
    rcases List.mem_append.1 hp with hp | hp
    ·exact hI.1 p hp
    ·rw [List.mem_singleton] at hp; subst hp; exact hP
   refine Ok.brd (fun hpos=>?_) fun hz=>ih _ (CH (by omega)) ⟨hmem,fun j hj hjk=>by omega⟩
   have e1:IntKind.i64.wrap ((k:Int) - 1) = ((k - 1:Nat):Int):=by rw [wr (by omega) (by omega)]; omega
   rw [e1]
   refine Ok.idxn hk (Ok.idxn (by omega:k - 1 < l.length) (Ok.brd (fun _=>Ok.some fun h=>by cases h) fun hlt=>ih _ (CH (by omega)) ⟨hmem,fun j hj hjk=>?_⟩))
   by_cases e2:j + 1 = k
   ·obtain rfl:j = k - 1:=by omega
    have:k - 1 + 1 = k:=by omega
    simp only [this]
    omega
   ·exact hI.2 j hj (by omega)
def eV (s:Aa) (p:Ae):Prop:=∃ i:Nat,1≤i∧i < s.Columns.length∧p.Column = i∧0≤p.Level∧p.Level≤fin s i
structure dN (s:Aa) (q:AG):Prop where
 name:Ok (BK q.Name) fun _=>True
 filter:RC s 3 q.Filter
 event:(q.Kind≠3∧q.Event = Nz)∨RC s 3 q.Event
 dims:q.Dims.length≤10∧∀ p∈q.Dims,eV s p
 terms:q.Terms.length≤10
theorem YW (hs:DS s) {l:List Ae} (hl:l.length≤10):Ok (GV s l) fun _=>True:=by
 unfold GV
 refine Ok.br (fun _=>Ok.some trivial) fun _=>?_
 refine Ok.for (fun q=>q) l.length (fun _ _=>True) 0 (Nat.zero_le _) rfl trivial (by omega) (fun rec q hq _=>?_) fun rec i q hi hq _ ih=>?_
 ·simp only [Gz,hq]
  rw [AO (by omega)]
  exact Ok.some trivial
 ·simp only [Gz,hq]
  rw [AC (by omega)]
  refine Ok.idxn hi (Ok.bind (ZM hs _) fun e _=>Ok.br (fun _=>Ok.some trivial) fun _=>Ok.idxn hi (Ok.bind (YA s _ _) fun b _=>Ok.br (fun _=>Ok.some trivial) fun _=>?_))
  refine Ok.for (fun q=>q) i (fun _ _=>True) 0 (Nat.zero_le _) rfl trivial (by omega) (fun rec2 q2 hq2 _=>?_) fun rec2 k q2 hk hq2 _ ih2=>?_
  ·simp only [H2,hq2]
   rw [AO (by omega)]
   exact ih _ (CH (by omega)) trivial
  ·simp only [H2,hq2]
   rw [AC (by omega)]
   exact Ok.idxn (by omega:k < l.length) (Ok.idxn hi (Ok.br (fun _=>Ok.some trivial) fun _=>ih2 _ (CH (by omega)) trivial))
theorem Xr (s:Aa) {l:List Int} (hl:l.length≤10) (m:Int):Ok (I0 s m l) fun _=>True:=by
 unfold I0
 refine Ok.br (fun _=>Ok.some trivial) fun _=>?_
 refine Ok.for (fun q=>q) l.length (fun _ _=>True) 0 (Nat.zero_le _) rfl trivial (by omega) (fun rec q hq _=>?_) fun rec i q hi hq _ ih=>?_
 ·simp only [IN,hq]
  rw [AO (by omega)]
  exact Ok.some trivial
 ·simp only [IN,hq]
  rw [AC (by omega)]
  refine Ok.idxn hi (Ok.bind (YA s _ _) fun b _=>Ok.br (fun _=>Ok.some trivial) fun _=>Ok.idxn hi (Ok.br (fun _=>Ok.some trivial) fun _=>Ok.gdd (by omega) (Ok.idxn hi (Ok.bind (Wz ?_) fun b _=>Ok.br (fun _=>Ok.some trivial) fun _=>ih _ (CH (by omega)) trivial))))
  unfold Mw
  rw [List.length_take,List.length_drop]
  omega
theorem au (d:Nat):LN (d + 1) Nz = some true:=rfl
theorem Me (hs:DS s) {q:AG} (h:dN s q):Ok (CX DD s q) fun _=>True:=by
 unfold CX
 refine Ok.bindE hs.rcheck (Ok.no rfl (Ok.bind h.name fun b _=>Ok.br (fun _=>Ok.some trivial) fun _=>Ok.br (fun _=>Ok.some trivial) fun _=>Ok.bindE (h.filter.rcheck hs (by omega) (by show 3 < 60; omega)) (Ok.no rfl (Ok.bind (P:=fun _=>True) ?_ fun e _=>Ok.br (fun _=>Ok.some trivial) fun _=>Ok.br (fun _=>Ok.some trivial) fun _=>Ok.br (fun hk=>?_) fun _=>Ok.some trivial))))
 ·unfold K9
  refine Ok.bind (YA s _ _) fun b hb=>Ok.br (fun _=>Ok.bind (YW hs h.dims.1) fun e _=>Ok.br (fun _=>Ok.some trivial) fun _=>Ok.br (fun _=>Ok.some trivial) fun _=>Ok.some trivial) fun k1=>Ok.br (fun _=>Ok.br (fun _=>Ok.some trivial) fun _=>Ok.bind (Xr s h.terms _) fun e _=>Ok.some trivial) fun k2=>Ok.br (fun _=>Ok.some trivial) fun hb2=>?_
  obtain ⟨i,e,hi⟩:=hb (by simpa using hb2)
  rw [e]
  refine Ok.idxn hi (Ok.br (fun _=>Ok.some trivial) fun _=>Ok.bind (P:=fun _=>True) ?_ fun e _=>Ok.some trivial)
  rcases h.event with ⟨_,h2⟩ | h2
  ·rw [h2]; exact (Ok.eq (hs.rcond_zero 59)).any
  ·exact (Ok.eq (h2.rcheck hs (by omega) (by show 3 < 60; omega))).any
 ·have hk:q.Kind≠3:=by simpa using hk
  rcases h.event with ⟨_,h2⟩ | h2
  ·rw [h2]
   exact Ok.bindE (au 59) (Ok.no rfl (Ok.some trivial))
  ·refine Ok.bind (P:=fun _=>True) ?_ fun b _=>Ok.br (fun _=>Ok.some trivial) fun _=>Ok.some trivial
   unfold LN
   refine Ok.bind (P:=fun _=>True) ?_ fun b _=>Ok.some trivial
   show Ok (IY 59 (JK 59) q.Event Nz) _
   unfold IY
   have hne:(q.Event.Op != 0) = true:=(fun c (hc:RC s 3 c)=>(by cases hc <;> rfl:(c.Op != 0) = true)) _ h2
   refine Ok.yes ?_ (Ok.some trivial)
   rw [show (q.Event.Op != Nz.Op) = true from hne]
   rfl
structure Td (s:Aa) (d:Ay):Prop where
 project:BK d.Project = some true∧DE d.Project = some true
 source:Ok (BK d.Source) fun _=>True
 cohort:RC s 3 d.Cohort
 questions:d.Questions.length≤3∧∀ q∈d.Questions,dN s q
theorem J0 (hs:DS s) {d:Ay} (h:Td s d):Ok (E9 DD s d) fun _=>True:=by
 unfold E9
 refine Ok.bindE hs.rcheck (Ok.no rfl (Ok.bindE h.project.1 (Ok.no rfl (Ok.bind h.source fun b _=>Ok.br (fun _=>Ok.some trivial) fun _=>?_))))
 unfold GL
 refine Ok.bindE (h.cohort.rcheck hs (by omega) (by show 3 < 60; omega)) (Ok.no rfl (Ok.br (fun _=>Ok.some trivial) fun _=>Ok.br (fun _=>Ok.some trivial) fun _=>?_))
 have hl:=h.questions.1
 refine Ok.for (fun q=>q) d.Questions.length (fun _ _=>True) 0 (Nat.zero_le _) rfl trivial (by omega) (fun rec q hq _=>?_) fun rec i q hi hq _ ih=>?_
 ·simp only [Fw,hq]
  rw [AO (by omega)]
  exact Ok.some trivial
 ·simp only [Fw,hq]
  rw [AC (by omega)]
  refine Ok.idxn hi (Ok.bind (Me hs (h.questions.2 _ (List.getElem_mem hi))) fun e _=>Ok.br (fun _=>Ok.some trivial) fun _=>?_)
  refine Ok.for (fun q=>q) i (fun _ _=>True) 0 (Nat.zero_le _) rfl trivial (by omega) (fun rec2 q2 hq2 _=>?_) fun rec2 k q2 hk hq2 _ ih2=>?_
  ·simp only [GN,hq2]
   rw [AO (by omega)]
   exact ih _ (CH (by omega)) trivial
  ·simp only [GN,hq2]
   rw [AC (by omega)]
   exact Ok.idxn (by omega:k < d.Questions.length) (Ok.idxn hi (Ok.br (fun _=>Ok.some trivial) fun _=>ih2 _ (CH (by omega)) trivial))
theorem Vj (hs:DS s) {i:Nat} (hi0:1≤i) (hi:i < s.Columns.length) (h:It s.Columns[i]) {a b:Int} (a0:0≤a) (b0:0≤b) (b1:b≤fin s i):Ok (Dz s i a b) fun r=>b≤a→r = true:=by
 obtain ⟨L,hL,hL2⟩:=hs.clist h
 have hcl:=K2 hL
 have hlen:(Bg L).length≤10:=by have:=List.all_eq_true.1 NB L hL; simpa using this
 unfold Dz
 refine Ok.idxn hi (Ok.br (fun _=>Ok.some fun _=>rfl) fun hz=>?_)
 have hab:¬ b≤a:=by
  intro hba
  have:decide (a ≥ b) = true:=decide_eq_true hba
  rw [this] at hz
  cases hb:(b==0) <;> rw [hb] at hz <;> cases hz
 refine Ok.yes (by rw [h.kind]; rfl) (Ok.bindE (SE (C4 hi) hL2 hL) ?_)
 have hc:∀ (k:Nat) (hk:k < (Bg L).length) (l:Int),0≤l→l≤fin s i→AP s i l (Bg L)[k] = some (CV s s.Columns[i] l (Bg L)[k]):=fun k hk l l0 l1=>RD hs hi0 hi l0 l1 (.inr (.inl ⟨h.kind,L,hL,hL2,List.getElem_mem hk⟩))
 refine Ok.for (fun q=>q) (Bg L).length (fun _ _=>True) 0 (Nat.zero_le _) rfl trivial (by omega) (fun rec q hq _=>?_) fun rec k q hk hq _ ih=>?_
 ·simp only [Hl,hq]
  rw [AO (by omega)]
  exact Ok.some fun _=>rfl
 ·simp only [Hl,hq]
  rw [AC (by omega)]
  refine Ok.for (fun q=>q) k (fun _ _=>True) 0 (Nat.zero_le _) rfl trivial (by omega) (fun rec2 q2 hq2 _=>?_) fun rec2 m q2 hm hq2 _ ih2=>?_
  ·simp only [Hh,hq2]
   rw [AO (by omega)]
   exact ih _ (CH (by omega)) trivial
  ·have hm2:m < (Bg L).length:=by omega
   simp only [Hh,hq2]
   rw [AC (by omega)]
   refine Ok.idxn hk (Ok.bindE (hc k hk b b0 b1) (Ok.idxn hm2 (Ok.bindE (hc m hm2 b b0 b1) (Ok.br (fun _=>?_) fun _=>ih2 _ (CH (by omega)) trivial))))
   refine Ok.idxn hk (Ok.bindE (hc k hk a a0 (by omega)) (Ok.idxn hm2 (Ok.bindE (hc m hm2 a a0 (by omega)) (Ok.br (fun _=>Ok.some fun h=>absurd h hab) fun _=>ih2 _ (CH (by omega)) trivial))))
theorem Tr (hs:DS s) {i:Nat} (hi0:1≤i) (hi:i < s.Columns.length) {l:Int} (h0:0≤l) (h1:l≤fin s i):Ok (Cd s i l) fun _=>True:=by
 have hf:=hs.fin_ok hi0 hi
 rcases hs.col hi0 hi with h | h
 ·unfold Cd
  refine Ok.bindE (hs.rfinest hi0 hi) ?_
  rw [Hy,Option.bind_some,decide_eq_true ⟨h0,h1⟩]
  refine Ok.no rfl (Ok.loop (fun q=>0≤q∧q≤l) (fun q=>(l - q).toNat) ⟨Int.le_refl _,h0⟩ (by unfold A6; omega) fun rec q hq ih=>?_)
  simp only [F0]
  refine Ok.bind (Vj hs hi0 hi h hq.1 h0 h1) fun r hr=>Ok.br (fun e=>?_) fun _=>Ok.some trivial
  have hlt:q < l:=by
   by_cases e2:l≤q
   ·rw [hr e2] at e; cases e
   ·omega
  have e2:IntKind.i64.wrap (q + 1) = q + 1:=wr (by omega) (by omega)
  rw [e2]
  exact ih _ ⟨by omega,by omega⟩ (by omega)
 ·have hf2:fin s i = s.Columns[i].Widths.length:=by rw [DF hi,Cl h]
  obtain ⟨L,_,h2,_⟩:=Qu hs hi0 hi h h0 (by omega)
  exact (Ok.eq h2).any
structure PB (r:List Ae) (n:Nat):Prop where
 len:r.length≤n
 pos:∀ p∈r,0 < p.Level
theorem PB.raise {r:List Ae} {n:Nat} (h:PB r n) (hn:n≤1000) (c l:Int):Ok (Cq r c l) fun z=>PB z (n + 1):=by
 have:=h.len
 exact (U0 (by omega) h.pos).mono fun z hz=>⟨by omega,hz.2.1⟩
theorem PB.mono {r:List Ae} {n m:Nat} (h:PB r n) (hm:n≤m):PB r m:=⟨by have:=h.len; omega,h.pos⟩
theorem Tm (hs:DS s) {q:AG} (h:dN s q):Ok (F7 DD s q) fun r=>PB r 220:=by
 have hc:=hs.cols_length
 have hj:∀ r,PB r 200→Ok (Ef q s r) fun r=>PB r 220:=by
  intro r hr
  unfold Ef
  have hdl:=h.dims.1
  refine Ok.for (fun q=>q.2) q.Dims.length (fun k q=>PB q.1 (200 + k)) 0 (Nat.zero_le _) rfl hr (by omega) (fun rec st hq hI=>?_) fun rec k st hk hq hI ih=>?_
  ·simp only [Fz,hq]
   rw [AO (by omega)]
   refine Ok.for (fun q=>q.2) s.Columns.length (fun k q=>1≤k∧PB q.1 (210 + k)) 1 (by omega) rfl ⟨Nat.le_refl _,hI.mono (by omega)⟩ (by omega) (fun rec st hq hI=>?_) fun rec k st hk hq hI ih=>?_
   ·simp only [Fp,hq]
    rw [AO (by omega)]
    exact Ok.some (hI.2.mono (by omega))
   ·obtain ⟨hk1,hI⟩:=hI
    have hf:=hs.fin_ok hk1 hk
    simp only [Fp,hq]
    rw [AC (by omega)]
    refine Ok.bind (P:=fun _=>True) ?_ fun b _=>Ok.br (fun _=>Ok.bindE (hs.rfinest hk1 hk) (Ok.bind (Tr hs hk1 hk (by omega) (Int.le_refl _)) fun L _=>Ok.bind (hI.raise (by omega) _ _) fun z hz=>ih _ (CH (by omega)) ⟨by omega,hz⟩)) fun _=>ih _ (CH (by omega)) ⟨by omega,hI.mono (by omega)⟩
    unfold LB
    exact Ok.br (fun _=>Ok.some trivial) fun _=>Ok.bind (Wz (by have:=h.terms; omega)) fun b _=>Ok.some trivial
  ·simp only [Fz,hq]
   rw [AC (by omega)]
   obtain ⟨i,h1,h2,h3,h4,h5⟩:=h.dims.2 _ (List.getElem_mem hk)
   refine Ok.idxn hk (Ok.idxn hk (Ok.idxn hk ?_))
   rw [h3]
   exact Ok.bind (Tr hs h1 h2 h4 h5) fun L _=>Ok.bind (hI.raise (by omega) _ _) fun z hz=>ih _ (CH (by omega)) hz
 unfold F7
 refine Ok.bind (Me hs h) fun e _=>Ok.br (fun _=>Ok.some ⟨by simp,fun p hp=>by cases hp⟩) fun _=>Ok.bind (N6 hs h.filter (by show 3 < 60; omega) (by omega)) fun x hx=>?_
 have hx1:PB x 100:=⟨hx.len,hx.pos⟩
 refine Ok.br (fun hk=>?_) fun _=>hj _ (hx1.mono (by omega))
 have hk:q.Kind = 3:=by simpa using hk
 have he:RC s 3 q.Event:=by
  rcases h.event with ⟨h1,_⟩ | h1
  ·exact absurd hk h1
  ·exact h1
 refine Ok.bind (N6 hs he (by show 3 < 60; omega) (by omega)) fun y hy=>?_
 have hyl:=hy.len
 refine Ok.for (fun q=>q.2) y.length (fun k q=>PB q.1 (100 + k)) 0 (Nat.zero_le _) rfl hx1 (by omega) (fun rec st hq hI=>?_) fun rec k st hk hq hI ih=>?_
 ·simp only [Jj,hq]
  rw [AO (by omega)]
  exact hj _ (hI.mono (by omega))
 ·simp only [Jj,hq]
  rw [AC (by omega)]
  exact Ok.idxn hk (Ok.idxn hk (Ok.bind (hI.raise (by omega) _ _) fun z hz=>ih _ (CH (by omega)) hz))
theorem Zn (hs:DS s) {d:Ay} (h:Td s d):Ok (LR DD s d) fun r=>r.1.length≤660:=by
 unfold LR
 refine Ok.bind (J0 hs h) fun e _=>Ok.br (fun _=>Ok.some (by simp)) fun _=>?_
 have hl:=h.questions.1
 refine Ok.for (fun q=>q.2) d.Questions.length (fun k q=>PB q.1 (220 * k)) 0 (Nat.zero_le _) rfl ⟨by simp,fun p hp=>by cases hp⟩ (by omega) (fun rec st hq hI=>?_) fun rec k st hk hq hI ih=>?_
 ·simp only [Km,hq]
  rw [AO (by omega)]
  exact Ok.some (by show st.1.length≤660; have:=hI.len; omega)
 ·simp only [Km,hq]
  rw [AC (by omega)]
  refine Ok.idxn hk (Ok.bind (Tm hs (h.questions.2 _ (List.getElem_mem hk))) fun x hx=>?_)
  have hxl:=hx.len
  refine Ok.for (fun q=>q.2) x.length (fun j q=>PB q.1 (220 * k + j)) 0 (Nat.zero_le _) rfl hI (by omega) (fun rec2 st2 hq2 hI2=>?_) fun rec2 j st2 hj hq2 hI2 ih2=>?_
  ·simp only [Kk,hq2]
   rw [AO (by omega)]
   exact ih _ (CH (by omega)) (hI2.mono (by omega))
  ·simp only [Kk,hq2]
   rw [AC (by omega)]
   exact Ok.idxn hj (Ok.idxn hj (Ok.bind (hI2.raise (by omega) _ _) fun z hz=>ih2 _ (CH (by omega)) hz))
theorem Xx (hs:DS s) {d:Ay} (h:Td s d) {picks:List Ae} (hp:picks.length≤1000):Ok (Ha DD s d picks) fun e=>e = 0→(∀ p∈picks,cR s p)∧picks.Pairwise fun a b=>a.Column < b.Column:=by
 have hl:=h.questions.1
 unfold Ha
 refine Ok.bind (J0 hs h) fun e _=>Ok.br (fun hne=>Ok.some fun h0=>?_) fun _=>Ok.bind (Yz hs (by omega)) fun e2 he2=>Ok.br (fun hne=>Ok.some fun h0=>?_) fun h0=>?_
 ·subst h0; cases hne
 ·subst h0; cases hne
 have hP:=he2 (by simpa using h0)
 refine Ok.for (fun q=>q) d.Questions.length (fun _ _=>True) 0 (Nat.zero_le _) rfl trivial (by omega) (fun rec q hq _=>?_) fun rec i q hi hq _ ih=>?_
 ·simp only [Fi,hq]
  rw [AO (by omega)]
  exact Ok.some fun _=>hP
 ·simp only [Fi,hq]
  rw [AC (by omega)]
  have hQ:=h.questions.2 _ (List.getElem_mem hi)
  refine Ok.idxn hi (Ok.bind (P:=fun _=>True) ?_ fun b _=>Ok.br (fun _=>Ok.some fun h=>by cases h) fun _=>ih _ (CH (by omega)) trivial)
  unfold H7
  refine Ok.bind (Me hs hQ) fun e _=>Ok.br (fun _=>Ok.bind (Yz hs (by omega)) fun e _=>Ok.br (fun _=>Ok.bind (Tm hs hQ) fun r hr=>Ok.bindE (P0 _ _ (by omega) (by have:=hr.len; omega)) (Ok.some trivial)) fun _=>Ok.some trivial) fun _=>Ok.some trivial
end Go.Proofs.YtejfnieiaecpkaaGreatDoor.P
namespace Go.Proofs.YtejfnieiaecpkaaGreatDoor.P
open Go Go.Abs Go.Proofs
set_option maxRecDepth 100000
variable {s:Aa}
theorem Yk:(Su.all fun L=>(Bg L).all fun v=>(List.range L.Codes.length).all fun k=>(Ky L v (k:Int)).isSome) = true:=by decide +kernel
theorem YG (hs:DS s) {a:Ag} {r:List Int} (hr:Nk s r) {n:Nat} (h:RC s n a) (ho:a.Op = 2∨a.Op = 3∨a.Op = 4):Ok ((idx r a.Column).bind fun x27=>(Bt s a x27).bind fun x29=>some x29) fun _=>True:=by
 have key:∀ (i:Nat) (hi:i < s.Columns.length),a.Column = (i:Int)→(∀ v,Wc s s.Columns[i] v→Ok (Bt s a v) fun _=>True)→Ok ((idx r a.Column).bind fun x27=>(Bt s a x27).bind fun x29=>some x29) fun _=>True:=by
  intro i hi e hv
  have hir:i < r.length:=by rw [hr.1]; exact hi
  rw [e]
  exact Ok.idxn hir (Ok.bind (hv _ (hr.2 i _ _ (List.getElem?_eq_getElem hi) (List.getElem?_eq_getElem hir))) fun t _=>Ok.some trivial)
 cases h with
 | under _ i hi0 hi hC L hL hL2 k h0 h1 =>
   refine key i hi rfl fun v hv=>?_
   have hv2:=hv.code hC hL2
   obtain ⟨m,rfl⟩:∃ m:Nat,k = m:=⟨k.toNat,by omega⟩
   have h3:=List.all_eq_true.1 (List.all_eq_true.1 (List.all_eq_true.1 Yk L hL) v hv2) m (List.mem_range.2 (by omega))
   obtain ⟨b,hb⟩:=Option.isSome_iff_exists.1 h3
   unfold Bt
   refine Ok.yes rfl (Ok.idxn hi (Ok.bindE hL2 (Ok.bindE hb (Ok.br (fun _=>Ok.some trivial) fun _=>Ok.some trivial))))
 | between _ i hi0 hi hC l u h0 h1 h2 =>
   refine key i hi rfl fun v hv=>?_
   unfold Bt
   exact Ok.no rfl (Ok.yes rfl (Ok.br (fun _=>Ok.some trivial) fun _=>Ok.br (fun _=>Ok.some trivial) fun _=>Ok.some trivial))
 | miss _ i hi0 hi hC ho =>
   refine key i hi rfl fun v hv=>?_
   unfold Bt
   exact Ok.no rfl (Ok.no rfl (Ok.yes rfl (Ok.br (fun _=>Ok.some trivial) fun _=>Ok.some trivial)))
 | all=>rcases ho with h | h | h <;> cases h
 | and _ _ _ _ _=>rcases ho with h | h | h <;> cases h
 | or _ _ _ _ _=>rcases ho with h | h | h <;> cases h
 | not _ _ _=>rcases ho with h | h | h <;> cases h
theorem UI (hs:DS s) {r:List Int} (hr:Nk s r):∀ (n d:Nat) {c:Ag},RC s n c→n < d→Ok (JV d s c r) fun _=>True
 | n,d + 1,c,h,hd=>by
   show Ok (IT d (JV d) s c r) _
   unfold IT
   refine Ok.br (fun e=>YG hs hr h ?_) fun e=>?_
   ·by_cases h2:c.Op = 2
    ·exact .inl h2
    ·by_cases h3:c.Op = 3
     ·exact .inr (.inl h3)
     ·refine .inr (.inr ?_)
      rw [beq_eq_false_iff_ne.2 h2,beq_eq_false_iff_ne.2 h3] at e
      exact by simpa using e
   ·have hk:=h.kids
    have hjoin:∀ b:List Int,b.length = c.Kids.length→Ok ((Gc c.Op b).bind fun x51=>some x51) fun _=>True:=by
     intro b hb
     unfold Gc
     cases h with
     | all=>exact Ok.bind (P:=fun _=>True) (Ok.no rfl (Ok.no rfl (Ok.no rfl (Ok.some trivial)))) fun _ _=>Ok.some trivial
     | and n x y _ _ =>
       have hb:b.length = 2:=hb
       refine Ok.bind (P:=fun _=>True) (Ok.no rfl (Ok.yes rfl (Ok.idxn (i:=0) (by omega) (Ok.idxn (i:=1) (by omega) (Ok.some trivial))))) fun _ _=>Ok.some trivial
     | or n x y _ _ =>
       have hb:b.length = 2:=hb
       refine Ok.bind (P:=fun _=>True) (Ok.no rfl (Ok.no rfl (Ok.yes rfl (Ok.idxn (i:=0) (by omega) (Ok.idxn (i:=1) (by omega) (Ok.some trivial)))))) fun _ _=>Ok.some trivial
     | not n x _ =>
       have hb:b.length = 1:=hb
       refine Ok.bind (P:=fun _=>True) (Ok.yes rfl (Ok.idxn (i:=0) (by omega) (Ok.some trivial))) fun _ _=>Ok.some trivial
     | under=>cases e
     | between=>cases e
     | miss=>cases e
    refine Ok.for (fun q=>q.1) c.Kids.length (fun k q=>q.2.length = k) 0 (Nat.zero_le _) rfl rfl (by omega) (fun rec q hq hI=>?_) fun rec k q hkk hq hI ih=>?_
    ·simp only [Ki,hq]
     rw [AO (by omega)]
     exact hjoin _ hI
    ·simp only [Ki,hq]
     rw [AC (by omega)]
     obtain ⟨m,rfl,hm⟩:=hk.2 _ (List.getElem_mem hkk)
     refine Ok.idxn hkk (Ok.bind (UI hs hr m d hm (by omega)) fun t _=>Ok.rm (by rw [hI]; simp; omega) (ih _ (CH (by omega)) ?_))
     show (q.2++[t]).length = k + 1
     rw [List.length_append,hI]; rfl
theorem YV (hs:DS s) {r:List Int} (hr:Nk s r) {c:Ag} (h:RC s 3 c):Ok (If DD s c r) fun _=>True:=by
 unfold If
 exact Ok.bindE (h.rcheck hs (by omega) (by show 3 < 60; omega)) (Ok.no rfl (Ok.bindE (eo hs hr) (Ok.no rfl (Ok.bind (UI hs hr 3 DD h (by show 3 < 60; omega)) fun t _=>Ok.some trivial))))
theorem bY (x:Hn) (id:Int):Ok (LH x id) fun _=>True:=by
 unfold LH
 have h:Ok (K4 x) fun e=>e = 0→x.Of≠0:=by
  unfold K4
  refine Ok.br (fun _=>Ok.some fun h=>by cases h) fun hn=>Ok.some fun _ h0=>?_
  rw [h0] at hn
  cases hn
 obtain ⟨v,hv⟩:∃ v,L3 x.Seed id = some v:=⟨_,rfl⟩
 refine Ok.bind h fun e he=>Ok.br (fun hb=>Ok.bindE hv (Ok.gdd ?_ (Ok.some trivial))) fun _=>Ok.some trivial
 refine he ?_
 by_cases e0:e = 0
 ·exact e0
 ·rw [beq_eq_false_iff_ne.2 e0] at hb; cases hb
theorem WQ {x:B2} {n:Nat} (h:Tn x n) (hn:n≤100) {d:Ay} (hd:Td x.Schema d):Ok (Gd DD x d) fun r=>r.length≤n∧∀ v∈r,∃ (i:Nat) (hi:i < x.Rows.length),v = P.hd x.Rows[i]:=by
 have hl:=h.len
 unfold Gd
 refine Ok.bindE (W5 h hn) (Ok.no rfl (Ok.bind (J0 h.schema hd) fun e _=>Ok.br (fun _=>Ok.some ⟨by simp,fun v hv=>by cases hv⟩) fun _=>?_))
 unfold Gj
 refine Ok.for (fun q=>q.1) x.Rows.length (fun i q=>q.2.length≤i∧∀ v∈q.2,∃ (i:Nat) (hi:i < x.Rows.length),v = P.hd x.Rows[i]) 0 (Nat.zero_le _) rfl ⟨Nat.le_refl _,fun v hv=>by cases hv⟩ (by omega) (fun rec q hq hI=>?_) fun rec i q hi hq hI ih=>?_
 ·simp only [Ez,hq]
  rw [AO (by omega)]
  exact Ok.some ⟨by have:=hI.1; omega,hI.2⟩
 ·have hI1:=hI.1
  simp only [Ez,hq]
  rw [AC (by omega)]
  have hr:=h.rows _ (List.getElem_mem hi)
  have hne:=hr.ne h.schema
  refine Ok.idxn hi (Ok.bind (YV h.schema hr hd.cohort) fun t _=>Ok.br (fun _=>Ok.idxn hi (Ok.bindE (Ft hne) (Ok.bind (bY _ _) fun b _=>Ok.br (fun _=>Ok.idxn hi (Ok.bindE (Ft hne) (Ok.rm (by simp; omega) (ih _ (CH (by omega)) ⟨by simp; omega,fun v hv=>?_⟩)))) fun _=>ih _ (CH (by omega)) ⟨by show q.2.length≤i + 1; omega,hI.2⟩))) fun _=>ih _ (CH (by omega)) ⟨by show q.2.length≤i + 1; omega,hI.2⟩)
  rcases List.mem_append.1 hv with hv | hv
  ·exact hI.2 v hv
  ·rw [List.mem_singleton] at hv
   exact ⟨i,hi,hv⟩
theorem SR {x:B2} {n:Nat} (h:Tn x n) (hn:n≤100) {d:Ay} (hd:Td x.Schema d) {picks:List Ae} (hp:picks.length≤1000) (sec:Int):Ok (EG DD x d picks sec) fun r=>GX x.Schema r.1∨r.1 = Nt:=by
 have hs:=h.schema
 have hc:=hs.cols_length
 unfold EG
 refine Ok.bindE (W5 h hn) (Ok.no rfl (Ok.bind (Xx hs hd hp) fun e he=>Ok.br (fun _=>Ok.some (.inr rfl)) fun h0=>Ok.br (fun _=>Ok.some (.inr rfl)) fun hsec=>Ok.rm (by omega) (Ok.bind (WQ h hn hd) fun own hown=>?_)))
 obtain ⟨hP,hO⟩:=he (by simpa using h0)
 have hs2:0≤sec∧sec < 1152921504606846976:=by
  by_cases e1:sec < 0
  ·rw [decide_eq_true e1] at hsec; cases hsec
  ·rw [decide_eq_false e1,cond_false] at hsec
   have:=of_decide_eq_false hsec
   omega
 have hol:=hown.1
 refine Ok.for (fun q=>q.1) own.length (fun i q=>(∀ r∈q.2,r.length = picks.length + 1∧0≤P.hd r∧P.hd r≤1048575∧∀ (k:Nat) p v,picks[k]? = some p→r[k + 1]? = some v→XV x.Schema p v)∧b5 q.2∧q.2.length≤i) 0 (Nat.zero_le _) rfl ⟨(fun r hr=>by cases hr),List.Pairwise.nil,Nat.zero_le _⟩ (by omega) (fun rec q hq hI=>?_) fun rec i q hi hq hI ih=>?_
 ·simp only [Fn,hq]
  rw [AO (by omega)]
  refine Ok.some (.inl ⟨hd.project,?_,hP,hO,hI.1,hI.2.1,by show q.2.length≤200; have:=hI.2.2; omega⟩)
  show 0≤x.Version∧x.Version≤300
  rw [h.version]
  exact ⟨Int.le_refl _,by omega⟩
 ·obtain ⟨h1,h2,h3⟩:=hI
  simp only [Fn,hq]
  rw [AC (by omega)]
  obtain ⟨j,hj,ej⟩:=hown.2 _ (List.getElem_mem hi)
  have hr:=h.rows _ (List.getElem_mem hj)
  have hh:=hr.hd hs
  refine Ok.idxn hi ?_
  rw [ej]
  refine Ok.bindE (dT h hn hj) (Ok.idxn hj (Ok.idxn hi ?_))
  rw [ej]
  refine Ok.bind (bK hs2.1 hs2.2 (by omega) (by omega)) fun key hkey=>?_
  refine Ok.for (fun q=>q.1) picks.length (fun k q=>q.2.length = k + 1∧P.hd q.2 = key∧∀ (m:Nat) p v,m < k→picks[m]? = some p→q.2[m + 1]? = some v→XV x.Schema p v) 0 (Nat.zero_le _) rfl ⟨rfl,rfl,fun m p v hm=>by omega⟩ (by omega) (fun rec2 q2 hq2 hI2=>?_) fun rec2 k q2 hk hq2 hI2 ih2=>?_
  ·simp only [Fe,hq2]
   rw [AO (by omega)]
   obtain ⟨g1,g2,g3⟩:=hI2
   have hne2:∀ r∈q.2,r≠[]:=fun r hr e=>by have:=(h1 r hr).1; rw [e] at this; simp at this
   have hne3:q2.2≠[]:=fun e=>by rw [e] at g1; simp at g1
   refine Ok.bindE (Xi hne2 hne3 h2 (by omega)) (ih _ (CH (by omega)) ⟨fun r hr=>?_,QO h2,?_⟩)
   ·rcases Rj hr with rfl | hr
    ·refine ⟨g1,by rw [g2]; exact hkey.1,by rw [g2]; exact hkey.2,fun m p v hm hv=>g3 m p v ?_ hm hv⟩
     exact (List.getElem?_eq_some_iff.1 hm).1
    ·exact h1 r hr
   ·have:=K6 q.2 q2.2
    show (Ss q.2 _).length≤i + 1
    omega
  ·obtain ⟨g1,g2,g3⟩:=hI2
   simp only [Fe,hq2]
   rw [AC (by omega)]
   obtain ⟨m,m1,m2,m3,m4,m5⟩:=hP _ (List.getElem_mem hk)
   have hmr:m < x.Rows[j].length:=by rw [hr.1]; exact m2
   have hV:=hr.2 m _ _ (List.getElem?_eq_getElem m2) (List.getElem?_eq_getElem hmr)
   refine Ok.idxn hk (Ok.idxn hk (Ok.idxn hk ?_))
   rw [m3]
   refine Ok.idxn hmr (Ok.bindE (RD hs m1 m2 m4 m5 hV) (Ok.rm (by rw [g1]; simp; omega) (ih2 _ (CH (by omega)) ⟨by show (q2.2++[_]).length = _; rw [List.length_append,g1]; rfl,?_,fun z p v hz hp2 hv=>?_⟩)))
   ·show P.hd (q2.2++[_]) = key
    rw [← g2]
    cases e:q2.2 with
    | nil=>rw [e] at g1; simp at g1
    | cons a b=>rfl
   ·by_cases e:z = k
    ·subst e
     rw [List.getElem?_eq_getElem hk] at hp2
     obtain rfl:=Option.some.inj hp2
     have hv:(q2.2++[CV x.Schema x.Schema.Columns[m] picks[z].Level x.Rows[j][m]])[z + 1]? = some v:=hv
     rw [List.getElem?_append_right (by omega),g1,Nat.sub_self] at hv
     obtain rfl:=Option.some.inj hv
     exact ⟨m,m2,_,m1,m3,hV,rfl⟩
    ·have hv:(q2.2++[CV x.Schema x.Schema.Columns[m] picks[k].Level x.Rows[j][m]])[z + 1]? = some v:=hv
     rw [List.getElem?_append_left (by omega)] at hv
     exact g3 z p v (by omega) hp2 hv
end Go.Proofs.YtejfnieiaecpkaaGreatDoor.P
namespace Go.Proofs.YtejfnieiaecpkaaGreatDoor.P
open Go Go.Abs Go.Proofs
set_option maxRecDepth 100000
variable {s:Aa}
theorem Ze {c:Ab} (hc:GE c) (hs:DS s) (m:Int):Ok (Fo c s m) fun r=>GE r.2∧r.1.length≤10:=by
 unfold Fo
 refine Ok.bind (Ub hs) fun l hl=>?_
 obtain ⟨_,hl,_⟩:=hl
 refine Ok.for (fun q=>q.1) l.length (fun k q=>GE q.2.1∧q.2.2.length≤k) 0 (Nat.zero_le _) rfl ⟨hc,Nat.le_refl _⟩ (by omega) (fun rec q hq hI=>?_) fun rec k q hk hq hI ih=>?_
 ·simp only [Fc,hq]
  rw [AO (by omega)]
  exact Ok.some ⟨hI.1,by have:=hI.2; show q.2.2.length≤10; omega⟩
 ·have h2:=hI.2
  simp only [Fc,hq]
  rw [AC (by omega)]
  refine Ok.idxn hk (Ok.br (fun _=>Ok.br (fun _=>Ok.idxn hk (Ok.rm (by simp; omega) (ih _ (CH (by omega)) ⟨hI.1,by simp; omega⟩))) fun _=>Ok.bind (NQ hI.1 (by omega) (by omega)) fun z hz=>Ok.br (fun _=>Ok.idxn hk (Ok.rm (by simp; omega) (ih _ (CH (by omega)) ⟨hz,by simp; omega⟩))) fun _=>ih _ (CH (by omega)) ⟨hz,by show q.2.2.length≤k + 1; omega⟩) fun _=>ih _ (CH (by omega)) ⟨hI.1,by show q.2.2.length≤k + 1; omega⟩)
theorem VJ (hs:DS s) {c:Ab} (hc:GE c) {v:Int} (hv:∃ i:Nat,v = i∧1≤i∧∃ hi:i < s.Columns.length,It s.Columns[i]) {b:List Ae} {k:Nat} (hk:k≤10) (hb:b.length≤k∧∀ p∈b,eV s p) {ρ:Type} {Q:ρ→Prop} {f:Ab→List Ae→Option ρ}
 (h:∀ c b,GE c→(b.length≤k + 1∧∀ p∈b,eV s p)→Ok (f c b) Q) :
 Ok ((B7 s v).bind fun x34=>(A5 c (IntKind.i64.wrap (x34 + 1))).bind fun x36=>bif P.rm b.length [({ Column:=v,Level:=x36.1 }:Ae)].length then f x36.2 (b++[({ Column:=v,Level:=x36.1 }:Ae)]) else none) Q:=by
 obtain ⟨i,rfl,h1,h2,_⟩:=hv
 have hf:=hs.fin_ok h1 h2
 refine Ok.bindE (hs.rfinest h1 h2) ?_
 have e:IntKind.i64.wrap (fin s i + 1) = fin s i + 1:=wr (by omega) (by omega)
 rw [e]
 refine Ok.bind (Dk hc (by omega) (by omega)) fun z hz=>Ok.rm (by simp; omega) (h _ _ hz.1 ⟨by simp; omega,fun p hp=>?_⟩)
 rcases List.mem_append.1 hp with hp | hp
 ·exact hb.2 p hp
 ·rw [List.mem_singleton] at hp; subst hp
  exact ⟨i,h1,h2,rfl,hz.2.1,by show z.1≤fin s i; omega⟩
theorem aj {c:Ab} (hc:GE c) (hs:DS s):Ok (CK c s) fun r=>GE r.2∧r.1.length≤10∧∀ p∈r.1,eV s p:=by
 unfold CK
 refine Ok.bind (Uv hs) fun l hl=>Ok.bind (NQ hc (by omega) (by omega)) fun y hy=>?_
 obtain ⟨hne,hl,hm⟩:=hl
 have hpos:=List.length_pos_iff.2 hne
 refine Ok.br (fun _=>Ok.bind (Dk hy (by omega) (by omega)) fun z hz=>Ok.gdd (by omega) ?_) fun _=>?_
 ·have hcl:(Mw l z.1 ((l.length:Nat):Int)).length≤6:=by unfold Mw; rw [List.length_take,List.length_drop]; omega
  refine Ok.for (fun q=>q.1) (Mw l z.1 ((l.length:Nat):Int)).length (fun k q=>GE q.2.1∧q.2.2.length≤k∧∀ p∈q.2.2,eV s p) 0 (Nat.zero_le _) rfl ⟨hz.1,Nat.le_refl _,fun p hp=>by cases hp⟩ (by omega) (fun rec q hq hI=>?_) fun rec k q hk hq hI ih=>?_
  ·simp only [FJ,hq]
   rw [AO (by omega)]
   exact Ok.some ⟨hI.1,by have:=hI.2.1; show q.2.2.length≤10; omega,hI.2.2⟩
  ·simp only [FJ,hq]
   rw [AC (by omega)]
   have hmem:(Mw l z.1 ((l.length:Nat):Int))[k]∈l:=List.mem_of_mem_drop (List.mem_of_mem_take (List.getElem_mem hk))
   exact Ok.idxn hk (Ok.idxn hk (VJ hs hI.1 (hm _ hmem) (by omega) hI.2 (f:=fun c b=>rec (IntKind.i64.wrap ((k:Int) + 1),c,b)) fun c b hc hb=>ih (IntKind.i64.wrap ((k:Int) + 1),c,b) (CH (by omega)) ⟨hc,hb⟩))
 ·refine Ok.for (fun q=>q.1) l.length (fun k q=>GE q.2.1∧q.2.2.length≤k∧∀ p∈q.2.2,eV s p) 0 (Nat.zero_le _) rfl ⟨hy,Nat.le_refl _,fun p hp=>by cases hp⟩ (by omega) (fun rec q hq hI=>?_) fun rec k q hk hq hI ih=>?_
  ·simp only [z6,hq]
   rw [AO (by omega)]
   exact Ok.some ⟨hI.1,by have:=hI.2.1; show q.2.2.length≤10; omega,hI.2.2⟩
  ·simp only [z6,hq]
   rw [AC (by omega)]
   exact Ok.idxn hk (Ok.idxn hk (VJ hs hI.1 (hm _ (List.getElem_mem hk)) (by omega) hI.2 (f:=fun c b=>rec (IntKind.i64.wrap ((k:Int) + 1),c,b)) fun c b hc hb=>ih (IntKind.i64.wrap ((k:Int) + 1),c,b) (CH (by omega)) ⟨hc,hb⟩))
theorem PU {c:Ab} (hc:GE c) (hs:DS s) {nm:ByteArray} (hn:Ok (BK nm) fun _=>True):Ok (Dd DD c s nm) fun r=>GE r.2∧dN s r.1:=by
 unfold Dd
 refine Ok.bind (Dk hc (by omega) (by omega)) fun x hx=>?_
 obtain ⟨n,hn2⟩:∃ n:Nat,x.1 = n:=⟨x.1.toNat,by omega⟩
 rw [hn2]
 refine Ok.bind (Rw hs n DD hx.1 (by show n < 60; omega) (by omega)) fun f hf=>Ok.bind (Mn hf.1 hs) fun m hm=>Ok.bind (Dk hm.1 (by omega) (by omega)) fun y hy=>?_
 have hF:RC s 3 f.1:=hf.2.mono (by omega)
 have table:∀ {c:Ab},GE c→∀ ms:Int,Ok ((CK c s).bind fun x60=>some (({ Name:=nm,Kind:=1,Filter:=f.1,Dims:=x60.1,Measure:=ms,Terms:=[],Event:=({ Op:=0,Column:=0,Code:=0,Low:=0,High:=0,Kids:=[] }:Ag) }:AG),x60.2)) fun r=>GE r.2∧dN s r.1:=fun hc ms =>
  Ok.bind (aj hc hs) fun d hd=>Ok.some ⟨hd.1,hn,hF,.inl ⟨by show (1:Int)≠3; decide,rfl⟩,hd.2,by simp⟩
 refine Ok.br (fun _=>table hy.1 _) fun _=>Ok.br (fun _=>Ok.bind (Ze hy.1 hs _) fun t ht=>Ok.br (fun _=>Ok.some ⟨ht.1,hn,hF,.inl ⟨by show (2:Int)≠3; decide,rfl⟩,⟨by simp,fun p hp=>by cases hp⟩,ht.2⟩) fun _=>table ht.1 _) fun _=>Ok.br (fun _=>?_) fun _=>table hy.1 _
 obtain ⟨i,e,hi0,hi,hM⟩:=hm.2
 rw [e]
 refine Ok.idxn hi (Ok.br (fun _=>Ok.bind (Rw hs 1 DD hy.1 (by decide) (by omega)) fun v hv=>Ok.some ⟨hv.1,hn,hF,.inr (hv.2.mono (by omega)),⟨by simp,fun p hp=>by cases hp⟩,by simp⟩) fun _=>table hy.1 _)
theorem Wy {n:Int} (h0:0≤n) (h1:n < 100):CJ n = some ⟨(Go.Lib.decDigits n.toNat).toArray⟩:=by
 unfold CJ
 rw [decide_eq_true ⟨h0,h1⟩]; rfl
theorem dG:∀ n:Nat,n < 3→BK (({ data:=#[112] }:ByteArray)++(⟨(Go.Lib.decDigits n).toArray⟩:ByteArray)) = some true∧DE (({ data:=#[112] }:ByteArray)++(⟨(Go.Lib.decDigits n).toArray⟩:ByteArray)) = some true∧(⟨(Go.Lib.decDigits n).toArray⟩:ByteArray).size = 1:=by
 intro n hn
 rcases (by omega:n = 0∨n = 1∨n = 2) with rfl | rfl | rfl <;> exact ⟨by decide +kernel,by decide +kernel,by decide +kernel⟩
theorem dQ:∀ n:Nat,1≤n→n < 4→BK (({ data:=#[113] }:ByteArray)++(⟨(Go.Lib.decDigits n).toArray⟩:ByteArray)) = some true∧(⟨(Go.Lib.decDigits n).toArray⟩:ByteArray).size = 1:=by
 intro n h1 hn
 rcases (by omega:n = 1∨n = 2∨n = 3) with rfl | rfl | rfl <;> exact ⟨by decide +kernel,by decide +kernel⟩
theorem dp:BK ({ data:=#[115,114,99] }:ByteArray) = some true:=by decide +kernel
theorem ZN {c:Ab} (hc:GE c) (hs:DS s) {n:Nat} (hn:n < 3) {x15:Int × Ab} {k:Ag} (hk:RC s 3 k):Ok (BS DD s ⟨(Go.Lib.decDigits n).toArray⟩ x15 c k.Op k.Column k.Code k.Low k.High k.Kids) fun r=>GE r.2∧Td s r.1:=by
 have hP:=dG n hn
 have ek:Ag.mk k.Op k.Column k.Code k.Low k.High k.Kids = k:=by cases k; rfl
 have fin:∀ (co:Ag) (_:co = k) (smp:Hn) (qs:List AG),qs.length≤3→(∀ q∈qs,dN s q)→Td s ({ Project:=(({ data:=#[112] }:ByteArray)++(⟨(Go.Lib.decDigits n).toArray⟩:ByteArray)),Source:=({ data:=#[115,114,99] }:ByteArray),Cohort:=co,Sample:=smp,Questions:=qs }:Ay) :=
  fun co hco smp qs hl hq=>⟨⟨hP.1,hP.2.1⟩,(Ok.eq dp).any,by rw [hco]; exact hk,hl,hq⟩
 unfold BS
 refine Ok.bind (NQ hc (by omega) (by omega)) fun x hx=>Ok.br (fun _=>Ok.bind (Gi hx (by omega) (by omega) (by omega) (by omega)) fun y hy=>Ok.bind (Gi hy.1 (by omega) (by omega) (by omega) (by omega)) fun z hz=>Ok.bind (Gi hz.1 (by omega) (by omega) (by omega) (by omega)) fun u hu=>?_) fun _=>Ok.bind (Gi hx (by omega) (by omega) (by omega) (by omega)) fun u hu=>?_
 ·refine Ok.loop (fun q=>0≤q.1∧GE q.2.1∧(∀ x∈q.2.2,dN s x)∧(q.2.2.length:Int) + q.1≤3) (fun q=>q.1.toNat) ⟨by show 0≤u.1; omega,hu.1,(fun x hx=>by cases hx),by show ((0:Nat):Int) + u.1≤3; omega⟩ (by unfold A6; show u.1.toNat < _; omega) fun rec q hI ih=>?_
  obtain ⟨h0,h1,h2,h3⟩:=hI
  simp only [Eu]
  refine Ok.brd (fun hp=>Ok.bindE (Wy (by omega) (by omega)) ?_) fun hp=>?_
  ·have hQ:=dQ q.1.toNat (by omega) (by omega)
   have e1:IntKind.i64.wrap (q.1 - 1) = q.1 - 1:=wr (by omega) (by omega)
   refine Ok.gdd (by rw [hQ.2]; decide) (Ok.bind (PU h1 hs (Ok.eq hQ.1).any) fun w hw=>Ok.rm (by simp; omega) (ih _ ⟨by show 0≤IntKind.i64.wrap (q.1 - 1); omega,hw.1,fun x hx=>?_,by show (((q.2.2++[w.1]).length:Nat):Int) + IntKind.i64.wrap (q.1 - 1)≤3; rw [e1]; simp; omega⟩ (by show (IntKind.i64.wrap (q.1 - 1)).toNat < q.1.toNat; omega)))
   rcases List.mem_append.1 hx with hx | hx
   ·exact h2 x hx
   ·rw [List.mem_singleton] at hx; subst hx; exact hw.2
  ·unfold Di
   exact Ok.some ⟨h1,fin _ ek _ _ (by omega) h2⟩
 ·refine Ok.loop (fun q=>0≤q.1∧GE q.2.1∧(∀ x∈q.2.2,dN s x)∧(q.2.2.length:Int) + q.1≤3) (fun q=>q.1.toNat) ⟨by show 0≤u.1; omega,hu.1,(fun x hx=>by cases hx),by show ((0:Nat):Int) + u.1≤3; omega⟩ (by unfold A6; show u.1.toNat < _; omega) fun rec q hI ih=>?_
  obtain ⟨h0,h1,h2,h3⟩:=hI
  simp only [Es]
  refine Ok.brd (fun hp=>Ok.bindE (Wy (by omega) (by omega)) ?_) fun hp=>?_
  ·have hQ:=dQ q.1.toNat (by omega) (by omega)
   have e1:IntKind.i64.wrap (q.1 - 1) = q.1 - 1:=wr (by omega) (by omega)
   refine Ok.gdd (by rw [hQ.2]; decide) (Ok.bind (PU h1 hs (Ok.eq hQ.1).any) fun w hw=>Ok.rm (by simp; omega) (ih _ ⟨by show 0≤IntKind.i64.wrap (q.1 - 1); omega,hw.1,fun x hx=>?_,by show (((q.2.2++[w.1]).length:Nat):Int) + IntKind.i64.wrap (q.1 - 1)≤3; rw [e1]; simp; omega⟩ (by show (IntKind.i64.wrap (q.1 - 1)).toNat < q.1.toNat; omega)))
   rcases List.mem_append.1 hx with hx | hx
   ·exact h2 x hx
   ·rw [List.mem_singleton] at hx; subst hx; exact hw.2
  ·unfold Dj
   exact Ok.some ⟨h1,fin _ ek _ _ (by omega) h2⟩
theorem Sa {c:Ab} (hc:GE c) (hs:DS s):Ok (CY DD c s) fun r=>GE r.2∧Td s r.1:=by
 unfold CY
 refine Ok.bind (Dk hc (by omega) (by omega)) fun x hx=>?_
 obtain ⟨n,hn⟩:∃ n:Nat,x.1 = n:=⟨x.1.toNat,by omega⟩
 rw [hn]
 have hn3:n < 3:=by omega
 refine Ok.bindE (Wy (by omega) (by omega)) (Ok.gdd ?_ (Ok.bind (Rw hs 1 DD hx.1 (by decide) (by omega)) fun k hk=>Ok.bind (Dk hk.1 (by omega) (by omega)) fun y hy=>Ok.bind (NQ hy.1 (by omega) (by omega)) fun z hz=>Ok.br (fun _=>?_) fun _=>?_))
 ·rw [Int.toNat_natCast,(dG n hn3).2.2]; decide
 ·exact ZN hz hs hn3 (k:=Sz) (.all 3)
 ·exact ZN hz hs hn3 (hk.2.mono (by omega))
theorem Qo {c:Ab} (hc:GE c) {n:Nat} (hn:n≤50) {y:Aa × Ab} (hy:C2 c = some y):Ok (Cj c n) fun r=>GE r.2∧Tn r.1 n∧r.1.Schema = y.1:=by
 obtain ⟨r,hr,h1,h2⟩:=ae hc hn
 refine ⟨r,hr,h1,h2,?_⟩
 have hgo:Ok (Cj c n) fun r=>r.1.Schema = y.1:=by
  obtain ⟨z,hz,hz2⟩:=Sd hc
  rw [hy] at hz
  cases hz
  unfold Cj
  refine Ok.bindE hy ?_
  have e:IntKind.i64.wrap ((n:Int) + 1) = (n:Int) + 1:=wr (by omega) (by omega)
  rw [e]
  refine Ok.bind (Dk hz2.1 (by omega) (by omega)) fun u hu=>?_
  obtain ⟨hu1,hu2,hu3⟩:=hu
  refine Ok.loop (fun q=>0≤q.1∧GE q.2.1∧(∀ r∈q.2.2,Nk y.1 r)∧b5 q.2.2∧(q.2.2.length:Int) + q.1≤n) (fun q=>q.1.toNat) ⟨hu2,hu1,(fun r hr=>by cases hr),List.Pairwise.nil,by show ((0:Nat):Int) + u.1≤n; omega⟩ (by unfold A6; show u.1.toNat < _; omega) fun rec q hq ih=>?_
  obtain ⟨h0,h1,h2,h3,h4⟩:=hq
  simp only [EJ]
  refine Ok.brd (fun hp=>Ok.bind (bw hz2.2 h1) fun z hz=>?_) fun hp=>?_
  ·have hput:=Xi (l:=q.2.2) (row:=z.1) (fun r hr=>(h2 r hr).ne hz2.2) (hz.2.ne hz2.2) h3 (by omega)
   have hpl:=K6 q.2.2 z.1
   refine Ok.bindE hput (ih _ ⟨?_,hz.1,fun r hr=>?_,QO h3,?_⟩ ?_)
   ·show 0≤IntKind.i64.wrap (q.1 - 1); rw [wr (by omega) (by omega)]; omega
   ·rcases Rj hr with rfl | hr
    ·exact hz.2
    ·exact h2 r hr
   ·show ((Ss q.2.2 z.1).length:Int) + IntKind.i64.wrap (q.1 - 1)≤n; rw [wr (by omega) (by omega)]; omega
   ·show (IntKind.i64.wrap (q.1 - 1)).toNat < q.1.toNat; rw [wr (by omega) (by omega)]; omega
  ·exact Ok.some rfl
 obtain ⟨r',hr',h3⟩:=hgo
 rw [hr] at hr'
 obtain rfl:=Option.some.inj hr'
 exact h3
theorem Wr {c:Ab} (hc:GE c) {n:Nat} (hn:n≤50) {y:Aa × Ab} (hy:C2 c = some y):Ok (F3 DD c n) fun r=>DS y.1∧r.1.Schema = y.1∧GX y.1 r.2.1∧GE r.2.2:=by
 unfold F3
 refine Ok.bind (Qo hc hn hy) fun x hx=>Ok.bindE (bA hx.2.1.schema) (Ok.bind (Sj hx.1) fun w hw=>Ok.bind (bT hx.2.1 (by omega) hw.2.1 hw.2.2) fun z hz=>Ok.some ⟨?_,hx.2.2,?_,hw.1⟩)
 ·rw [← hx.2.2]; exact hx.2.1.schema
 ·rw [← hx.2.2]; exact hz.gx hx.2.1.schema (by omega)
theorem Uw {c:Ab} (hc:GE c) {n:Nat} (hn:n≤50) {y:Aa × Ab} (hy:C2 c = some y):Ok (Ej DD c n) fun r=>GX y.1 r.2.2.1∨r.2.2.1 = Nt:=by
 unfold Ej
 refine Ok.bind (Qo hc hn hy) fun x hx=>?_
 have hs:=hx.2.1.schema
 have hcl:=hs.cols_length
 refine Ok.bind (Sa hx.1 hs) fun d hd=>Ok.bind (Zn hs hd.2) fun p hp=>Ok.bind (NQ hd.1 (by omega) (by omega)) fun o ho=>Ok.br (fun _=>Ok.bindE (bA hs) (Ok.bind (Sj ho) fun w hw=>Ok.bind (SR hx.2.1 (by omega) hd.2 (by rw [HY]; omega) _) fun z hz=>Ok.some ?_)) fun _=>Ok.bind (Sj ho) fun w hw=>Ok.bind (SR hx.2.1 (by omega) hd.2 (by omega) _) fun z hz=>Ok.some ?_
 ·rw [← hx.2.2]; exact hz
 ·rw [← hx.2.2]; exact hz
end Go.Proofs.YtejfnieiaecpkaaGreatDoor.P
namespace Go.Proofs.YtejfnieiaecpkaaGreatDoor.P
open Go Go.Abs Go.Proofs
set_option maxRecDepth 100000
theorem bj (codes:List Int) (h:∀ v∈codes,0≤v∧v≤255) (hl:codes.length≤9223372036854775807) (column width:Int):HI DD codes column width = some true:=by
 obtain ⟨c,hc1,hc⟩:=eQ codes h hl
 obtain ⟨⟨ys,yc⟩,hy,_⟩:=Sd hc
 refine Ok.val ?_
 unfold HI
 refine Ok.bindE hc1 (Ok.bind (Wr hc (n:=12) (by omega) hy) fun z hz=>Ok.bindE hc1 (Ok.bind (Uw hc (n:=8) (by omega) hy) fun t ht=>?_))
 obtain ⟨src,x,c2⟩:=z
 obtain ⟨hs,e,hx,hc2⟩:=hz
 have e:src.Schema = ys:=e
 subst e
 have hs:DS src.Schema:=hs
 have hx:GX src.Schema x:=hx
 have hc2:GE c2:=hc2
 have ht:GX src.Schema t.2.2.1∨t.2.2.1 = Nt:=ht
 refine Ok.bind (Mn hc2 hs) fun m hm=>?_
 obtain ⟨hmc,i,hmi,hi0,hi,hM⟩:=hm
 refine Ok.bind (Rw hs 1 DD hmc (by decide) (by omega)) fun k hk=>?_
 have hwl:=Bk hM
 have hH:∀ y∈[x,t.2.2.1],∀ m w,∃ r:List B4 × List Int × Int,Hj DD src.Schema y m w k.1 = some r∧FU DD src.Schema y m w k.1 = some r∧r.1.length≤200∧r.2.1.length≤200:=by
  intro y hy m w
  simp only [List.mem_cons,List.not_mem_nil,or_false] at hy
  rcases hy with rfl | rfl
  ·exact VL hs hx hk.2 (by omega) m w
  ·rcases ht with ht | ht
   ·exact VL hs ht hk.2 (by omega) m w
   ·rw [ht]; exact an hs m w k.1
 have hB:∀ y∈[x,t.2.2.1],∀ m,∃ r:He × List Int × Int,H3 DD src.Schema y m k.1 = some r∧G2 DD src.Schema y m k.1 = some r∧r.2.1.length≤200:=by
  intro y hy m
  simp only [List.mem_cons,List.not_mem_nil,or_false] at hy
  rcases hy with rfl | rfl
  ·exact Yp hs hx hk.2 (by omega) m
  ·rcases ht with ht | ht
   ·exact Yp hs ht hk.2 (by omega) m
   ·rw [ht]; exact cw hs m k.1
 rw [hmi]
 refine Ok.idxn hi ?_
 refine Ok.for (fun q=>q) 2 (fun _ _=>True) 0 (Nat.zero_le _) rfl trivial (by omega) (fun rec q hq _=>?_) fun rec a q ha hq _ ih=>?_
 ·simp only [FC,hq]
  exact Ok.no rfl (Ok.bindE cu (Ok.some rfl))
 ·have ha2:a < [x,t.2.2.1].length:=ha
  have hy:=List.getElem_mem ha2
  simp only [FC,hq]
  refine Ok.yes (decide_eq_true (by show (a:Int) < ((2:Nat):Int); omega)) (Ok.idxn ha2 ?_)
  generalize [x,t.2.2.1][a] = y at hy ⊢
  refine Ok.bind (bW column (n:=8) (by omega) (by omega)) fun mc _=>?_
  refine Ok.for (fun q=>q) 2 (fun _ _=>True) 0 (Nat.zero_le _) rfl trivial (by omega) (fun rec2 q2 hq2 _=>?_) fun rec2 b q2 hb hq2 _ ih2=>?_
  ·simp only [Ga,hq2]
   exact Ok.no rfl (ih _ (CH (by omega)) trivial)
  ·have hb2:b < [m.1,IntKind.i64.wrap (mc - 1)].length:=hb
   simp only [Ga,hq2]
   refine Ok.yes (decide_eq_true (by show (b:Int) < ((2:Nat):Int); omega)) (Ok.idxn hb2 ?_)
   generalize [m.1,IntKind.i64.wrap (mc - 1)][b] = at_
   refine Ok.bind (bW width (n:=src.Schema.Columns[i].Widths.length) hwl.1 (Nat.le_trans hwl.2 (by decide))) fun wd hwd=>?_
   obtain ⟨wn,hwn1,hwn⟩:=hwd
   rw [hwn1]
   refine Ok.idxn hwn ?_
   refine Ok.for (fun q=>q) 2 (fun _ _=>True) 0 (Nat.zero_le _) rfl trivial (by omega) (fun rec3 q3 hq3 _=>?_) fun rec3 d q3 hd hq3 _ ih3=>?_
   ·simp only [Ge,hq3]
    refine Ok.no rfl ?_
    obtain ⟨r,h1,h2,h3⟩:=hB y hy at_
    unfold FN
    refine Ok.bindE h1 (Ok.bindE h2 (Ok.no ?_ (Ok.bindE (VH (by omega)) (Ok.no rfl (ih2 _ (CH (by omega)) trivial)))))
    simp
   ·have hd2:d < [src.Schema.Columns[i].Widths[wn],width].length:=hd
    simp only [Ge,hq3]
    refine Ok.yes (decide_eq_true (by show (d:Int) < ((2:Nat):Int); omega)) (Ok.idxn hd2 ?_)
    obtain ⟨r,h1,h2,h3,h4⟩:=hH y hy at_ [src.Schema.Columns[i].Widths[wn],width][d]
    refine Ok.bindE h1 (Ok.bindE h2 (Ok.no (by simp) (Ok.bindE (ai (by omega)) (Ok.no rfl (Ok.bindE (VH (by omega)) (Ok.no rfl (ih3 _ (CH (by omega)) trivial)))))))
end Go.Proofs.YtejfnieiaecpkaaGreatDoor.P
