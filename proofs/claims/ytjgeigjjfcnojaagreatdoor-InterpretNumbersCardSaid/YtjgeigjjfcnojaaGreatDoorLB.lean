/- LB -/
import Derived.Test.YtjgeigjjfcnojaaGreatDoorLA
import Derived.Test.YtjgeigjjfcnojaaGreatDoorFA
set_option linter.unusedVariables false
set_option linter.unusedSimpArgs false
namespace Go.Proofs.YtjgeigjjfcnojaaGreatDoor.P
open Go Go.Abs Go.Proofs
set_option maxRecDepth 100000
variable {s:Af}
def sE (op m:Int):A2:={ Op:=op,Num:=0,Name:=ByteArray.empty,Column:=m,Columns:=[],Dims:=[],Cond:=SN,Event:=Uz,Kids:=[] }
def cE:A2:={ Op:=3,Num:=0,Name:=ByteArray.empty,Column:=0,Columns:=[],Dims:=[],Cond:=SN,Event:=Uz,Kids:=[] }
def dE (m:Int):A2:={ Op:=7,Num:=0,Name:=ByteArray.empty,Column:=0,Columns:=[],Dims:=[],Cond:=Uz,Event:=Uz,Kids:=[sE 4 m,cE] }
theorem RL (hs:DS s) {i:Nat} (hi:i < s.Columns.length) (h:De s.Columns[i]) {op:Int} (hop:op = 4∨op = 5) (d:Nat):B9 (d + 2) s (sE op i) = some true:=by
 show Cm (d + 1) (B9 (d + 1)) (C9 (d + 1)) s (sE op i) = some true
 refine Ok.val ?_
 unfold Cm
 refine Ok.bindE (x:=(({ f_num:=false,f_name:=false,f_column:=true,f_columns:=false,f_dims:=false,f_cond:=true,f_event:=false }:Be),true)) (by rcases hop with rfl | rfl <;> rfl) (Ok.no rfl (Ok.bindE (x:=true) ?_ (Ok.no rfl (Ok.bindE (x:=true) ?_ (Ok.no rfl ?_)))))
 ·have e:((sE op i).Name.toList==({ data:=#[] }:ByteArray).toList) = true:=beq_self_eq_true _
  unfold EC
  rw [e]
  rcases hop with rfl | rfl <;> rfl
 ·refine Ok.val ?_
  unfold JJ
  rcases hop with rfl | rfl
  ·refine Ok.no rfl (Ok.no rfl (Ok.yes rfl (Ok.bindE (Vu hi h) (Ok.some rfl))))
  ·refine Ok.no rfl (Ok.no rfl (Ok.no rfl (Ok.yes rfl (Ok.bindE (Vu hi h) (Ok.some rfl)))))
 ·unfold Dy
  refine Ok.yes rfl (Ok.bindE (hs.pcond_all d) (Ok.no rfl (Ok.no rfl (Ok.bindE (x:=false) (by rcases hop with rfl | rfl <;> rfl) (Ok.no rfl (Ok.bindE (x:=false) rfl (Ok.some rfl)))))))
theorem Xs (hs:DS s) (d:Nat):B9 (d + 2) s cE = some true:=by
 show Cm (d + 1) (B9 (d + 1)) (C9 (d + 1)) s cE = some true
 refine Ok.val ?_
 unfold Cm
 refine Ok.bindE (x:=(({ f_num:=false,f_name:=false,f_column:=false,f_columns:=false,f_dims:=false,f_cond:=true,f_event:=false }:Be),true)) rfl (Ok.no rfl (Ok.bindE (x:=true) ?_ (Ok.no rfl (Ok.bindE (x:=true) rfl (Ok.no rfl ?_)))))
 ·have e:(cE.Name.toList==({ data:=#[] }:ByteArray).toList) = true:=beq_self_eq_true _
  unfold EC
  rw [e]
  rfl
 ·unfold Dy
  exact Ok.yes rfl (Ok.bindE (hs.pcond_all d) (Ok.no rfl (Ok.no rfl (Ok.bindE (x:=false) rfl (Ok.no rfl (Ok.bindE (x:=false) rfl (Ok.some rfl)))))))
theorem bI {l:List A2} {p:A2→Option Bool} (q:A2→Bool) (hp:∀ x∈l,p x = some (q x)) (hl:l.length≤1000000000):A7 l p = some (l.any q):=by
 unfold A7
 rw [show BA l p = some (FH q l) from JV hp hl,Option.bind_some,LV]
theorem Yv (hs:DS s) {i:Nat} (hi:i < s.Columns.length) (h:De s.Columns[i]) (d:Nat):B9 (d + 4) s (dE i) = some true:=by
 show Cm (d + 3) (B9 (d + 3)) (C9 (d + 3)) s (dE i) = some true
 refine Ok.val ?_
 unfold Cm
 refine Ok.bindE (x:=(({ f_num:=false,f_name:=false,f_column:=false,f_columns:=false,f_dims:=false,f_cond:=false,f_event:=false }:Be),true)) rfl (Ok.no rfl (Ok.bindE (x:=true) ?_ (Ok.no rfl (Ok.bindE (x:=true) rfl (Ok.no rfl ?_)))))
 ·have e:((dE i).Name.toList==({ data:=#[] }:ByteArray).toList) = true:=beq_self_eq_true _
  unfold EC
  rw [e]
  rfl
 ·unfold Dy
  refine Ok.no rfl (Ok.no rfl (Ok.bindE (x:=true) rfl (Ok.no rfl (Ok.bindE (x:=false) ?_ (Ok.some rfl)))))
  rw [bI (fun _=>false) (fun x hx=>?_) (by show 2≤1000000000; omega)]
  ·rfl
  ·show D3 (d + 2) (B9 (d + 2)) (C9 (d + 2)) x s = some false
   have hx:x = sE 4 i∨x = cE:=by simpa [dE] using hx
   refine Ok.val ?_
   unfold D3
   rcases hx with rfl | rfl
   ·exact Ok.bindE (x:=true) rfl (Ok.no rfl (Ok.bindE (RL hs hi h (.inl rfl) d) (Ok.some rfl)))
   ·exact Ok.bindE (x:=true) rfl (Ok.no rfl (Ok.bindE (Xs hs d) (Ok.some rfl)))
theorem af (hs:DS s) {e:A2} (h:B9 DD s e = some true):F4 DD s e = some true:=by
 refine Ok.val ?_
 unfold F4
 exact Ok.bindE hs.check (Ok.yes rfl (Ok.bindE h (Ok.some rfl)))
def NI (s:Af) (i:Nat) (l:List An):Prop:=(∀ p∈l,p.Column = (i:Int)∧0≤p.Level∧p.Level≤El s i)∧l.length≤100
theorem NI.nil (i:Nat):NI s i []:=⟨(fun p hp=>by cases hp),by simp⟩
theorem TS {i:Nat} (hi:i≤10) {ls:List (List An)} (hl:ls.length≤100) (h:∀ l∈ls,NI s i l):Ok (Fv ls) (NI s i):=by
 unfold Fv
 have st:∀ {m:List (Int × Int)},(m = []∨∃ L,0≤L∧L≤El s i∧m = [((i:Int),L)])→∀ k:Int,∃ v,(JD k m).getD 0 = v∧0≤v∧(v > 0→k = i∧v≤El s i):=by
  intro m hm k
  rcases hm with rfl | ⟨L,h1,h2,rfl⟩
  ·exact ⟨0,rfl,Int.le_refl _,fun h=>by omega⟩
  ·by_cases e:k = i
   ·have:JD k [((i:Int),L)] = some L:=by simp [JD,e]
    rw [this]
    exact ⟨L,rfl,h1,fun _=>⟨e,h2⟩⟩
   ·have:JD k [((i:Int),L)] = none:=by
     have:(k==(i:Int)) = false:=by rw [beq_eq_false_iff_ne]; exact e
     simp only [JD,this]; rfl
    rw [this]
    exact ⟨0,rfl,Int.le_refl _,fun h=>by omega⟩
 refine Ok.for (fun q=>q.2.1) ls.length (fun _ q=>(q.1 = 0∨q.1 = i)∧(q.2.2 = []∨∃ L,0≤L∧L≤El s i∧q.2.2 = [((i:Int),L)])) 0 (Nat.zero_le _) rfl ⟨.inl rfl,.inl rfl⟩ (by omega) (fun rec q hq hI=>?_) fun rec k q hk hq hI ih=>?_
 ·obtain ⟨h1,h2⟩:=hI
  simp only [Fa,hq]
  rw [Co]
  obtain ⟨n,hn,hn2⟩:∃ n:Nat,IntKind.i64.wrap (q.1 + 1) = n∧n≤11:=by
   rcases h1 with e | e
   ·exact ⟨1,by rw [e]; rfl,by omega⟩
   ·exact ⟨i + 1,by rw [e]; exact LJ,by omega⟩
  refine Ok.for (fun q=>q.1) n (fun k q=>(∀ p∈q.2,p.Column = (i:Int)∧0≤p.Level∧p.Level≤El s i)∧q.2.length≤k) 0 (Nat.zero_le _) rfl ⟨(fun p hp=>by cases hp),Nat.le_refl _⟩ (by omega) (fun rec q hq hI=>?_) fun rec k q hk hq hI ih=>?_
  ·simp only [Fc,hq,hn]
   rw [Co]
   exact Ok.some ⟨hI.1,by have:=hI.2; show q.2.length≤100; omega⟩
  ·obtain ⟨g1,g2⟩:=hI
   obtain ⟨v,e,v0,hv⟩:=st h2 (k:Int)
   simp only [Fc,hq,hn]
   rw [BO,e]
   refine Ok.brd (fun hp=>Ok.rm (by simp; omega) (ih _ LJ ⟨fun p hp2=>?_,by simp; omega⟩)) fun _=>ih _ LJ ⟨g1,by show q.2.length≤k + 1; omega⟩
   rcases List.mem_append.1 hp2 with hp2 | hp2
   ·exact g1 p hp2
   ·rw [List.mem_singleton] at hp2; subst hp2
    exact ⟨(hv hp).1,v0,(hv hp).2⟩
 ·simp only [Fa,hq]
  rw [BO]
  have hN:=h _ (List.getElem_mem hk)
  have hln:=hN.2
  refine Ok.idxn hk ?_
  refine Ok.for (fun q=>q.2.1) ls[k].length (fun _ q=>(q.1 = 0∨q.1 = i)∧(q.2.2 = []∨∃ L,0≤L∧L≤El s i∧q.2.2 = [((i:Int),L)])) 0 (Nat.zero_le _) rfl hI (by omega) (fun rec2 q2 hq2 hI2=>?_) fun rec2 j q2 hj hq2 hI2 ih2=>?_
  ·simp only [Fb,hq2]
   rw [Co]
   exact ih _ LJ hI2
  ·obtain ⟨p1,p2,p3⟩:=hN.1 _ (List.getElem_mem hj)
   obtain ⟨f1,f2⟩:=hI2
   obtain ⟨v,e,v0,hv⟩:=st f2 (i:Int)
   simp only [Fb,hq2]
   rw [BO]
   refine Ok.idxn hj (ih2 _ LJ ⟨?_,?_⟩)
   ·show (if ls[k][j].Column > q2.1 then ls[k][j].Column else q2.1) = 0∨(if ls[k][j].Column > q2.1 then ls[k][j].Column else q2.1) = i
    rw [p1]
    split
    ·exact .inr rfl
    ·exact f1
   ·refine .inr ⟨if ls[k][j].Level > v then ls[k][j].Level else v,by split <;> omega,?_,?_⟩
    ·split
     ·exact p3
     ·by_cases e0:v > 0
      ·exact (hv e0).2
      ·omega
    ·show Y1 ls[k][j].Column (if ls[k][j].Level > (JD ls[k][j].Column q2.2.2).getD 0 then ls[k][j].Level else (JD ls[k][j].Column q2.2.2).getD 0) q2.2.2 = _
     rw [p1,e]
     rcases f2 with f2 | ⟨L,_,_,f2⟩
     ·rw [f2]; rfl
     ·rw [f2]; simp [Y1]
theorem Xm (hs:DS s) {e:A2} (h1:e.Dims = []) (h2:e.Columns = []) (h3:e.Op = 3∨e.Op = 7):IE s e = some []:=by
 refine Ok.val ?_
 unfold IE
 refine Ok.for (fun q=>q.1) 0 (fun _ q=>q.2 = []) 0 (Nat.zero_le _) rfl rfl (by omega) (fun rec q hq hI=>?_) fun rec i q hi hq hI ih=>absurd hi (by omega)
 simp only [JQ,hq,hI,h1]
 refine Ok.no rfl ?_
 unfold Ik
 have hj:Ok (Bj e s []) (· = []):=by
  unfold Bj
  refine Ok.for (fun q=>q.1) 0 (fun _ q=>q.2 = []) 0 (Nat.zero_le _) rfl rfl (by omega) (fun rec q hq hI=>?_) fun rec i q hi hq hI ih=>absurd hi (by omega)
  simp only [JR,hq,hI,h2]
  exact Ok.no rfl (Ok.some rfl)
 rcases h3 with h3 | h3 <;> rw [h3] <;> exact Ok.no rfl (Ok.no rfl (Ok.no rfl (Ok.no rfl (Ok.no rfl (Ok.no rfl (Ok.no rfl hj))))))
theorem bS (hs:DS s) {i:Nat} (hi0:1≤i) (hi:i < s.Columns.length) (h:De s.Columns[i]) {op:Int} (hop:op = 4∨op = 5):∃ L,0≤L∧L≤El s i∧IE s (sE op i) = some [({ Column:=i,Level:=L }:An)]:=by
 have hf:El s i = s.Columns[i].Widths.length:=by rw [I1 hi,F3 h]
 obtain ⟨L,hL,h0,h1⟩:=aT hs hi0 hi h (l:=El s i) (by omega) (by omega)
 refine ⟨L,h0,h1,Ok.val ?_⟩
 unfold IE
 refine Ok.for (fun q=>q.1) 0 (fun _ q=>q.2 = []) 0 (Nat.zero_le _) rfl rfl (by omega) (fun rec q hq hI=>?_) fun rec i q hi hq hI ih=>absurd hi (by omega)
 simp only [JQ,hq,hI]
 refine Ok.no rfl ?_
 unfold Ik
 have hc:Cv (i:Int) [] s = some [({ Column:=i,Level:=L }:An)]:=by
  unfold Cv
  exact Ok.val (Ok.bindE (hs.pFinest hi0 hi) (Ok.bindE hL (Ok.rm (by simp) (Ok.some rfl))))
 have hj:Ok (Bj (sE op i) s [({ Column:=i,Level:=L }:An)]) (· = [({ Column:=i,Level:=L }:An)]):=by
  unfold Bj
  refine Ok.for (fun q=>q.1) 0 (fun _ q=>q.2 = [({ Column:=i,Level:=L }:An)]) 0 (Nat.zero_le _) rfl rfl (by omega) (fun rec q hq hI=>?_) fun rec i q hi hq hI ih=>absurd hi (by omega)
  simp only [JR,hq,hI]
  exact Ok.no rfl (Ok.some rfl)
 have hp:decide ((i:Int) > 0) = true:=dt
 rcases hop with rfl | rfl
 ·exact Ok.yes rfl (Ok.yes hp (Ok.bindE hc hj))
 ·exact Ok.no rfl (Ok.yes rfl (Ok.yes hp (Ok.bindE hc hj)))
theorem R6 (hs:DS s) {i:Nat} (hi0:1≤i) (hi:i < s.Columns.length) (h:De s.Columns[i]) {op:Int} (hop:op = 4∨op = 5) (d:Nat):Ok (CX (d + 2) s (sE op i)) (NI s i):=by
 have hcl:=hs.cols_length
 obtain ⟨L,h0,h1,hown⟩:=bS hs hi0 hi h hop
 show Ok (CJ (d + 1) (CX (d + 1)) s (sE op i)) _
 unfold CJ
 refine Ok.bindE hown (Ok.bindE (hs.pneeds_all d) (Ok.bindE (hs.pneeds_zero d) ?_))
 refine Ok.for (fun q=>q.1) 0 (fun _ q=>q.2 = [[({ Column:=i,Level:=L }:An)],[],[]]) 0 (Nat.zero_le _) rfl rfl (by omega) (fun rec q hq hI=>?_) fun rec i q hi hq hI ih=>absurd hi (by omega)
 simp only [EE,hq,hI]
 refine Ok.no rfl (Ok.bind (TS (s:=s) (i:=i) (by omega) (by simp) fun l hl=>?_) fun x hx=>Ok.some hx)
 simp only [List.mem_cons,List.not_mem_nil,or_false] at hl
 rcases hl with rfl | rfl | rfl
 ·exact ⟨fun p hp=>by rw [List.mem_singleton] at hp; subst hp; exact ⟨rfl,h0,h1⟩,by simp⟩
 ·exact NI.nil i
 ·exact NI.nil i
theorem Xl (hs:DS s) {i:Nat} (hi:i≤10) (d:Nat):Ok (CX (d + 2) s cE) (NI s i):=by
 show Ok (CJ (d + 1) (CX (d + 1)) s cE) _
 unfold CJ
 refine Ok.bindE (Xm hs rfl rfl (.inl rfl)) (Ok.bindE (hs.pneeds_all d) (Ok.bindE (hs.pneeds_zero d) ?_))
 refine Ok.for (fun q=>q.1) 0 (fun _ q=>q.2 = [[],[],[]]) 0 (Nat.zero_le _) rfl rfl (by omega) (fun rec q hq hI=>?_) fun rec i q hi hq hI ih=>absurd hi (by omega)
 simp only [EE,hq,hI]
 refine Ok.no rfl (Ok.bind (TS (s:=s) (i:=i) hi (by simp) fun l hl=>?_) fun x hx=>Ok.some hx)
 simp only [List.mem_cons,List.not_mem_nil,or_false,or_self] at hl
 subst hl
 exact NI.nil i
theorem Yk (hs:DS s) {i:Nat} (hi0:1≤i) (hi:i < s.Columns.length) (h:De s.Columns[i]) (d:Nat):Ok (CX (d + 3) s (dE i)) (NI s i):=by
 have hcl:=hs.cols_length
 obtain ⟨a,ha,ha2⟩:=R6 hs hi0 hi h (.inl rfl) d
 obtain ⟨b,hb,hb2⟩:=Xl hs (i:=i) (by omega) d
 show Ok (CJ (d + 2) (CX (d + 2)) s (dE i)) _
 unfold CJ
 refine Ok.bindE (Xm hs rfl rfl (.inr rfl)) (Ok.bindE (hs.pneeds_zero (d + 1)) (Ok.bindE (hs.pneeds_zero (d + 1)) ?_))
 refine Ok.for (fun q=>q.1) 2 (fun k q=>q.2 = [[],[],[]]++[a,b].take k) 0 (Nat.zero_le _) rfl rfl (by omega) (fun rec q hq hI=>?_) fun rec k q hk hq hI ih=>?_
 ·simp only [EE,hq,hI]
  refine Ok.no rfl (Ok.bind (TS (s:=s) (i:=i) (by omega) (by simp) fun l hl=>?_) fun x hx=>Ok.some hx)
  simp only [List.take,List.cons_append,List.nil_append,List.mem_cons,List.not_mem_nil,or_false] at hl
  rcases hl with rfl | rfl | rfl | rfl | rfl
  ·exact NI.nil i
  ·exact NI.nil i
  ·exact NI.nil i
  ·exact ha2
  ·exact hb2
 ·simp only [EE,hq,hI]
  rcases (by omega:k = 0∨k = 1) with rfl | rfl
  ·exact Ok.yes rfl (Ok.bindE (x:=sE 4 i) rfl (Ok.bindE ha (Ok.rm (by simp) (ih _ rfl rfl))))
  ·exact Ok.yes rfl (Ok.bindE (x:=cE) rfl (Ok.bindE hb (Ok.rm (by simp) (ih _ rfl rfl))))
end Go.Proofs.YtjgeigjjfcnojaaGreatDoor.P
set_option linter.unusedVariables false
set_option linter.unusedSimpArgs false
namespace Go.Proofs.YtjgeigjjfcnojaaGreatDoor.P
open Go Go.Abs Go.Proofs
set_option maxRecDepth 100000
variable {s:Af}
def Dw (x:A1) (i j:Nat):Int:=(x.Rows.getD j []).getD i 0
theorem QJ {x:A1} {j:Nat} (hj:j < x.Rows.length):x.Rows.getD j [] = x.Rows[j]:=by rw [List.getD_eq_getElem?_getD,List.getElem?_eq_getElem hj]; rfl
theorem YA {x:A1} {i j:Nat} (hj:j < x.Rows.length) (hi:i < x.Rows[j].length):x.Rows[j][i]? = some (Dw x i j):=by
 unfold Dw
 rw [QJ hj,List.getD_eq_getElem?_getD,List.getElem?_eq_getElem hi]; rfl
theorem Za {x:A1} {n:Nat} (hx:Sa s x n) {j:Nat} (hj:j < x.Rows.length):x.Rows[j].length = s.Columns.length:=(hx.rows _ (List.getElem_mem hj)).1
theorem VY {x:A1} {n:Nat} (hs:DS s) (hx:Sa s x n) (hn:n≤200) {i:Nat} (hi0:1≤i) (hi:i < s.Columns.length) (h:De s.Columns[i]) {j:Nat} (hj:j < x.Rows.length) :
 Ep s x j i (El s i) = some (Dw x i j,true)∧MV s.Columns[i] (Dw x i j):=by
 have hf:=hs.fin_ok hi0 hi
 have hfe:El s i = s.Columns[i].Widths.length:=by rw [I1 hi,F3 h]
 have hrl:=Za hx hj
 have e:=YA (x:=x) (i:=i) hj (by omega)
 have hv:=(hx.rows _ (List.getElem_mem hj)).2.2.2 i _ _ hi0 (List.getElem?_eq_getElem hi) e
 have hw:=hv.meas h
 refine ⟨?_,hw⟩
 have hm:mv s.Columns[i] (El s i) (Dw x i j) = Dw x i j:=by rw [← V5 (s:=s) h]; exact ZZ hs hi0 hi hv
 obtain ⟨k,rfl⟩:∃ k,i = k + 1:=⟨i - 1,by omega⟩
 have hk:k < x.Picks.length:=by rw [hx.picks,Fq]; omega
 have hp:x.Picks[k] = ({ Column:=((k + 1:Nat):Int),Level:=El s (k + 1) }:An):=by rw [List.getElem_of_eq hx.picks hk,Ck]
 have:=bO hs (hx.gx hs hn) hi0 hi h hk (by rw [hp]) (b:=El s (k + 1)) hf.1 (by rw [hp]; exact Int.le_refl _) (by rw [hp,hfe]; exact Int.le_refl _) hj hw (by rw [hp]; show x.Rows[j][k + 1]? = some (mv s.Columns[k + 1] (El s (k + 1)) (Dw x (k + 1) j)); rw [hm]; exact e)
 rw [hm] at this
 exact this
theorem ar {l:List Int} {p:Int→Option Bool} (q:Int→Bool) (hp:∀ x∈l,p x = some (q x)) (hl:l.length≤1000000):Ct l p = some (l.filter fun x=>!q x):=by
 unfold Ct
 have h1:(l.all fun x=>(p x).isSome) = true:=List.all_eq_true.2 fun x hx=>by rw [hp x hx]; rfl
 have h2:rm 0 l.length = true:=YZ (by omega)
 rw [h1,h2]
 show some _ = some _
 congr 1
 refine List.filter_congr fun x hx=>?_
 rw [hp x hx]
 cases q x <;> rfl
theorem dr (d:Nat) (hs:DS s) {picks:List An} {vals:List Int} (hl:picks.length≤1000) (hv:picks.length≤vals.length)
 (h:∀ (k:Nat) (hk:k < picks.length) (hk2:k < vals.length),(∃ u,BE s picks[k].Column picks[k].Level vals[k] = some (u,true))∧∃ i:Nat,picks[k].Column = i∧i < s.Columns.length):FP (d + 1) s SN picks vals = some 1:=by
 have hc:=hs.cols_length
 refine Ok.val ?_
 unfold FP
 refine Ok.gd (by rw [dt,YZ (by omega)]; rfl) ?_
 refine Ok.for (fun q=>q.1) s.Columns.length (fun k q=>q.2.length = s.Columns.length∧1≤k) 1 (by omega) rfl ⟨by simp,by omega⟩ (by omega) (fun rec q hq hI=>?_) fun rec k q hk hq hI ih=>?_
 ·simp only [FD,hq,hI.1]
  rw [Co]
  unfold FF
  refine Ok.for (fun q=>q.1) picks.length (fun k q=>q.2.length = s.Columns.length) 0 (Nat.zero_le _) rfl hI.1 (by omega) (fun rec q hq hI=>?_) fun rec k q hk hq hI ih=>?_
  ·simp only [FE,hq]
   rw [Co]
   exact Ok.bindE (x:=1) rfl (Ok.some rfl)
  ·simp only [FE,hq]
   rw [BO]
   obtain ⟨⟨u,hu⟩,i,hi1,hi2⟩:=h k hk (by omega)
   refine Ok.idxn hk (Ok.idxn (by omega:k < vals.length) (Ok.bindE hu (Ok.no rfl ?_)))
   rw [hi1]
   exact Ok.idxn (by omega:i < q.2.length) (ih _ LJ (by show (q.2.set _ _).length = _; rw [List.length_set]; exact hI))
 ·simp only [FD,hq,hI.1]
  rw [BO]
  obtain ⟨r,hr⟩:=dl hs hI.2 hk
  exact Ok.bindE hr (Ok.idxn (by omega:k < q.2.length) (ih _ LJ ⟨by show (q.2.set _ _).length = _; rw [List.length_set]; exact hI.1,by omega⟩))
theorem Vp (d:Nat) {x:A1} (hs:DS s) (hx:GX s x):Dz (d + 1) s x SN = some (Wx x.Rows.length):=by
 have hpl:=hx.picks_len hs
 have hl:=hx.len
 refine Ok.val ?_
 unfold Dz
 refine Ok.bindE (hs.pcond_all d) (Ok.no rfl (Ok.bindE (hs.pneeds_all d) (Ok.bindE (YT _ _ (by omega) (by simp)) (Ok.no rfl ?_))))
 unfold E2
 refine Ok.for (fun q=>q.1) x.Rows.length (fun k q=>q.2 = Wx k) 0 (Nat.zero_le _) rfl rfl (by omega) (fun rec q hq hI=>?_) fun rec k q hk hq hI ih=>?_
 ·simp only [E1,hq,hI]
  rw [Co]
  exact Ok.some rfl
 ·simp only [E1,hq,hI]
  rw [BO]
  have hr:=List.getElem_mem hk
  have hrl:=(hx.rows _ hr).1
  refine Ok.idxn hk (Ok.gdd (by omega) ?_)
  rw [e5]
  refine Ok.bindE (dr d hs (by omega) (by rw [List.length_drop]; omega) fun j hj hj2=>⟨hx.valsP hs hr j hj hj2,?_⟩) (Ok.yes rfl (Ok.rm (by rw [SI]; simp; omega) (ih _ LJ (ZS k).symm)))
  obtain ⟨i,_,h2,h3,_⟩:=hx.picks _ (List.getElem_mem hj)
  exact ⟨i,h3,h2⟩
theorem WC (d:Nat) {x:A1} {n:Nat} (hs:DS s) (hx:Sa s x n) (hn:n≤200) {i:Nat} (hi0:1≤i) (hi:i < s.Columns.length) (h:De s.Columns[i]):Fz (d + 1) s x SN [(i:Int)] = some (ints (keep (Dw x i) x.Rows.length)):=by
 have hgx:=hx.gx hs hn
 have hl:=hx.len
 refine Ok.val ?_
 unfold Fz
 refine Ok.bindE (hgx.check hs) (Ok.no rfl (Ok.bindE (Vp d hs hgx) (Ok.bindE (ar (fun z=>Dw x i z.toNat==Cb) (fun z hz=>?_) (by rw [SI]; omega)) (Ok.some ?_))))
 ·obtain ⟨j,hj,rfl⟩:=List.mem_map.1 hz
  have hj:=List.mem_range.1 hj
  obtain ⟨h1,_⟩:=VY hs hx hn hi0 hi h hj
  unfold Fo
  have hc1:∀ z∈[(i:Int)],C6 z s x (j:Int) = some (Dw x i j==Cb):=by
   intro z hz
   rw [List.mem_singleton] at hz
   subst hz
   refine Ok.val ?_
   unfold C6
   exact Ok.bindE (hs.pFinest hi0 hi) (Ok.bindE h1 (Ok.some rfl))
  rw [cP _ hc1 (by simp),Int.toNat_natCast]
  simp
 ·unfold Wx ints keep
  rw [List.filter_map]
  rfl
theorem Md (l:List Nat):(ints l).length = l.length:=by simp [ints]
theorem bN {l:List Nat} {k:Nat} (hk:k < l.length):(ints l)[k]'(by rw [Md]; exact hk) = (l[k]:Int):=by simp [ints]
theorem X3 {x:A1} {n:Nat} (hs:DS s) (hx:Sa s x n) (hn:n≤200) {i:Nat} (hi0:1≤i) (hi:i < s.Columns.length) (h:De s.Columns[i]) {l:List Nat} (hl:l.length≤200) (hlm:∀ j∈l,j < x.Rows.length) :
 F0 s x (ints l) (i:Int) = some (l.map (Dw x i)):=by
 refine Ok.val ?_
 unfold F0
 refine Ok.for (fun q=>q.1) l.length (fun m q=>q.2 = (l.take m).map (Dw x i)) 0 (Nat.zero_le _) rfl rfl (by omega) (fun rec q hq hI=>?_) fun rec m q hm hq hI ih=>?_
 ·simp only [Fp,hq,hI,Md,List.take_length]
  rw [Co]
  exact Ok.some rfl
 ·simp only [Fp,hq,hI,Md]
  rw [BO]
  obtain ⟨h1,_⟩:=VY hs hx hn hi0 hi h (hlm _ (List.getElem_mem hm))
  refine Ok.idxn (by rw [Md]; exact hm) ?_
  rw [bN hm]
  refine Ok.bindE (hs.pFinest hi0 hi) (Ok.bindE h1 (Ok.rm (by simp; omega) (ih _ LJ ?_)))
  show (l.take m).map (Dw x i)++[_] = _
  rw [List.take_succ_eq_append_getElem hm,List.map_append]
  rfl
theorem Y0 {l:List Int} {a:Int} (h:∀ v∈l,-a≤v∧v≤a):-(a * l.length)≤l.sum∧l.sum≤a * l.length:=by
 induction l with
 | nil=>simp
 | cons v r ih =>
   have h1:=h v (List.mem_cons_self ..)
   have h2:=ih fun w hw=>h w (List.mem_cons_of_mem _ hw)
   rw [List.sum_cons,List.length_cons]
   have e:a * ((r.length + 1:Nat):Int) = a * r.length + a:=by rw [Int.natCast_add,Int.mul_add]; simp
   omega
theorem b5 {l:List Int} {k:Nat} (hk:k < l.length):(l.take (k + 1)).sum = (l.take k).sum + l[k]:=by
 rw [List.take_succ_eq_append_getElem hk,List.sum_append]
 simp
theorem Yh {c:Az} (h:De c) {v:Int} (hv:MV c v) (hm:v≠Cb):-46≤v∧v≤46:=by
 obtain ⟨a1,a2⟩:=h.low
 obtain ⟨a3,a4⟩:=h.high
 rcases hv with hv | hv
 ·omega
 ·exact absurd hv.2 hm
theorem YW {n:Int} (h0:-1000000000≤n) (h1:n≤1000000000):Xq n 1 = ({ Num:=n,Den:=1 },0):=by
 have ok:F.okR n 1 = true:=by
  unfold F.okR
  rw [Nat.gcd_one_left,Nat.div_one,decide_eq_true (by omega),decide_eq_true (by omega)]
  rfl
 unfold Xq F.redF F.redE
 rw [ok]
 show (({ Num:=((n.natAbs / Nat.gcd 1 n.natAbs:Nat):Int) * n.sign,Den:=((1 / Nat.gcd 1 n.natAbs:Nat):Int) }:AI),(0:Int)) = _
 rw [Nat.gcd_one_left,Nat.div_one,Nat.div_one,Int.mul_comm,Int.sign_mul_natAbs]
 rfl
theorem i64_in {n:Int} (h0:-1000000000≤n) (h1:n≤1000000000):cU n = true:=decide_eq_true (by omega)
theorem de {n:Int} (h0:-1000000000≤n) (h1:n≤1000000000):Ca n 1 = some ({ Num:=n,Den:=1 },0):=by
 unfold Ca
 rw [i64_in h0 h1,i64_in (by omega) (by omega)]
 show some (Xq n 1) = _
 rw [YW h0 h1]
theorem b9 {n:Int} (h0:-1000000000≤n) (h1:n≤1000000000):d3 { Num:=n,Den:=1 } = true :=
 decide_eq_true ⟨⟨by show (1:Int)≤1; omega,by show (1:Int)≤1152921504606846976; omega⟩,⟨by show -1152921504606846976≤n; omega,by show n≤1152921504606846976; omega⟩,Nat.gcd_one_right _⟩
theorem cn {a b:Int} (a0:-1000000≤a) (a1:a≤1000000) (b0:-1000000≤b) (b1:b≤1000000):JC { Num:=a,Den:=1 } { Num:=b,Den:=1 } = some ({ Num:=a - b,Den:=1 },0):=by
 unfold JC
 rw [b9 (by omega) (by omega),b9 (by omega) (by omega)]
 show some (Xq (a * 1 - b * 1) 1) = _
 rw [Int.mul_one,Int.mul_one,YW (by omega) (by omega)]
theorem YP {n m:Int} (n0:-1000000≤n) (n1:n≤1000000) (m0:1≤m) (m1:m≤1000000):Ok (Ca n m) fun r=>r.2 = 0:=by
 unfold Ca
 rw [i64_in (by omega) (by omega),i64_in (by omega) (by omega)]
 refine Ok.yes rfl (Ok.no (beq_eq_false_iff_ne.2 (by omega)) (Ok.some ?_))
 have ok:F.okR (F.nn n m) m.natAbs = true:=by
  unfold F.okR
  have h1:(F.nn n m).natAbs / Nat.gcd m.natAbs (F.nn n m).natAbs≤(F.nn n m).natAbs:=Nat.div_le_self _ _
  have h2:m.natAbs / Nat.gcd m.natAbs (F.nn n m).natAbs≤m.natAbs:=Nat.div_le_self _ _
  have h3:F.nn n m = n:=by unfold F.nn; rw [if_neg (by omega)]
  rw [h3] at h1 h2 ⊢
  rw [decide_eq_true (by omega),decide_eq_true (by omega)]
  rfl
 show F.redE _ _ = 0
 unfold F.redE
 rw [ok]; rfl
end Go.Proofs.YtjgeigjjfcnojaaGreatDoor.P
set_option linter.unusedVariables false
set_option linter.unusedSimpArgs false
namespace Go.Proofs.YtjgeigjjfcnojaaGreatDoor.P
open Go Go.Abs Go.Proofs
set_option maxRecDepth 100000
variable {s:Af}
def nv (k:Int) (f:AI) (l:List Int):AA:={ Kind:=k,Number:=f,Table:=({ Dims:=[],Measure:=0,Cells:=[] }:Dd),Model:=({ Measure:=0,Terms:=[],Coefs:=[],Residual:=({ Num:=0,Den:=0 }:AI),Total:=({ Num:=0,Den:=0 }:AI),Count:=0,Free:=0 }:Dc),Curve:=[],Hist:=[],Box:=({ Count:=0,Least:=0,Lower:=0,Middle:=0,Upper:=0,Greatest:=0 }:J7),Lineage:=l }
def zV:AA:=nv 0 { Num:=0,Den:=0 } []
def kp (x:A1) (i:Nat):List Nat:=keep (Dw x i) x.Rows.length
def KH (x:A1) (i:Nat):Int:=((kp x i).map (Dw x i)).sum
def Gk (x:A1) (l:List Nat):List Int:=l.map fun j=>hd (x.Rows.getD j [])
theorem QL {x:A1} {i:Nat}:∀ j∈kp x i,j < x.Rows.length:=fun j hj=>(Mg hj).1
theorem Nl {x:A1} {n:Nat} (hs:DS s) (hx:Sa s x n) (hn:n≤200) {i:Nat} (hi0:1≤i) (hi:i < s.Columns.length) (h:De s.Columns[i]) {l:List Nat} (hl:∀ j∈l,j < x.Rows.length∧Dw x i j≠Cb):∀ v∈l.map (Dw x i),-46≤v∧v≤46:=by
 intro v hv
 obtain ⟨j,hj,rfl⟩:=List.mem_map.1 hv
 exact Yh h (VY hs hx hn hi0 hi h (hl j hj).1).2 (hl j hj).2
theorem X0 {V:List Int} (hl:V.length≤200) (hb:∀ v∈V,-46≤v∧v≤46) {ρ:AA × Int→Prop} {K:Int→Int→Option (AA × Int)} (hK:∀ k,Ok (K V.sum k) ρ):Ok (iter (fun rec1 s=>Ce V K rec1 s.1 s.2) AM (0,0)) ρ:=by
 refine Ok.for (fun q=>q.2) V.length (fun k q=>q.1 = (V.take k).sum) 0 (Nat.zero_le _) rfl rfl (by omega) (fun rec q hq hI=>?_) fun rec k q hk hq hI ih=>?_
 ·simp only [Ce,hq,hI]
  rw [Co,List.take_length]
  exact hK _
 ·simp only [Ce,hq,hI]
  rw [BO]
  have h1:=Y0 (l:=V.take (k + 1)) (a:=46) fun v hv=>hb v (List.mem_of_mem_take hv)
  have h2:(V.take (k + 1)).length≤200:=by rw [List.length_take]; omega
  refine Ok.idxn hk (ih _ LJ ?_)
  show IntKind.i64.wrap ((V.take k).sum + V[k]) = _
  rw [← b5 hk,wr]
theorem KI {x:A1} {n:Nat} (hs:DS s) (hx:Sa s x n) (hn:n≤200) {i:Nat} (hi0:1≤i) (hi:i < s.Columns.length) (h:De s.Columns[i]):-9200≤KH x i∧KH x i≤9200:=by
 have hl:=hx.len
 have hk:=EJ (Dw x i) x.Rows.length
 have:=Y0 (a:=46) (Nl hs hx hn hi0 hi h (l:=kp x i) fun j hj=>Mg hj)
 rw [List.length_map] at this
 unfold KH
 have e:(kp x i).length≤200:=by unfold kp; omega
 omega
theorem Yf {x:A1} {n:Nat} (hs:DS s) (hx:Sa s x n) (hn:n≤200) {l:List Nat} (hl:l.length≤200) (h:∀ j∈l,j < x.Rows.length):Dv x (ints l) = some (Gk x l):=dV (by omega) h fun r hr=>(hx.rows r hr).ne hs
theorem eF (d:Nat) {x:A1} {n:Nat} (hs:DS s) (hx:Sa s x n) (hn:n≤200) {i:Nat} (hi0:1≤i) (hi:i < s.Columns.length) (h:De s.Columns[i]) (b:List AC) :
 Ba (d + 1) { f_plan:={ f_s:=s,f_x:=x },f_before:=b } (sE 4 i) = some (nv 1 { Num:=KH x i,Den:=1 } (Gk x (kp x i)),0):=by
 have hl:=hx.len
 have hk:(kp x i).length≤200:=by have:=EJ (Dw x i) x.Rows.length; unfold kp; omega
 have hb:=KI hs hx hn hi0 hi h
 refine Ok.val ?_
 unfold Ba
 refine Ok.bindE (WC d hs hx hn hi0 hi h) (Ok.bindE (X3 hs hx hn hi0 hi h (l:=kp x i) hk QL) (X0 (by rw [List.length_map]; exact hk) (Nl hs hx hn hi0 hi h fun j hj=>Mg hj) fun k=>?_))
 unfold Bs
 exact Ok.no rfl (Ok.bindE (de (n:=KH x i) (by omega) (by omega)) (Ok.no rfl (Ok.bindE (Yf hs hx hn hk QL) (Ok.some rfl))))
theorem eG (d:Nat) {x:A1} {n:Nat} (hs:DS s) (hx:Sa s x n) (hn:n≤200) {i:Nat} (hi0:1≤i) (hi:i < s.Columns.length) (h:De s.Columns[i]) (b:List AC) :
 Ba (d + 1) { f_plan:={ f_s:=s,f_x:=x },f_before:=b } (sE 5 i) = if (kp x i).length = 0 then some (zV,18) else (Ca (KH x i) (kp x i).length).bind fun f=>some (nv 1 f.1 (Gk x (kp x i)),0):=by
 have hl:=hx.len
 have hk:(kp x i).length≤200:=by have:=EJ (Dw x i) x.Rows.length; unfold kp; omega
 have hb:=KI hs hx hn hi0 hi h
 have go:∀ R,Ok (Bs (sE 5 i) (ints (kp x i)) { f_plan:={ f_s:=s,f_x:=x },f_before:=b } (KH x i)) (· = R)→Ba (d + 1) { f_plan:={ f_s:=s,f_x:=x },f_before:=b } (sE 5 i) = some R:=by
  intro R hR
  refine Ok.val ?_
  unfold Ba
  exact Ok.bindE (WC d hs hx hn hi0 hi h) (Ok.bindE (X3 hs hx hn hi0 hi h (l:=kp x i) hk QL) (X0 (by rw [List.length_map]; exact hk) (Nl hs hx hn hi0 hi h fun j hj=>Mg hj) fun k=>hR))
 have hil:(((ints (kp x i)).length:Nat):Int) = ((kp x i).length:Nat):=by rw [Md]
 by_cases e:(kp x i).length = 0
 ·rw [if_pos e]
  refine go _ ?_
  unfold Bs
  refine Ok.yes rfl ?_
  rw [hil,e]
  refine Ok.bindE (x:=(({ Num:=0,Den:=0 }:AI),18)) ?_ (Ok.yes rfl (Ok.some rfl))
  unfold Ca
  rw [i64_in (by omega) (by omega),i64_in (by omega) (by omega)]
  rfl
 ·rw [if_neg e]
  obtain ⟨f,hf,hf2⟩:=YP (n:=KH x i) (m:=((kp x i).length:Nat)) (by omega) (by omega) (by omega) (by omega)
  rw [hf,Option.bind_some]
  refine go _ ?_
  unfold Bs
  refine Ok.yes rfl ?_
  rw [hil]
  exact Ok.bindE hf (Ok.no (by rw [hf2]; rfl) (Ok.bindE (Yf hs hx hn hk QL) (Ok.some rfl)))
theorem ZR (n:Nat):Wx n = ints (List.range n):=rfl
theorem cQ (d:Nat) {x:A1} {n:Nat} (hs:DS s) (hx:Sa s x n) (hn:n≤200) (b:List AC) :
 AD (d + 2) { f_plan:={ f_s:=s,f_x:=x },f_before:=b } cE = some (nv 1 { Num:=(x.Rows.length:Int),Den:=1 } (Gk x (List.range x.Rows.length)),0):=by
 have hl:=hx.len
 show AW (d + 1) (AD (d + 1)) (B4 (d + 1)) _ cE = _
 refine Ok.val ?_
 unfold AW
 refine Ok.no rfl (Ok.no rfl (Ok.yes rfl (Ok.bindE (Vp d hs (hx.gx hs hn)) ?_)))
 rw [ZR]
 refine Ok.bindE (Yf hs hx hn (by rw [List.length_range]; show x.Rows.length≤200; omega) fun j hj=>List.mem_range.1 hj) (Ok.some ?_)
 rw [Md,List.length_range]
 rfl
theorem b7 (d:Nat) {x:A1} {n:Nat} (hs:DS s) (hx:Sa s x n) (hn:n≤200) {i:Nat} (hi0:1≤i) (hi:i < s.Columns.length) (h:De s.Columns[i]) (b:List AC) :
 AD (d + 2) { f_plan:={ f_s:=s,f_x:=x },f_before:=b } (sE 4 i) = some (nv 1 { Num:=KH x i,Den:=1 } (Gk x (kp x i)),0):=by
 show AW (d + 1) (AD (d + 1)) (B4 (d + 1)) _ (sE 4 i) = _
 refine Ok.val ?_
 unfold AW
 exact Ok.no rfl (Ok.no rfl (Ok.no rfl (Ok.yes rfl (Ok.bindE (eF d hs hx hn hi0 hi h b) (Ok.some rfl)))))
theorem dy (d:Nat) {x:A1} {n:Nat} (hs:DS s) (hx:Sa s x n) (hn:n≤200) {i:Nat} (hi0:1≤i) (hi:i < s.Columns.length) (h:De s.Columns[i]) (b:List AC) :
 AD (d + 2) { f_plan:={ f_s:=s,f_x:=x },f_before:=b } (sE 5 i) = Ba (d + 1) { f_plan:={ f_s:=s,f_x:=x },f_before:=b } (sE 5 i):=by
 show AW (d + 1) (AD (d + 1)) (B4 (d + 1)) _ (sE 5 i) = _
 show (Ba (d + 1) { f_plan:={ f_s:=s,f_x:=x },f_before:=b } (sE 5 i)).bind (fun x53=>some (x53.1,x53.2)) = _
 cases Ba (d + 1) { f_plan:={ f_s:=s,f_x:=x },f_before:=b } (sE 5 i) <;> rfl
theorem aS {x:A1} {n:Nat} (hx:Sa s x n):(Gk x (List.range x.Rows.length)).Pairwise (· < ·):=by
 unfold Gk
 rw [List.pairwise_iff_getElem]
 intro a b ha hb hab
 rw [List.length_map,List.length_range] at ha hb
 rw [List.getElem_map,List.getElem_map,List.getElem_range,List.getElem_range,QJ ha,QJ hb]
 exact List.pairwise_iff_getElem.1 hx.asc a b ha hb hab
theorem co {x:A1} {n:Nat} (hx:Sa s x n) (hn:n≤200) (i:Nat):Es (Gk x (kp x i)) (Gk x (List.range x.Rows.length)) = some (Gk x (List.range x.Rows.length)):=by
 have hl:=hx.len
 have hk:(kp x i).length≤200:=by have:=EJ (Dw x i) x.Rows.length; unfold kp; omega
 unfold Es
 rw [decide_eq_true (by unfold Gk; rw [List.length_map,List.length_map,List.length_range]; omega)]
 show some _ = some _
 congr 1
 rw [F.setU_eq]
 refine F.setI_with (aS hx) fun v hv=>?_
 obtain ⟨j,hj,rfl⟩:=List.mem_map.1 hv
 exact List.mem_map.2 ⟨j,List.mem_range.2 (QL j hj),rfl⟩
theorem dz (d:Nat) {x:A1} {n:Nat} (hs:DS s) (hx:Sa s x n) (hn:n≤200) {i:Nat} (hi0:1≤i) (hi:i < s.Columns.length) (h:De s.Columns[i]) (b:List AC) :
 AD (d + 4) { f_plan:={ f_s:=s,f_x:=x },f_before:=b } (dE i) = some (nv 1 { Num:=KH x i - (x.Rows.length:Int),Den:=1 } (Gk x (List.range x.Rows.length)),0):=by
 have hl:=hx.len
 have hb:=KI hs hx hn hi0 hi h
 show AW (d + 3) (AD (d + 3)) (B4 (d + 3)) _ (dE i) = _
 refine Ok.val ?_
 unfold AW
 refine Ok.no rfl (Ok.no rfl (Ok.no rfl (Ok.no rfl (Ok.no rfl (Ok.no rfl (Ok.no rfl (Ok.no rfl (Ok.no rfl (Ok.no rfl (Ok.bindE (x:=(nv 1 { Num:=KH x i - (x.Rows.length:Int),Den:=1 } (Gk x (List.range x.Rows.length)),0)) ?_ (Ok.some rfl)))))))))))
 show BM (d + 2) (AD (d + 2)) (B4 (d + 2)) _ (dE i) = some (nv 1 { Num:=KH x i - (x.Rows.length:Int),Den:=1 } (Gk x (List.range x.Rows.length)),0)
 refine Ok.val ?_
 unfold BM
 refine Ok.bindE (x:=sE 4 i) rfl (Ok.bindE (b7 d hs hx hn hi0 hi h b) (Ok.no rfl (Ok.bindE (x:=cE) rfl (Ok.bindE (cQ d hs hx hn b) (Ok.no rfl (Ok.yes rfl ?_))))))
 exact Ok.bindE (cn (a:=KH x i) (b:=(x.Rows.length:Int)) (by omega) (by omega) (by omega) (by omega)) (Ok.no rfl (Ok.bindE (co hx hn i) (Ok.some rfl)))
end Go.Proofs.YtjgeigjjfcnojaaGreatDoor.P
set_option linter.unusedVariables false
set_option linter.unusedSimpArgs false
namespace Go.Proofs.YtjgeigjjfcnojaaGreatDoor.P
open Go Go.Abs Go.Proofs
set_option maxRecDepth 100000
variable {s:Af}
theorem Zq {x:A1} {n:Nat} (hx:Sa s x n) {i:Nat} (hi0:1≤i) (hi:i < s.Columns.length) {r:List An} (h:NI s i r):VG x.Picks r = true:=by
 obtain ⟨k,rfl⟩:∃ k,i = k + 1:=⟨i - 1,by omega⟩
 have hk:k < (Dg s).length:=by rw [Fq]; omega
 unfold VG
 rw [List.all_eq_true]
 intro q hq
 obtain ⟨h1,h2,h3⟩:=h.1 q hq
 refine List.any_eq_true.2 ⟨_,by rw [hx.picks]; exact List.getElem_mem hk,?_⟩
 rw [Ck hk,h1]
 show (bif (((k + 1:Nat):Int)==((k + 1:Nat):Int)) then decide (El s (k + 1) ≥ q.Level) else false) = true
 rw [beq_self_eq_true,cond_true]
 exact decide_eq_true h3
theorem VR {x:A1} {n:Nat} (hs:DS s) (hx:Sa s x n) (hn:n≤200) {i:Nat} (hi0:1≤i) (hi:i < s.Columns.length) {e:A2} (hR:B9 DD s e = some true) (hN:Ok (CX DD s e) (NI s i)) (hK:Ge DD [] e = some (1,0)):Hb DD s x.Picks [] e = some (1,0):=by
 have hg:=hx.gx hs hn
 have hpl:=hg.picks_len hs
 refine Ok.val ?_
 unfold Hb
 refine Ok.bindE (af hs hR) (Ok.no rfl (Ok.bindE (bg hs hg.picks hg.order (by omega)) (Ok.no rfl (Ok.bind hN fun r hr=>Ok.bindE (YT _ _ (by omega) (by have:=hr.2; omega)) (Ok.no ?_ (Ok.bindE hK (Ok.some rfl)))))))
 rw [Zq hx hi0 hi hr]; rfl
theorem dM (m:Int):Ge DD [] (sE 4 m) = some (1,0):=rfl
theorem dN (m:Int):Ge DD [] (sE 5 m) = some (1,0):=rfl
theorem dO (m:Int):Ge DD [] (dE m) = some (1,0):=rfl
theorem Tf {x:A1} {n:Nat} (hs:DS s) (hx:Sa s x n) (hn:n≤200) {e:A2} (hE:Hb DD s x.Picks [] e = some (1,0)) {R:AA × Int} (hV:AD DD { f_plan:={ f_s:=s,f_x:=x },f_before:=[] } e = some R):CO DD s x [] e = some R:=by
 refine Ok.val ?_
 unfold CO
 exact Ok.bindE ((hx.gx hs hn).check hs) (Ok.no rfl (Ok.bindE hE (Ok.no rfl (Ok.bindE hV (Ok.some rfl)))))
theorem aR {x:A1} {n:Nat} (hs:DS s) (hx:Sa s x n) (hn:n≤200):HI x = some (Gk x (List.range x.Rows.length)):=by
 have hl:=hx.len
 refine Ok.val ?_
 unfold HI
 refine Ok.for (fun q=>q.1) x.Rows.length (fun k q=>q.2 = Gk x (List.range k)) 0 (Nat.zero_le _) rfl rfl (by omega) (fun rec q hq hI=>?_) fun rec k q hk hq hI ih=>?_
 ·simp only [GB,hq,hI]
  rw [Co]
  exact Ok.some rfl
 ·simp only [GB,hq,hI]
  rw [BO]
  refine Ok.idxn hk (Ok.bindE (Gu ((hx.rows _ (List.getElem_mem hk)).ne hs)) (Ok.rm (by simp [Gk]; omega) (ih _ LJ ?_)))
  show Gk x (List.range k)++[hd x.Rows[k]] = Gk x (List.range (k + 1))
  unfold Gk
  rw [List.range_succ,List.map_append,List.map_singleton,QJ hk]
theorem bR {x:A1} {n:Nat} (hs:DS s) (hx:Sa s x n) (hn:n≤200) {i:Nat} (hi0:1≤i) (hi:i < s.Columns.length) (h:De s.Columns[i]) :
 Ok (CO DD s x [] (sE 5 i)) fun r=>((kp x i).length = 0→r.2 = 18)∧((kp x i).length≠0→∃ f,Ca (KH x i) ((kp x i).length:Nat) = some (f,0)∧r.2 = 0∧r.1.Number = f∧r.1.Lineage = Gk x (kp x i)):=by
 have hl:=hx.len
 have hk:(kp x i).length≤200:=by have:=EJ (Dw x i) x.Rows.length; unfold kp; omega
 have hb:=KI hs hx hn hi0 hi h
 have hE:=VR hs hx hn hi0 hi (RL hs hi h (.inr rfl) 58) (R6 hs hi0 hi h (.inr rfl) 58) (dN i)
 have hv:=dy 58 hs hx hn hi0 hi h []
 rw [eG 58 hs hx hn hi0 hi h []] at hv
 by_cases e:(kp x i).length = 0
 ·rw [if_pos e] at hv
  exact ⟨_,Tf hs hx hn hE hv,fun _=>rfl,fun h=>absurd e h⟩
 ·rw [if_neg e] at hv
  obtain ⟨f,hf,hf2⟩:=YP (n:=KH x i) (m:=((kp x i).length:Nat)) (by omega) (by omega) (by omega) (by omega)
  rw [hf,Option.bind_some] at hv
  refine ⟨_,Tf hs hx hn hE hv,fun h=>absurd h e,fun _=>⟨f.1,?_,rfl,rfl,rfl⟩⟩
  rw [hf,← hf2]
theorem cY (haw:EK DD = some true) {x:A1} {i:Nat} {r:AA × Int} (hk:(kp x i).length≤200) (h0:(kp x i).length = 0→r.2 = 18) (h1:(kp x i).length≠0→∃ f,Ca (KH x i) ((kp x i).length:Nat) = some (f,0)∧r.2 = 0∧r.1.Number = f∧r.1.Lineage = Gk x (kp x i)) :
 BV ((kp x i).length:Nat) r DD (KH x i) (Gk x (kp x i)) = some true:=by
 refine Ok.val ?_
 unfold BV
 by_cases e:(kp x i).length = 0
 ·refine Ok.yes (by rw [e]; rfl) (Ok.yes (by rw [h0 e]; rfl) (Ok.bindE haw (Ok.some rfl)))
 ·obtain ⟨f,hf,e1,e2,e3⟩:=h1 e
  refine Ok.no (beq_eq_false_iff_ne.2 (by omega)) (Ok.bindE (show Ri (KH x i) ((kp x i).length:Nat) = some (f,0) from hf) (Ok.yes ?_ ?_))
  ·rw [e1,e2]
   simp
  ·rw [e3]
   exact Ok.bindE (R4 (by unfold Gk; rw [List.length_map]; omega)) (Ok.yes rfl (Ok.bindE haw (Ok.some rfl)))
theorem cX (haw:EK DD = some true) {src:B2} {x:A1} {c c2:Am} {n:Nat} (hs:DS src.Schema) (hx:Sa src.Schema x n) (hn:n≤200) {i:Nat} (hi0:1≤i) (hi:i < src.Schema.Columns.length) (h:De src.Schema.Columns[i]) :
 BU DD (src,x,c) ((i:Int),c2) ((kp x i).length:Nat) (KH x i) (Gk x (kp x i)) = some true:=by
 have hl:=hx.len
 have hk:(kp x i).length≤200:=by have:=EJ (Dw x i) x.Rows.length; unfold kp; omega
 have hb:=KI hs hx hn hi0 hi h
 have h4:=Tf hs hx hn (VR hs hx hn hi0 hi (RL hs hi h (.inl rfl) 58) (R6 hs hi0 hi h (.inl rfl) 58) (dM i)) (b7 58 hs hx hn hi0 hi h [])
 obtain ⟨r5,h5,g0,g1⟩:=bR hs hx hn hi0 hi h
 have h7:=Tf hs hx hn (VR hs hx hn hi0 hi (Yv hs hi h 56) (Yk hs hi0 hi h 57) (dO i)) (dz 56 hs hx hn hi0 hi h [])
 refine Ok.val ?_
 unfold BU
 refine Ok.bindE h4 (Ok.bindE h5 (Ok.bindE h7 (Ok.no rfl (Ok.no ?_ (Ok.bindE (R4 (l:=Gk x (kp x i)) (by unfold Gk; rw [List.length_map]; omega)) (Ok.no rfl (Ok.no ?_ (Ok.bindE (aR hs hx hn) (Ok.bindE (R4 (l:=Gk x (List.range x.Rows.length)) (by unfold Gk; rw [List.length_map,List.length_range]; omega)) (Ok.no rfl (Ok.eq (cY haw hk g0 g1))))))))))))
 ·show (!((KH x i==KH x i) && ((1==1) && true))) = false
  rw [beq_self_eq_true]; rfl
 ·show (!((KH x i - (x.Rows.length:Int)==IntKind.i64.wrap (KH x i - (x.Rows.length:Int))) && ((1==1) && true))) = false
  rw [wr,beq_self_eq_true]; rfl
theorem Yl (haw:EK DD = some true) (codes:List Int) (h:∀ v∈codes,0≤v∧v≤255) (hl:codes.length≤9223372036854775807):Dn DD codes = some true:=by
 refine Ok.val ?_
 unfold Dn
 obtain ⟨c,hc1,hc⟩:=dd codes h hl
 refine Ok.bindE hc1 (Ok.bind (bA hc (n:=10) (by omega)) fun z hz=>?_)
 obtain ⟨src,x,c2⟩:=z
 obtain ⟨hsrc,hx,hc2⟩:=hz
 have hs:DS src.Schema:=hsrc.schema
 have hx:Sa src.Schema x 10:=hx
 have hxl:=hx.len
 refine Ok.bind (Xk hc2 hs) fun m hm=>?_
 obtain ⟨m1,m2⟩:=m
 obtain ⟨_,i,e,hi0,hi,hM⟩:=hm
 have e:m1 = (i:Int):=e
 subst e
 have hi:i < src.Schema.Columns.length:=hi
 have hM:De src.Schema.Columns[i]:=hM
 refine Ok.for (fun q=>q.2.2.1) x.Rows.length (fun k q=>q.1 = ((keep (Dw x i) k).length:Nat)∧q.2.1 = ((keep (Dw x i) k).map (Dw x i)).sum∧q.2.2.2 = Gk x (keep (Dw x i) k)) 0 (Nat.zero_le _) rfl ⟨rfl,rfl,rfl⟩ (by omega) (fun rec q hq hI=>?_) fun rec k q hk hq hI ih=>?_
 ·obtain ⟨e1,e2,e3⟩:=hI
  simp only [C4,hq,e1,e2,e3]
  rw [Co]
  exact Ok.eq (cX haw hs hx (by omega) hi0 hi hM)
 ·obtain ⟨e1,e2,e3⟩:=hI
  simp only [C4,hq,e1,e2,e3]
  rw [BO]
  have hrl:=Za hx hk
  have hv:idx x.Rows[k] (i:Int) = some (Dw x i k):=by
   rw [HB (by omega:i < x.Rows[k].length)]
   have:=YA (x:=x) (i:=i) hk (by omega)
   rw [List.getElem?_eq_getElem (by omega)] at this
   exact this
  have hkl:=EJ (Dw x i) k
  have hks:=Z7 (Dw x i) k
  refine Ok.idxn hk (Ok.bindE hv (Ok.br (fun hne=>?_) fun heq=>?_))
  ·have hne:Dw x i k≠Cb:=bne_iff_ne.1 hne
   rw [if_neg hne] at hks
   have hsum:=Y0 (a:=46) (Nl hs hx (by omega) hi0 hi hM (l:=keep (Dw x i) (k + 1)) fun j hj=>⟨by have:=(Mg hj).1; omega,(Mg hj).2⟩)
   have hkl2:=EJ (Dw x i) (k + 1)
   rw [List.length_map] at hsum
   refine Ok.bindE hv (Ok.bindE (Gu ((hx.rows _ (List.getElem_mem hk)).ne hs)) (Ok.rm (by simp [Gk]; omega) (ih _ LJ ⟨?_,?_,?_⟩)))
   ·show IntKind.i64.wrap (((keep (Dw x i) k).length:Nat) + 1) = _
    rw [hks,List.length_append,LJ]; rfl
   ·show IntKind.i64.wrap (((keep (Dw x i) k).map (Dw x i)).sum + Dw x i k) = _
    have e4:((keep (Dw x i) (k + 1)).map (Dw x i)).sum = ((keep (Dw x i) k).map (Dw x i)).sum + Dw x i k:=by
     rw [hks,List.map_append,List.sum_append]; simp
    rw [e4] at hsum ⊢
    rw [wr]
   ·show Gk x (keep (Dw x i) k)++[hd x.Rows[k]] = _
    rw [hks]
    unfold Gk
    rw [List.map_append,List.map_singleton,QJ hk]
  ·have heq:Dw x i k = Cb:=by unfold Cb; simpa using heq
   rw [if_pos heq] at hks
   refine ih _ LJ ⟨?_,?_,?_⟩
   ·show (((keep (Dw x i) k).length:Nat):Int) = _; rw [hks]
   ·show ((keep (Dw x i) k).map (Dw x i)).sum = _; rw [hks]
   ·show Gk x (keep (Dw x i) k) = _; rw [hks]
end Go.Proofs.YtjgeigjjfcnojaaGreatDoor.P
