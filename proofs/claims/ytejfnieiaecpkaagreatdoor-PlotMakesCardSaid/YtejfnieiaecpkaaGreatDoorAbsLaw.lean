/- The abstract machine: the law of a region whose order is open; a run is a contract. -/
import Derived.Test.YtejfnieiaecpkaaGreatDoorAbsDraw
set_option linter.unusedVariables false
set_option linter.unusedSimpArgs false
namespace Go.Abs
open Go.RowKit (Below)
section
variable {P:Program} {X:Cx} {ops:Array Oper} {St:Nat→AS} {E:Nat→GD} {S₀:AS}
def Vo (listed:Array Bool) (k:Nat):Bool:=listed.getD k false
def Uc (all:List Oper) (f:Nat→Bool):List Nat:=((List.range all.length).filter f).flatMap fun k=>Dw ((all[k]?).bind (·.dst))
theorem L9 {all:List Oper} {f:Nat→Bool} {t:Nat}:t∈Uc all f↔∃ (k:Nat) (o:Oper),all[k]? = some o∧f k = true∧o.dst = some t:=by
 simp only [Uc,List.mem_flatMap,List.mem_filter,List.mem_range]
 constructor
 ·rintro ⟨k,⟨hk,hf⟩,ht⟩
  refine ⟨k,all[k],List.getElem?_eq_getElem hk,hf,?_⟩
  rw [List.getElem?_eq_getElem hk] at ht
  simp only [Option.bind_some] at ht
  cases hd:all[k].dst with
  | none=>simp [hd,Dw] at ht
  | some d=>simp [hd,Dw] at ht; rw [ht]
 ·rintro ⟨k,o,ho,hf,hd⟩
  have hk:k < all.length:=by
   rcases Nat.lt_or_ge k all.length with h | h
   ·exact h
   ·simp [List.getElem?_eq_none h] at ho
  exact ⟨k,⟨hk,hf⟩,by simp [ho,hd,Dw]⟩
theorem Tk {p p':Nat→Bool} {i:Nat} (h1:p i = true) (h2:p' i = false) (h3:∀ x,x≠i→p' x = p x):∀ l:List Nat,(l.filter p').length + l.count i = (l.filter p).length
 | []=>rfl
 | x :: r=>by
   have ih:=Tk h1 h2 h3 r
   by_cases e:x = i
   ·subst e; simp [List.filter_cons,h1,h2,← ih]; omega
   ·have hb:(x==i) = false:=by simp [e]
    rw [List.count_cons,hb]
    by_cases hp:p x = true
    ·simp [List.filter_cons,hp,h3 x e]; omega
    ·simp [List.filter_cons,hp,h3 x e]; omega
theorem cq.all_done (h:Vz P ops.toList S₀ St E) {f:Nat→Bool} {T:AS} (m:cq ops.toList St E S₀ f T) (hf:∀ k,k < ops.size→f k = true):T = St ops.size:=by
 have hk:∀ (k:Nat) (o:Oper),ops.toList[k]? = some o→k < ops.size:=by
  intro k o ho
  rcases Nat.lt_or_ge k ops.size with h | h
  ·exact h
  ·simp [h] at ho
 have hle:ops.size≤ops.toList.length:=by simp
 refine cO (by rw [m.len,h.len _ hle]) (fun t=>m.vs t _ hle fun k o ho _=>?_) (fun b=>m.vb b _ hle fun k o ho _=>?_)
 ·exact ⟨fun _=>hk k o ho,fun hh=>hf k hh⟩
 ·exact ⟨fun _=>hk k o ho,fun hh=>hf k hh⟩
theorem cN {o:Oper} {i:Nat}:Vl o i = true↔∃ e∈o.after,e.on = i∧Region.binds .any e = true:=by
 simp only [Vl,List.any_eq_true,Array.mem_toList_iff,Bool.and_eq_true,beq_iff_eq]
theorem aO (h:Vz P ops.toList S₀ St E) (hreg:YU ops.toList 0 ops.toList = true) {Q:Exit→Act→World→Prop}
 (hQ:∀ β a w (done:List Nat),AB X (·∈done) β (St ops.size) a w→Q .normal a w) :
 ∀ (fuel:Nat) (listed:Array Bool) (T:AS) (β:Nat→Value) (a:Act) (w:World),listed.size = ops.size→cq ops.toList St E S₀ (Vo listed) T→AB X (·∈Uc ops.toList (Vo listed)) β T a w →
   ((List.range ops.size).filter fun k=>!Vo listed k).length≤fuel→wpAny P .any ops Q fuel listed a w:=by
 have stop:∀ (listed:Array Bool) (T:AS) (β:Nat→Value) (a:Act) (w:World),listed.size = ops.size→cq ops.toList St E S₀ (Vo listed) T→AB X (·∈Uc ops.toList (Vo listed)) β T a w →
  Region.ready .any ops listed = []→Q .normal a w:=by
  intro listed T β a w hsz m hs hr
  have all_:∀ k,k < ops.size→Vo listed k = true:=by
   intro k
   induction k using Nat.strongRecOn with
   | _ k ih =>
     intro hk
     cases hfk:Vo listed k with
     | true=>rfl
     | false =>
       exfalso
       have hmem:k∈Region.ready .any ops listed:=by
        refine mem_ready.2 ⟨?_,ops[k],by simp [hk],fun e he hb=>?_⟩
        ·simp only [Vo,Array.getD] at hfk ⊢
         rw [dif_pos (by omega)] at hfk ⊢
         exact hfk
        ·have hlt:=(N2 (all:=ops.toList) ops.toList 0 (fun j=>by simp) hreg k ops[k] (by omega) (by simp [hk])).1.1 e he hb
         exact ih e.on hlt (by omega)
       rw [hr] at hmem
       cases hmem
  rw [m.all_done h all_] at hs
  exact hQ β a w _ hs
 intro fuel
 induction fuel with
 | zero =>
   intro listed T β a w hsz m hs hc
   have hr:Region.ready .any ops listed = []:=by
    cases hr:Region.ready .any ops listed with
    | nil=>rfl
    | cons i r =>
      exfalso
      have hi:=(mem_ready.1 (show i∈Region.ready .any ops listed by rw [hr]; simp))
      obtain ⟨h1,o,ho,_⟩:=hi
      have hlt:i < ops.size:=by
       rcases Nat.lt_or_ge i ops.size with h | h
       ·exact h
       ·simp [Array.getElem?_eq_none h] at ho
      have:i∈(List.range ops.size).filter fun k=>!Vo listed k:=by
       simp only [List.mem_filter,List.mem_range,Bool.not_eq_true']
       refine ⟨hlt,?_⟩
       simp only [Vo,Array.getD] at h1 ⊢
       rw [dif_pos (by omega)] at h1 ⊢
       exact h1
      have:=List.length_pos_of_mem this
      omega
   exact ⟨hr,stop listed T β a w hsz m hs hr⟩
 | succ fuel ih =>
   intro listed T β a w hsz m hs hc
   refine ⟨fun hr=>stop listed T β a w hsz m hs hr,fun i hi=>?_⟩
   obtain ⟨h1,o,ho,hall⟩:=mem_ready.1 hi
   have hlt:i < ops.size:=by
    rcases Nat.lt_or_ge i ops.size with h | h
    ·exact h
    ·simp [Array.getElem?_eq_none h] at ho
   have hol:ops.toList[i]? = some o:=by simpa using ho
   have hfi:Vo listed i = false:=by
    simp only [Vo,Array.getD] at h1 ⊢
    rw [dif_pos (by omega)] at h1 ⊢
    exact h1
   have hready:∀ j,Vl o j = true→Vo listed j = true:=by
    intro j hj
    obtain ⟨e,he,hon,hb⟩:=cN.1 hj
    rw [← hon]
    exact hall e he hb
   obtain ⟨hS,hB,m'⟩:=m.step h hreg hol hfi hready
   have hlenT:(St i).length = T.length:=by rw [h.len i (by simp; omega),m.len]
   have hy:=h.does i o hol T (Uc ops.toList (Vo listed)) hS hB hlenT (fun j want t hg ht=>by
    rw [QU] at ht
    cases hoj:ops.toList[j]? with
    | none=>simp [hoj] at ht
    | some oj =>
      simp [hoj] at ht
      refine L9.2 ⟨j,oj,hoj,?_,ht⟩
      have hin:t∈Ea ops.toList o:=by simp [Ea,U9,hg,QU,hoj,ht,Dw]
      have hji:=(N2 (all:=ops.toList) ops.toList 0 (fun j=>by simp) hreg i o (by omega) hol).1.2 j want hg
      rcases (N2 (all:=ops.toList) ops.toList 0 (fun j=>by simp) hreg i o (by omega) hol).2 j oj hji hoj with hed | ⟨hno,_⟩
      ·exact m.ready2 hready hed
      ·exact absurd hin (hno t ht))
   obtain ⟨e,⟨_,he⟩,hok⟩:=VQ hs hy
   subst he
   have hstep:=hok.step (Q:=Q) (K:=wpAny P .any ops Q fuel (listed.setIfInBounds i true)) (fun d hd hm=>by
    obtain ⟨k,ok,hok',hfk,hdk⟩:=L9.1 hm
    rcases Nat.lt_trichotomy k i with hk | hk | hk
    ·exact h.once k i ok o hk hok' hol d hdk hd
    ·subst hk; rw [hfi] at hfk; cases hfk
    ·exact h.once i k o ok hk hol hok' d hd hdk)
    (fun β' a' w' hs'=>by
     have hf':Vo (listed.setIfInBounds i true) = fun k=>if k = i then true else Vo listed k:=by
      funext k
      simp only [Vo,Array.getD_eq_getD_getElem?,Array.getElem?_setIfInBounds]
      by_cases hki:k = i
      ·subst hki; simp [hsz,hlt]
      ·simp [Ne.symm hki,hki]
     refine ih _ _ β' a' w' (by simp [hsz]) (by rw [hf']; exact m') (hs'.weaken fun t ht=>?_) ?_
     ·rw [hf']
      rcases List.mem_append.1 ht with ht | ht
      ·refine L9.2 ⟨i,o,hol,by simp,?_⟩
       cases hd:o.dst with
       | none=>simp [hd,Dw] at ht
       | some d=>simp [hd,Dw] at ht; rw [ht]
      ·obtain ⟨k,ok,hok',hfk,hdk⟩:=L9.1 ht
       exact L9.2 ⟨k,ok,hok',by simp [hfk],hdk⟩
     ·have:=Tk (p:=fun k=>!Vo listed k) (p':=fun k=>!Vo (listed.setIfInBounds i true) k) (i:=i) (by simp [hfi]) (by simp [hf']) (fun x hx=>by simp [hf',hx]) (List.range ops.size)
      have hpos:0 < (List.range ops.size).count i:=List.count_pos_iff.2 (by simp [hlt])
      omega)
   unfold wpOp
   simp only [ho]
   split
   ·rename_i hw; rw [if_pos hw] at hstep; exact .inl hstep
   ·rename_i hw; rw [if_neg hw] at hstep; exact hstep
theorem Lw (P:Program):N7 P:=by
 intro id ops Q S X β a w hy hs
 have hy:JL (YU ops.toList 0 ops.toList = true∧P.follows .mixedOrders = true) (ed P ops.toList 0 [] [] ops.toList S fun S=>plain S (Q .normal)):=hy
 obtain ⟨⟨hreg,hm⟩,hy⟩:=hy
 obtain ⟨St,E,h0,hK,hnext,_,honce,hdoes,_,hbox⟩:=b9 P ops.toList ops.toList 0 [] [] S _ (fun j=>by simp) hy
 have hrun:Vz P ops.toList S St E:=⟨h0,fun i o ho=>hnext i o (by omega) ho,fun i j o o' hij h1 h2=>honce i j o o' (by omega) hij h1 h2,fun i o ho=>hdoes i o (by omega) ho,fun i j o o' hij h1 h2=>hbox i j o o' (by omega) hij h1 h2⟩
 refine wp_region_any hm ?_
 have hw:AB X (fun _=>False) β S a { w with drawn:=w.drawn + 1 }:=hs.world ⟨rfl,rfl,rfl,Nat.le_refl _,fun _ _=>rfl⟩
 refine aO hrun hreg (fun β' a' w' done hs'=>?_) ops.size _ S β a _ (by simp) ?_ (hw.weaken fun _ hf=>hf.elim) ?_
 ·rw [US] at hK
  simp only [Nat.zero_add,Array.length_toList] at hK
  exact ⟨β',_,hK,hs'.plain⟩
 ·have hf:∀ k,Vo (Array.replicate ops.size false) k = false:=by
   intro k
   simp only [Vo,Array.getD]
   split <;> simp
  refine ⟨rfl,(fun k o _ hk=>by rw [hf k] at hk; cases hk),fun t i hi hcut=>?_,fun b i hi hcut=>?_⟩
  ·rw [← h0]
   refine (hrun.keepS (i:=0) i (by omega) hi fun k o _ hk ho hd=>?_).symm
   have:=(hcut k o ho hd).2 hk
   rw [hf k] at this; cases this
  ·rw [← h0]
   have:=hrun.keepB (b:=b) (i:=0) i (by omega) hi fun k o _ hk ho hd=>by
    have:=(hcut k o ho hd).2 hk
    rw [hf k] at this; cases this
   exact ⟨this.1.symm,this.2.symm⟩
 ·exact Nat.le_trans (List.length_filter_le _ _) (by simp)
theorem dD {f:FuncId} {fn:Func} {args:List AV} {r:AV} (hf:P.funcs[f]? = some fn) (hname:(fn.name == "runtime.NumGoroutine") = false) (hr:fk P fn args r):Ao P f args r :=
 PG (Lw P) hf hname hr
theorem LG {f:FuncId} {fn:Func} {args outs:List AV} {r:AV} (hf:P.funcs[f]? = some fn) (hname:(fn.name == "runtime.NumGoroutine") = false) (hol:outs.length = args.length)
 (hfit:∀ (i:Nat) x y,args[i]? = some x→outs[i]? = some y→match y with
  | .own sz e _=>∃ xs,x = .own sz e xs
  | .optr cs=>∃ cs',x = .optr cs'∧cs.length = cs'.length
  | _=>True) (hr:fh P fn args outs r):Ec P f args outs r :=
 PV (Lw P) hf hname hol hfit hr
theorem CO (J:List Nat) {f:FuncId} {fn:Func} {args:List AV} {r:AV} (hf:P.funcs[f]? = some fn) (hname:(fn.name == "runtime.NumGoroutine") = false) (hr:Zq P J fn args r):Ao P f args r :=
 PG (Lw P) hf hname hr
theorem Wv (J:List Nat) {f:FuncId} {fn:Func} {args outs:List AV} {r:AV} (hf:P.funcs[f]? = some fn) (hname:(fn.name == "runtime.NumGoroutine") = false) (hol:outs.length = args.length)
 (hfit:∀ (i:Nat) x y,args[i]? = some x→outs[i]? = some y→match y with
  | .own sz e _=>∃ xs,x = .own sz e xs
  | .optr cs=>∃ cs',x = .optr cs'∧cs.length = cs'.length
  | _=>True) (hr:W9 P J fn args outs r):Ec P f args outs r :=
 PV (Lw P) hf hname hol hfit hr
theorem eX (J:List Nat) {f:FuncId} {fn:Func} {args:List AV} {k sz:Nat} {e:TypeId} {xs ys:List D} (q:Nat) (hf:P.funcs[f]? = some fn) (hname:(fn.name == "runtime.NumGoroutine") = false) (hres:fn.results = #[])
 (hk:args[k]? = some .any) (hq:q < args.length) (hkq:q≠k) (hmut:args.all (fun x=>!x.mut) = true) (hr:cC P J fn args k q sz e xs ys):XK P f args k sz e xs ys :=
 V8 (Lw P) hf hname hres hk hq hkq hmut hr
end
end Go.Abs
