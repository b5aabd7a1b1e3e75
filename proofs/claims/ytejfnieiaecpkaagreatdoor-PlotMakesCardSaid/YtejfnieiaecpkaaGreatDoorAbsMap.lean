/- The abstract machine: maps of the frame's own. -/
import Derived.Test.YtejfnieiaecpkaaGreatDoorAbsYes
import Derived.MapKept
set_option linter.unusedVariables false
set_option linter.unusedSimpArgs false
namespace Go.Abs
open Go.RowKit (Below)
open Go.MapKept
section
variable {P:Program} {X:Cx} {G:Nat→Prop} {β:Nat→Value} {S:AS} {a:Act} {w:World} {o:Oper}
theorem Vw {O:Nat→Prop} {kd:TypeDesc} {v u:Value} {k q:D} (hk:A9 O w v k) (hq:A9 O w u q) (hkd:Vg k = some kd) (hkk:Hg k q = true) :
 Instr.sameNow kd v u = some (I7 k q):=by
 cases k <;> simp only [Vg,Option.some.injEq] at hkd <;> try (cases hkd; done)
 case int j n =>
  cases q <;> simp only [Hg] at hkk <;> try (cases hkk; done)
  case int j' m =>
   cases hk; cases hq
   subst hkd
   have:=of_decide_eq_true hkk
   subst this
   simp [Instr.sameNow,I7]
 case str s =>
  cases q <;> simp only [Hg] at hkk <;> try (cases hkk; done)
  case str s' =>
   cases hk; cases hq
   subst hkd
   simp [Instr.sameNow,I7]
theorem MN {O:Nat→Prop} {kd:TypeDesc} {v:Value} {k:D} (hk:A9 O w v k) (hkd:Vg k = some kd) :
 ∀ (vs:List MapEntry) (es:List (D × D)) (i:Nat),vs.length = es.length→(∀ p∈es,Hg k p.1 = true)→(∀ (j:Nat) (e:MapEntry) (p:D × D),vs[j]? = some e→es[j]? = some p→A9 O w e.key p.1) →
   Instr.findNow kd v vs i = some (match OG k es with | some j=>(vs[j]?).map fun e=>(i + j,e.val) | none=>none)
 | [],[],_,_,_,_=>rfl
 | [],_ :: _,_,h,_,_=>by simp at h
 | _ :: _,[],_,h,_,_=>by simp at h
 | e :: vs,p :: es,i,hl,hkk,hr=>by
   have h1:=Vw hk (hr 0 e p rfl rfl) hkd (hkk p (by simp))
   unfold Instr.findNow OG
   rw [h1]
   cases I7 k p.1 with
   | true=>simp
   | false =>
     simp only [cond_false]
     rw [MN hk hkd vs es (i + 1) (by simpa using hl) (fun q hq=>hkk q (by simp [hq])) (fun j e' p' he hp=>hr (j + 1) e' p' (by simpa using he) (by simpa using hp))]
     cases OG k es with
     | none=>rfl
     | some j =>
       simp only [Option.map_some,List.getElem?_cons_succ]
       congr 2
       funext e'
       congr 1
       omega
theorem Ww (h:AB X G β S a w) {d:Nat} (hd:d < S.length) {t:TypeId} (ho:o.op = .makeMap t none) :
 Dh P X G S a w o ⟨.sl d ((As S d).ver + 1),[(d,.map [],(As S d).ver + 1)],[]⟩:=by
 refine .inl ⟨.map (some w.heap.size),w.alloc (.map #[] 0),?_,Nq β d (.map (some w.heap.size)),?_,?_,rfl⟩
 ·simp [execOp,ho,Instr.makeMap]
 ·exact h.rebox (R':=X.R) (fun _ h=>h) hd (.inl (Nat.lt_succ_self _)) (by simp) ((Br.of (KC _)).weaken h.hbase fun _ _ h=>h) (fun b hb _=>heap_alloc_old w _ b hb)
   (fun _ b hb=>⟨.inr (.inl (by simp [Ax] at hb; omega)),fun hr=>by simp [Ax] at hb; have:=(h.rs b hr).2; omega⟩) (fun k hv=>⟨w.heap.size,#[],0,by simp [Nq],heap_alloc_new w _,rfl,fun i e p he=>by simp at he⟩)
 ·have hv:AW (AR S d (.map []) ((As S d).ver + 1)) d = (As S d).ver + 1:=by simp [AW,BI,hd]
  exact ⟨by simp only [Bo]; rw [hv]; exact Nat.le_refl _,fun _=>by simp [Nq]⟩
theorem WJ {q:D}:∀ {es:List (D × D)} {j:Nat},OG q es = some j→j < es.length
 | [],j,h=>by cases h
 | p :: r,j,h=>by
   unfold OG at h
   cases hk:I7 q p.1 with
   | true=>rw [hk] at h; cases h; simp
   | false =>
     rw [hk] at h
     simp only [cond_false] at h
     obtain ⟨i,hi,rfl⟩:=Option.map_eq_some_iff.1 h
     have:=WJ hi
     simp; omega
theorem VA (q:D):∀ es:List (D × D),N3 q es = (OG q es).bind fun j=>(es[j]?).map (·.2)
 | []=>rfl
 | p :: r=>by
   unfold N3 OG
   cases I7 q p.1 with
   | true=>rfl
   | false =>
     simp only [cond_false]
     rw [VA q r]
     cases OG q r <;> simp
theorem XR {O:Nat→Prop} {kd:TypeDesc} {q:D} {u:Value} (hkq:Vg q = some kd) (h:A9 O w u q):IsKey kd u:=by
 cases q <;> simp only [Vg,Option.some.injEq] at hkq <;> try (cases hkq; done)
 case int j n=>cases h; subst hkq; simp [IsKey]
 case str s=>cases h; subst hkq; simp [IsKey]
theorem Xs (h:AB X G β S a w) {g:Option (Nat × Bool)} (hg:BN g a) {t kt et:TypeId} {x ix:Operand} {ok:Bool} (ho:o.op = .lookup t x ix ok) (hu:P.underlying t = some (.map kt et)) {id n:Nat} {es:List (D × D)} (hx:ρOf S g x = .mp id n es) {q:D} (hq:ρOf S g ix = .d q)
 {kd:TypeDesc} (hkq:Vg q = some kd) (hku:P.underlying kt = some kd) (hkk:∀ p∈es,Hg q p.1 = true) {z:D} (hz:be P et = some z) :
 Dh P X G S a w o ⟨if ok then .tup [.d ((N3 q es).getD z),.d (.bool (N3 q es).isSome)] else .d ((N3 q es).getD z),[],[]⟩:=by
 have h1:=ρ_sound h hg x
 rw [hx] at h1
 obtain ⟨hb,_,hv⟩:=h1
 have h2:=ρ_sound h hg ix
 rw [hq] at h2
 have hbx:=h.boxes id
 rw [hb] at hbx
 obtain ⟨b,vs,clock,hβ,hh,hl,hr⟩:=hbx
 have h2':A9 (OS β X S) w (a.eval ix) q:=h2
 have hkey:=XR hkq h2'
 have hfind:=MN h2' hkq vs.toList es 0 (by simpa using hl) hkk (fun j e p he hp=>(hr j e p (by simpa using he) hp).1)
 unfold be at hz
 split at hz <;> try (cases hz; done)
 rename_i i hi
 split at hz <;> try (cases hz; done)
 rename_i zv hzv
 have hzr:=fun (O:Nat→Prop) (w:World)=>XC (O:=O) (w:=w) hz
 have hx2:a.eval x = .map (some b):=by rw [hv,hβ]
 rw [VA]
 cases hj:OG q es with
 | none =>
   rw [hj] at hfind
   simp only at hfind
   cases ok with
   | false =>
     refine AQ h (v:=zv) ?_ (hzr _ _).1 rfl
     simp [execOp,ho,Instr.lookup,run_underlying hu,hx2,MapKept.run_getObj_map hh,MapKept.run_checkKey hku hkey,MapKept.run_findKey hku hfind,zeroValue,typeInfo,hi,hzv,Result.andThen]
   | true =>
     refine AQ h (v:=.tuple #[zv,.bool false]) ?_ ⟨#[zv,.bool false],rfl,rfl,fun k u c hu hc=>?_⟩ rfl
     ·simp [execOp,ho,Instr.lookup,run_underlying hu,hx2,MapKept.run_getObj_map hh,MapKept.run_checkKey hku hkey,MapKept.run_findKey hku hfind,zeroValue,typeInfo,hi,hzv,Result.andThen]
     ·match k,hu,hc with
      | 0,hu,hc=>simp at hu hc; subst hu; subst hc; exact (hzr _ _).1
      | 1,hu,hc=>simp at hu hc; subst hu; subst hc; exact .bool _
      | k + 2,hu,hc=>simp at hu
 | some j =>
   rw [hj] at hfind
   have hjl:=WJ hj
   have hjv:j < vs.size:=by omega
   have hrj:=hr j vs[j] es[j] (by simp [hjv]) (List.getElem?_eq_getElem hjl)
   simp only [List.getElem?_eq_getElem hjl,Option.bind_some,Option.map_some,Option.getD_some,Option.isSome_some] at hfind ⊢
   have hvj:vs.toList[j]? = some vs[j]:=by simp [hjv]
   rw [hvj] at hfind
   simp only [Option.map_some] at hfind
   cases ok with
   | false =>
     refine AQ h (v:=vs[j].val) ?_ hrj.2.1 rfl
     simp [execOp,ho,Instr.lookup,run_underlying hu,hx2,MapKept.run_getObj_map hh,MapKept.run_checkKey hku hkey,MapKept.run_findKey hku hfind,Result.andThen]
   | true =>
     refine AQ h (v:=.tuple #[vs[j].val,.bool true]) ?_ ⟨#[vs[j].val,.bool true],rfl,rfl,fun k u c hu hc=>?_⟩ rfl
     ·simp [execOp,ho,Instr.lookup,run_underlying hu,hx2,MapKept.run_getObj_map hh,MapKept.run_checkKey hku hkey,MapKept.run_findKey hku hfind,Result.andThen]
     ·match k,hu,hc with
      | 0,hu,hc=>simp at hu hc; subst hu; subst hc; exact hrj.2.1
      | 1,hu,hc=>simp at hu hc; subst hu; subst hc; exact .bool _
      | k + 2,hu,hc=>simp at hu
theorem Wg {q:D} (v:D):∀ {es:List (D × D)},OG q es = none→Uo q v es = es++[(q,v)]
 | [],_=>rfl
 | p :: r,h=>by
   unfold OG at h
   unfold Uo
   cases hk:I7 q p.1 with
   | true=>rw [hk] at h; cases h
   | false =>
     rw [hk] at h
     simp only [cond_false,Option.map_eq_none_iff] at h
     rw [cond_false,Wg v h]; rfl
theorem VY {q:D} (v:D):∀ {es:List (D × D)} {j:Nat},OG q es = some j→Uo q v es = es.set j (q,v)
 | [],j,h=>by cases h
 | p :: r,j,h=>by
   unfold OG at h
   unfold Uo
   cases hk:I7 q p.1 with
   | true=>rw [hk] at h; cases h; rfl
   | false =>
     rw [hk] at h
     simp only [cond_false] at h
     obtain ⟨i,hi,rfl⟩:=Option.map_eq_some_iff.1 h
     rw [cond_false,VY v hi]; rfl
theorem ZA (h:AB X G β S a w) {id n:Nat} {es es':List (D × D)} (hb:(As S id).box = .map es) (hn:(As S id).ver = n) {b:Nat} (hβ:β id = .map (some b)) {vs vs':Array MapEntry} {clock clock':Nat} (hh:w.heap[b]? = some (.map vs clock))
 (hl:vs'.size = es'.length) (hr:∀ (i:Nat) (e:MapEntry) (p:D × D),vs'[i]? = some e→es'[i]? = some p→(∀ (O:Nat→Prop) (w:World),A9 O w e.key p.1)∧(∀ (O:Nat→Prop) (w:World),A9 O w e.val p.2)∧p.1.bare = true∧p.2.bare = true) :
 AB X G β (AR S id (.map es') n) a { w with heap:=w.heap.setIfInBounds b (.map vs' clock') }:=by
 have hid:=Od hb (by simp)
 have ho:(As S id).box.owned = true:=by rw [hb]; rfl
 have hbl:Ax (β id) = some b:=by rw [hβ]; rfl
 obtain ⟨hs1,hs2⟩:=heap_set (o':=.map vs' clock') hh
 have h5:=h.rebox (R':=X.R) (id:=id) (B:=.map es') (v:=β id) (n:=n) (w':={ w with heap:=w.heap.setIfInBounds b (.map vs' clock') })
  (fun _ h=>h) hid (.inr ⟨hn.symm,rfl,by rw [hb]; simp⟩) (by simp)
  ⟨rfl,rfl,rfl,by simp,fun k hk hm=>hs2 k fun e=>by subst e; rcases (h.mine id k ho hbl).1 with h1 | h1; omega; exact hm h1⟩
  (fun k _ hk=>hs2 k fun e=>hk ho (by rw [hbl,e]))
  (fun _ k hk=>⟨.inl ⟨hk,ho⟩,(h.mine id k ho hk).2⟩)
  (fun k hv=>by
   rw [Gk] at k hv ⊢
   exact ⟨b,vs',clock',hβ,hs1,hl,fun i e p he hp=>⟨(hr i e p he hp).1 _ _,(hr i e p he hp).2.1 _ _,(hr i e p he hp).2.2⟩⟩)
 rw [Gk] at h5
 exact h5
theorem Z3 {q:D}:∀ {es:List (D × D)} {j:Nat},OG q es = some j→∀ h:j < es.length,I7 q es[j].1 = true
 | [],j,h,hl=>by simp at hl
 | p :: r,j,h,hl=>by
   unfold OG at h
   cases hk:I7 q p.1 with
   | true=>rw [hk] at h; cases h; exact hk
   | false =>
     rw [hk] at h
     simp only [cond_false] at h
     obtain ⟨i,hi,rfl⟩:=Option.map_eq_some_iff.1 h
     exact Z3 hi (by simpa using hl)
theorem cr {O:Nat→Prop} {q p:D} {u v:Value} (hk:Hg q p = true) (he:I7 q p = true) (hq:A9 O w u q) (hp:A9 O w v p):v = u:=by
 cases q <;> cases p <;> simp only [Hg] at hk <;> try (cases hk; done)
 case int.int j n j' n' =>
  cases hq; cases hp
  have:=of_decide_eq_true hk
  subst this
  simp only [I7] at he
  rw [eq_of_beq he]
 case str.str s s' =>
  cases hq; cases hp
  simp only [I7] at he
  rw [(bytes_beq _ _).1 he]
theorem Yh (h:AB X G β S a w) {g:Option (Nat × Bool)} (hg:BN g a) {t kt et:TypeId} {m k x:Operand} (ho:o.op = .mapUpdate t m k x) (hu:P.underlying t = some (.map kt et)) {id n:Nat} {es:List (D × D)} (hm:ρOf S g m = .mp id n es) {q y:D} (hq:ρOf S g k = .d q) (hy:ρOf S g x = .d y) (hyb:y.bare = true)
 {kd:TypeDesc} (hkq:Vg q = some kd) (hku:P.underlying kt = some kd) (hkk:∀ p∈es,Hg q p.1 = true) :
 Dh P X G S a w o ⟨.any,[(id,.map (Uo q y es),n)],[]⟩:=by
 have h1:=ρ_sound h hg m
 rw [hm] at h1
 obtain ⟨hb,hn,hv⟩:=h1
 have h2:=ρ_sound h hg k
 rw [hq] at h2
 have h2':A9 (OS β X S) w (a.eval k) q:=h2
 have h3:=ρ_sound h hg x
 rw [hy] at h3
 have h3':A9 (OS β X S) w (a.eval x) y:=h3
 have hbx:=h.boxes id
 rw [hb] at hbx
 obtain ⟨b,vs,clock,hβ,hh,hl,hr⟩:=hbx
 have hkey:=XR hkq h2'
 have hqb:q.bare = true:=by cases q <;> simp [Vg] at hkq <;> rfl
 have hfind:=MN h2' hkq vs.toList es 0 (by simpa using hl) hkk (fun j e p he hp=>(hr j e p (by simpa using he) hp).1)
 have hm2:a.eval m = .map (some b):=by rw [hv,hβ]
 have old:∀ (i:Nat) (e:MapEntry) (p:D × D),vs[i]? = some e→es[i]? = some p→(∀ (O:Nat→Prop) (w:World),A9 O w e.key p.1)∧(∀ (O:Nat→Prop) (w:World),A9 O w e.val p.2)∧p.1.bare = true∧p.2.bare = true:=fun i e p he hp =>
  ⟨fun _ _=>Qm (hr i e p he hp).1 (hr i e p he hp).2.2.1,fun _ _=>Qm (hr i e p he hp).2.1 (hr i e p he hp).2.2.2,(hr i e p he hp).2.2⟩
 cases hj:OG q es with
 | none =>
   rw [hj] at hfind
   simp only at hfind
   rw [Wg y hj]
   refine .inr (.inl ⟨{ w with heap:=w.heap.setIfInBounds b (.map (vs.push { key:=a.eval k,val:=a.eval x,born:=clock }) (clock + 1)) },?_,β,?_,trivial,rfl⟩)
   ·simp [execOp,ho,Instr.mapUpdate,run_underlying hu,hm2,MapKept.run_getObj_map hh,MapKept.run_checkKey hku hkey,MapKept.run_findKey hku hfind,run_setObj_map _ hh,Result.andThen]
   ·refine ZA h hb hn hβ hh (by simp [hl]) fun i e p he hp=>?_
    by_cases hi:i < vs.size
    ·exact old i e p (by rw [Array.getElem?_push] at he; rw [if_neg (by omega)] at he; exact he) (by rw [List.getElem?_append_left (by omega)] at hp; exact hp)
    ·have hi2:i = vs.size:=by
      have:=(List.getElem?_eq_some_iff.1 hp).1
      simp at this; omega
     subst hi2
     simp at he
     rw [List.getElem?_append_right (by omega)] at hp
     simp [hl] at hp
     subst he; subst hp
     exact ⟨fun _ _=>Qm h2' hqb,fun _ _=>Qm h3' hyb,hqb,hyb⟩
 | some j =>
   rw [hj] at hfind
   have hjl:=WJ hj
   have hjv:j < vs.size:=by omega
   have hvj:vs.toList[j]? = some vs[j]:=by simp [hjv]
   simp only [hvj,Option.map_some] at hfind
   rw [VY y hj]
   have hrj:=hr j vs[j] es[j] (by simp [hjv]) (List.getElem?_eq_getElem hjl)
   have hsame:vs[j].key = a.eval k:=cr (hkk _ (List.getElem_mem hjl)) (Z3 hj hjl) h2' hrj.1
   refine .inr (.inl ⟨{ w with heap:=w.heap.setIfInBounds b (.map (vs.modify j fun e=>{ e with key:=a.eval k,val:=a.eval x }) clock) },?_,β,?_,trivial,rfl⟩)
   ·simp [execOp,ho,Instr.mapUpdate,run_underlying hu,hm2,MapKept.run_getObj_map hh,MapKept.run_checkKey hku hkey,MapKept.run_findKey hku hfind,run_setObj_map _ hh,Result.andThen,hjv,hsame,run_keyThatStays hkey]
   ·refine ZA h hb hn hβ hh (by simp [hl]) fun i e p he hp=>?_
    rw [Array.getElem?_modify] at he
    rw [List.getElem?_set] at hp
    by_cases hi:j = i
    ·subst hi
     rw [if_pos rfl] at he hp
     rw [if_pos hjl] at hp
     simp [hjv] at he
     cases hp
     subst he
     exact ⟨fun _ _=>Qm h2' hqb,fun _ _=>Qm h3' hyb,hqb,hyb⟩
    ·rw [if_neg hi] at he hp
     exact old i e p he hp
end
end Go.Abs
