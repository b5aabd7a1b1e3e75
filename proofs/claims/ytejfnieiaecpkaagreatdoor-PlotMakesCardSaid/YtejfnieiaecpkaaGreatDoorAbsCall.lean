/- The abstract machine: literals, append, calls. -/
import Derived.Test.YtejfnieiaecpkaaGreatDoorAbsMem
set_option linter.unusedVariables false
set_option linter.unusedSimpArgs false
namespace Go.Abs
open Go.RowKit (Below)
section
variable {P:Program} {X:Cx} {G:Nat→Prop} {β:Nat→Value} {S:AS} {a:Act} {w:World} {o:Oper}
theorem Rv (off:Nat):∀ (vs:List Value) (n:Nat) (cells:Array Value),off + n + vs.length≤cells.size →
 ((vs.zipIdx n).foldl (fun (cs:Array Value) (x:Value × Nat)=>cs.setIfInBounds (off + x.2) x.1) cells).toList = cells.toList.take (off + n)++vs++cells.toList.drop (off + n + vs.length)
 | [],n,cells,_=>by simp
 | v :: r,n,cells,h=>by
   simp only [List.length_cons] at h
   rw [List.zipIdx_cons,List.foldl_cons,Rv off r (n + 1) (cells.setIfInBounds (off + n) v) (by simp; omega)]
   have e:=list_seg_step cells.toList (off + n) v r (by simp; omega)
   simp only [Array.toList_setIfInBounds]
   rw [show off + (n + 1) = off + n + 1 by omega]
   simpa using e
def Pd (O:Nat→Prop) (w:World):List (Nat × Value)→List (Nat × D)→Prop
 | [],[]=>True
 | (i,v) :: r,(j,x) :: s=>i = j∧A9 O w v x∧Pd O w r s
 | _,_=>False
theorem Us {O:Nat→Prop} {w:World} {place:Nat→Option (Nat × Nat)}:∀ {pv:List (Nat × Value)} {ps:List (Nat × D)} {cells:Array Value} {cs l:List D},Pd O w pv ps→BC O w cells.toList cs→Ud place cs ps = some l →
 ∃ arr,Instr.fill place cells pv = some arr∧BC O w arr.toList l
 | [],[],cells,cs,l,_,hc,hf=>by simp [Ud] at hf; subst hf; exact ⟨cells,rfl,hc⟩
 | (i,v) :: r,(j,x) :: s,cells,cs,l,hp,hc,hf=>by
   obtain ⟨rfl,hv,hp⟩:=hp
   simp only [Ud] at hf
   split at hf
   ·cases hf
   ·rename_i off size hpl
    split at hf
    ·rename_i hcond
     have hcl:=FO hv
     have hsz:v.cells.size = x.cells.length:=by simpa using hcl.1
     have hcs:cells.size = cs.length:=by simpa using hc.1
     have hfold:=Rv off v.cells.toList 0 cells (by simp; omega)
     simp only [Nat.add_zero] at hfold
     have hrep:BC O w (v.cells.zipIdx.foldl (fun cs (x:Value × Nat)=>cs.setIfInBounds (off + x.2) x.1) cells).toList (splice cs off x.cells):=by
      rw [← Array.foldl_toList,Array.toList_zipIdx,hfold]
      exact hc.splice hcl (by omega)
     obtain ⟨arr,h1,h2⟩:=Us hp hrep hf
     refine ⟨arr,?_,h2⟩
     simp only [Instr.fill,hpl]
     rw [if_neg (by simp; omega)]
     exact h1
    ·cases hf
 | [],_ :: _,_,_,_,hp,_,_=>hp.elim
 | (_,_) :: _,[],_,_,_,hp,_,_=>hp.elim
theorem Rb (h:AB X G β S a w) {g:Option (Nat × Bool)} (hg:BN g a):∀ {parts:List (Nat × Operand)} {K:List (Nat × D)→Bx→Prop},KO (ρOf S g) parts K →
 ∃ ps b,K ps b∧FZ S [] b∧JI X G β S a w b fun O=>Pd O w (parts.map fun x=>(x.1,a.eval x.2)) ps
 | [],K,hy=>⟨[],[],hy,trivial,fun _ _ _ _ _=>trivial⟩
 | (i,x) :: r,K,hy=>by
   obtain ⟨xd,b,hK,hF,_,hrep⟩:=I1 (x:=X) (G:=G) (a:=a) (ρ_sound h hg x) hy
   obtain ⟨ps,bs,hK,hFs,hreps⟩:=Rb h hg hK
   exact ⟨_,_,hK,hF.append hFs,(hrep.and hreps).mono (fun _ h=>h) fun O h=>⟨rfl,h.1,h.2⟩⟩
theorem QV (h:AB X G β S a w) {g:Option (Nat × Bool)} (hg:BN g a):∀ {parts:List (Nat × Operand)} {K:List (Nat × D)→Bx→Prop},Md (ρOf S g) parts K →
 ∃ ps b,K ps b∧FZ S [] b∧JI X G β S a w b fun O=>Pd O w (parts.map fun x=>(x.1,a.eval x.2)) ps
 | [],K,hy=>⟨[],[],hy,trivial,fun _ _ _ _ _=>trivial⟩
 | (i,x) :: r,K,hy=>by
   obtain ⟨xd,b,hK,hF,_,hrep⟩:=S8 (x:=X) (G:=G) (a:=a) (ρ_sound h hg x) hy
   obtain ⟨ps,bs,hK,hFs,hreps⟩:=QV h hg hK
   exact ⟨_,_,hK,hF.append hFs,(hrep.and hreps).mono (fun _ h=>h) fun O h=>⟨rfl,h.1,h.2⟩⟩
theorem Uj {fields:List Field} (h:fields.all (fun f=>(P.info? f.type).isSome) = true) :
 (fields.mapM fun (f:Field)=>(do pure (f.offset,← sizeOf f.type):Sem (Nat × Nat))).run P w = .ok (fields.map fun (f:Field)=>(f.offset,AN P f.type)) w:=by
 induction fields with
 | nil=>simp
 | cons f r ih =>
   simp only [List.all_cons,Bool.and_eq_true] at h
   obtain ⟨h1,h2⟩:=h
   cases hi:P.info? f.type with
   | none=>simp [hi] at h1
   | some i =>
     have ih':=ih h2
     simp only [List.mapM_cons,Sem.run_bind,sizeOf,typeInfo,run_program,Result.andThen_ok,hi,Sem.run_pure,List.map_cons,AN] at ih' ⊢
     rw [ih']
     simp
theorem TL (h:AB X G β S a w) {g:Option (Nat × Bool)} (hg:BN g a) {t:TypeId} {parts:Array (Nat × Operand)} (ho:o.op = .build t parts) {fields:Array Field} (hu:P.underlying t = some (.struct fields))
 {zd:List D} (hzd:zeroCells P t = some zd) (hall:fields.toList.all (fun f=>(P.info? f.type).isSome) = true) {K:GD→Prop}
 (hy:KO (ρOf S g) parts.toList fun ps b=>match Ud (fun i=>match fields[i]? with | some f=>some (f.offset,AN P f.type) | none=>none) zd ps with
  | some l=>Cy l fun l=>K ⟨.d (.agg l),b,[]⟩
  | none=>False):∃ e,K e∧Dh P X G S a w o e:=by
 obtain ⟨ps,b,hK,hF,hrep⟩:=Rb h hg hy
 obtain ⟨h1,h2,_⟩:=hF.run h
 have hp:=hrep.now h hF
 split at hK
 ·rename_i l hl
  rw [BG] at hK
  obtain ⟨i,z,hi,hz,hzr⟩:=Gu (O:=OS β X (Bo b S)) (w:=w) hzd
  obtain ⟨arr,h3,h4⟩:=Us hp hzr hl
  have hplace:(fun (i:Nat)=>match (fields[i]?:Option Field) with | some f=>some (f.offset,AN P f.type) | none=>none) = fun i=>(fields.map fun (f:Field)=>(f.offset,AN P f.type))[i]?:=by
   funext i
   rw [Array.getElem?_map]
   cases fields[i]? <;> rfl
  rw [hplace] at h3
  have hpl:(fields.mapM fun (f:Field)=>(do pure (f.offset,← sizeOf f.type):Sem (Nat × Nat))).run P w = .ok (fields.map fun (f:Field)=>(f.offset,AN P f.type)) w:=by
   rw [Array.mapM_eq_mapM_toList,Sem.run_map,Uj hall]
   simp only [Result.andThen_ok]
   congr 1
   apply Array.ext'
   simp
  refine ⟨_,hK,.inl ⟨.agg arr,w,?_,β,h1,?_,rfl⟩⟩
  ·simp only [execOp,ho,Instr.build,Sem.run_bind,zeroValue,typeInfo,run_program,hi,hz,Result.andThen_ok,Sem.run_pure,run_underlying hu,hpl,Array.toList_map]
   rw [h3]
   simp
  ·refine .agg _ _ (by simpa using h4.1) (fun y hy=>?_) (fun j v y hv hy=>(h4.2 j v y (by simpa using hv) hy).1)
   obtain ⟨j,hj⟩:=List.mem_iff_getElem?.1 hy
   have hlt:j < arr.toList.length:=by rw [h4.1]; exact AI hj
   exact (h4.2 j _ y (List.getElem?_eq_getElem hlt) hj).2
 ·exact hK.elim
theorem TN {sz:Nat}:∀ (pv:List (Nat × Value)) (k:Nat) (cells:Array Value),(∀ (j:Nat) x,pv[j]? = some x→x.1 = k + j∧x.2.cells.size = sz)→cells.size = (k + pv.length) * sz →
 ∃ arr,Instr.fill (fun i=>some (i * sz,sz)) cells pv = some arr∧arr.toList = cells.toList.take (k * sz)++pv.flatMap (fun x=>x.2.cells.toList)
 | [],k,cells,_,hc=>⟨cells,rfl,by simp at hc ⊢; rw [← hc]; exact (List.take_of_length_le (by simp)).symm⟩
 | (i,v) :: r,k,cells,hp,hc=>by
   obtain ⟨h1,h2⟩:=hp 0 (i,v) (by simp)
   simp only [Nat.add_zero] at h1 h2
   subst h1
   simp only [List.length_cons] at hc
   have hsp:(i + (r.length + 1)) * sz = i * sz + sz + r.length * sz:=by rw [Nat.add_mul,Nat.add_mul]; omega
   have hfit:i * sz + v.cells.size≤cells.size:=by omega
   have hfold:=Rv (i * sz) v.cells.toList 0 cells (by simp; omega)
   simp only [Nat.add_zero,Array.length_toList] at hfold
   have hl:(v.cells.zipIdx.foldl (fun (cs:Array Value) (x:Value × Nat)=>cs.setIfInBounds (i * sz + x.2) x.1) cells).toList = cells.toList.take (i * sz)++v.cells.toList++cells.toList.drop (i * sz + v.cells.size):=by
    rw [← Array.foldl_toList,Array.toList_zipIdx]; exact hfold
   obtain ⟨arr,h3,h4⟩:=TN (sz:=sz) r (i + 1) (v.cells.zipIdx.foldl (fun (cs:Array Value) (x:Value × Nat)=>cs.setIfInBounds (i * sz + x.2) x.1) cells)
    (fun j x hx=>by have:=hp (j + 1) x (by simpa using hx); omega)
    (by rw [← Array.length_toList,hl]; simp; rw [show i + 1 + r.length = i + (r.length + 1) by omega]; omega)
   refine ⟨arr,?_,?_⟩
   ·simp only [Instr.fill]
    rw [if_neg (by simp; omega)]
    exact h3
   ·rw [h4,hl,List.flatMap_cons]
    rw [List.take_append_of_le_length (by simp [Nat.add_mul]; omega),List.take_of_length_le (by simp [Nat.add_mul]; omega)]
    simp
theorem Qb {O:Nat→Prop} {w:World}:∀ {pv:List (Nat × Value)} {ps:List (Nat × D)} {k:Nat} {l:List D},Pd O w pv ps→Pz k ps = some l →
 pv.length = l.length∧(∀ (j:Nat) x,pv[j]? = some x→x.1 = k + j∧∃ y,l[j]? = some y∧A9 O w x.2 y)∧BC O w (pv.flatMap (fun x=>x.2.cells.toList)) (l.flatMap D.cells)
 | [],[],k,l,_,hl=>by simp [Pz] at hl; subst hl; exact ⟨rfl,fun j x hx=>by simp at hx,BC.nil⟩
 | (i,v) :: r,(j,x) :: s,k,l,hp,hl=>by
   obtain ⟨rfl,hv,hp⟩:=hp
   simp only [Pz] at hl
   split at hl
   ·rename_i hik
    subst hik
    simp at hl
    obtain ⟨l',h1,rfl⟩:=hl
    obtain ⟨h2,h3,h4⟩:=Qb hp h1
    refine ⟨by simp [h2],fun j y hy=>?_,?_⟩
    ·cases j with
     | zero=>simp at hy; subst hy; exact ⟨rfl,x,rfl,hv⟩
     | succ j=>have:=h3 j y (by simpa using hy); exact ⟨by omega,by simpa using this.2⟩
    ·simp only [List.flatMap_cons]
     exact (FO hv).append h4
   ·cases hl
 | [],_ :: _,_,_,hp,_=>hp.elim
 | (_,_) :: _,[],_,_,hp,_=>hp.elim
theorem Jb {e:TypeId} (h:Kr P e = true):∃ i z,P.info? e = some i∧i.zero = some z∧z.cells.size = i.size:=by
 unfold Kr at h
 split at h
 ·rename_i i hi
  split at h
  ·rename_i z hz
   exact ⟨i,z,hi,hz,by simpa using h⟩
  ·cases h
 ·cases h
theorem TC (h:AB X G β S a w) {g:Option (Nat × Bool)} (hg:BN g a) {d:Nat} (hd:d < S.length) {t e:TypeId} {n:Nat} {parts:Array (Nat × Operand)} (ho:o.op = .buildSlice t n parts) (hu:P.underlying t = some (.slice e))
 {K:GD→Prop} (hy:Md (ρOf S g) parts.toList fun ps b=>match Pz 0 ps with
  | some l=>Cy l fun l =>
    if l.length = n∧0 < AN P e∧Kr P e = true∧n * AN P e≤16777216∧l.all (fun x=>x.cells.length==AN P e) then K ⟨.sl d ((As S d).ver + 1),b++[(d,.row (AN P e) e l,(As S d).ver + 1)],[]⟩ else False
  | none=>False):∃ e,K e∧Dh P X G S a w o e:=by
 obtain ⟨ps,b,hK,hF,hrep⟩:=QV h hg hy
 obtain ⟨h1,h2,hfr⟩:=hF.run h
 have hp:=hrep.now h hF
 split at hK
 ·rename_i l hl
  rw [BG] at hK
  obtain ⟨⟨hn,hs0,hz,hbound,hall⟩,hK2⟩:=Ar hK
  clear hK
  obtain ⟨i,z,hi,hz,hzs⟩:=Jb hz
  have hsize:AN P e = i.size:=GQ hi
  obtain ⟨h3,h4,h5⟩:=Qb hp hl
  have hcells:∀ x∈l,x.cells.length = AN P e:=by simpa using hall
  have hpl:parts.size = n:=by rw [← hn,← h3]; simp
  by_cases hn0:n = 0
  ·subst hn0
   have hl0:l = []:=List.eq_nil_of_length_eq_zero hn
   subst hl0
   have hps:parts.toList = []:=by apply List.eq_nil_of_length_eq_zero; simpa using hpl
   obtain ⟨β',h8,h9⟩:=JQ h1 (d:=d) (by rw [Cr]; exact hd) (KC (.cells #[] e)) (v:=.slice (some ⟨w.heap.size,0,none⟩) 0 0) (e:=e) (xs:=[]) (vals:=[]) hs0 (fun _ h=>by cases h)
    (.inr ⟨rfl,rfl,_,rfl⟩) (fun b hb=>by simp [Ax] at hb) BC.nil
   rw [hfr.ver] at h8 h9
   refine ⟨_,hK2,.inl ⟨.slice (some ⟨w.heap.size,0,none⟩) 0 0,w.alloc (.cells #[] e),?_,β',?_,?_,rfl⟩⟩
   ·simp [execOp,ho,Instr.buildSlice,run_underlying hu,sizeOf,typeInfo,hi,hps,Instr.fill,newRow,Array.range_zero']
   ·simp only [BH,Bo]; exact h8
   ·simp only [BH,Bo]; exact h9
  have hn0:0 < n:=Nat.pos_of_ne_zero hn0
  obtain ⟨arr,h6,h7⟩:=TN (sz:=i.size) (parts.toList.map fun x=>(x.1,a.eval x.2)) 0 ((Array.range (n * i.size)).map (z.cells[· % z.cells.size]!))
   (fun j x hx=>by
    obtain ⟨h8,y,h9,h10⟩:=h4 j x hx
    refine ⟨h8,?_⟩
    have:=(FO h10).1
    rw [hcells y (List.mem_of_getElem? h9),hsize] at this
    simpa using this)
   (by simp [hpl])
  simp only [Nat.zero_mul,List.take_zero,List.nil_append] at h7
  have hlen:arr.size = n * i.size:=by
   have:=h5.1
   rw [← h7,DM l hcells,hn,hsize] at this
   simpa using this
  obtain ⟨β',h8,h9⟩:=JQ h1 (d:=d) (by rw [Cr]; exact hd) (KC (.cells arr e)) (v:=.slice (some ⟨w.heap.size,0,none⟩) n n) (e:=e) (xs:=l) (vals:=arr.toList) hs0 hcells
   (.inl ⟨by rw [hn,hsize]; rw [Array.length_toList]; exact hlen,.inr ⟨w.heap.size,n,arr,by rw [hn],Nat.zero_le _,heap_alloc_new w _,by omega,by
    have:n≤n * AN P e:=Nat.le_mul_of_pos_right n hs0
    unfold maxLen; omega,by rw [hsize]; exact hlen,by rw [hn,hsize,← hlen]; exact List.take_of_length_le (by simp)⟩⟩)
   (fun b hb=>by simp [Ax] at hb; omega)
   (by
    rw [h7]
    refine h5.mono ⟨by simp,fun b' hb' hO=>?_,fun b' hb' _=>heap_alloc_old w _ b' hb'⟩
    rcases hO with hO | hO
    ·exact hO
    ·simp [Ax] at hO; omega)
  rw [hfr.ver] at h8 h9
  refine ⟨_,hK2,.inl ⟨.slice (some ⟨w.heap.size,0,none⟩) n n,w.alloc (.cells arr e),?_,β',?_,?_,rfl⟩⟩
  ·have hb2:¬ (n * i.size > 2 ^ 24):=by rw [← hsize]; omega
   have hb3:¬ (n * i.size = 0):=by
    rw [← hsize]
    have:=Nat.mul_pos hn0 hs0
    omega
   simp only [execOp,ho,Instr.buildSlice,Sem.run_bind,run_underlying hu,Result.andThen_ok,sizeOf,typeInfo,run_program,hi,Sem.run_pure,hb2,if_false,hb3,zeroValue,hz,Array.toList_map]
   rw [h6]
   simp [newRow]
  ·simp only [BH,Bo]; exact h8
  ·simp only [BH,Bo]; exact h9
 ·exact hK.elim
theorem cQ {O:Nat→Prop} {z:Value} {sz:Nat} {x:D} (hx:BC O w z.cells.toList x.cells) (hs:z.cells.size = sz) (h0:0 < sz) (n c:Nat) (hc:n≤c) :
 ((madeCells z.cells (c * sz)).toList.take (n * sz)).length = n * sz∧BC O w ((madeCells z.cells (c * sz)).toList.take (n * sz)) ((List.replicate n x).flatMap D.cells):=by
 have hle:n * sz≤c * sz:=Nat.mul_le_mul_right _ hc
 have hlen:((madeCells z.cells (c * sz)).toList.take (n * sz)).length = n * sz:=by simp [size_madeCells,Nat.min_eq_left hc]
 have hxl:x.cells.length = sz:=by rw [← hx.1]; simpa using hs
 have hfl:=DM (sz:=sz) (List.replicate n x) (fun y hy=>by rw [List.eq_of_mem_replicate hy]; exact hxl)
 refine ⟨hlen,by rw [hlen,hfl]; simp,fun j v y hv hy=>?_⟩
 have hj:j < n * sz:=by rw [← hlen]; exact AI hv
 have hdn:j / sz < n:=by rw [Nat.div_lt_iff_lt_mul h0]; exact hj
 have hm:j % sz < sz:=Nat.mod_lt _ h0
 have hyy:((List.replicate n x).flatMap D.cells)[j]? = some (x.cells[j % sz]'(by rw [hxl]; exact hm)):=by
  have:=Nw (sz:=sz) (List.replicate n x) (fun y hy=>by rw [List.eq_of_mem_replicate hy]; exact hxl) (j / sz) x (j % sz) _ (by simp [hdn]) (List.getElem?_eq_getElem (by rw [hxl]; exact hm))
  rwa [Nat.mul_comm,Nat.div_add_mod] at this
 rw [hyy] at hy
 cases hy
 rw [List.getElem?_take_of_lt hj] at hv
 have hv':v = z.cells.toList[j % sz]'(by simpa [hs] using hm):=by
  have hjc:j < c * sz:=by omega
  have hms:j % sz < z.cells.size:=by rw [hs]; exact hm
  simp [madeCells,hjc,hs] at hv
  rw [← hv]
  simp [hms]
 exact hx.2 (j % sz) v _ (by rw [hv']; exact List.getElem?_eq_getElem _) (List.getElem?_eq_getElem _)
theorem Xu {t:TypeId} {K:D→Prop} (hy:Wm P t K):∃ x,K x∧∃ i z,P.info? t = some i∧i.zero = some z∧∀ (O:Nat→Prop) (w:World),BC O w z.cells.toList x.cells:=by
 unfold Wm at hy
 split at hy
 ·rename_i l hl
  obtain ⟨i,z,hi,hz,-⟩:=Gu (O:=fun _=>True) (w:=default) hl
  have hr:∀ (O:Nat→Prop) (w:World),BC O w z.cells.toList l:=by
   intro O w
   obtain ⟨i',z',hi',hz',hr⟩:=Gu (O:=O) (w:=w) hl
   rw [hi] at hi'; cases hi'
   rw [hz] at hz'; cases hz'
   exact hr
  split at hy
  ·rw [QR] at hy
   exact ⟨_,hy,i,z,hi,hz,fun O w=>(hr O w).norm⟩
  ·split at hy
   ·rename_i y
    rw [RN] at hy
    refine ⟨_,hy,i,z,hi,hz,fun O w=>?_⟩
    have h1:y.one = true:=((hr O w).2 0 _ y (List.getElem?_eq_getElem (by rw [(hr O w).1]; simp)) rfl).2
    have e:(norm y).cells = [norm1 y]:=by cases y <;> first | rfl | simp [D.one] at h1
    rw [e]
    exact (hr O w).norm
   ·exact hy.elim
  ·exact hy.elim
 ·exact hy.elim
theorem aG (h:AB X G β S a w) {g:Option (Nat × Bool)} (hg:BN g a) {d:Nat} (hd:d < S.length) {t e:TypeId} {x y:Operand} (ho:o.op = .makeSlice t x y) (hu:P.underlying t = some (.slice e)) (hs0:0 < AN P e) (hz:Kr P e = true)
 {k k':IntKind} {l c:Int} (hx:ρOf S g x = .d (.int k l)) (hy:ρOf S g y = .d (.int k' c)) {K:GD→Prop}
 (hyy:Wm P e fun z=>JL (0≤l∧l≤c∧c≤maxLen∧(MT P e:Int) * c≤281474976710656) (K ⟨.sl d ((As S d).ver + 1),[(d,.row (AN P e) e (List.replicate l.toNat z),(As S d).ver + 1)],[]⟩)):∃ e,K e∧Dh P X G S a w o e:=by
 have ex:=ρ_sound h hg x
 rw [hx] at ex
 have ex:=CT ex
 have ey:=ρ_sound h hg y
 rw [hy] at ey
 have ey:=CT ey
 obtain ⟨z,hyy,i,zv,hi,hzv,hzr⟩:=Xu hyy
 obtain ⟨⟨h0,h1,h2,h3⟩,hK⟩:=hyy
 obtain ⟨i',z',hi',hz',hzs⟩:=Jb hz
 rw [hi] at hi'; cases hi'
 rw [hzv] at hz'; cases hz'
 have hsize:AN P e = i.size:=GQ hi
 have hbytes:MT P e = i.bytes:=by simp [MT,hi]
 rw [hbytes] at h3
 have hm:maxLen≤9223372036854775807:=by unfold maxLen; omega
 have hrun:=run_make (P:=P) w t e i zv hu hi hzv k k' l c h0 h1 h3 (by omega)
 have hmr:=cQ (w:=w.alloc (.cells (madeCells zv.cells (c.toNat * i.size)) e)) (hzr (fun b=>OS β X S b∨Ax (.slice (some ⟨w.heap.size,0,none⟩) l.toNat c.toNat) = some b) _) hzs (by rw [← hsize]; exact hs0) l.toNat c.toNat (by omega)
 have hzl:z.cells.length = i.size:=by have:=(hzr (fun _=>True) w).1; rw [← this]; simpa using hzs
 obtain ⟨β',h8,h9⟩:=JQ h hd (KC (.cells (madeCells zv.cells (c.toNat * i.size)) e)) (v:=.slice (some ⟨w.heap.size,0,none⟩) l.toNat c.toNat) (e:=e) (sz:=AN P e) (xs:=List.replicate l.toNat z)
  (vals:=(madeCells zv.cells (c.toNat * i.size)).toList.take (l.toNat * i.size)) hs0 (fun y hy=>by rw [List.eq_of_mem_replicate hy,hsize]; exact hzl)
  (.inl ⟨by rw [hsize,hmr.1]; simp,.inr ⟨w.heap.size,c.toNat,_,by simp,Nat.zero_le _,heap_alloc_new w _,by simp; omega,by omega,by rw [size_madeCells,hsize],by rw [hsize]; simp⟩⟩)
  (fun b hb=>by simp [Ax] at hb; omega) hmr.2
 refine ⟨_,hK,.inl ⟨_,_,?_,β',h8,h9,rfl⟩⟩
 simp [execOp,ho,ex,ey,hrun]
theorem Wf {f:Nat→Value} {N j:Nat} {u:Value} (h:((List.range N).map f)[j]? = some u):j < N∧f j = u:=by
 rw [List.getElem?_map] at h
 rcases Nat.lt_or_ge j N with hj | hj
 ·rw [List.getElem?_range hj] at h; simp at h; exact ⟨hj,h⟩
 ·rw [List.getElem?_eq_none (by simpa using hj)] at h; cases h
theorem P7 (h:AB X G β S a w) {r:RV} {v:Value} (hr:NN β (OS β X S) S w v r) {K:Nat→List D→Prop} (hy:MG r K) :
 ∃ sz ys,K sz ys∧∃ ad c,v = .slice ad ys.length c∧(ys = []∨∃ ad' news,ad = some ad'∧BC (OS β X S) w news (ys.flatMap D.cells)∧(∀ x∈ys,x.cells.length = sz)∧∀ (j:Nat) u,news[j]? = some u→w.cell? (ad'.add j) = some u):=by
 have key:∀ sz ys,A9 (OS β X S) w v (.list sz ys)→∃ ad c,v = .slice ad ys.length c∧(ys = []∨∃ ad' news,ad = some ad'∧BC (OS β X S) w news (ys.flatMap D.cells)∧(∀ x∈ys,x.cells.length = sz)∧∀ (j:Nat) u,news[j]? = some u→w.cell? (ad'.add j) = some u):=by
  intro sz ys hl
  cases hl with
  | emp ad cap _=>exact ⟨ad,cap,rfl,.inl rfl⟩
  | list b off cap _ _ c hne hb hO hcap hsz h1 hcell hrep =>
    refine ⟨_,cap,rfl,.inr ?_⟩
    have hpos:∀ j,j < (ys.flatMap D.cells).length→∃ x y,ys[j / sz]? = some x∧x.cells[j % sz]? = some y∧(ys.flatMap D.cells)[j]? = some y∧0 < sz:=by
     intro j hj
     rw [DM ys hsz] at hj
     have hs0:0 < sz:=by
      rcases Nat.eq_zero_or_pos sz with h | h
      ·subst h; simp at hj
      ·exact h
     have hd:j / sz < ys.length:=by rw [Nat.div_lt_iff_lt_mul hs0]; exact hj
     have hm:j % sz < ys[j / sz].cells.length:=by rw [hsz _ (List.getElem_mem hd)]; exact Nat.mod_lt _ hs0
     refine ⟨ys[j / sz],ys[j / sz].cells[j % sz],List.getElem?_eq_getElem hd,List.getElem?_eq_getElem hm,?_,hs0⟩
     have:=Nw ys hsz (j / sz) _ (j % sz) _ (List.getElem?_eq_getElem hd) (List.getElem?_eq_getElem hm)
     rwa [Nat.mul_comm,Nat.div_add_mod] at this
    refine ⟨⟨b,off,none⟩,(List.range (ys.flatMap D.cells).length).map fun j=>c (j / sz) (j % sz),rfl,⟨by simp,fun j u y hu hy=>?_⟩,hsz,fun j u hu=>?_⟩
    ·obtain ⟨hj,rfl⟩:=Wf hu
     obtain ⟨x,y',h2,h3,h4,_⟩:=hpos j hj
     rw [h4] at hy
     cases hy
     exact ⟨hrep _ _ _ _ h2 h3,h1 x (List.mem_of_getElem? h2) y (List.mem_of_getElem? h3)⟩
    ·obtain ⟨hj,rfl⟩:=Wf hu
     obtain ⟨x,y',h2,h3,h4,_⟩:=hpos j hj
     rw [GW]
     have:=hcell _ _ _ _ h2 h3
     rwa [Nat.add_assoc,Nat.mul_comm,Nat.div_add_mod] at this
 cases r <;> simp only [MG] at hy
 case d x =>
  cases x <;> simp only at hy
  case nil sz =>
   have hr:A9 (OS β X S) w v (.nil sz):=hr
   have:∃ ad,v = .slice ad 0 0:=by cases hr; exact ⟨_,rfl⟩
   obtain ⟨ad,hv⟩:=this
   exact ⟨sz,[],hy,ad,0,hv,.inl rfl⟩
  case list sz xs=>exact ⟨sz,xs,hy,key sz xs hr⟩
 case lim sz xs=>exact ⟨sz,xs,hy,key sz xs hr.1⟩
 case row id n sz e xs =>
  obtain ⟨hb,_,hv⟩:=hr
  have hbx:=h.boxes id
  rw [hb] at hbx
  obtain ⟨h1,h2,vals,h3,h4⟩:=hbx
  refine ⟨sz,xs,hy,?_⟩
  rcases h3 with ⟨hlen,⟨hv',h0⟩ | ⟨g,cap,cur,hv',hbg,hh,hn,hm,hcs,ht⟩⟩ | ⟨h0,_,ad,hv'⟩
  ·exact ⟨none,0,by rw [hv,hv',h0],.inl (List.eq_nil_of_length_eq_zero h0)⟩
  ·refine ⟨some ⟨g,0,none⟩,cap,by rw [hv,hv'],.inr ⟨_,vals,rfl,h4,h2,fun j u hu=>?_⟩⟩
   rw [GW,Nat.zero_add]
   rw [← ht,List.getElem?_take] at hu
   split at hu
   ·simp [World.cell?,hh]; simpa using hu
   ·cases hu
  ·exact ⟨some ad,0,by rw [hv,hv',h0],.inl (List.eq_nil_of_length_eq_zero h0)⟩
theorem Oq {t ty e:TypeId} {i:TypeInfo} (ht:P.underlying t = some (.slice e)) (hi:P.info? e = some i) (b ad:Option Addr) (n cap c:Nat) (hn:n≤cap) :
 (Builtin.append_ #[t,t] ty #[.slice b n cap,.slice ad 0 c]).run P w = .ok (.slice b n cap) w:=by
 cases b <;> cases ad <;> simp [Builtin.append_,run_underlying ht,sizeOf,typeInfo,hi,Builtin.lenOf,hn,Builtin.firstCells,loadCells,loadCellsFrom,storeCells]
theorem SN (h:AB X G β S a w) {x y:Operand} {t e:TypeId} (ho:o.op = .call ⟨.builtin .append,#[x,y],#[t,t]⟩) (hu:P.underlying t = some (.slice e)) {sz:Nat} {ys:List D} (hsz:sz = AN P e) (hz:Kr P e = true)
 {sz':Nat} {ad:Option Addr} {c:Nat} (hy:a.eval y = .slice ad ys.length c)
 (hys:ys = []∨∃ ad' news,ad = some ad'∧BC (OS β X S) w news (ys.flatMap D.cells)∧(∀ x∈ys,x.cells.length = sz')∧∀ (j:Nat) u,news[j]? = some u→w.cell? (ad'.add j) = some u)
 (hs':ys = []∨sz' = sz) {xs:List D} (hszs:∀ x∈xs,x.cells.length = sz) {vals:List Value} {O:Nat→Prop} (hO:∀ b,O b→OS β X S b) (hl:BC O w vals (xs.flatMap D.cells))
 {b0:Option Addr} {cap:Nat} (hv:a.eval x = .slice b0 xs.length cap) (hcap:xs.length≤cap) (hold:xs.length = 0∧cap = 0∨∃ ad0,b0 = some ad0∧∀ (j:Nat) u,vals[j]? = some u→w.cell? (ad0.add j) = some u)
 (hm:xs.length + ys.length≤maxLen) (hb:(xs.length + ys.length) * MT P e≤140737488355328) (hgrow:cap < xs.length + ys.length) :
 ∃ cp w',(execOp a.eval o).run P w = .ok (.value (.slice (some ⟨w.heap.size,0,none⟩) (xs.length + ys.length) cp)) w'∧Below w.heap.size w w' ∧
   ∃ vals',Ew w' e sz (.slice (some ⟨w.heap.size,0,none⟩) (xs.length + ys.length) cp) (xs++ys).length vals'∧BC O w vals' ((xs++ys).flatMap D.cells)∧(∀ x∈ys,x.cells.length = sz):=by
 obtain ⟨i,z,hi,hz,hzs⟩:=Jb hz
 have hsize:sz = i.size:=by rw [hsz,GQ hi]
 have hbytes:MT P e = i.bytes:=by simp [MT,hi]
 rw [hbytes] at hb
 have hye:ys≠[]:=by intro e; subst e; simp at hgrow; omega
 obtain ⟨ad',news,rfl,hnl,hnsz,hnews⟩:=hys.resolve_left hye
 have hse:sz' = sz:=hs'.resolve_left hye
 subst hse
 have hm0:0 < ys.length:=List.length_pos_iff.2 hye
 have hnlen:news.length = ys.length * i.size:=by rw [hnl.1,DM ys hnsz,hsize]
 have hvlen:vals.length = xs.length * i.size:=by rw [hl.1,DM xs hszs,hsize]
 have h63:((xs.length + ys.length:Nat):Int)≤9223372036854775807:=by unfold maxLen at hm; omega
 have hflat:BC O w (vals++news) ((xs++ys).flatMap D.cells):=by rw [List.flatMap_append]; exact hl.append (hnl.mono (Ck.of_sub hO))
 have hexec:∀ v' w',(Builtin.append_ #[t,t] o.type #[a.eval x,a.eval y]).run P w = .ok v' w'→(execOp a.eval o).run P w = .ok (.value v') w':=by
  intro v' w' hr
  simp [execOp,ho,resolve,invoke,builtin,hr]
 have hge:xs.length + ys.length≤grownCap w (xs.length + ys.length) cap e:=grownCap_ge w _ cap e
 have hcm:grownCap w (xs.length + ys.length) cap e≤maxLen:=grownCap_le_maxLen w _ cap e hm
 have hr:(Builtin.append_ #[t,t] o.type #[a.eval x,a.eval y]).run P w = .ok (.slice (some ⟨w.heap.size,0,none⟩) (xs.length + ys.length) (grownCap w (xs.length + ys.length) cap e)) (w.drew.alloc (.cells (vals.toArray++news.toArray++Builtin.zeroCells z.cells (grownCap w (xs.length + ys.length) cap e - (xs.length + ys.length))) e)):=by
  rcases hold with ⟨hx0,hc0⟩ | ⟨ad0,rfl,hcells⟩
  ·subst hc0
   have hxe:xs = []:=List.eq_nil_of_length_eq_zero hx0
   subst hxe
   have hv00:vals = []:=List.eq_nil_of_length_eq_zero (by rw [hvlen]; simp)
   subst hv00
   rw [hv,hy]
   cases b0 with
   | none =>
     have:=run_append_nil (P:=P) w t o.type e i z hu hi hz ad' ys.length c news hnlen hnews hm0 (by simpa using h63) (by simp at hb; omega)
     simpa using this
   | some b0 =>
     have:=run_append_grow (P:=P) w t o.type e i z hu hi hz b0 0 0 [] (by simp) (fun j v hv=>by simp at hv) ad' ys.length c news hnlen hnews (by omega) (by simpa using h63) (growslice_fits (by omega) (by simpa using hb))
     simpa using this
  ·rw [hv,hy]
   exact run_append_grow (P:=P) w t o.type e i z hu hi hz ad0 xs.length cap vals hvlen hcells ad' ys.length c news hnlen hnews (by omega) h63 (growslice_fits (by omega) hb)
 refine ⟨_,_,hexec _ _ hr,(Below.refl _ _).drew.alloc (Nat.le_refl _) _,vals++news,.inl ⟨?_,.inr ⟨w.heap.size,grownCap w (xs.length + ys.length) cap e,_,by simp,Nat.zero_le _,heap_alloc_new w.drew _,by simpa using hge,hcm,?_,?_⟩⟩,hflat,hnsz⟩
 ·simp [hvlen,hnlen,hsize,Nat.add_mul]
 ·simp only [Array.size_append,List.size_toArray,size_zeroCells,hzs,hvlen,hnlen,← hsize,← Nat.add_mul]
  congr 1
  omega
 ·have:(xs++ys).length * sz' = (vals++news).length:=by simp [hvlen,hnlen,hsize,Nat.add_mul]
  rw [this]
  simp only [Array.toList_append,List.append_assoc]
  rw [← List.append_assoc]
  exact List.take_left
theorem X6 (h:AB X G β S a w) {x y:Operand} {t e:TypeId} (ho:o.op = .call ⟨.builtin .append,#[x,y],#[t,t]⟩) (hu:P.underlying t = some (.slice e)) {id n sz:Nat} {xs ys:List D}
 (hx:NN β (OS β X S) S w (a.eval x) (.row id n sz e xs)) (hsz:sz = AN P e) (hz:Kr P e = true) {sz':Nat} {ad:Option Addr} {c:Nat} (hy:a.eval y = .slice ad ys.length c)
 (hys:ys = []∨∃ ad' news,ad = some ad'∧BC (OS β X S) w news (ys.flatMap D.cells)∧(∀ x∈ys,x.cells.length = sz')∧∀ (j:Nat) u,news[j]? = some u→w.cell? (ad'.add j) = some u)
 (hm:xs.length + ys.length≤maxLen) (hb:(xs.length + ys.length) * MT P e≤140737488355328) (hs':ys = []∨sz' = sz) :
 Dh P X G S a w o ⟨.sl id (n + 1),[(id,.row sz e (xs++ys),n + 1)],[]⟩:=by
 obtain ⟨hbx,hver,hv⟩:=hx
 have hid:id < S.length:=Od hbx (by simp)
 have hbox:=h.boxes id
 rw [hbx] at hbox
 obtain ⟨hpos,hszs,vals,hrow,hl⟩:=hbox
 have hown:(As S id).box.owned = true:=by rw [hbx]; rfl
 have fin:∀ v' w',(execOp a.eval o).run P w = .ok (.value v') w'→w.heap.size≤w'.heap.size→Br X.base X.M w w' →
  (∀ b,b < w.heap.size→Ax (β id)≠some b→w'.heap[b]? = w.heap[b]?)→(∀ b,Ax v' = some b→Ax (β id) = some b∨w.heap.size≤b)→(∀ x∈ys,x.cells.length = sz) →
  (∃ vals',Ew w' e sz v' (xs++ys).length vals'∧BC (OS β X S) w vals' ((xs++ys).flatMap D.cells)) →
  Dh P X G S a w o ⟨.sl id (n + 1),[(id,.row sz e (xs++ys),n + 1)],[]⟩:=by
  intro v' w' hr hs hbl hkeep hown' hyz hrw
  obtain ⟨vals',hr1,hr2⟩:=hrw
  refine .inl ⟨v',w',hr,Nq β id v',?_,?_,rfl⟩
  ·exact h.rebox (R':=X.R) (fun _ h=>h) hid (.inl (by rw [hver]; omega)) hs hbl (fun b hb hk=>hkeep b hb (hk hown))
    (fun _ b hb=>by
     rcases hown' b hb with hh | hh
     ·exact ⟨.inl ⟨hh,hown⟩,(h.mine id b hown hh).2⟩
     ·exact ⟨.inr (.inl hh),fun hr=>by have:=(h.rs b hr).2; omega⟩)
    (fun k _=>⟨hpos,fun z hz=>by rcases List.mem_append.1 hz with hz | hz; exact hszs z hz; exact hyz z hz,vals',by simp only [Nq,if_true]; exact hr1,hr2.mono k⟩)
  ·have:AW (Bo [(id,.row sz e (xs++ys),n + 1)] S) id = n + 1:=by simp [Bo,AW,BI,hid]
   exact ⟨by rw [this]; exact Nat.le_refl _,fun _=>by simp [Nq]⟩
 obtain ⟨i,z,hi,hz',hzs⟩:=Jb hz
 have hsize:sz = i.size:=by rw [hsz,GQ hi]
 obtain ⟨b0,cap,hv0,hle,hold⟩:∃ b0 cap,a.eval x = .slice b0 xs.length cap∧xs.length≤cap∧(xs.length = 0∧cap = 0∨∃ ad0,b0 = some ad0∧∀ (j:Nat) u,vals[j]? = some u→w.cell? (ad0.add j) = some u):=by
  rw [hv]
  rcases hrow with ⟨_,⟨hv',h0⟩ | ⟨g,cap,cur,hv',_,hh,hn,_,_,htk⟩⟩ | ⟨h0,_,ad',hv'⟩
  ·exact ⟨_,_,by rw [hv',h0],by omega,.inl ⟨h0,rfl⟩⟩
  ·refine ⟨_,cap,hv',hn,.inr ⟨_,rfl,fun j u hj=>?_⟩⟩
   rw [GW,Nat.zero_add]
   rw [← htk,List.getElem?_take] at hj
   split at hj
   ·simp [World.cell?,hh]; simpa using hj
   ·cases hj
  ·exact ⟨_,_,by rw [hv',h0],by omega,.inl ⟨h0,rfl⟩⟩
 by_cases hye:ys = []
 ·subst hye
  simp only [List.append_nil] at fin ⊢
  refine fin (a.eval x) w ?_ (Nat.le_refl _) (Br.refl _ _ _) (fun _ _ _=>rfl) (fun b hb=>.inl (by rw [← hv]; exact hb)) (fun _ h=>by cases h) ⟨vals,by rw [hv]; exact hrow,hl⟩
  have:=Oq (P:=P) (w:=w) (ty:=o.type) hu hi b0 ad xs.length cap c hle
  simp only [execOp,ho,resolve,invoke,builtin,Sem.run_bind,Sem.run_pure,Result.andThen_ok]
  simp only [List.map_toArray,List.map_cons,List.map_nil,hy,hv0,List.length_nil]
  rw [this]
  simp
 ·by_cases hroom:xs.length + ys.length≤cap
  ·
   obtain ⟨ad',news,rfl,hnl,hnsz,hnews⟩:=hys.resolve_left hye
   have hse:sz' = sz:=hs'.resolve_left hye
   subst hse
   have hm0:0 < ys.length:=List.length_pos_iff.2 hye
   have hnlen:news.length = ys.length * i.size:=by rw [hnl.1,DM ys hnsz,hsize]
   have hvlen:vals.length = xs.length * i.size:=by rw [hl.1,DM xs hszs,hsize]
   have hflat:BC (OS β X S) w (vals++news) ((xs++ys).flatMap D.cells):=by rw [List.flatMap_append]; exact hl.append hnl
   rcases hrow with ⟨hlen,⟨hv',h0⟩ | ⟨g,cap',cur,hv',hbg,hh,hn,hcm,hcs,htk⟩⟩ | ⟨h0,_,a0,hv'⟩
   ·rw [hv,hv'] at hv0; simp at hv0; omega
   ·have hcc:cap' = cap:=by rw [hv,hv'] at hv0; simp at hv0; omega
    subst hcc
    have hc0:cap'≠0:=by omega
    have hfit:xs.length * i.size + news.length≤cur.size:=by rw [hnlen,hcs,hsize,← Nat.add_mul]; exact Nat.mul_le_mul_right _ hroom
    have hr:=run_append_room (P:=P) w t o.type e i hu hi g xs.length cap' cur hh ad' ys.length c news hnlen hnews hnl.oneCell hroom hfit
    have hβb:Ax (β id) = some g:=by rw [hv']; simp [Ax,hc0]
    have hexec:∀ v' w',(Builtin.append_ #[t,t] o.type #[a.eval x,a.eval y]).run P w = .ok v' w'→(execOp a.eval o).run P w = .ok (.value v') w':=by
     intro v' w' hr
     simp [execOp,ho,resolve,invoke,builtin,hr]
    refine fin _ _ (hexec _ _ (by rw [hv,hv',hy]; exact hr)) (by simp) (Br.setRow _ _ _ (h.mine id g hown hβb).1) (fun b _ hk=>setRow_other w g b _ (fun e=>hk (by rw [hβb,e]))) (fun b hb=>.inl (by rw [hβb]; simp [Ax,hc0] at hb; rw [hb])) hnsz
     ⟨vals++news,.inl ⟨by simp [hvlen,hnlen,hsize,Nat.add_mul],.inr ⟨g,cap',_,by simp,hbg,setRow_heap w g cur _ e _ hh,by simpa using hroom,hcm,?_,?_⟩⟩,hflat⟩
    ·simp only [List.size_toArray,List.length_append,List.length_take,List.length_drop,Array.length_toList]
     rw [hcs] at hfit ⊢
     omega
    ·have:(xs++ys).length * sz' = (vals++news).length:=by simp [hvlen,hnlen,hsize,Nat.add_mul]
     rw [this,← hsize,htk]
     exact List.take_left
   ·rw [hv,hv'] at hv0; simp at hv0; omega
  ·obtain ⟨cp,w',hr,hbl,vals',hr1,hr2,hyz⟩:=SN h ho hu hsz hz hy hys hs' hszs (fun _ h=>h) hl hv0 hle hold hm hb (by omega)
   exact fin _ _ hr hbl.size ((Br.of hbl).weaken h.hbase fun _ _ h=>h) (fun b hb _=>hbl.block b hb) (fun b hb=>.inr (by simp [Ax] at hb; omega)) hyz ⟨vals',hr1,hr2⟩
theorem Oh (h:AB X G β S a w) {d:Nat} (hd:d < S.length) {x y:Operand} {t e:TypeId} (ho:o.op = .call ⟨.builtin .append,#[x,y],#[t,t]⟩) (hu:P.underlying t = some (.slice e)) {sz:Nat} {xs ys:List D}
 (hsz:sz = AN P e) (hs0:0 < sz) (hz:Kr P e = true) {sz':Nat} {ad:Option Addr} {c:Nat} (hy:a.eval y = .slice ad ys.length c)
 (hys:ys = []∨∃ ad' news,ad = some ad'∧BC (OS β X S) w news (ys.flatMap D.cells)∧(∀ x∈ys,x.cells.length = sz')∧∀ (j:Nat) u,news[j]? = some u→w.cell? (ad'.add j) = some u)
 (hm:xs.length + ys.length≤maxLen) (hb:(xs.length + ys.length) * MT P e≤140737488355328) (hs':ys = []∨sz' = sz)
 (hx:(∃ ad0,a.eval x = .slice ad0 0 0∧xs = [])∨(A9 (OS β X S) w (a.eval x) (.list sz xs)∧PR (a.eval x) = xs.length∧ys≠[])) :
 Dh P X G S a w o ⟨.sl d ((As S d).ver + 1),[(d,.row sz e (xs++ys),(As S d).ver + 1)],[]⟩:=by
 obtain ⟨i,z,hi,hz',hzs⟩:=Jb hz
 by_cases hye:ys = []
 ·subst hye
  obtain ⟨ad0,hv0,rfl⟩:=hx.resolve_right fun h=>h.2.2 rfl
  have hrun:(execOp a.eval o).run P w = .ok (.value (.slice ad0 0 0)) w:=by
   have:=Oq (P:=P) (w:=w) (ty:=o.type) hu hi ad0 ad 0 0 c (Nat.le_refl _)
   simp only [execOp,ho,resolve,invoke,builtin,Sem.run_bind,Sem.run_pure,Result.andThen_ok]
   simp only [List.map_toArray,List.map_cons,List.map_nil,hy,hv0,List.length_nil]
   rw [this]
   simp
  obtain ⟨β',h8,h9⟩:=JQ h hd (Below.refl _ _) (v:=.slice ad0 0 0) (e:=e) (xs:=[]) (vals:=[]) hs0 (fun _ h=>by cases h)
   (by cases ad0 with
    | none=>exact .inl (World.ownsRow_nil w _ e _)
    | some q=>exact .inr ⟨rfl,rfl,q,rfl⟩) (fun b hb=>by cases ad0 <;> simp [Ax] at hb) BC.nil
  exact .inl ⟨_,w,hrun,β',h8,h9,rfl⟩
 ·have hpos:0 < ys.length:=List.length_pos_iff.2 hye
  obtain ⟨b0,cap,vals,hv0,hle,hold,hszs,hl,hcap⟩:∃ b0 cap,∃ vals:List Value,a.eval x = .slice b0 xs.length cap∧xs.length≤cap∧(xs.length = 0∧cap = 0∨∃ ad0,b0 = some ad0∧∀ (j:Nat) u,vals[j]? = some u→w.cell? (ad0.add j) = some u) ∧
   (∀ x∈xs,x.cells.length = sz)∧BC (OS β X S) w vals (xs.flatMap D.cells)∧cap = xs.length:=by
   rcases hx with ⟨ad0,hv0,rfl⟩ | ⟨hr,hc,_⟩
   ·exact ⟨ad0,0,[],by simpa using hv0,by simp,.inl ⟨rfl,rfl⟩,(fun _ h=>by cases h),BC.nil,rfl⟩
   ·obtain ⟨sz2,xs2,⟨rfl,rfl⟩,ad1,c1,hv1,hrest⟩:=P7 h (r:=.d (.list sz xs)) hr (K:=fun s l=>sz = s∧xs = l) ⟨rfl,rfl⟩
    have hc1:c1 = xs.length:=by rw [hv1] at hc; simpa [PR] using hc
    rcases hrest with hxe | ⟨ad2,news,rfl,h3,h4,h5⟩
    ·subst hxe
     exact ⟨ad1,c1,[],hv1,by simp,.inl ⟨rfl,by simpa using hc1⟩,(fun _ h=>by cases h),BC.nil,hc1⟩
    ·exact ⟨_,c1,news,hv1,by omega,.inr ⟨ad2,rfl,h5⟩,h4,h3,hc1⟩
  obtain ⟨cp,w',hr,hbl,vals',hr1,hr2,hyz⟩:=SN h ho hu hsz hz hy hys hs' hszs (fun _ h=>h) hl hv0 hle hold hm hb (by omega)
  obtain ⟨β',h8,h9⟩:=JQ h hd hbl (e:=e) (xs:=xs++ys) (vals:=vals') hs0 (fun q hq=>by rcases List.mem_append.1 hq with hq | hq; exact hszs q hq; exact hyz q hq) hr1 (fun b hb=>by simp [Ax] at hb; omega)
   (hr2.mono ⟨hbl.size,fun b hb hO=>by
    rcases hO with hO | hO
    ·exact hO
    ·simp [Ax] at hO; omega,fun b hb _=>hbl.block b hb⟩)
  exact .inl ⟨_,w',hr,β',h8,h9,rfl⟩
theorem bd (h:AB X G β S a w) {t e:TypeId} {x:Operand} {hi:Option Operand} (ho:o.op = .slice t x none hi none) (hu:P.underlying t = some (.slice e)) {sz:Nat} (hsz:sz = AN P e) (hpos:0 < sz) {id n:Nat} {e':TypeId} {xs:List D}
 (hx:NN β (OS β X S) S w (a.eval x) (.row id n sz e' xs)) {r:Int} (hh:hi = none∧r = (xs.length:Int)∨∃ q k,hi = some q∧a.eval q = .int k r) (h0:0≤r) (h2:r≤xs.length) :
 Dh P X G S a w o ⟨.sl id (n + 1),[(id,.row sz e' (xs.take r.toNat),n + 1)],[]⟩:=by
 obtain ⟨hbx,hver,hv⟩:=hx
 have hid:id < S.length:=Od hbx (by simp)
 have hbox:=h.boxes id
 rw [hbx] at hbox
 obtain ⟨_,hszs,vals,hrow,hl⟩:=hbox
 have hown:(As S id).box.owned = true:=by rw [hbx]; rfl
 have hs:(sizeOf e).run P w = .ok sz w:=by rw [hsz] at hpos ⊢; exact MZ hpos
 obtain ⟨ad,cap,hv0,hcap,hnil⟩:∃ ad cap,a.eval x = .slice ad xs.length cap∧xs.length≤cap∧(cap = 0∨∃ g,ad = some ⟨g,0,none⟩):=by
  rw [hv]
  rcases hrow with ⟨_,⟨hv',h0⟩ | ⟨g,cap,cur,hv',_,hh,hn,_,_,htk⟩⟩ | ⟨h0,_,ad',hv'⟩
  ·exact ⟨_,_,by rw [hv',h0],by omega,.inl rfl⟩
  ·exact ⟨_,cap,hv',hn,.inr ⟨g,rfl⟩⟩
  ·exact ⟨_,_,by rw [hv',h0],by omega,.inl rfl⟩
 have hb:=Q9 (P:=P) (w:=w) (a:=a) (isSlice:=true) (len:=xs.length) (cap:=cap) (lo:=none) (l:=0) (.inl ⟨rfl,rfl⟩) hh (by omega) h0 h2 hcap
 have hrun:(execOp a.eval o).run P w = .ok (.value (.slice ad r.toNat cap)) w:=by
  simp only [Option.map_none,Int.toNat_zero] at hb
  simp [execOp,ho,Instr.sliceAt,Instr.slice,hv0,run_underlying hu,hb,hs]
  intro _
  cases ad <;> simp [Addr.add]
 have hlt:(xs.take r.toNat).length = r.toNat:=by simp; omega
 have hle:r.toNat * sz≤xs.length * sz:=Nat.mul_le_mul_right _ (by omega)
 refine .inl ⟨_,w,hrun,Nq β id (.slice ad r.toNat cap),?_,?_,rfl⟩
 ·refine h.rebox (R':=X.R) (fun _ h=>h) hid (.inl (by rw [hver]; omega)) (Nat.le_refl _) (Br.refl _ _ _) (fun _ _ _=>rfl) (fun _ b hbb=>?_) (fun k _=>⟨hpos,fun z hz=>hszs z (List.mem_of_mem_take hz),vals.take (r.toNat * sz),?_,?_⟩)
  ·have:Ax (β id) = some b:=by rw [← hv,hv0]; cases ad <;> simp [Ax] at hbb ⊢; exact hbb
   exact ⟨.inl ⟨this,hown⟩,(h.mine id b hown this).2⟩
  ·simp only [Nq,if_true]
   rw [hlt]
   rcases hrow with ⟨hlen,⟨hv',h0'⟩ | ⟨g,cap',cur,hv',hbg,hh',hn,hcm,hcs,htk⟩⟩ | ⟨h0',hv0',a0,hv'⟩
   ·rw [hv,hv'] at hv0
    simp at hv0
    obtain ⟨rfl,_,rfl⟩:=hv0
    have:r.toNat = 0:=by omega
    rw [this]
    simp
    exact .inl (World.ownsRow_nil w _ _ _)
   ·rw [hv,hv'] at hv0
    simp at hv0
    obtain ⟨rfl,rfl⟩:=hv0
    refine .inl ⟨by simp [hlen,Nat.min_eq_left (show r.toNat≤xs.length by omega)],.inr ⟨g,cap',cur,rfl,hbg,hh',by omega,hcm,hcs,?_⟩⟩
    rw [← htk,List.take_take,Nat.min_eq_left hle]
   ·rw [hv,hv'] at hv0
    simp at hv0
    obtain ⟨rfl,_,rfl⟩:=hv0
    have:r.toNat = 0:=by omega
    rw [this]
    simp
    exact .inr ⟨rfl,rfl,a0,rfl⟩
  ·have e1:(xs.take r.toNat).flatMap D.cells = (xs.flatMap D.cells).take (r.toNat * sz):=by
    have h1:(xs.flatMap D.cells) = (xs.take r.toNat).flatMap D.cells++(xs.drop r.toNat).flatMap D.cells:=by rw [← List.flatMap_append,List.take_append_drop]
    rw [h1,List.take_left']
    rw [DM _ (fun z hz=>hszs z (List.mem_of_mem_take hz)),hlt]
   rw [e1]
   exact (hl.take _).mono k
 ·have:AW (Bo [(id,.row sz e' (xs.take r.toNat),n + 1)] S) id = n + 1:=by simp [Bo,AW,BI,hid]
  exact ⟨by rw [this]; exact Nat.le_refl _,fun _=>by simp [Nq]⟩
end
end Go.Abs
