/- The abstract machine and the memory: the relation between them, and what each change of the one asks of the other. -/
import Derived.Test.YtejfnieiaecpkaaGreatDoorAbsOp
set_option linter.unusedVariables false
set_option linter.unusedSimpArgs false
namespace Go.Abs
open Go.RowKit (Below)
theorem Br.refl (B:Nat) (M:Nat→Prop) (w:World):Br B M w w:=⟨rfl,rfl,rfl,Nat.le_refl _,fun _ _ _=>rfl⟩
theorem Br.trans {B:Nat} {M:Nat→Prop} {a b c:World} (h:Br B M a b) (k:Br B M b c):Br B M a c :=
 ⟨k.os.trans h.os,k.tape.trans h.tape,k.output.trans h.output,Nat.le_trans h.size k.size,fun i hi hm=>(k.block i hi hm).trans (h.block i hi hm)⟩
theorem Br.of {B:Nat} {M:Nat→Prop} {a b:World} (h:Below B a b):Br B M a b:=⟨h.os,h.tape,h.output,h.size,fun i hi _=>h.block i hi⟩
theorem Br.below {B:Nat} {M:Nat→Prop} {a b:World} (h:Br B M a b) (hm:∀ k,¬ M k):Below B a b:=⟨h.os,h.tape,h.output,h.size,fun i hi=>h.block i hi (hm i)⟩
theorem Br.weaken {B B':Nat} {M M':Nat→Prop} {a b:World} (h:Br B M a b) (hB:B'≤B) (hm:∀ k,k < B'→¬ M' k→¬ M k):Br B' M' a b :=
 ⟨h.os,h.tape,h.output,h.size,fun i hi hk=>h.block i (by omega) (hm i hi hk)⟩
theorem Br.setRow (B:Nat) {M:Nat→Prop} (w:World) {b:Nat} (c:Array Value) (hb:B≤b∨M b):Br B M w (w.setRow b c) :=
 ⟨rfl,rfl,rfl,by simp,fun k hk hm=>setRow_other w b k c fun e=>by subst e; rcases hb with h | h; omega; exact hm h⟩
section mono
variable {O O':Nat→Prop} {w w':World}
structure Ck (O O':Nat→Prop) (w w':World):Prop where
 size:w.heap.size≤w'.heap.size
 own:∀ b,b < w.heap.size→O' b→O b
 same:∀ b,b < w.heap.size→¬ O b→w'.heap[b]? = w.heap[b]?
theorem Ck.cell (k:Ck O O' w w') {b o:Nat} (hb:b < w.heap.size) (hO:¬ O b):w'.cell? ⟨b,o,none⟩ = w.cell? ⟨b,o,none⟩ :=
 World.cell?_of_block (k.same b hb hO)
theorem A9.mono (k:Ck O O' w w') {v:Value} {x:D} (h:A9 O w v x):A9 O' w' v x:=by
 induction h with
 | bool b=>exact .bool b
 | int kd n=>exact .int kd n
 | str s=>exact .str s
 | fn f vs xs hl h1 h ih=>exact .fn f vs xs hl h1 ih
 | ptr b off cs c hb hO h1 hcell h ih =>
   have hne:∀ (j:Nat) y,cs[j]? = some y→cs≠[]:=by intro j y hy e; subst e; simp at hy
   exact .ptr b off cs c (fun hn=>Nat.lt_of_lt_of_le (hb hn) k.size) (fun hn h'=>hO hn (k.own b (hb hn) h')) h1
    (fun j y hy=>by rw [← hcell j y hy]; exact k.cell (hb (hne j y hy)) (hO (hne j y hy))) ih
 | agg vs xs hl h1 h ih=>exact .agg vs xs hl h1 ih
 | nil a sz=>exact .nil a sz
 | emp a cap sz=>exact .emp a cap sz
 | list b off cap sz xs c hne hb hO hcap hsz h1 hcell h ih =>
   exact .list b off cap sz xs c hne (Nat.lt_of_lt_of_le hb k.size) (fun h'=>hO (k.own b hb h')) hcap hsz h1
    (fun i x j y hx hy=>by rw [← hcell i x j y hx hy]; exact k.cell hb hO) ih
theorem BC.mono (k:Ck O O' w w') {vs:List Value} {ys:List D} (h:BC O w vs ys):BC O' w' vs ys :=
 ⟨h.1,fun j v y hv hy=>⟨(h.2 j v y hv hy).1.mono k,(h.2 j v y hv hy).2⟩⟩
theorem QY.mono (k:Ck O O' w w') {v:Value} {x:AV} (h:QY O w v x):QY O' w' v x:=by
 cases x <;> simp only [QY] at h ⊢
 case d x=>exact h.mono k
 case lim sz xs=>exact ⟨h.1.mono k,h.2⟩
theorem Ch.mono (k:Ck O O' w w') {β β':Nat→Value} {n n':Nat→Nat} (hn:∀ i,n i < n' i∨(n' i = n i∧β' i = β i)) {v:Value} {c:C} (h:Ch β n O w v c):Ch β' n' O' w' v c:=by
 cases c with
 | d x=>exact ⟨h.1.mono k,h.2⟩
 | sl id m =>
   simp only [Ch] at h ⊢
   rcases hn id with h1 | ⟨h1,h2⟩
   ·exact ⟨by omega,fun e=>by omega⟩
   ·rw [h1,h2]; exact h
 | own sz e xs=>exact h
def AV.guards:AV→List Nat
 | .under t _ x=>t :: x.guards
 | _=>[]
theorem J6.mono (k:Ck O O' w w') {β β':Nat→Value} {n n':Nat→Nat} {tm tm':Array Value} {v:Value}
 (hn:∀ i,n i < n' i∨(n' i = n i∧β' i = β i)):∀ {x:AV},(∀ u∈x.guards,tm'[u]? = tm[u]?)→J6 β n O w tm v x→J6 β' n' O' w' tm' v x:=by
 intro x
 induction x with
 | any=>intro _ h; exact h
 | bot=>intro _ h; exact h
 | d x=>intro _ h; exact A9.mono k h
 | lim sz xs=>intro _ h; exact ⟨A9.mono k h.1,h.2⟩
 | ptr id m o =>
   intro _ h
   simp only [J6] at h ⊢
   rcases hn id with h1 | ⟨h1,h2⟩
   ·exact ⟨by omega,fun e=>by omega⟩
   ·rw [h1,h2]; exact h
 | sl id m =>
   intro _ h
   simp only [J6] at h ⊢
   rcases hn id with h1 | ⟨h1,h2⟩
   ·exact ⟨by omega,fun e=>by omega⟩
   ·rw [h1,h2]; exact h
 | eptr id m sz i o =>
   intro _ h
   simp only [J6] at h ⊢
   rcases hn id with h1 | ⟨h1,h2⟩
   ·exact ⟨by omega,fun e=>by omega⟩
   ·rw [h1,h2]; exact h
 | tup xs =>
   intro _ h
   obtain ⟨vs,hv,hl,h⟩:=h
   refine ⟨vs,hv,hl,fun i u x hu hx=>?_⟩
   have:=h i u x hu hx
   cases x with
   | d y=>exact A9.mono k this
   | sl id m=>exact Ch.mono k hn this
   | own sz e xs=>exact this
 | own sz e xs=>intro _ h; exact h
 | optr cs=>intro _ h; exact h
 | cc k' xs =>
   intro _ h
   obtain ⟨vs,hv,hl,h⟩:=h
   exact ⟨vs,hv,hl,fun i u x hu hx=>⟨Ch.mono k hn (h i u x hu hx).1,(h i u x hu hx).2⟩⟩
 | under t want x ih =>
   intro hg h
   refine ⟨fun ht=>ih (fun u hu=>hg u (by simp [AV.guards,hu])) (h.1 ?_),fun ht=>h.2 ?_⟩
   ·rw [← hg t (by simp [AV.guards])]
    exact ht
   ·rw [← hg t (by simp [AV.guards])]
    exact ht
end mono
theorem C0:∀ (S:AS) (d:Nat) (v:AV) (i:Nat),As (Eh S d v) i = if i = d∧d < S.length then ⟨v,(As S d).box,(As S d).ver⟩ else As S i
 | [],d,v,i=>by simp [Eh,As]
 | s :: r,0,v,0=>by simp [Eh,As]
 | s :: r,0,v,i + 1=>by simp [Eh,As]
 | s :: r,d + 1,v,0=>by simp [Eh,As]
 | s :: r,d + 1,v,i + 1=>by simp [Eh,As,C0 r d v i]
theorem BI:∀ (S:AS) (d:Nat) (b:Ct) (n i:Nat),As (AR S d b n) i = if i = d∧d < S.length then ⟨(As S d).av,b,n⟩ else As S i
 | [],d,b,n,i=>by simp [AR,As]
 | s :: r,0,b,n,0=>by simp [AR,As]
 | s :: r,0,b,n,i + 1=>by simp [AR,As]
 | s :: r,d + 1,b,n,0=>by simp [AR,As]
 | s :: r,d + 1,b,n,i + 1=>by simp [AR,As,BI r d b n i]
theorem Ho:∀ (S:AS) (d:Nat) (v:AV),(Eh S d v).length = S.length
 | [],_,_=>rfl
 | _ :: _,0,_=>rfl
 | _ :: r,d + 1,v=>by simp [Eh,Ho r d v]
theorem C9:∀ (S:AS) (d:Nat) (b:Ct) (n:Nat),(AR S d b n).length = S.length
 | [],_,_,_=>rfl
 | _ :: _,0,_,_=>rfl
 | _ :: r,d + 1,b,n=>by simp [AR,C9 r d b n]
theorem KZ:∀ (S:AS) (i:Nat),S.length≤i→As S i = bS
 | [],_,_=>rfl
 | _ :: r,0,h=>by simp at h
 | _ :: r,i + 1,h=>by simp only [As]; exact KZ r i (by simpa using h)
def AW (S:AS) (i:Nat):Nat:=(As S i).ver
structure Cx where
 base:Nat
 M:Nat→Prop
 O:Nat→Prop
 R:Nat→Prop
 w₀:World
 ini:Nat→Value
 glob:Vy (fun b=>O b∨base≤b∨M b) w₀
def Cx.mine (x:Cx) (b:Nat):Prop:=x.base≤b∨x.M b
def Cx.less (x:Cx) (R:Nat→Prop):Cx:={ x with R:=R }
def OS (β:Nat→Value) (x:Cx) (S:AS) (b:Nat):Prop:=x.O b∨x.R b∨∃ i,(As S i).box.owned = true∧Ax (β i) = some b
structure AB (x:Cx) (G:Nat→Prop) (β:Nat→Value) (S:AS) (a:Act) (w:World):Prop where
 len:a.tmps.size = S.length
 df:a.defers = []
 below:Br x.base x.M x.w₀ w
 hbase:x.base≤w.heap.size
 o₀:∀ b,x.O b→b < x.base∧¬ x.M b
 rs:∀ b,x.R b→x.mine b∧b < w.heap.size
 slots:∀ (t:Nat) v,a.tmps[t]? = some v→J6 β (AW S) (OS β x S) w a.tmps v (As S t).av
 boxes:∀ i,MC β (AW S) (OS β x S) w i (As S i).box
 mine:∀ i b,(As S i).box.owned = true→Ax (β i) = some b→x.mine b∧¬ x.R b
 inj:∀ i j b,(As S i).box.owned = true→(As S j).box.owned = true→Ax (β i) = some b→Ax (β j) = some b→i = j
 gds:∀ t,∀ u∈(As S t).av.guards,G u
 ini:∀ i,(As S i).ver = 0→(As S i).box≠.none→β i = x.ini i
theorem Ck.refl (O:Nat→Prop) (w:World):Ck O O w w:=⟨Nat.le_refl _,fun _ _ h=>h,fun _ _ _=>rfl⟩
theorem Ck.world {O:Nat→Prop} {w w':World} (h:Below w.heap.size w w'):Ck O O w w':=⟨h.size,fun _ _ h=>h,fun b hb _=>h.block b hb⟩
theorem Ck.of_sub {O O':Nat→Prop} {w:World} (h:∀ b,O' b→O b):Ck O O' w w:=⟨Nat.le_refl _,fun b _ hb=>h b hb,fun _ _ _=>rfl⟩
theorem AB.glob {x:Cx} {G:Nat→Prop} {β:Nat→Value} {S:AS} {a:Act} {w:World} (h:AB x G β S a w):Vy (OS β x S) w:=by
 intro g cs hg
 refine (x.glob g cs hg).mono ⟨h.below.size,fun b hb ho=>?_,fun b hb ho=>h.below.block b (by omega) (fun hm=>ho (.inr (.inr hm)))⟩
 rcases ho with ho | ho | ⟨i,h1,h2⟩
 ·exact .inl ho
 ·exact .inr (h.rs b ho).1
 ·exact .inr (h.mine i b h1 h2).1
theorem UC {O M:Nat→Prop} {w:World} (h:Vy (fun b=>O b∨M b) w):Vy (fun b=>O b∨w.heap.size≤b∨M b) w:=by
 intro g cs hg
 refine (h g cs hg).mono ⟨Nat.le_refl _,fun b hb ho=>?_,fun _ _ _=>rfl⟩
 rcases ho with ho | ho | ho
 ·exact .inl ho
 ·omega
 ·exact .inr ho
theorem AI {α:Type} {l:List α} {i:Nat} {x:α} (h:l[i]? = some x):i < l.length:=by
 rcases Nat.lt_or_ge i l.length with h' | h'
 ·exact h'
 ·simp [List.getElem?_eq_none h'] at h
theorem GH {α:Type} {l:Array α} {i:Nat} {x:α} (h:l[i]? = some x):i < l.size:=by
 rcases Nat.lt_or_ge i l.size with h' | h'
 ·exact h'
 ·simp [Array.getElem?_eq_none h'] at h
section sim
variable {x:Cx} {G:Nat→Prop} {β:Nat→Value} {S:AS} {a:Act} {w:World}
theorem Ew.mono {w w':World} {e:TypeId} {sz n:Nat} {v:Value} {vals:List Value} (h:Ew w e sz v n vals)
 (hk:∀ b,b < w.heap.size→Ax v = some b→w'.heap[b]? = w.heap[b]?):Ew w' e sz v n vals:=by
 rcases h with ⟨hl,h⟩ | h
 ·rcases h with h | ⟨g,cap,cur,hv,hb,hh,hn,hm,hs,ht⟩
  ·exact .inl ⟨hl,.inl h⟩
  ·by_cases hc:cap = 0
   ·subst hc
    have hn0:n = 0:=by omega
    subst hn0
    exact .inr ⟨rfl,by simpa using hl,_,hv⟩
   ·have hlt:=GH hh
    exact .inl ⟨hl,.inr ⟨g,cap,cur,hv,hb,by rw [hk g hlt (by rw [hv]; simp [Ax,hc])]; exact hh,hn,hm,hs,ht⟩⟩
 ·exact .inr h
theorem Ew.lt {w:World} {e:TypeId} {sz n:Nat} {v:Value} {vals:List Value} (h:Ew w e sz v n vals) {b:Nat} (hb:Ax v = some b):b < w.heap.size:=by
 rcases h with ⟨_,⟨hv,_⟩ | ⟨g,cap,cur,hv,_,hh,_⟩⟩ | ⟨_,_,ad,hv⟩
 ·rw [hv] at hb; simp [Ax] at hb
 ·rw [hv] at hb
  simp [Ax] at hb
  obtain ⟨_,rfl⟩:=hb
  exact GH hh
 ·rw [hv] at hb; simp [Ax] at hb
theorem MC.lt {β:Nat→Value} {n:Nat→Nat} {O:Nat→Prop} {w:World} {id:Nat} {B:Ct} (h:MC β n O w id B) (ho:B.owned = true) {b:Nat} (hb:Ax (β id) = some b):b < w.heap.size:=by
 cases B <;> simp [Ct.owned] at ho
 case var cs =>
  obtain ⟨b',vals,T,hβ,h1,_⟩:=h
  rw [hβ] at hb
  simp [Ax] at hb
  subst hb
  exact GH h1
 case row sz e xs =>
  obtain ⟨_,_,vals,hr,_⟩:=h
  exact hr.lt hb
 case map es =>
  obtain ⟨b',vs,clock,hβ,h1,_⟩:=h
  rw [hβ] at hb
  simp [Ax] at hb
  subst hb
  exact GH h1
theorem AB.blk (h:AB x G β S a w) {i b:Nat} (ho:(As S i).box.owned = true) (hb:Ax (β i) = some b):b < w.heap.size:=(h.boxes i).lt ho hb
theorem AB.os_lt (h:AB x G β S a w) {b:Nat} (hb:OS β x S b):b < w.heap.size:=by
 rcases hb with hb | hb | ⟨i,h1,h2⟩
 ·exact Nat.lt_of_lt_of_le (h.o₀ b hb).1 h.hbase
 ·exact (h.rs b hb).2
 ·exact h.blk h1 h2
theorem MC.mono {O O':Nat→Prop} {w w':World} (k:Ck O O' w w') {β β':Nat→Value} {n n':Nat→Nat} {id:Nat} {B:Ct} (hn:∀ i,n i < n' i∨(n' i = n i∧β' i = β i)) (hβ:β' id = β id)
 (hk:∀ b,b < w.heap.size→B.owned = true→Ax (β id) = some b→w'.heap[b]? = w.heap[b]?) (h:MC β n O w id B):MC β' n' O' w' id B:=by
 cases B with
 | none=>exact h
 | var cs =>
   obtain ⟨b,vals,T,h1,h3,h4,h5⟩:=h
   have hlt:=GH h3
   exact ⟨b,vals,T,by rw [hβ]; exact h1,by rw [hk b hlt rfl (by rw [h1]; rfl)]; exact h3,h4,fun j v c hv hc=>(h5 j v c hv hc).mono k hn⟩
 | row sz e xs =>
   obtain ⟨h1,h2,vals,h3,h4⟩:=h
   exact ⟨h1,h2,vals,by rw [hβ]; exact h3.mono fun b hb hv=>hk b hb rfl hv,h4.mono k⟩
 | fvar cs=>exact ⟨by rw [hβ]; exact A9.mono k h.1,by rw [hβ]; exact h.2⟩
 | frow sz xs=>simp only [MC]; rw [hβ]; exact A9.mono k h
 | map es =>
   obtain ⟨b,vs,clock,h1,h3,h4,h5⟩:=h
   have hlt:=GH h3
   exact ⟨b,vs,clock,by rw [hβ]; exact h1,by rw [hk b hlt rfl (by rw [h1]; rfl)]; exact h3,h4,fun i e p hv hc=>⟨(h5 i e p hv hc).1.mono k,(h5 i e p hv hc).2.1.mono k,(h5 i e p hv hc).2.2⟩⟩
theorem AB.worldR (h:AB x G β S a w) {w':World} (hw:Br w.heap.size x.R w w'):AB x G β S a w':=by
 have hk:Ck (OS β x S) (OS β x S) w w':=⟨hw.size,fun _ _ h=>h,fun b hb hno=>hw.block b hb fun hr=>hno (.inr (.inl hr))⟩
 refine ⟨h.len,h.df,h.below.trans (hw.weaken h.hbase fun k hk hm hr=>?_),Nat.le_trans h.hbase hw.size,h.o₀,fun b hb=>⟨(h.rs b hb).1,Nat.lt_of_lt_of_le (h.rs b hb).2 hw.size⟩,?_,?_,h.mine,h.inj,h.gds,h.ini⟩
 ·rcases (h.rs k hr).1 with h1 | h1
  ·omega
  ·exact hm h1
 ·exact fun t v hv=>(h.slots t v hv).mono hk (fun _=>.inr ⟨rfl,rfl⟩) (fun _ _=>rfl)
 ·exact fun i=>(h.boxes i).mono hk (fun _=>.inr ⟨rfl,rfl⟩) rfl (fun b hb ho hv=>hw.block b hb (h.mine i b ho hv).2)
theorem AB.world (h:AB x G β S a w) {w':World} (hw:Below w.heap.size w w'):AB x G β S a w':=h.worldR (.of hw)
theorem XJ (d:Nat) (v:AV):OS β x (Eh S d v) = OS β x S:=by
 funext b
 simp only [OS,C0]
 congr 2
 apply propext
 constructor
 ·rintro ⟨i,h1,h2⟩
  refine ⟨i,?_,h2⟩
  split at h1
  ·rename_i hh; rw [hh.1]; exact h1
  ·exact h1
 ·rintro ⟨i,h1,h2⟩
  refine ⟨i,?_,h2⟩
  split
  ·rename_i hh; rw [hh.1] at h1; exact h1
  ·exact h1
theorem OF (d:Nat) (v:AV):AW (Eh S d v) = AW S:=by
 funext i
 simp only [AW,C0]
 split
 ·rename_i hh; rw [hh.1]
 ·rfl
theorem N5 (d:Nat) (v:AV) (i:Nat):(As (Eh S d v) i).box = (As S i).box:=by
 rw [C0]
 split
 ·rename_i hh; rw [hh.1]
 ·rfl
theorem AB.put (h:AB x G β S a w) {d:Nat} {v:Value} {y:AV} (hd:¬ G d) (hr:J6 β (AW S) (OS β x S) w a.tmps v y) (hg:∀ u∈y.guards,G u) :
 AB x G β (Eh S d y) (a.put (some d) v) w where
 len:=by simp [Act.put,Ho,h.len]
 df:=h.df
 below:=h.below
 hbase:=h.hbase
 o₀:=h.o₀
 rs:=h.rs
 slots:=by
  intro t u hu
  rw [XJ,OF,C0]
  have keep:∀ (y:AV),(∀ u∈y.guards,G u)→∀ z∈y.guards,(a.put (some d) v).tmps[z]? = a.tmps[z]?:=by
   intro y hy z hz
   have:d≠z:=fun e=>hd (e ▸ hy z hz)
   simp [Act.put,Array.getElem?_setIfInBounds_ne this]
  simp only [Act.put,Array.getElem?_setIfInBounds] at hu
  split at hu
  ·rename_i e
   subst e
   split at hu
   ·rename_i hlt
    cases hu
    rw [if_pos ⟨rfl,by rw [← h.len]; exact hlt⟩]
    exact hr.mono (Ck.refl _ _) (fun _=>.inr ⟨rfl,rfl⟩) (keep y hg)
   ·cases hu
  ·rename_i e
   rw [if_neg (fun hh=>e hh.1.symm)]
   exact (h.slots t u hu).mono (Ck.refl _ _) (fun _=>.inr ⟨rfl,rfl⟩) (keep _ (h.gds t))
 boxes:=by intro i; rw [XJ,OF,N5]; exact h.boxes i
 mine:=by intro i b; rw [N5]; exact h.mine i b
 inj:=by intro i j b; rw [N5,N5]; exact h.inj i j b
 gds:=by
  intro t u hu
  rw [C0] at hu
  split at hu
  ·exact hg u hu
  ·exact h.gds t u hu
 ini:=by
  intro i
  rw [N5,show (As (Eh S d y) i).ver = (As S i).ver from congrFun (OF d y) i]
  exact h.ini i
def Nq (β:Nat→Value) (id:Nat) (v:Value) (i:Nat):Value:=if i = id then v else β i
theorem Ip {id:Nat} (hid:id < S.length) (B:Ct) (n i:Nat):As (AR S id B n) i = if i = id then ⟨(As S id).av,B,n⟩ else As S i:=by
 rw [BI]; simp [hid]
theorem AB.rebox (h:AB x G β S a w) {id:Nat} {B:Ct} {v:Value} {n:Nat} {w':World} {R':Nat→Prop} (hR:∀ b,R' b→x.R b) (hid:id < S.length)
 (hver:(As S id).ver < n∨(n = (As S id).ver∧v = β id∧(As S id).box≠.none)) (hs:w.heap.size≤w'.heap.size) (hb:Br x.base x.M w w')
 (hkeep:∀ b,b < w.heap.size→((As S id).box.owned = true→Ax (β id)≠some b)→w'.heap[b]? = w.heap[b]?)
 (hown:B.owned = true→∀ b,Ax v = some b→((Ax (β id) = some b∧(As S id).box.owned = true)∨w.heap.size≤b∨x.R b)∧¬ R' b)
 (hbox:Ck (OS β x S) (OS (Nq β id v) (x.less R') (AR S id B n)) w w'→(∀ i,AW S i < AW (AR S id B n) i∨(AW (AR S id B n) i = AW S i∧Nq β id v i = β i)) →
  MC (Nq β id v) (AW (AR S id B n)) (OS (Nq β id v) (x.less R') (AR S id B n)) w' id B) :
 AB (x.less R') G (Nq β id v) (AR S id B n) a w':=by
 have hget:=Ip (S:=S) hid B n
 have hO:∀ b,b < w.heap.size→OS (Nq β id v) (x.less R') (AR S id B n) b→OS β x S b:=by
  intro b hb h'
  rcases h' with h' | h' | ⟨i,h1,h2⟩
  ·exact .inl h'
  ·exact .inr (.inl (hR b h'))
  ·rw [hget] at h1
   by_cases hi:i = id
   ·subst hi
    simp [Nq] at h1 h2
    rcases (hown h1 b h2).1 with ⟨h3,h4⟩ | h3 | h3
    ·exact .inr (.inr ⟨i,h4,h3⟩)
    ·omega
    ·exact .inr (.inl h3)
   ·simp [Nq,hi] at h1 h2
    exact .inr (.inr ⟨i,h1,h2⟩)
 have hk:Ck (OS β x S) (OS (Nq β id v) (x.less R') (AR S id B n)) w w' :=
  ⟨hs,hO,fun b hb hno=>hkeep b hb fun ho hbk=>hno (.inr (.inr ⟨id,ho,hbk⟩))⟩
 have hvv:∀ i,AW S i < AW (AR S id B n) i∨(AW (AR S id B n) i = AW S i∧Nq β id v i = β i):=by
  intro i
  simp only [AW,hget,Nq]
  by_cases hi:i = id
  ·subst hi
   simp only [if_true]
   rcases hver with h1 | ⟨h1,h2,_⟩
   ·exact .inl h1
   ·exact .inr ⟨h1,h2⟩
  ·simp [hi]
 refine ⟨by rw [C9]; exact h.len,h.df,h.below.trans hb,Nat.le_trans h.hbase hs,h.o₀,fun b hb=>⟨(h.rs b (hR b hb)).1,Nat.lt_of_lt_of_le (h.rs b (hR b hb)).2 hs⟩,?_,?_,?_,?_,?_,?_⟩
 ·intro t u hu
  have hav:(As (AR S id B n) t).av = (As S t).av:=by rw [hget]; split <;> simp_all
  rw [hav]
  exact (h.slots t u hu).mono hk hvv (fun _ _=>rfl)
 ·intro i
  rw [hget]
  by_cases hi:i = id
  ·subst hi
   simp only [if_true]
   exact hbox hk hvv
  ·simp only [hi,if_false]
   refine (h.boxes i).mono hk hvv (by simp [Nq,hi]) fun b hb ho hbk=>hkeep b hb fun ho' hbk'=>hi (h.inj i id b ho ho' hbk hbk')
 ·intro i b hi hbi
  rw [hget] at hi
  by_cases ei:i = id
  ·subst ei
   simp [Nq] at hi hbi
   obtain ⟨h1,h2⟩:=hown hi b hbi
   refine ⟨?_,h2⟩
   rcases h1 with ⟨h3,h4⟩ | h3 | h3
   ·exact (h.mine i b h4 h3).1
   ·exact .inl (Nat.le_trans h.hbase h3)
   ·exact (h.rs b h3).1
  ·simp [Nq,ei] at hi hbi
   exact ⟨(h.mine i b hi hbi).1,fun hr=>(h.mine i b hi hbi).2 (hR b hr)⟩
 ·intro i j b hi hj hbi hbj
  rw [hget] at hi hj
  have key:∀ j,j≠id→(As S j).box.owned = true→Ax (β j) = some b→B.owned = true→Ax v = some b→j = id:=by
   intro j hj1 hj2 hj3 hB hv
   rcases (hown hB b hv).1 with ⟨h3,h4⟩ | h3 | h3
   ·exact h.inj j id b hj2 h4 hj3 h3
   ·have:=h.blk hj2 hj3; omega
   ·exact absurd h3 (h.mine j b hj2 hj3).2
  by_cases ei:i = id
  ·by_cases ej:j = id
   ·rw [ei,ej]
   ·subst ei
    simp [Nq,ej] at hi hj hbi hbj
    exact (key j ej hj hbj hi hbi).symm
  ·by_cases ej:j = id
   ·subst ej
    simp [Nq,ei] at hi hj hbi hbj
    exact key i ei hi hbi hj hbj
   ·simp [Nq,ei,ej] at hi hj hbi hbj
    exact h.inj i j b hi hj hbi hbj
 ·intro t u hu
  have hav:(As (AR S id B n) t).av = (As S t).av:=by rw [hget]; split <;> simp_all
  rw [hav] at hu
  exact h.gds t u hu
 ·intro i h0 hne
  rw [hget] at h0 hne
  by_cases hi:i = id
  ·subst hi
   simp only [if_true] at h0 hne
   rcases hver with h1 | ⟨h1,h2,h3⟩
   ·omega
   ·simp only [Nq,if_true]
    rw [h2]
    exact h.ini i (by rw [← h1]; exact h0) h3
  ·simp only [hi,if_false] at h0 hne
   simp only [Nq,hi,if_false]
   exact h.ini i h0 hne
theorem Gk (β:Nat→Value) (id:Nat):Nq β id (β id) = β:=by funext i; simp only [Nq]; split <;> simp_all
theorem AB.multi (h:AB x G β S a w) (E:Nat→Option (Ct × Nat × Value)) {S':AS} {β':Nat→Value} {w':World} (hS:∀ i,As S' i = match E i with | some (B,n,_)=>⟨(As S i).av,B,n⟩ | none=>As S i)
 (hβ:∀ i,β' i = match E i with | some (_,_,v)=>v | none=>β i) (hlen:S'.length = S.length) (hs:w.heap.size≤w'.heap.size) (hb:Br x.base x.M w w')
 (hver:∀ i B n v,E i = some (B,n,v)→(As S i).ver < n∨(n = (As S i).ver∧v = β i∧(As S i).box≠.none))
 (hkeep:∀ b,b < w.heap.size→(∀ i B n v,E i = some (B,n,v)→(As S i).box.owned = true→Ax (β i)≠some b)→w'.heap[b]? = w.heap[b]?)
 (hown:∀ i B n v b,E i = some (B,n,v)→B.owned = true→Ax v = some b→(∃ j B' n' v',E j = some (B',n',v')∧(As S j).box.owned = true∧Ax (β j) = some b)∨w.heap.size≤b)
 (hinj:∀ i j B n v B' n' v' b,E i = some (B,n,v)→E j = some (B',n',v')→B.owned = true→B'.owned = true→Ax v = some b→Ax v' = some b→i = j)
 (hbox:Ck (OS β x S) (OS β' x S') w w'→(∀ i,AW S i < AW S' i∨(AW S' i = AW S i∧β' i = β i))→∀ i B n v,E i = some (B,n,v)→MC β' (AW S') (OS β' x S') w' i B) :
 AB x G β' S' a w':=by
 have hO:∀ b,b < w.heap.size→OS β' x S' b→OS β x S b:=by
  intro b hb h'
  rcases h' with h' | h' | ⟨i,h1,h2⟩
  ·exact .inl h'
  ·exact .inr (.inl h')
  ·rw [hS] at h1
   rw [hβ] at h2
   cases hE:E i with
   | none=>rw [hE] at h1 h2; exact .inr (.inr ⟨i,h1,h2⟩)
   | some q =>
     obtain ⟨B,n,v⟩:=q
     rw [hE] at h1 h2
     rcases hown i B n v b hE h1 h2 with ⟨j,B',n',v',_,h4,h5⟩ | h3
     ·exact .inr (.inr ⟨j,h4,h5⟩)
     ·omega
 have hk:Ck (OS β x S) (OS β' x S') w w':=⟨hs,hO,fun b hb hno=>hkeep b hb fun i B n v _ ho hbk=>hno (.inr (.inr ⟨i,ho,hbk⟩))⟩
 have hvv:∀ i,AW S i < AW S' i∨(AW S' i = AW S i∧β' i = β i):=by
  intro i
  simp only [AW,hS,hβ]
  cases hE:E i with
  | none=>exact .inr ⟨rfl,rfl⟩
  | some q=>obtain ⟨B,n,v⟩:=q; exact (hver i B n v hE).imp (fun h=>h) (fun h=>⟨h.1,h.2.1⟩)
 have hav:∀ t,(As S' t).av = (As S t).av:=by intro t; rw [hS]; cases E t <;> rfl
 have stay:∀ i b,E i = none→(As S i).box.owned = true→Ax (β i) = some b→∀ j B n v,E j = some (B,n,v)→(As S j).box.owned = true→Ax (β j)≠some b:=by
  intro i b hE ho hb j B n v hj ho' hb'
  have:=h.inj i j b ho ho' hb hb'
  subst this
  rw [hE] at hj; cases hj
 refine ⟨by rw [hlen]; exact h.len,h.df,h.below.trans hb,Nat.le_trans h.hbase hs,h.o₀,fun b hb=>⟨(h.rs b hb).1,Nat.lt_of_lt_of_le (h.rs b hb).2 hs⟩,?_,?_,?_,?_,?_,?_⟩
 ·intro t u hu
  rw [hav]
  exact (h.slots t u hu).mono hk hvv (fun _ _=>rfl)
 ·intro i
  cases hE:E i with
  | some q=>obtain ⟨B,n,v⟩:=q; rw [hS,hE]; exact hbox hk hvv i B n v hE
  | none =>
    have:As S' i = As S i:=by rw [hS,hE]
    rw [this]
    exact (h.boxes i).mono hk hvv (by rw [hβ,hE]) fun b hb ho hbk=>hkeep b hb fun j B n v hj ho'=>stay i b hE ho hbk j B n v hj ho'
 ·intro i b hi hbi
  rw [hS] at hi
  rw [hβ] at hbi
  cases hE:E i with
  | none=>rw [hE] at hi hbi; exact h.mine i b hi hbi
  | some q =>
    obtain ⟨B,n,v⟩:=q
    rw [hE] at hi hbi
    rcases hown i B n v b hE hi hbi with ⟨j,B',n',v',_,h4,h5⟩ | h3
    ·exact h.mine j b h4 h5
    ·exact ⟨.inl (Nat.le_trans h.hbase h3),fun hr=>by have:=(h.rs b hr).2; omega⟩
 ·intro i j b hi hj hbi hbj
  rw [hS] at hi hj
  rw [hβ] at hbi hbj
  have mixed:∀ i j B n v,E i = some (B,n,v)→E j = none→B.owned = true→Ax v = some b→(As S j).box.owned = true→Ax (β j) = some b→False:=by
   intro i j B n v hEi hEj ho hb ho' hb'
   rcases hown i B n v b hEi ho hb with ⟨k,B',n',v',hk',h4,h5⟩ | h3
   ·exact stay j b hEj ho' hb' k B' n' v' hk' h4 h5
   ·have:=h.blk ho' hb'; omega
  cases hEi:E i with
  | none =>
    rw [hEi] at hi hbi
    cases hEj:E j with
    | none=>rw [hEj] at hj hbj; exact h.inj i j b hi hj hbi hbj
    | some q=>obtain ⟨B,n,v⟩:=q; rw [hEj] at hj hbj; exact (mixed j i B n v hEj hEi hj hbj hi hbi).elim
  | some p =>
    obtain ⟨B,n,v⟩:=p
    rw [hEi] at hi hbi
    cases hEj:E j with
    | none=>rw [hEj] at hj hbj; exact (mixed i j B n v hEi hEj hi hbi hj hbj).elim
    | some q=>obtain ⟨B',n',v'⟩:=q; rw [hEj] at hj hbj; exact hinj i j B n v B' n' v' b hEi hEj hi hj hbi hbj
 ·intro t u hu
  rw [hav] at hu
  exact h.gds t u hu
 ·intro i h0 hne
  rw [hS] at h0 hne
  rw [hβ]
  cases hE:E i with
  | none=>rw [hE] at h0 hne; exact h.ini i h0 hne
  | some q =>
    obtain ⟨B,n,v⟩:=q
    rw [hE] at h0 hne
    rcases hver i B n v hE with h1 | ⟨h1,h2,h3⟩
    ·simp only at h0; omega
    ·simp only
     rw [h2]
     exact h.ini i (by rw [← h1]; exact h0) h3
end sim
end Go.Abs
