/- The abstract machine: operands; what is given up. -/
import Derived.Test.YtejfnieiaecpkaaGreatDoorAbsSim
import Derived.Laws.Cells
import Derived.Laws.Build
set_option linter.unusedVariables false
set_option linter.unusedSimpArgs false
namespace Go.Abs
open Go.RowKit (Below)
theorem Ls:∀ (n:Nat) (K:Nat→Prop),FA n K = K n
 | 0,_=>rfl
 | n + 1,K=>by rw [FA,Ls n]
theorem BG {α:Type}:∀ (l:List α) (K:List α→Prop),Cy l K = K l
 | [],_=>rfl
 | x :: r,K=>by rw [Cy,BG r]
theorem O7:∀ (l:List D) (K:List C→Prop),Xq l K = K (l.map .d)
 | [],_=>rfl
 | x :: r,K=>by rw [Xq,O7 r]; rfl
def norm1:D→D
 | .nil s=>.list s []
 | x=>x
def norm:D→D
 | .nil s=>.list s []
 | .agg xs=>.agg (xs.map norm1)
 | x=>x
theorem QR:∀ (l:List D) (K:List D→Prop),Ot l K = K (l.map norm1)
 | [],_=>rfl
 | x :: r,K=>by
   rw [Ot,QR r]
   cases x <;> rfl
theorem RN (x:D) (K:D→Prop):Te x K = K (norm x):=by
 cases x <;> simp only [Te,QR,norm]
theorem P8 (x:D) (h:x.one = true):(norm1 x).one = true:=by cases x <;> first | rfl | exact h
section
variable {P:Program} {x:Cx} {G:Nat→Prop} {β:Nat→Value} {S:AS} {a:Act} {w:World}
theorem A9.norm1 {O:Nat→Prop} {v:Value} {y:D} (h:A9 O w v y):A9 O w v (norm1 y):=by
 cases y <;> try exact h
 case nil s=>cases h; exact .emp _ _ _
theorem A9.norm {O:Nat→Prop} {v:Value} {y:D} (h:A9 O w v y):A9 O w v (norm y):=by
 cases y <;> try exact h
 case nil s=>cases h; exact .emp _ _ _
 case agg xs =>
  cases h with
  | agg vs _ hl h1 h =>
    refine .agg vs _ (by simpa using hl) (fun y hy=>?_) (fun i v y hv hy=>?_)
    ·obtain ⟨z,hz,rfl⟩:=List.mem_map.1 hy
     exact P8 z (h1 z hz)
    ·simp only [List.getElem?_map] at hy
     cases hz:xs[i]? with
     | none=>simp [hz] at hy
     | some z=>simp [hz] at hy; subst hy; exact (h i v z hv hz).norm1
theorem BC.norm {O:Nat→Prop} {vs:List Value} {ys:List D} (h:BC O w vs ys):BC O w vs (ys.map norm1):=by
 refine ⟨by simp [h.1],fun j v y hv hy=>?_⟩
 simp only [List.getElem?_map] at hy
 cases hz:ys[j]? with
 | none=>simp [hz] at hy
 | some z=>simp [hz] at hy; subst hy; exact ⟨(h.2 j v z hv hz).1.norm1,P8 z (h.2 j v z hv hz).2⟩
def NN (β:Nat→Value) (O:Nat→Prop) (S:AS) (w:World) (v:Value):RV→Prop
 | .any=>True
 | .bot=>False
 | .d x=>A9 O w v x
 | .lim sz xs=>A9 O w v (.list sz xs)∧PR v = xs.length
 | .vptr id n o cs=>(As S id).box = .var cs∧(As S id).ver = n∧∃ b,β id = .pointer (some ⟨b,0,none⟩)∧v = .pointer (some ⟨b,o,none⟩)
 | .row id n sz e xs=>(As S id).box = .row sz e xs∧(As S id).ver = n∧v = β id
 | .eptr id n sz e xs i o=>(As S id).box = .row sz e xs∧(As S id).ver = n∧∃ b m cap,β id = .slice (some ⟨b,0,none⟩) m cap∧v = .pointer (some ⟨b,i * sz + o,none⟩)
 | .tup xs=>∃ vs:Array Value,v = .tuple vs∧vs.size = xs.length∧∀ (i:Nat) u x,vs[i]? = some u→xs[i]? = some x→match x with
  | .d y=>A9 O w u y
  | c=>Ch β (AW S) O w u c
 | .mp id n es=>(As S id).box = .map es∧(As S id).ver = n∧v = β id
 | .cagg xs=>∃ vs:Array Value,v = .agg vs∧vs.size = xs.length∧∀ (i:Nat) u x,vs[i]? = some u→xs[i]? = some x→Ch β (AW S) O w u x∧u.oneCell' = true
 | .cfun f xs=>∃ vs:Array Value,v = .func (.func f) #[] vs∧vs.size = xs.length∧∀ (i:Nat) u x,vs[i]? = some u→xs[i]? = some x→Ch β (AW S) O w u x∧u.oneCell' = true
 | .clo f xs k id n rid rn=>(∃ vs:Array Value,v = .func (.func f) #[] vs∧vs.size = xs.length∧∀ (i:Nat) u x,vs[i]? = some u→xs[i]? = some x→Ch β (AW S) O w u x∧u.oneCell' = true) ∧
  YC xs = some (k,id,n)∧(As S id).box = .var [.sl rid rn]∧(As S id).ver = n
theorem Od {id:Nat} {B:Ct} (h:(As S id).box = B) (hB:B≠.none):id < S.length:=by
 rcases Nat.lt_or_ge id S.length with h' | h'
 ·exact h'
 ·rw [KZ S id h'] at h; exact absurd h.symm hB
theorem A9.drop {O:Nat→Prop} {b off:Nat} {cs:List D} (h:A9 O w (.pointer (some ⟨b,off,none⟩)) (.ptr cs)) (n:Nat):A9 O w (.pointer (some ⟨b,off + n,none⟩)) (.ptr (cs.drop n)):=by
 cases h with
 | ptr _ _ _ c hb hO h1 hcell hr =>
   have hne:cs.drop n≠[]→cs≠[]:=by intro h e; subst e; simp at h
   refine .ptr b (off + n) _ (fun j=>c (n + j)) (fun h=>hb (hne h)) (fun h=>hO (hne h)) (fun y hy=>h1 y (List.mem_of_mem_drop hy)) (fun j y hy=>?_) (fun j y hy=>?_)
   ·simp only [List.getElem?_drop] at hy
    have:=hcell (n + j) y hy
    rwa [← Nat.add_assoc] at this
   ·simp only [List.getElem?_drop] at hy
    exact hr (n + j) y hy
theorem We (h:AB x G β S a w) {v:Value} {y:AV} (hx:J6 β (AW S) (OS β x S) w a.tmps v y):NN β (OS β x S) S w v (res S y):=by
 cases y with
 | any=>trivial
 | bot=>exact hx
 | d x=>exact hx
 | lim sz xs=>exact hx
 | ptr id n o =>
   simp only [J6,AW] at hx
   have hb:=h.boxes id
   simp only [res]
   generalize hs:As S id = s at hx hb
   obtain ⟨av,B,m⟩:=s
   cases B with
   | none=>trivial
   | row sz e xs=>trivial
   | frow sz xs=>trivial
   | map es=>trivial
   | var cs =>
     simp only at hx ⊢
     split
     ·rename_i e
      exact ⟨by rw [hs],by rw [hs]; exact e.symm,hx.2 e⟩
     ·trivial
   | fvar cs =>
     simp only at hx ⊢
     split
     ·rename_i e
      obtain ⟨b,h1,h2⟩:=hx.2 e
      obtain ⟨h3,_⟩:=hb
      rw [h1] at h3
      have:=h3.drop o
      rw [Nat.zero_add] at this
      show A9 _ _ _ _
      rw [h2]; exact this
     ·trivial
 | sl id n =>
   simp only [J6,AW] at hx
   have hb:=h.boxes id
   simp only [res]
   generalize hs:As S id = s at hx hb
   obtain ⟨av,B,m⟩:=s
   cases B with
   | none=>trivial
   | var cs=>trivial
   | fvar cs=>trivial
   | map es =>
     simp only at hx ⊢
     split
     ·rename_i e
      exact ⟨by rw [hs],by rw [hs]; exact e.symm,hx.2 e⟩
     ·trivial
   | row sz e xs =>
     simp only at hx ⊢
     split
     ·rename_i e
      exact ⟨by rw [hs],by rw [hs]; exact e.symm,hx.2 e⟩
     ·trivial
   | frow sz xs =>
     simp only at hx ⊢
     split
     ·rename_i e
      show A9 _ _ _ _
      rw [hx.2 e]; exact hb
     ·trivial
 | eptr id n sz i o =>
   simp only [J6,AW] at hx
   simp only [res]
   generalize hs:As S id = s at hx
   obtain ⟨av,B,m⟩:=s
   cases B with
   | none=>trivial
   | var cs=>trivial
   | fvar cs=>trivial
   | frow sz xs=>trivial
   | map es=>trivial
   | row sz' e xs =>
     simp only at hx ⊢
     split
     ·rename_i e
      obtain ⟨e,rfl⟩:=e
      exact ⟨by rw [hs],by rw [hs]; exact e.symm,hx.2 e⟩
     ·trivial
 | tup xs=>exact hx
 | own sz e xs=>trivial
 | optr cs=>trivial
 | under t want x=>trivial
 | cc k xs =>
   cases k with
   | none=>exact hx
   | some f =>
     simp only [res]
     split
     ·rename_i j id n hat
      split
      ·rename_i av rid rn m hs
       split
       ·rename_i hnm
        exact ⟨hx,hat,by rw [hs],by rw [hs]; exact hnm.symm⟩
       ·exact hx
      ·exact hx
     ·exact hx
def BN (g:Option (Nat × Bool)) (a:Act):Prop:=∀ t want,g = some (t,want)→a.tmps[t]? = some (.bool want)
theorem YI (v:Value) {O:Nat→Prop} {n:Nat→Nat} {tm:Array Value}:J6 β n O w tm v (ac v):=by
 unfold ac
 split
 ·exact .int _ _
 ·exact .bool _
 ·exact .str _
 ·exact .nil _ _
 ·trivial
theorem ZT {g:Option (Nat × Bool)} (hg:BN g a) {O:Nat→Prop} {n:Nat→Nat} {v:Value} {y:AV} (h:J6 β n O w a.tmps v y):J6 β n O w a.tmps v (eU g y):=by
 cases y <;> try exact h
 case under t want x =>
  simp only [eU]
  cases g with
  | none=>trivial
  | some p =>
    obtain ⟨t',w'⟩:=p
    simp only
    split
    ·rename_i e
     obtain ⟨rfl,rfl⟩:=e
     exact h.1 (hg t want rfl)
    ·trivial
theorem ρ_sound (h:AB x G β S a w) {g:Option (Nat × Bool)} (hg:BN g a) (y:Operand):NN β (OS β x S) S w (a.eval y) (ρOf S g y):=by
 refine We h (ZT hg ?_)
 cases y with
 | tmp t =>
   simp only [ev,Act.eval]
   by_cases ht:t < a.tmps.size
   ·have:=h.slots t a.tmps[t] (by simp [ht])
    simpa [Array.getD,ht] using this
   ·have e:As S t = bS:=KZ S t (by rw [← h.len]; exact Nat.le_of_not_lt ht)
    rw [e]
    trivial
 | const v=>exact YI v
 | global q =>
   simp only [ev]
   cases hq:de q with
   | none=>trivial
   | some cs=>exact h.glob q cs hq
 | func f=>exact .fn f #[] [] rfl (fun _ h=>by cases h) (fun i v y h=>by simp at h)
theorem σ_sound (h:AB x G β S a w) {v:Value} {id n:Nat} (hc:Ch β (AW S) (OS β x S) w v (.sl id n)):NN β (OS β x S) S w v (σOf S id n) :=
 We (y:=.sl id n) h hc
def Ct.isF:Ct→Bool
 | .frow _ _ | .fvar _=>true
 | _=>false
theorem Ct.isF_ne {B:Ct} (h:B.isF = true):B≠.none:=by cases B <;> simp [Ct.isF] at h ⊢
theorem BH (b c:Bx):∀ S,Bo (b++c) S = Bo c (Bo b S):=by
 induction b with
 | nil=>intro S; rfl
 | cons x r ih=>intro S; exact ih _
theorem Cr:∀ (b:Bx) (S:AS),(Bo b S).length = S.length
 | [],_=>rfl
 | x :: r,S=>by simp only [Bo]; rw [Cr r,C9]
theorem Nw {sz:Nat}:∀ (xs:List D),(∀ x∈xs,x.cells.length = sz)→∀ (i:Nat) x (j:Nat) y,xs[i]? = some x→x.cells[j]? = some y→(xs.flatMap D.cells)[i * sz + j]? = some y
 | [],_,i,x,j,y,hx,_=>by simp at hx
 | z :: r,hs,0,x,j,y,hx,hy=>by
   simp at hx
   subst hx
   simp [List.flatMap_cons,List.getElem?_append_left (AI hy),hy]
 | z :: r,hs,i + 1,x,j,y,hx,hy=>by
   have hz:z.cells.length = sz:=hs z (by simp)
   have ih:=Nw r (fun x hx=>hs x (by simp [hx])) i x j y (by simpa using hx) hy
   rw [List.flatMap_cons,List.getElem?_append_right (by rw [hz,Nat.add_mul]; omega),← ih]
   congr 1
   rw [hz,Nat.add_mul]
   omega
theorem DM {sz:Nat}:∀ (xs:List D),(∀ x∈xs,x.cells.length = sz)→(xs.flatMap D.cells).length = xs.length * sz
 | [],_=>by simp
 | z :: r,hs=>by
   rw [List.flatMap_cons,List.length_append,hs z (by simp),DM r (fun x hx=>hs x (by simp [hx])),List.length_cons,Nat.add_mul]
   omega
theorem Ur {O:Nat→Prop} {w:World} {e:TypeId} {sz:Nat} {v:Value} {xs:List D} {vals:List Value} (hsz:0 < sz)
 (hs:∀ x∈xs,x.cells.length = sz) (hr:Ew w e sz v xs.length vals) (hl:BC O w vals (xs.flatMap D.cells)) (hO:∀ b,Ax v = some b→¬ O b) :
 A9 O w v (.list sz xs):=by
 by_cases hx:xs = []
 ·subst hx
  rcases hr with ⟨_,⟨hv,_⟩ | ⟨g,cap,cur,hv,_⟩⟩ | ⟨_,_,ad,hv⟩ <;> (rw [hv]; exact .emp _ _ _)
 ·have hpos:0 < xs.length:=List.length_pos_iff.2 hx
  rcases hr with ⟨hlen,⟨hv,h0⟩ | ⟨g,cap,cur,hv,hbg,hh,hn,hm,hcs,ht⟩⟩ | ⟨h0,_⟩
  ·omega
  ·have hcap:cap≠0:=by omega
   have hlt:=GH hh
   subst hv
   have key:∀ (i:Nat) x (j:Nat) y,xs[i]? = some x→x.cells[j]? = some y→∃ u,vals[i * sz + j]? = some u∧w.cell? ⟨g,0 + i * sz + j,none⟩ = some u∧A9 O w u y∧y.one = true:=by
    intro i x j y hx hy
    have hf:=Nw xs hs i x j y hx hy
    have hlt:i * sz + j < vals.length:=by rw [hl.1]; exact AI hf
    have hu:vals[i * sz + j]? = some vals[i * sz + j]:=List.getElem?_eq_getElem hlt
    refine ⟨_,hu,?_,hl.2 _ _ _ hu hf⟩
    rw [← hu,← ht,List.getElem?_take_of_lt (by rw [← hlen]; exact hlt)]
    simp [World.cell?,hh]
   refine .list g 0 cap sz xs (fun i j=>vals.getD (i * sz + j) undef) hx hlt (hO g (by simp [Ax,hcap])) hn hs ?_ ?_ ?_
   ·intro x hx y hy
    obtain ⟨i,hi⟩:=List.mem_iff_getElem?.1 hx
    obtain ⟨j,hj⟩:=List.mem_iff_getElem?.1 hy
    obtain ⟨u,_,_,_,h1⟩:=key i x j y hi hj
    exact h1
   ·intro i x j y hx hy
    obtain ⟨u,h1,h2,h3,_⟩:=key i x j y hx hy
    rw [h2]; simp [List.getD,h1]
   ·intro i x j y hx hy
    obtain ⟨u,h1,h2,h3,_⟩:=key i x j y hx hy
    simpa [List.getD,h1] using h3
  ·omega
theorem dl {O:Nat→Prop} {w:World} {b:Nat} {vals:Array Value} {T:TypeId} {cs:List D} (hh:w.heap[b]? = some (.cells vals T (0,0))) (hl:BC O w vals.toList cs) (hO:¬ O b) (o:Nat) :
 A9 O w (.pointer (some ⟨b,o,none⟩)) (.ptr (cs.drop o)):=by
 have base:A9 O w (.pointer (some ⟨b,0,none⟩)) (.ptr cs):=by
  refine .ptr b 0 cs (fun j=>vals.toList.getD j undef) (fun _=>GH hh) (fun _=>hO) (fun y hy=>?_) (fun j y hy=>?_) (fun j y hy=>?_)
  ·obtain ⟨j,hj⟩:=List.mem_iff_getElem?.1 hy
   have hlt:j < vals.toList.length:=by rw [hl.1]; exact AI hj
   exact (hl.2 j _ y (List.getElem?_eq_getElem hlt) hj).2
  ·have hlt:j < vals.toList.length:=by rw [hl.1]; exact AI hy
   have hlt':j < vals.size:=by simpa using hlt
   simp [World.cell?,hh,hlt']
  ·have hlt:j < vals.toList.length:=by rw [hl.1]; exact AI hy
   have:=(hl.2 j _ y (List.getElem?_eq_getElem hlt) hy).1
   have hlt':j < vals.size:=by simpa using hlt
   simpa [hlt'] using this
 have:=base.drop o
 rwa [Nat.zero_add] at this
theorem Ps {B:Ct} {n:Nat}:∀ (S:AS) (id:Nat),(As S id).box = B→(As S id).ver = n→AR S id B n = S
 | [],_,_,_=>rfl
 | ⟨_,_,_⟩ :: _,0,h1,h2=>by simp only [As] at h1 h2; subst h1; subst h2; rfl
 | s :: r,id + 1,h1,h2=>by rw [AR,Ps r id h1 h2]
theorem YK (h:AB x G β S a w) {id n sz:Nat} {e:TypeId} {xs:List D} (hb:(As S id).box = .row sz e xs) (hn:(As S id).ver = n) :
 AB x G β (AR S id (.frow sz xs) n) a w:=by
 have hid:=Od hb (by simp)
 have hno:∀ b,Ax (β id) = some b→¬ OS β x (AR S id (.frow sz xs) n) b:=by
  intro b hbb h'
  have hm:=h.mine id b (by rw [hb]; rfl) hbb
  rcases h' with h' | h' | ⟨i,h1,h2⟩
  ·have:=h.o₀ b h'; rcases hm.1 with h3 | h3; omega; exact this.2 h3
  ·exact hm.2 h'
  ·rw [BI] at h1
   split at h1
   ·simp [Ct.owned] at h1
   ·rename_i e; exact e ⟨h.inj i id b h1 (by rw [hb]; rfl) h2 hbb,hid⟩
 have hr:=h.rebox (R':=x.R) (id:=id) (B:=.frow sz xs) (v:=β id) (n:=n) (w':=w) (fun _ h=>h) hid (.inr ⟨hn.symm,rfl,by rw [hb]; simp⟩) (Nat.le_refl _) (Br.refl _ _ _) (fun _ _ _=>rfl) (by simp [Ct.owned])
  (fun k hv=>by
   rw [Gk] at k ⊢
   have hbx:=h.boxes id
   rw [hb] at hbx
   obtain ⟨h1,h2,vals,h5,h6⟩:=hbx
   exact Ur h1 h2 h5 (h6.mono k) hno)
 rw [Gk] at hr
 exact hr
theorem YF (h:AB x G β S a w) {id n:Nat} {cs:List C} {ds:List D} (hb:(As S id).box = .var cs) (hn:(As S id).ver = n)
 (hd:∀ b vals T,β id = .pointer (some ⟨b,0,none⟩)→w.heap[b]? = some (.cells vals T (0,0))→vals.size = cs.length→(∀ (j:Nat) v c,vals[j]? = some v→cs[j]? = some c→Ch β (AW S) (OS β x S) w v c)→BC (OS β x S) w vals.toList ds) :
 AB x G β (AR S id (.fvar ds) n) a w:=by
 have hid:=Od hb (by simp)
 have hno:∀ b,Ax (β id) = some b→¬ OS β x (AR S id (.fvar ds) n) b:=by
  intro b hbb h'
  have hm:=h.mine id b (by rw [hb]; rfl) hbb
  rcases h' with h' | h' | ⟨i,h1,h2⟩
  ·have:=h.o₀ b h'; rcases hm.1 with h3 | h3; omega; exact this.2 h3
  ·exact hm.2 h'
  ·rw [BI] at h1
   split at h1
   ·simp [Ct.owned] at h1
   ·rename_i e; exact e ⟨h.inj i id b h1 (by rw [hb]; rfl) h2 hbb,hid⟩
 have hr:=h.rebox (R':=x.R) (id:=id) (B:=.fvar ds) (v:=β id) (n:=n) (w':=w) (fun _ h=>h) hid (.inr ⟨hn.symm,rfl,by rw [hb]; simp⟩) (Nat.le_refl _) (Br.refl _ _ _) (fun _ _ _=>rfl) (by simp [Ct.owned])
  (fun k hv=>by
   rw [Gk] at k ⊢
   have hbx:=h.boxes id
   rw [hb] at hbx
   obtain ⟨b,vals,T,h5,h6,h7,h8⟩:=hbx
   refine ⟨?_,b,h5⟩
   rw [h5]
   have:=dl h6 ((hd b vals T h5 h6 h7 h8).mono k) (hno b (by rw [h5]; rfl)) 0
   simpa using this)
 rw [Gk] at hr
 exact hr
end
end Go.Abs
