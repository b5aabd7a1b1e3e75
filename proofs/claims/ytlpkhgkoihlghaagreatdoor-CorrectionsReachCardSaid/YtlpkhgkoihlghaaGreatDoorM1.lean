/- M1 -/
import Derived.Orders
import Derived.Below
import Derived.Laws.AppendOwn
import Derived.Laws.Cells
import Derived.Laws.Build
namespace Go.Proofs.YtlpkhgkoihlghaaGreatDoor.P
def idx {α:Type} (l:List α) (i:Int):Option α:=if 0≤i then l[i.toNat]? else none
def rm (n m:Nat):Bool:=decide (n + m≤137438953472)
def iter {σ ρ:Type} (body:(σ→Option ρ)→σ→Option ρ):Nat→σ→Option ρ
 | 0,_=>none
 | n + 1,s=>body (iter body n) s
def AI:Nat:=36893488147419103232
theorem Yi {α ρ:Type} {m:Option α} {G:α→Option ρ} {R:ρ} (h:m.bind G = some R):∃ x,m = some x∧G x = some R:=by
 cases m with
 | none=>cases h
 | some x=>exact ⟨x,rfl,h⟩
theorem dw {ρ:Type} {b:Bool} {X:Option ρ} {R:ρ} (h:(bif b then X else none) = some R):b = true∧X = some R:=by
 cases b with
 | true=>exact ⟨rfl,h⟩
 | false=>cases h
theorem UW {α:Type} {l:List α} {i:Int} {x:α} (h:idx l i = some x):0≤i∧i.toNat < l.length∧l[i.toNat]? = some x:=by
 unfold idx at h
 split at h
 ·rename_i h0
  exact ⟨h0,(List.getElem?_eq_some_iff.1 h).1,h⟩
 ·cases h
theorem fp {σ ρ:Type} {body:(σ→Option ρ)→σ→Option ρ} {n:Nat} {s:σ} {R:ρ} (h:iter body n s = some R) :
 ∃ Φ:Nat→σ→Option ρ,(∀ k s,Φ k s = some R→∃ k',k = k' + 1∧body (Φ k') s = some R)∧Φ n s = some R:=by
 refine ⟨iter body,fun k s h=>?_,h⟩
 cases k with
 | zero=>cases h
 | succ k=>exact ⟨k,rfl,h⟩
theorem Ag {α ρ:Type} {m:Option α} {G:α→Option ρ} {R:ρ} {p:Prop} (h:m.bind G = some R) (k:∀ x,m = some x→G x = some R→p):p:=by
 obtain ⟨x,h1,h2⟩:=Yi h
 exact k x h1 h2
theorem C4 {ρ:Type} {b:Bool} {X:Option ρ} {R:ρ} {p:Prop} (h:(bif b then X else none) = some R) (k:b = true→X = some R→p):p:=k (dw h).1 (dw h).2
theorem A7 {σ ρ:Type} {body:(σ→Option ρ)→σ→Option ρ} {n:Nat} {s:σ} {R:ρ} {p:Prop} (h:iter body n s = some R)
 (k:∀ Φ:Nat→σ→Option ρ,(∀ k s,Φ k s = some R→∃ k',k = k' + 1∧body (Φ k') s = some R)→Φ n s = some R→p):p:=by
 obtain ⟨Φ,h1,h2⟩:=fp h
 exact k Φ h1 h2
end Go.Proofs.YtlpkhgkoihlghaaGreatDoor.P
namespace Go.Abs
def dS (_:Nat):Option (List Int):=none
end Go.Abs
set_option linter.unusedVariables false
set_option linter.unusedSimpArgs false
namespace Go.Abs
inductive D where
 | bool (b:Bool)
 | int (k:IntKind) (n:Int)
 | str (s:ByteArray)
 | fn (f:FuncId) (caps:List D)
 | ptr (cs:List D)
 | nil (sz:Nat)
 | list (sz:Nat) (xs:List D)
 | agg (xs:List D)
def dx (g:Nat):Option (List D):=match dS g with
 | some l=>some (l.map fun n=>D.int .u8 n)
 | none=>none
def D.cells:D→List D
 | .agg xs=>xs
 | x=>[x]
def D.one:D→Bool
 | .agg _=>false
 | _=>true
def D.bare:D→Bool
 | .bool _ | .int _ _ | .str _ | .nil _ | .fn _ []=>true
 | _=>false
inductive C where
 | d (x:D)
 | sl (id ver:Nat)
 | own (sz:Nat) (e:TypeId) (xs:List D)
inductive AV where
 | any
 | bot
 | d (x:D)
 | lim (sz:Nat) (xs:List D)
 | ptr (id ver off:Nat)
 | sl (id ver:Nat)
 | eptr (id ver sz i off:Nat)
 | tup (xs:List C)
 | own (sz:Nat) (e:TypeId) (xs:List D)
 | optr (cs:List D)
 | under (t:Nat) (want:Bool) (x:AV)
 | cc (k:Option FuncId) (xs:List C)
inductive BJ where
 | none
 | var (cs:List C)
 | row (sz:Nat) (e:TypeId) (xs:List D)
 | fvar (cs:List D)
 | frow (sz:Nat) (xs:List D)
 | map (es:List (D × D))
structure Sl where
 av:AV
 box:BJ
 ver:Nat
abbrev AS:=List Sl
def A1:Value→Option Nat
 | .pointer (some a)=>some a.block
 | .slice (some a) _ cap=>if cap = 0 then none else some a.block
 | .map (some b)=>some b
 | .agg vs=>match vs.back? with
   | some (.slice (some a) _ cap)=>if cap = 0 then none else some a.block
   | _=>none
 | _=>none
def NH:Value→Value
 | .agg vs=>match vs.back? with
   | some u=>u
   | none=>undef
 | v=>v
def Qu:Value→Nat
 | .slice _ _ c=>c
 | _=>0
inductive AB (O:Nat→Prop) (w:World):Value→D→Prop
 | bool (b:Bool):AB O w (.bool b) (.bool b)
 | int (k:IntKind) (n:Int):AB O w (.int k n) (.int k n)
 | str (s:ByteArray):AB O w (.string s) (.str s)
 | fn (f:FuncId) (vs:Array Value) (xs:List D) (hl:vs.size = xs.length) (h1:∀ x∈xs,x.one = true)
  (h:∀ (i:Nat) v x,vs[i]? = some v→xs[i]? = some x→AB O w v x):AB O w (.func (.func f) #[] vs) (.fn f xs)
 | ptr (b off:Nat) (cs:List D) (c:Nat→Value) (hb:cs≠[]→b < w.heap.size) (hO:cs≠[]→¬ O b) (h1:∀ x∈cs,x.one = true)
  (hcell:∀ (j:Nat) y,cs[j]? = some y→w.cell? ⟨b,off + j,none⟩ = some (c j))
  (h:∀ (j:Nat) y,cs[j]? = some y→AB O w (c j) y):AB O w (.pointer (some ⟨b,off,none⟩)) (.ptr cs)
 | agg (vs:Array Value) (xs:List D) (hl:vs.size = xs.length) (h1:∀ x∈xs,x.one = true)
  (h:∀ (i:Nat) v x,vs[i]? = some v→xs[i]? = some x→AB O w v x):AB O w (.agg vs) (.agg xs)
 | nil (a:Option Addr) (sz:Nat):AB O w (.slice a 0 0) (.nil sz)
 | emp (a:Option Addr) (cap sz:Nat):AB O w (.slice a 0 cap) (.list sz [])
 | list (b off cap sz:Nat) (xs:List D) (c:Nat→Nat→Value) (hne:xs≠[]) (hb:b < w.heap.size) (hO:¬ O b) (hcap:xs.length≤cap) (hsz:∀ x∈xs,x.cells.length = sz)
  (h1:∀ x∈xs,∀ y∈x.cells,y.one = true)
  (hcell:∀ (i:Nat) x (j:Nat) y,xs[i]? = some x→x.cells[j]? = some y→w.cell? ⟨b,off + i * sz + j,none⟩ = some (c i j))
  (h:∀ (i:Nat) x (j:Nat) y,xs[i]? = some x→x.cells[j]? = some y→AB O w (c i j) y) :
  AB O w (.slice (some ⟨b,off,none⟩) xs.length cap) (.list sz xs)
def TT (O:Nat→Prop) (w:World):Prop:=∀ g cs,dx g = some cs→AB O w (.pointer (some ⟨g,0,none⟩)) (.ptr cs)
def Bo (O:Nat→Prop) (w:World) (vs:List Value) (ys:List D):Prop :=
 vs.length = ys.length∧∀ (j:Nat) v y,vs[j]? = some v→ys[j]? = some y→AB O w v y∧y.one = true
def BK (β:Nat→Value) (ver:Nat→Nat) (O:Nat→Prop) (w:World) (v:Value):C→Prop
 | .d x=>AB O w v x∧x.one = true
 | .sl id n=>n≤ver id∧(n = ver id→v = β id)
 | .own _ _ _=>False
def fV (k:Option FuncId) (vs:Array Value):Value :=
 match k with
 | none=>.agg vs
 | some f=>.func (.func f) #[] vs
def IZ (β:Nat→Value) (ver:Nat→Nat) (O:Nat→Prop) (w:World) (tm:Array Value) (v:Value):AV→Prop
 | .any=>True
 | .bot=>False
 | .d x=>AB O w v x
 | .lim sz xs=>AB O w v (.list sz xs)∧Qu v = xs.length
 | .ptr id n o=>n≤ver id∧(n = ver id→∃ b,β id = .pointer (some ⟨b,0,none⟩)∧v = .pointer (some ⟨b,o,none⟩))
 | .sl id n=>n≤ver id∧(n = ver id→v = β id)
 | .eptr id n sz i o=>n≤ver id∧(n = ver id→∃ b m cap,β id = .slice (some ⟨b,0,none⟩) m cap∧v = .pointer (some ⟨b,i * sz + o,none⟩))
 | .tup xs=>∃ vs:Array Value,v = .tuple vs∧vs.size = xs.length∧∀ (i:Nat) u x,vs[i]? = some u→xs[i]? = some x→match x with
  | .d y=>AB O w u y
  | c=>BK β ver O w u c
 | .own _ _ _=>False
 | .optr _=>False
 | .under t want x=>(tm[t]? = some (.bool want)→IZ β ver O w tm v x)∧(tm[t]?≠some (.bool want)→v = undef)
 | .cc k xs=>∃ vs:Array Value,v = fV k vs∧vs.size = xs.length∧∀ (i:Nat) u x,vs[i]? = some u→xs[i]? = some x→BK β ver O w u x∧u.oneCell' = true
def Ca (w:World) (e:TypeId) (sz:Nat) (v:Value) (n:Nat) (vals:List Value):Prop :=
 w.ownsRow 0 e sz v n vals∨(n = 0∧vals = []∧∃ a,v = .slice (some a) 0 0)
def Mw (β:Nat→Value) (ver:Nat→Nat) (O:Nat→Prop) (w:World) (id:Nat):BJ→Prop
 | .none=>True
 | .var cs=>∃ b vals T,β id = .pointer (some ⟨b,0,none⟩)∧w.heap[b]? = some (.cells vals T (0,0))∧vals.size = cs.length∧∀ (j:Nat) v c,vals[j]? = some v→cs[j]? = some c→BK β ver O w v c
 | .row sz e xs=>0 < sz∧(∀ x∈xs,x.cells.length = sz)∧∃ vals,Ca w e sz (β id) xs.length vals∧Bo O w vals (xs.flatMap D.cells)
 | .fvar cs=>AB O w (β id) (.ptr cs)∧∃ b,β id = .pointer (some ⟨b,0,none⟩)
 | .frow sz xs=>AB O w (β id) (.list sz xs)
 | .map es=>∃ (b:Nat) (vs:Array MapEntry) (clock:Nat),β id = .map (some b)∧w.heap[b]? = some (.map vs clock)∧vs.size = es.length ∧
  ∀ (i:Nat) (e:MapEntry) (p:D × D),vs[i]? = some e→es[i]? = some p→AB O w e.key p.1∧AB O w e.val p.2∧p.1.bare = true∧p.2.bare = true
def BJ.owned:BJ→Bool
 | .var _ | .row _ _ _ | .map _=>true
 | _=>false
def O2 (O:Nat→Prop) (w:World) (v:Value):AV→Prop
 | .any=>True
 | .d x=>AB O w v x
 | .lim sz xs=>AB O w v (.list sz xs)∧Qu v = xs.length
 | _=>False
def Ux (mine:Nat→Prop) (w:World) (v:Value) (sz:Nat) (e:TypeId) (xs:List D):Prop :=
 0 < sz∧(∀ x∈xs,x.cells.length = sz)∧(∀ b,A1 v = some b→mine b)∧∃ vals,Ca w e sz v xs.length vals∧Bo (fun _=>True) w vals (xs.flatMap D.cells)
def Zm (O:Nat→Prop) (w:World) (v:Value) (cs:List D):Prop :=
 ∃ b vals T,v = .pointer (some ⟨b,0,none⟩)∧w.heap[b]? = some (.cells vals T (0,0))∧Bo O w vals.toList cs
def CC (v:Value) (r:AV) (b:Nat):Prop :=
 match r with
 | .own _ _ _ | .optr _=>A1 v = some b
 | .tup xs=>∃ (vs:Array Value) (i:Nat) (u:Value) (sz:Nat) (e:TypeId) (ys:List D),v = .tuple vs∧vs[i]? = some u∧xs[i]? = some (.own sz e ys)∧A1 u = some b
 | .cc _ _=>A1 v = some b
 | _=>False
def R4 (mine O:Nat→Prop) (w:World) (v:Value):List C→Prop
 | [.own sz e xs]=>0 < sz∧(∀ x∈xs,x.cells.length = sz)∧(∀ b,A1 v = some b→mine b)∧∃ vals,Ca w e sz v xs.length vals∧Bo (fun b=>O b∨A1 v = some b) w vals (xs.flatMap D.cells)
 | _=>False
def C9 (mine O:Nat→Prop) (w:World) (v:Value) (r:AV):Prop :=
 match r with
 | .own sz e xs=>Ux mine w v sz e xs
 | .cc _ l=>R4 mine O w v l
 | .optr cs=>(∀ b,A1 v = some b→mine b)∧Zm (fun b=>O b∨A1 v = some b) w v cs
 | .tup xs=>∃ vs:Array Value,v = .tuple vs∧vs.size = xs.length∧(∀ (i:Nat) u x,vs[i]? = some u→xs[i]? = some x→match x with
  | .d y=>AB (fun b=>O b∨CC v (.tup xs) b) w u y
  | .own sz e ys=>Ux mine w u sz e ys
  | .sl _ _=>False) ∧
  ∀ (i j:Nat) u u' sz e ys sz' e' ys' b,vs[i]? = some u→vs[j]? = some u'→xs[i]? = some (.own sz e ys)→xs[j]? = some (.own sz' e' ys')→A1 u = some b→A1 u' = some b→i = j
 | x=>O2 O w v x
def EH (P:Program) (f:FuncId):Bool :=
 match P.funcs[f]? with
 | some fn=>!(fn.name == "runtime.NumGoroutine") && fn.body.isSome
 | none=>false
def Aw (P:Program) (f:FuncId) (args:List AV) (r:AV):Prop :=
 EH P f = true∧∀ (O:Nat→Prop) (w:World) (vs:Array Value),(∀ b,O b→b < w.heap.size)→TT O w→vs.size = args.length →
  (∀ (i:Nat) v x,vs[i]? = some v→args[i]? = some x→O2 O w v x) →
  Calls P f vs w fun e w'=>∃ v,e = .returned v∧RowKit.Below w.heap.size w w'∧C9 (fun b=>w.heap.size≤b) O w' v r
structure AT (B:Nat) (M:Nat→Prop) (w w':World):Prop where
 os:w'.os = w.os
 tape:w'.tape = w.tape
 output:w'.output = w.output
 size:w.heap.size≤w'.heap.size
 block:∀ k,k < B→¬ M k→w'.heap[k]? = w.heap[k]?
def AV.mut:AV→Bool
 | .own _ _ _ | .optr _ | .cc _ _=>true
 | _=>false
def bI (w:World) (O:Nat→Prop) (v:Value) (l:List C) (vs:Array Value) (u:Value) (ds:List D) (sz:Nat) (e:TypeId) (xs:List D):Prop :=
 l = ds.map .d++[.own sz e xs]∧v = .agg (vs.push u)∧vs.size = ds.length∧0 < sz∧(∀ x∈xs,x.cells.length = sz)∧∃ vals,Ca w e sz u xs.length vals∧Bo O w vals (xs.flatMap D.cells)
def Ye (O:Nat→Prop) (w:World) (v:Value):AV→Prop
 | .own sz e xs=>0 < sz∧(∀ x∈xs,x.cells.length = sz)∧∃ vals,Ca w e sz v xs.length vals∧Bo O w vals (xs.flatMap D.cells)
 | .optr cs=>Zm O w v cs
 | .cc k l=>k = none∧∃ vs u ds sz e xs,bI w O v l vs u ds sz e xs∧Bo O w vs.toList ds
 | x=>O2 O w v x
def DV (vs:Array Value) (args:List AV) (b:Nat):Prop:=∃ (i:Nat) (v:Value) (x:AV),vs[i]? = some v∧args[i]? = some x∧x.mut = true∧A1 v = some b
def N5 (O:Nat→Prop) (w:World) (v:Value) (x:AV):AV→Prop
 | .own sz e ys=>Ye O w v (.own sz e ys)∧∃ xs,x = .own sz e xs
 | .optr cs=>Ye O w v (.optr cs)∧∃ cs',x = .optr cs'∧cs.length = cs'.length
 | .cc _ l=>∃ vs u ds sz e xs,bI w O v l vs u ds sz e xs
 | _=>True
def Ck (P:Program) (f:FuncId) (args outs:List AV) (r:AV):Prop :=
 EH P f = true∧outs.length = args.length∧∀ (O:Nat→Prop) (w:World) (vs:Array Value),(∀ b,O b→b < w.heap.size)→TT (fun b=>O b∨DV vs args b) w→vs.size = args.length→(∀ b,DV vs args b→¬ O b) →
  (∀ (i j:Nat) v v' x y b,vs[i]? = some v→vs[j]? = some v'→args[i]? = some x→args[j]? = some y→x.mut = true→y.mut = true→A1 v = some b→A1 v' = some b→i = j) →
  (∀ (i:Nat) v x,vs[i]? = some v→args[i]? = some x→Ye (fun b=>O b∨DV vs args b) w v x) →
  Calls P f vs w fun e w'=>∃ v,e = .returned v∧AT w.heap.size (DV vs args) w w' ∧
   C9 (fun b=>w.heap.size≤b∨(DV vs args b∧¬ DV vs outs b)) (fun b=>O b∨DV vs outs b) w' v r ∧
   ∀ (i:Nat) u x y,vs[i]? = some u→args[i]? = some x→outs[i]? = some y→N5 (fun b=>O b∨DV vs outs b∨CC v r b) w' u x y
def fg (P:Program) (f:FuncId) (args:List AV) (r:AV):Prop :=
 ∀ (O:Nat→Prop) (w:World) (vs:Array Value),vs.size = args.length→(∀ (i:Nat) v x,vs[i]? = some v→args[i]? = some x→O2 O w v x) →
   ∃ v,(callFunc f vs).run P w = .ok (.value v) w∧C9 (fun b=>w.heap.size≤b) O w v r
def T2 (b:Bool) (x y:Prop):Prop:=Bool.rec (motive:=fun _=>Prop) y x b
theorem br {b:Bool} {x y:Prop} (h1:b = true→x) (h2:b = false→y):Bool.rec (motive:=fun _=>Prop) y x b:=by
 cases b
 ·exact h2 rfl
 ·exact h1 rfl
theorem T2.pos {b:Bool} {x y:Prop} (h:T2 b x y) (hb:b = true):x:=by subst hb; exact h
theorem T2.neg {b:Bool} {x y:Prop} (h:T2 b x y) (hb:b = false):y:=by subst hb; exact h
structure Ij (p:Prop) (k:Prop):Prop where
 need:p
 then_:k
def eY (P:Program) (f:FuncId) (nils:List Nat) (args:List AV) (r:AV):Prop :=
 EH P f = true∧∀ (O:Nat→Prop) (w:World) (vs:Array Value),(∀ b,O b→b < w.heap.size)→TT O w→vs.size = args.length→(∀ i∈nils,vs[i]? = some (.slice none 0 0)) →
  (∀ (i:Nat) v x,vs[i]? = some v→args[i]? = some x→O2 O w v x) →
  Calls P f vs w fun e w'=>∃ v,e = .returned v∧RowKit.Below w.heap.size w w'∧C9 (fun b=>w.heap.size≤b) O w' v r
structure Oz (P:Program) (f:FuncId) (nils:List Nat) (args:List AV) (K:AV→Prop) (margs:List AV) (KM:List AV→AV→Prop):Prop where
 go:(∃ r,(Aw P f args r∨fg P f args r∨eY P f nils args r)∧K r)∨∃ outs r,Ck P f margs outs r∧KM outs r
theorem Ak {P:Program} {f:FuncId} {nils:List Nat} {args margs:List AV} {K:AV→Prop} {KM:List AV→AV→Prop} {r:AV} (c:Aw P f args r) (k:K r):Oz P f nils args K margs KM:=⟨.inl ⟨r,.inl c,k⟩⟩
theorem AC {P:Program} {f:FuncId} {nils:List Nat} {args margs outs:List AV} {K:AV→Prop} {KM:List AV→AV→Prop} {r:AV} (c:Ck P f margs outs r) (k:KM outs r):Oz P f nils args K margs KM:=⟨.inr ⟨outs,r,c,k⟩⟩
def ff (P:Program) (f:FuncId) (args:List AV) (k sz:Nat) (e:TypeId) (xs ys:List D):Prop :=
 EH P f = true∧∀ (O:Nat→Prop) (w:World) (vs:Array Value) (b:Nat) (u:Value) (T:TypeId),
  (∀ c,O c→c < w.heap.size)→TT (fun c=>O c∨c = b∨A1 u = some c) w→vs.size = args.length→vs[k]? = some (.pointer (some ⟨b,0,none⟩)) →
  w.heap[b]? = some (.cells #[u] T (0,0))→¬ O b→(∀ c,A1 u = some c→¬ O c∧c≠b)→0 < sz→(∀ x∈xs,x.cells.length = sz) →
  (∃ vals,Ca w e sz u xs.length vals∧Bo (fun c=>O c∨c = b∨A1 u = some c) w vals (xs.flatMap D.cells)) →
  (∀ (i:Nat) v x,vs[i]? = some v→args[i]? = some x→O2 (fun c=>O c∨c = b∨A1 u = some c) w v x) →
  Calls P f vs w fun e' w'=>∃ v u' T',e' = .returned v∧AT w.heap.size (fun c=>c = b∨A1 u = some c) w w' ∧
   w'.heap[b]? = some (.cells #[u'] T' (0,0))∧(∀ c,A1 u' = some c→A1 u = some c∨w.heap.size≤c)∧(∀ x∈ys,x.cells.length = sz) ∧
   ∃ vals,Ca w' e sz u' ys.length vals∧Bo (fun c=>O c∨c = b∨A1 u' = some c) w' vals (ys.flatMap D.cells)
structure bO (P:Program) (f:FuncId) (args:List AV) (k sz:Nat) (e:TypeId) (xs:List D) (K:List D→Prop):Prop where
 go:∃ ys,ff P f args k sz e xs ys∧K ys
def Cj (vals:Array Value) (cs:List C) (c:Nat):Prop :=
 ∃ (j:Nat) (u:Value) (sz:Nat) (e:TypeId) (xs:List D),vals[j]? = some u∧cs[j]? = some (.own sz e xs)∧A1 u = some c
def fD (O:Nat→Prop) (w:World) (v:Value):C→Prop
 | .d x=>AB O w v x∧x.one = true
 | .own sz e xs=>0 < sz∧(∀ x∈xs,x.cells.length = sz)∧∃ rv,Ca w e sz v xs.length rv∧Bo O w rv (xs.flatMap D.cells)
 | .sl _ _=>False
structure Zo (O:Nat→Prop) (w:World) (b:Nat) (cs:List C) (vals:Array Value):Prop where
 cells:∃ T,w.heap[b]? = some (.cells vals T (0,0))
 size:vals.size = cs.length
 rep:∀ (j:Nat) v c,vals[j]? = some v→cs[j]? = some c→fD O w v c
 ne:∀ c,Cj vals cs c→c≠b
 inj:∀ (i j:Nat) u u' sz e xs sz' e' xs' c,vals[i]? = some u→vals[j]? = some u'→cs[i]? = some (.own sz e xs)→cs[j]? = some (.own sz' e' xs')→A1 u = some c→A1 u' = some c→i = j
def Wq (P:Program) (f:FuncId) (args:List AV) (k:Nat) (cs cs':List C) (r:D):Prop :=
 EH P f = true∧∀ (O:Nat→Prop) (w:World) (vs:Array Value) (b:Nat) (vals:Array Value),
  (∀ c,O c→c < w.heap.size)→TT (fun c=>O c∨c = b∨Cj vals cs c) w→vs.size = args.length→vs[k]? = some (.pointer (some ⟨b,0,none⟩)) →
  Zo (fun c=>O c∨c = b∨Cj vals cs c) w b cs vals→(∀ c,c = b∨Cj vals cs c→¬ O c) →
  (∀ (i:Nat) v x,vs[i]? = some v→args[i]? = some x→O2 (fun c=>O c∨c = b∨Cj vals cs c) w v x) →
  Calls P f vs w fun e w'=>∃ v vals',e = .returned v∧AT w.heap.size (fun c=>c = b∨Cj vals cs c) w w'∧Zo (fun c=>O c∨c = b∨Cj vals' cs' c) w' b cs' vals' ∧
   (∀ c,Cj vals' cs' c→Cj vals cs c∨w.heap.size≤c)∧AB (fun c=>O c∨c = b∨Cj vals' cs' c) w' v r
structure ah (P:Program) (f:FuncId) (args:List AV) (k:Nat) (cs:List C) (K:List C→D→Prop):Prop where
 go:∃ cs' r,Wq P f args k cs cs' r∧K cs' r
theorem bT {P:Program} {f:FuncId} {args:List AV} {k:Nat} {cs cs':List C} {r:D} {K:List C→D→Prop} (c:Wq P f args k cs cs' r) (h:K cs' r):ah P f args k cs K:=⟨⟨cs',r,c,h⟩⟩
structure At (xs:List D) (i:Int) (K:D→Prop):Prop where
 go:0≤i∧∃ x,xs[i.toNat]? = some x∧K x
structure QQ (x y:Prop):Prop where
 go:x∨y
structure dM (K:List (Nat × Nat)→Prop):Prop where
 go:∃ hs,K hs
structure dN (xs:List D) (K:Bool→Prop):Prop where
 go:∀ b:Bool,(xs≠[]→b = false)→K b
def bH:Sl:=⟨.any,.none,0⟩
def Av:AS→Nat→Sl
 | [],_=>bH
 | s :: _,0=>s
 | _ :: r,n + 1=>Av r n
def Gy:AS→Nat→AV→AS
 | [],_,_=>[]
 | s :: r,0,v=>⟨v,s.box,s.ver⟩ :: r
 | s :: r,n + 1,v=>s :: Gy r n v
def Bq:AS→Nat→BJ→Nat→AS
 | [],_,_,_=>[]
 | s :: r,0,b,n=>⟨s.av,b,n⟩ :: r
 | s :: r,k + 1,b,n=>s :: Bq r k b n
inductive RV where
 | any
 | bot
 | d (x:D)
 | lim (sz:Nat) (xs:List D)
 | vptr (id ver off:Nat) (cs:List C)
 | row (id ver sz:Nat) (e:TypeId) (xs:List D)
 | eptr (id ver sz:Nat) (e:TypeId) (xs:List D) (i off:Nat)
 | tup (xs:List C)
 | mp (id ver:Nat) (es:List (D × D))
 | cagg (xs:List C)
 | cfun (f:FuncId) (xs:List C)
 | clo (f:FuncId) (cs:List C) (k id ver rid rver:Nat)
def ZV:List C→Option (Nat × Nat × Nat)
 | []=>none
 | .sl id n :: _=>some (0,id,n)
 | _ :: r=>match ZV r with
   | some (k,id,n)=>some (k + 1,id,n)
   | none=>none
def Zv:Value→AV
 | .int k n=>.d (.int k n)
 | .bool b=>.d (.bool b)
 | .string s=>.d (.str s)
 | .slice none 0 0=>.d (.nil 0)
 | _=>.any
def ev (S:AS):Operand→AV
 | .tmp t=>(Av S t).av
 | .const v=>Zv v
 | .func f=>.d (.fn f [])
 | .global g=>match dx g with
   | some cs=>.d (.ptr cs)
   | none=>.any
def eV (g:Option (Nat × Bool)):AV→AV
 | .under t w y=>match g with
   | some (t',w')=>if t = t'∧w = w' then y else .any
   | none=>.any
 | x=>x
def res (S:AS):AV→RV
 | .any=>.any
 | .bot=>.bot
 | .d x=>.d x
 | .lim sz xs=>.lim sz xs
 | .tup xs=>.tup xs
 | .ptr id n o=>match Av S id with
   | ⟨_,.var cs,m⟩=>if n = m then .vptr id n o cs else .any
   | ⟨_,.fvar cs,m⟩=>if n = m then .d (.ptr (cs.drop o)) else .any
   | _=>.any
 | .sl id n=>match Av S id with
   | ⟨_,.row sz e xs,m⟩=>if n = m then .row id n sz e xs else .any
   | ⟨_,.frow sz xs,m⟩=>if n = m then .d (.list sz xs) else .any
   | ⟨_,.map es,m⟩=>if n = m then .mp id n es else .any
   | _=>.any
 | .eptr id n sz i o=>match Av S id with
   | ⟨_,.row sz' e xs,m⟩=>if n = m∧sz = sz' then .eptr id n sz e xs i o else .any
   | _=>.any
 | .own _ _ _=>.any
 | .optr _=>.any
 | .under _ _ _=>.any
 | .cc k xs=>match k with
   | none=>.cagg xs
   | some f=>match ZV xs with
     | some (j,id,n)=>match Av S id with
       | ⟨_,.var [.sl rid rn],m⟩=>if n = m then .clo f xs j id n rid rn else .cfun f xs
       | _=>.cfun f xs
     | none=>.cfun f xs
end Go.Abs
set_option linter.unusedVariables false
set_option linter.unusedSimpArgs false
namespace Go.Abs
structure F3 where
 av:AV
 bx:List (Nat × BJ × Nat)
 homes:List (Nat × Nat)
abbrev Bx:=List (Nat × BJ × Nat)
def back:RV→AV
 | .any=>.any
 | .bot=>.bot
 | .d x=>.d x
 | .lim sz xs=>.lim sz xs
 | .vptr id n o _=>.ptr id n o
 | .row id n _ _ _=>.sl id n
 | .eptr id n sz _ _ i o=>.eptr id n sz i o
 | .tup xs=>.tup xs
 | .mp id n _=>.sl id n
 | .cagg xs=>.cc none xs
 | .cfun f cs=>.cc (some f) cs
 | .clo f cs _ _ _ _ _=>.cc (some f) cs
def Fo:Nat→(Nat→Prop)→Prop
 | 0,K=>K 0
 | n + 1,K=>Fo n fun m=>K (m + 1)
def Uo (v:AV) (K:AV→Prop):Prop :=
 match v with
 | .any=>K .any
 | .bot=>K .bot
 | .d x=>K (.d x)
 | .lim sz xs=>K (.lim sz xs)
 | .ptr id n o=>Fo n fun n=>Fo o fun o=>K (.ptr id n o)
 | .sl id n=>Fo n fun n=>K (.sl id n)
 | .eptr id n sz i o=>Fo n fun n=>Fo sz fun sz=>Fo o fun o=>K (.eptr id n sz i o)
 | .tup xs=>K (.tup xs)
 | .own sz e xs=>K (.own sz e xs)
 | .optr cs=>K (.optr cs)
 | .under t w x=>match x with
   | .any=>K (.under t w .any)
   | .d x=>K (.under t w (.d x))
   | .ptr id n o=>Fo n fun n=>Fo o fun o=>K (.under t w (.ptr id n o))
   | .sl id n=>Fo n fun n=>K (.under t w (.sl id n))
   | .eptr id n sz i o=>Fo n fun n=>Fo sz fun sz=>Fo o fun o=>K (.under t w (.eptr id n sz i o))
   | x=>K (.under t w x)
 | .cc k xs=>K (.cc k xs)
def Xx (b:BJ) (K:BJ→Prop):Prop :=
 match b with
 | .none=>K .none
 | .var cs=>K (.var cs)
 | .row sz e xs=>Fo sz fun sz=>K (.row sz e xs)
 | .fvar cs=>K (.fvar cs)
 | .frow sz xs=>Fo sz fun sz=>K (.frow sz xs)
 | .map es=>K (.map es)
def Ci {α:Type}:List α→(List α→Prop)→Prop
 | [],K=>K []
 | x :: r,K=>Ci r fun r=>K (x :: r)
def splice {α:Type}:List α→Nat→List α→List α
 | cs,0,ys=>ys++cs.drop ys.length
 | [],_ + 1,_=>[]
 | c :: cs,n + 1,ys=>c :: splice cs n ys
def No:List D→(List D→Prop)→Prop
 | [],K=>K []
 | x :: r,K=>No r fun r=>match x with
   | .nil s=>K (.list s [] :: r)
   | x=>K (x :: r)
def Mg (x:D) (K:D→Prop):Prop :=
 match x with
 | .nil s=>K (.list s [])
 | .agg xs=>No xs fun l=>K (.agg l)
 | x=>K x
def Wt (r:RV) (K:D→Bx→Prop):Prop :=
 match r with
 | .d x=>K x []
 | .lim sz xs=>K (.list sz xs) []
 | .row id n sz _ xs=>K (.list sz xs) [(id,.frow sz xs,n)]
 | _=>False
def dP (r:RV) (K:D→Bx→Prop):Prop:=Wt r fun x b=>Mg x fun x=>K x b
def CB (σ:Nat→Nat→RV):List C→(List D→Bx→Prop)→Prop
 | [],K=>K [] []
 | .d x :: r,K=>CB σ r fun l b=>K (x :: l) b
 | .sl id n :: r,K=>Wt (σ id n) fun x b=>CB σ r fun l b'=>K (x :: l) (b++b')
 | .own _ _ _ :: _,_=>False
def Yc:List D→(List C→Prop)→Prop
 | [],K=>K []
 | x :: r,K=>Yc r fun r=>K (.d x :: r)
def zD:Value→Option D
 | .int k n=>some (.int k n)
 | .bool b=>some (.bool b)
 | .string s=>some (.str s)
 | .slice none 0 0=>some (.nil 0)
 | _=>none
def f5:List Value→Option (List D)
 | []=>some []
 | v :: r=>match zD v,f5 r with
   | some x,some l=>some (x :: l)
   | _,_=>none
def AF (P:Program) (t:TypeId):Nat:=match P.info? t with | some i=>i.size | none=>0
def My (P:Program) (t:TypeId):Nat:=match P.info? t with | some i=>i.bytes | none=>0
def SU (P:Program):Nat→TypeId→List Nat
 | 0,_=>[]
 | n + 1,t=>match P.underlying t with
   | some (.slice e)=>[AF P e]
   | some (.struct fs)=>fs.toList.flatMap fun f=>SU P n f.type
   | some (.array k e)=>(List.replicate k e).flatMap fun e=>SU P n e
   | _=>[0]
def J1:List D→List Nat→List D
 | .nil _ :: r,s :: q=>.nil s :: J1 r q
 | x :: r,_ :: q=>x :: J1 r q
 | l,_=>l
def zeroCells (P:Program) (t:TypeId):Option (List D) :=
 match P.info? t with
 | some i=>match i.zero with
   | some z=>match f5 z.cells.toList with
     | some l=>some (J1 l (SU P 12 t))
     | none=>none
   | none=>none
 | none=>none
def KZ (P:Program) (t:TypeId):Option Bool :=
 match P.underlying t with
 | some (.struct _) | some (.array _ _)=>some true
 | some _=>some false
 | none=>none
def YC (P:Program) (t:TypeId) (cs:List D) (K:D→Prop):Prop :=
 match KZ P t with
 | some true=>match P.info? t with
   | some i=>Ci (cs.take i.size) fun l=>if l.length = i.size then K (.agg l) else False
   | none=>False
 | some false=>match cs with
   | y :: _=>K y
   | []=>False
 | none=>False
def nilT (P:Program) (t:TypeId) (x:D):D :=
 match x with
 | .nil 0=>match P.underlying t with
   | some (.slice e)=>.nil (AF P e)
   | _=>.nil 0
 | x=>x
def eS:List C→Bool
 | []=>false
 | c :: r=>match c with
   | .sl _ _=>true
   | _=>eS r
def P8 (σ:Nat→Nat→RV):List C→Bool
 | []=>true
 | c :: r=>match c with
   | .d _=>P8 σ r
   | .sl id n=>match σ id n with
     | .row _ _ _ _ _=>P8 σ r
     | _=>false
   | .own _ _ _=>false
def dh (P:Program) (σ:Nat→Nat→RV) (t:TypeId) (cs:List C) (K:F3→Prop):Prop :=
 match KZ P t with
 | some true=>match P.info? t with
   | some i=>Ci (cs.take i.size) fun l=>if l.length = i.size then match eS l with
     | false=>CB σ l fun l b=>K ⟨.d (.agg l),b,[]⟩
     | true=>QQ (CB σ l fun l b=>K ⟨.d (.agg l),b,[]⟩) (if P8 σ l = true then K ⟨.cc none l,[],[]⟩ else False)
     else False
   | none=>False
 | some false=>match cs with
   | .d y :: _=>K ⟨.d y,[],[]⟩
   | .sl id n :: _=>K ⟨.sl id n,[],[]⟩
   | _=>False
 | none=>False
def Tz (op:BinOp) (k:IntKind) (a b:Int) (K:D→Prop):Prop :=
 match op with
 | .add=>K (.int k (k.wrap (a + b)))
 | .sub=>K (.int k (k.wrap (a - b)))
 | .mul=>K (.int k (k.wrap (a * b)))
 | .quo=>Ij (b≠0) (K (.int k (k.wrap (a.tdiv b))))
 | .rem=>Ij (b≠0) (K (.int k (a.tmod b)))
 | .and=>K (.int k (k.wrap (BitVec.ofInt k.bits a &&& BitVec.ofInt k.bits b).toNat))
 | .or=>K (.int k (k.wrap (BitVec.ofInt k.bits a ||| BitVec.ofInt k.bits b).toNat))
 | .xor=>K (.int k (k.wrap (BitVec.ofInt k.bits a ^^^ BitVec.ofInt k.bits b).toNat))
 | .andNot=>K (.int k (k.wrap (BitVec.ofInt k.bits a &&& ~~~ BitVec.ofInt k.bits b).toNat))
 | .eql=>K (.bool (a==b))
 | .neq=>K (.bool (a != b))
 | .lss=>K (.bool (decide (a < b)))
 | .leq=>K (.bool (decide (a≤b)))
 | .gtr=>K (.bool (decide (a > b)))
 | .geq=>K (.bool (decide (a ≥ b)))
 | _=>False
def Tp (op:BinOp) (k:IntKind) (a b:Int) (K:D→Prop):Prop :=
 match op with
 | .shl=>Ij (0≤b) (K (.int k (k.wrap (a * 2 ^ (min b.toNat k.bits)))))
 | .shr=>Ij (0≤b) (K (.int k (a.fdiv (2 ^ (min b.toNat k.bits)))))
 | _=>False
def fl (P:Program) (t:TypeId) (fs:List Field) (n m:Nat):Bool :=
 !P.stoodInHeld t && fs.all fun f=>!(f.name == "_") && ((P.info? f.type).isSome && (decide (f.offset + AF P f.type≤n) && decide (f.offset + AF P f.type≤m)))
def Yw (P:Program):Nat→TypeId→List D→List D→(Bool→Prop)→Prop
 | 0,_,_,_,_=>False
 | n + 1,t,xs,ys,K=>match P.underlying t with
   | some (.int _)=>match xs,ys with
     | .int k a :: _,.int k' b :: _=>if k = k' then K (a==b) else False
     | _,_=>False
   | some .bool=>match xs,ys with
     | .bool a :: _,.bool b :: _=>K (a==b)
     | _,_=>False
   | some .string=>match xs,ys with
     | .str a :: _,.str b :: _=>K (a.toList==b.toList)
     | _,_=>False
   | some (.struct fs)=>Ij (fl P t fs.toList xs.length ys.length = true)
     (List.rec (motive:=fun _=>(Bool→Prop)→Prop) (fun K=>K true)
      (fun f _ ih K=>Yw P n f.type ((xs.drop f.offset).take (AF P f.type)) ((ys.drop f.offset).take (AF P f.type)) fun a=>ih fun b=>K (a && b)) fs.toList K)
   | _=>False
def ZI (P:Program) (t:TypeId):Bool:=match P.underlying t with | some .bool=>true | _=>false
def ZX (op:BinOp) (a b:ByteArray) (K:D→Prop):Prop :=
 match op with
 | .add=>Ij (a.size + b.size≤9223372036854775807) (K (.str (a++b)))
 | .eql=>K (.bool (a.toList==b.toList))
 | .neq=>K (.bool (!(a.toList==b.toList)))
 | .lss=>K (.bool (Op.bytesLess a.toList b.toList))
 | .leq=>K (.bool (Op.bytesLess a.toList b.toList || a.toList==b.toList))
 | .gtr=>K (.bool (!(Op.bytesLess a.toList b.toList || a.toList==b.toList)))
 | .geq=>K (.bool (!(Op.bytesLess a.toList b.toList)))
 | _=>False
def Yh (P:Program) (t:TypeId) (op:BinOp) (x y:D) (K:D→Prop):Prop :=
 match x,y with
 | .int k a,.int k' b=>match op with
   | .shl=>Tp .shl k a b K
   | .shr=>Tp .shr k a b K
   | op=>if k = k' then Tz op k a b K else False
 | .str a,.str b=>ZX op a b K
 | .bool a,.bool b=>match ZI P t with
   | true=>match op with
     | .eql=>K (.bool (a==b))
     | .neq=>K (.bool (!(a==b)))
     | _=>False
   | false=>False
 | .agg xs,.agg ys=>Ij (P.eqGuardType P.depth t = false∧KZ P t = some true) (match op with
   | .eql=>Yw P 12 t xs ys fun b=>K (.bool b)
   | .neq=>Yw P 12 t xs ys fun b=>K (.bool !b)
   | _=>False)
 | _,_=>False
def eT (op:UnOp) (x:D) (K:D→Prop):Prop :=
 match op,x with
 | .not,.bool b=>K (.bool !b)
 | .neg,.int k n=>K (.int k (k.wrap (0 - n)))
 | .xor,.int k n=>K (.int k (k.wrap (BitVec.ofInt k.bits (if k.signed then -1 else k.max) ^^^ BitVec.ofInt k.bits n).toNat))
 | _,_=>False
def Lb (σ:Nat→Nat→RV) (r:RV) (K:AV→Bx→Prop):Prop :=
 match r with
 | .any=>K .any []
 | .d x=>Mg x fun x=>K (.d x) []
 | .lim sz xs=>K (.d (.list sz xs)) []
 | .vptr id n o cs=>CB σ cs fun l b=>No l fun l=>Ci (l.drop o) fun l'=>K (.d (.ptr l')) (b++[(id,.fvar l,n)])
 | .row id n sz _ xs=>K (.d (.list sz xs)) [(id,.frow sz xs,n)]
 | .eptr id n sz _ xs i o=>At xs i fun x=>Ci (x.cells.drop o) fun l=>K (.d (.ptr l)) [(id,.frow sz xs,n)]
 | .cagg cs=>CB σ cs fun l b=>No l fun l=>K (.d (.agg l)) b
 | _=>False
def Qf (σ:Nat→Nat→RV):List C→(List C→Nat→Nat→Prop)→Prop
 | [],_=>False
 | c :: r,K=>match c with
   | .d x=>Mg x fun x=>Qf σ r fun l id n=>K (.d x :: l) id n
   | .sl id n=>match r with
     | []=>match σ id n with
       | .row id n sz e xs=>K [.own sz e xs] id n
       | _=>False
     | _=>False
   | .own _ _ _=>False
def TH:List C→(Nat→TypeId→List D→Prop)→Prop
 | [],_=>False
 | c :: r,K=>match c with
   | .own sz e xs=>match r with
     | []=>K sz e xs
     | _=>False
   | _=>TH r K
def Lw:Operand→Bool
 | .const (.slice none 0 0)=>true
 | _=>false
def Pb:List Operand→Nat→List Nat
 | [],_=>[]
 | x :: r,n=>match Lw x with
   | true=>n :: Pb r (n + 1)
   | false=>Pb r (n + 1)
def WK (P:Program) (t:TypeId) (K:AV→Prop):Prop :=
 match P.underlying t with
 | some (.slice e)=>K (.d (.list (AF P e) []))
 | _=>False
def Ga (P:Program) (σ:Nat→Nat→RV) (ρ:Operand→RV):List Operand→List TypeId→(List AV→Bx→Prop)→Prop
 | [],_,K=>K [] []
 | x :: r,ts,K=>match Lw x with
   | true=>match ts with
     | t :: ts=>WK P t fun v=>Ga P σ ρ r ts fun vs bs=>K (v :: vs) bs
     | []=>False
   | false=>Lb σ (ρ x) fun v b=>Ga P σ ρ r ts.tail fun vs bs=>K (v :: vs) (b++bs)
def UZ:List C→Bool
 | []=>false
 | c :: r=>match c with
   | .d _=>UZ r
   | .sl _ _=>match r with
     | []=>true
     | _=>false
   | .own _ _ _=>false
def Rq (σ:Nat→Nat→RV) (r:RV) (K:AV→Bx→Option (Nat × Nat)→Prop):Prop :=
 match r with
 | .row id n sz e xs=>K (.own sz e xs) [] (some (id,n))
 | .vptr id n 0 cs=>CB σ cs fun l b=>No l fun l=>K (.optr l) b (some (id,n))
 | .cagg cs=>match UZ cs with
   | true=>Qf σ cs fun l id n=>K (.cc none l) [] (some (id,n))
   | false=>Lb σ (.cagg cs) fun v b=>K v b none
 | r=>Lb σ r fun v b=>K v b none
def Fq (P:Program) (σ:Nat→Nat→RV) (ρ:Operand→RV):List Operand→List TypeId→(List AV→Bx→List (Option (Nat × Nat))→Prop)→Prop
 | [],_,K=>K [] [] []
 | x :: r,ts,K=>match Lw x with
   | true=>match ts with
     | t :: ts=>WK P t fun v=>Fq P σ ρ r ts fun vs bs us=>K (v :: vs) bs (none :: us)
     | []=>False
   | false=>Rq σ (ρ x) fun v b u=>Fq P σ ρ r ts.tail fun vs bs us=>K (v :: vs) (b++bs) (u :: us)
def U6:List D→(List AV→Prop)→Prop
 | [],K=>K []
 | x :: r,K=>U6 r fun r=>K (.d x :: r)
def C.bare:C→Bool
 | .d (.agg xs)=>xs.all D.bare
 | .d x=>x.bare
 | .own _ _ _=>true
 | .sl _ _=>false
def AV.bare:AV→Bool
 | .d (.agg xs)=>xs.all D.bare
 | .d x=>x.bare
 | .tup xs=>xs.all C.bare
 | .own _ _ _=>true
 | _=>false
def YJ (r:AV) (lent:Bx) (K:Bx→Prop):Prop :=
 match lent with
 | []=>K []
 | l=>match r.bare with
   | true=>K []
   | false=>K l
def DX (id:Nat):Bx→Bool
 | []=>true
 | x :: r=>decide (x.1≠id) && DX id r
def Qy:List C→List (Nat × Nat)→(List C→Bx→Prop)→Prop
 | [],[],K=>K [] []
 | .d x :: r,hs,K=>Qy r hs fun l b=>K (.d x :: l) b
 | .own sz e xs :: r,(h,n) :: hs,K=>Qy r hs fun l b=>if DX h b = true then K (.sl h n :: l) ((h,.row sz e xs,n) :: b) else False
 | _,_,_=>False
def Tb:List C→Bool
 | []=>false
 | .own _ _ _ :: _=>true
 | _ :: r=>Tb r
def bm (d dv:Nat) (r:AV) (b:Bx) (K:F3→Prop):Prop :=
 match r with
 | .own sz e xs=>if DX d b = true then K ⟨.sl d (dv + 1),b++[(d,.row sz e xs,dv + 1)],[]⟩ else False
 | .optr cs=>if DX d b = true then Yc cs fun l=>K ⟨.ptr d (dv + 1) 0,b++[(d,.var l,dv + 1)],[]⟩ else False
 | .tup xs=>match Tb xs with
   | false=>K ⟨.tup xs,b,[]⟩
   | true=>dM fun hs=>Qy xs hs fun l hb=>if hb.all (fun h=>DX h.1 b) = true then K ⟨.tup l,b++hb,hs⟩ else False
 | .cc _ l=>match l with
   | [.own sz e xs]=>if DX d b = true then K ⟨.sl d (dv + 1),b++[(d,.row sz e xs,dv + 1)],[]⟩ else False
   | _=>False
 | .under _ _ _ | .ptr _ _ _ | .sl _ _ | .eptr _ _ _ _ _=>False
 | r=>K ⟨r,b,[]⟩
def K0:List (Option (Nat × Nat))→List AV→(Bx→Prop)→Prop
 | [],[],K=>K []
 | none :: us,_ :: os,K=>K0 us os K
 | some (id,n) :: us,.own sz e ys :: os,K=>K0 us os fun b=>if DX id b = true then K ((id,.row sz e ys,n) :: b) else False
 | some (id,n) :: us,.optr cs :: os,K=>Yc cs fun l=>K0 us os fun b=>if DX id b = true then K ((id,.var l,n) :: b) else False
 | some (id,n) :: us,.any :: os,K=>K0 us os fun b=>if DX id b = true then K ((id,.none,n + 1) :: b) else False
 | some (id,n) :: us,.cc _ l :: os,K=>TH l fun sz e ys=>K0 us os fun b=>if DX id b = true then K ((id,.row sz e ys,n) :: b) else False
 | _,_,_=>False
def Kz (ρ:Operand→RV):List Operand→Nat→Option (Nat × Nat × Nat × List C)
 | [],_=>none
 | x :: r,k=>match ρ x with
   | .vptr id n 0 cs=>match eS cs with
     | true=>some (k,id,n,cs)
     | false=>Kz ρ r (k + 1)
   | _=>Kz ρ r (k + 1)
def Ls (ρ:Operand→RV) (k:Nat):List Operand→Nat→(List AV→Prop)→Prop
 | [],_,K=>K []
 | x :: r,i,K=>match Nat.beq i k with
   | true=>Ls ρ k r (i + 1) fun l=>K (.any :: l)
   | false=>match ρ x with
     | .d y=>Mg y fun y=>Ls ρ k r (i + 1) fun l=>K (.d y :: l)
     | _=>False
def Hd (σ:Nat→Nat→RV):List C→(List C→Prop)→Prop
 | [],K=>K []
 | c :: r,K=>match c with
   | .d x=>Mg x fun x=>Hd σ r fun l=>K (.d x :: l)
   | .sl id n=>match σ id n with
     | .row _ _ sz e xs=>Hd σ r fun l=>K (.own sz e xs :: l)
     | _=>False
   | .own _ _ _=>False
def Qx:List C→List C→(List C→Bx→Prop)→Prop
 | [],[],K=>K [] []
 | .d _ :: r,.d x :: r',K=>Qx r r' fun l b=>K (.d x :: l) b
 | .sl id n :: r,.own sz e ys :: r',K=>Qx r r' fun l b=>if DX id b = true then K (.sl id (n + 1) :: l) ((id,.row sz e ys,n + 1) :: b) else False
 | _,_,_=>False
def M8 (r:RV) (K:Nat→List D→Prop):Prop :=
 match r with
 | .d (.list sz xs)=>K sz xs
 | .d (.nil sz)=>K sz []
 | .lim sz xs=>K sz xs
 | .row _ _ sz _ xs=>K sz xs
 | _=>False
def Kp (ρ:Operand→RV):List (Nat × Operand)→(List (Nat × D)→Bx→Prop)→Prop
 | [],K=>K [] []
 | (i,x) :: r,K=>Wt (ρ x) fun v b=>Kp ρ r fun vs bs=>K ((i,v) :: vs) (b++bs)
def L3 (ρ:Operand→RV):List (Nat × Operand)→(List (Nat × D)→Bx→Prop)→Prop
 | [],K=>K [] []
 | (i,x) :: r,K=>dP (ρ x) fun v b=>L3 ρ r fun vs bs=>K ((i,v) :: vs) (b++bs)
def UK (place:Nat→Option (Nat × Nat)) (cells:List D):List (Nat × D)→Option (List D)
 | []=>some cells
 | (i,v) :: rest=>match place i with
   | none=>none
   | some (off,size)=>if v.cells.length = size∧off + v.cells.length≤cells.length then UK place (splice cells off v.cells) rest else none
def SJ (ρ:Operand→RV):List (Nat × Operand)→Bool
 | []=>false
 | (_,x) :: r=>match ρ x with
   | .row _ _ _ _ _=>true
   | _=>SJ ρ r
def cellsOf (r:RV) (K:List C→Prop):Prop :=
 match r with
 | .row id n _ _ _=>K [.sl id n]
 | .d v=>Yc v.cells K
 | .lim sz xs=>K [.d (.list sz xs)]
 | _=>False
def L2 (ρ:Operand→RV):List (Nat × Operand)→(List (Nat × List C)→Prop)→Prop
 | [],K=>K []
 | (i,x) :: r,K=>cellsOf (ρ x) fun c=>L2 ρ r fun ps=>K ((i,c) :: ps)
def W7 (place:Nat→Option (Nat × Nat)) (cells:List C):List (Nat × List C)→Option (List C)
 | []=>some cells
 | (i,v) :: rest=>match place i with
   | none=>none
   | some (off,size)=>if v.length = size∧off + v.length≤cells.length then W7 place (splice cells off v) rest else none
def PS:Nat→List (Nat × D)→Option (List D)
 | _,[]=>some []
 | n,(i,v) :: r=>if i = n then (PS (n + 1) r).map (v :: ·) else none
def HF (σ:Nat→Nat→RV) (ρ:Operand→RV):List Operand→(List D→Bx→Prop)→Prop
 | [],K=>K [] []
 | x :: r,K=>Lb σ (ρ x) fun v b=>match v with
   | .d y=>if y.one = true then HF σ ρ r fun l bs=>K (y :: l) (b++bs) else False
   | _=>False
def ZM (r:RV):Option (Nat × Nat) :=
 match r with
 | .vptr id n 0 [.sl _ _]=>some (id,n)
 | .vptr id n 0 [.d (.nil _)]=>some (id,n)
 | _=>none
def Sw (ρ:Operand→RV):List Operand→Bool
 | []=>false
 | x :: r=>match ZM (ρ x) with
   | some _=>true
   | none=>Sw ρ r
def HE (σ:Nat→Nat→RV) (ρ:Operand→RV):List Operand→(List C→Bx→Prop)→Prop
 | [],K=>K [] []
 | x :: r,K=>match ZM (ρ x) with
   | some (id,n)=>HE σ ρ r fun l bs=>K (.sl id n :: l) bs
   | none=>Lb σ (ρ x) fun v b=>match v with
     | .d y=>if y.one = true then HE σ ρ r fun l bs=>K (.d y :: l) (b++bs) else False
     | _=>False
def O4:List C→List AV
 | []=>[]
 | .d x :: r=>.d x :: O4 r
 | _ :: r=>.any :: O4 r
def J7 (P:Program) (t:TypeId):Bool:=match P.info? t with | some i=>(match i.zero with | some z=>decide (z.cells.size = i.size) | none=>false) | none=>false
def Xa (P:Program) (t:TypeId) (K:D→Prop):Prop :=
 match zeroCells P t with
 | some l=>match KZ P t with
   | some true=>No l fun l=>K (.agg l)
   | some false=>match l with
     | [x]=>Mg x K
     | _=>False
   | none=>False
 | none=>False
def Zk (ρ:Operand→RV) (x:Option Operand) (dflt:Int) (K:Int→Prop):Prop :=
 match x with
 | none=>K dflt
 | some x=>match ρ x with
   | .d (.int _ i)=>K i
   | _=>False
def HR {α:Type} (xs:List α) (l h:Int):List α:=(xs.drop l.toNat).take (h.toNat - l.toNat)
def Kw (ρ:Operand→RV) (sz:Nat) (xs:List D) (lo hi mx:Option Operand) (b:Bx) (K:F3→Prop):Prop :=
 Zk ρ lo 0 fun l=>Zk ρ hi xs.length fun h=>match mx with
  | none=>Ij (0≤l∧l≤h∧h≤xs.length) (K ⟨.d (.list sz (HR xs l h)),b,[]⟩)
  | some m=>if hi.isNone = true then False else match ρ m with
    | .d (.int _ m)=>Ij (0≤l∧l≤h∧h≤xs.length∧m = h) (K ⟨.lim sz (HR xs l h),b,[]⟩)
    | _=>False
def EY (s:ByteArray) (i:Int):Int:=((s.data.toList.getD i.toNat 0).toNat:Int)
def J4 (s:ByteArray):List Int:=s.data.toList.map fun b=>(b.toNat:Int)
def GF:D→D→Bool
 | .int k _,.int k' _=>decide (k = k')
 | .str _,.str _=>true
 | _,_=>false
def HT:D→D→Bool
 | .int _ a,.int _ b=>a==b
 | .str a,.str b=>a==b
 | _,_=>false
def OX (k:D):List (D × D)→Option Nat
 | []=>none
 | p :: r=>bif HT k p.1 then some 0 else (OX k r).map (· + 1)
def Ng (k:D):List (D × D)→Option D
 | []=>none
 | p :: r=>bif HT k p.1 then some p.2 else Ng k r
def VA (k v:D):List (D × D)→List (D × D)
 | []=>[(k,v)]
 | p :: r=>bif HT k p.1 then (k,v) :: r else p :: VA k v r
def VO:D→Option TypeDesc
 | .int j _=>some (.int j)
 | .str _=>some .string
 | _=>none
def dd (P:Program) (t:TypeId):Option D:=match P.info? t with
 | some i=>match i.zero with
   | some z=>zD z
   | none=>none
 | none=>none
structure R2 (r:Option D) (z:D) (K:D→Bool→Prop):Prop where
 go:∃ v b,r.getD z = v∧r.isSome = b∧K v b
def aB (P:Program) (kt et:TypeId) (x ix:RV) (ok:Bool) (K:F3→Prop):Prop :=
 match x with
 | .mp _ _ es=>match ix with
   | .d q=>match VO q with
     | some kd=>Ij (P.underlying kt = some kd∧∀ p∈es,GF q p.1 = true) (match dd P et with
       | some z=>R2 (Ng q es) z fun v b=>match ok with
         | true=>K ⟨.tup [.d v,.d (.bool b)],[],[]⟩
         | false=>K ⟨.d v,[],[]⟩
       | none=>False)
     | none=>False
   | _=>False
 | _=>False
def dJ (P:Program) (kt:TypeId) (m k x:RV) (K:F3→Prop):Prop :=
 match m with
 | .mp id n es=>match k with
   | .d q=>match x with
     | .d y=>match VO q with
       | some kd=>Ij (y.bare = true∧P.underlying kt = some kd∧∀ p∈es,GF q p.1 = true) (K ⟨.any,[(id,.map (VA q y es),n)],[]⟩)
       | none=>False
     | _=>False
   | _=>False
 | _=>False
def U5 (P:Program) (σ:Nat→Nat→RV) (ρ:Operand→RV) (c:Call) (f:FuncId) (caps:List D) (d dv:Nat) (K:F3→Prop):Prop :=
 U6 caps fun cv=>Ga P σ ρ c.args.toList c.argTypes.toList fun vs bs=>Fq P σ ρ c.args.toList c.argTypes.toList fun ms mb us =>
  Oz P f (Pb c.args.toList 0) (vs++cv) (fun r=>YJ r bs fun b=>bm d dv r b K)
   (ms++cv) (fun outs r=>K0 (us++cv.map fun _=>none) outs fun ub=>if ub.all (fun x=>DX x.1 mb) = true then bm d dv r (mb++ub) K else False)
def yA (P:Program) (σ:Nat→Nat→RV) (ρ:Option (Nat × Bool)→Operand→RV) (g:Option (Nat × Bool)) (o:Oper) (d dv:Nat) (K:F3→Prop):Prop :=
 match o.op with
 | .move x=>K ⟨back (ρ g x),[],[]⟩
 | .assign x=>match Lw x with
   | true=>match P.underlying o.type with
     | some (.slice e)=>if 0 < AF P e then K ⟨.sl d (dv + 1),[(d,.row (AF P e) e [],dv + 1)],[]⟩ else False
     | _=>False
   | false=>K ⟨back (ρ g x),[],[]⟩
 | .pick (.tmp t) a b=>match ρ g (.tmp t) with
   | .bot=>K ⟨.bot,[],[]⟩
   | .d (.bool c)=>match ρ (some (t,true)) a with
     | .bot=>match ρ (some (t,false)) b with
       | .d (.bool y)=>K ⟨.d (.bool y),[],[]⟩
       | _=>False
     | .d (.bool x)=>match ρ (some (t,false)) b with
       | .bot=>K ⟨.d (.bool x),[],[]⟩
       | .d (.bool y)=>K ⟨.d (.bool (bif c then x else y)),[],[]⟩
       | _=>False
     | _=>False
   | _=>False
 | .box _ x=>match ρ g x with
   | .row id n _ _ _=>K ⟨.ptr d (dv + 1) 0,[(d,.var [.sl id n],dv + 1)],[]⟩
   | .cagg l=>K ⟨.ptr d (dv + 1) 0,[(d,.var l,dv + 1)],[]⟩
   | r=>Wt r fun v b=>Yc v.cells fun l=>K ⟨.ptr d (dv + 1) 0,b++[(d,.var l,dv + 1)],[]⟩
 | .alloc t=>match zeroCells P t with
   | some l=>Yc l fun l=>K ⟨.ptr d (dv + 1) 0,[(d,.var l,dv + 1)],[]⟩
   | none=>False
 | .build t BX=>match P.underlying t with
   | some (.struct fields)=>match zeroCells P t with
     | some z=>if fields.toList.all (fun f=>(P.info? f.type).isSome) then
       match SJ (ρ g) BX.toList with
       | false=>Kp (ρ g) BX.toList fun ps b =>
         match UK (fun i=>match fields[i]? with | some f=>some (f.offset,AF P f.type) | none=>none) z ps with
         | some l=>Ci l fun l=>K ⟨.d (.agg l),b,[]⟩
         | none=>False
       | true=>QQ (Kp (ρ g) BX.toList fun ps b =>
         match UK (fun i=>match fields[i]? with | some f=>some (f.offset,AF P f.type) | none=>none) z ps with
         | some l=>Ci l fun l=>K ⟨.d (.agg l),b,[]⟩
         | none=>False)
         (Yc z fun zc=>L2 (ρ g) BX.toList fun ps=>match W7 (fun i=>match fields[i]? with | some f=>some (f.offset,AF P f.type) | none=>none) zc ps with
          | some l=>Ci l fun l=>K ⟨.cc none l,[],[]⟩
          | none=>False)
       else False
     | none=>False
   | _=>False
 | .buildSlice t n BX=>match P.underlying t with
   | some (.slice e)=>L3 (ρ g) BX.toList fun ps b=>match PS 0 ps with
     | some l=>Ci l fun l =>
       if l.length = n∧0 < AF P e∧J7 P e = true∧n * AF P e≤16777216∧l.all (fun x=>x.cells.length==AF P e) then K ⟨.sl d (dv + 1),b++[(d,.row (AF P e) e l,dv + 1)],[]⟩ else False
     | none=>False
   | _=>False
 | .makeSlice t l c=>match P.underlying t with
   | some (.slice e)=>match ρ g l with
     | .d (.int _ l)=>match ρ g c with
       | .d (.int _ c)=>if 0 < AF P e∧J7 P e = true then Xa P e fun z =>
        Ij (0≤l∧l≤c∧c≤maxLen∧(My P e:Int) * c≤281474976710656) (K ⟨.sl d (dv + 1),[(d,.row (AF P e) e (List.replicate l.toNat z),dv + 1)],[]⟩) else False
       | _=>False
     | _=>False
   | _=>False
 | .makeFunc (.func f) first caps=>match first.toList with
   | []=>match Sw (ρ g) caps.toList with
     | false=>HF σ (ρ g) caps.toList fun l b=>K ⟨.d (.fn f l),b,[]⟩
     | true=>QQ (HF σ (ρ g) caps.toList fun l b=>K ⟨.d (.fn f l),b,[]⟩) (HE σ (ρ g) caps.toList fun l b=>K ⟨.cc (some f) l,b,[]⟩)
   | _=>False
 | .load t a=>match ρ g a with
   | .bot=>K ⟨.bot,[],[]⟩
   | .vptr _ _ o cs=>dh P σ t (cs.drop o) K
   | .d (.ptr cs)=>YC P t cs fun x=>K ⟨.d x,[],[]⟩
   | .eptr _ _ _ _ xs i o=>At xs i fun x=>YC P t (x.cells.drop o) fun x=>K ⟨.d x,[],[]⟩
   | _=>False
 | .store t a x=>if (P.info? t).isSome = true then match ρ g a with
   | .vptr id n o cs=>match KZ P t with
     | some true=>match ρ g x with
       | .cagg l=>if l.length = AF P t∧o + l.length≤cs.length then Ci (splice cs o l) fun l=>K ⟨.any,[(id,.var l,n)],[]⟩ else False
       | r=>Wt r fun v b =>
         if v.cells.length = AF P t∧o + v.cells.length≤cs.length then Yc v.cells fun l=>Ci (splice cs o l) fun l=>K ⟨.any,b++[(id,.var l,n)],[]⟩ else False
     | some false=>if AF P t = 1∧o < cs.length then match ρ g x with
      | .row id' n' _ _ _=>Ci (splice cs o [.sl id' n']) fun l=>K ⟨.any,[(id,.var l,n)],[]⟩
      | r=>Wt r fun v b=>if v.one = true then Ci (splice cs o [.d (nilT P t v)]) fun l=>K ⟨.any,b++[(id,.var l,n)],[]⟩ else False
      else False
     | none=>False
   | .eptr id n sz e xs i o=>dP (ρ g x) fun v b=>At xs i fun y =>
     if v.cells.length = AF P t∧o + v.cells.length≤y.cells.length∧DX id b = true then
      match y with
      | .agg cs=>Ci (splice cs o v.cells) fun l=>K ⟨.any,b++[(id,.row sz e (xs.set i (.agg l)),n)],[]⟩
      | _=>if v.one then K ⟨.any,b++[(id,.row sz e (xs.set i v),n)],[]⟩ else False
     else False
   | _=>False
   else False
 | .nilCheck x=>match ρ g x with
   | .vptr id n o _=>K ⟨.ptr id n o,[],[]⟩
   | .d (.ptr cs)=>K ⟨.d (.ptr cs),[],[]⟩
   | .d (.fn f cs)=>K ⟨.d (.fn f cs),[],[]⟩
   | .eptr id n sz _ _ i o=>K ⟨.eptr id n sz i o,[],[]⟩
   | _=>False
 | .binOp op t x y _=>match ρ g x with
   | .bot=>K ⟨.bot,[],[]⟩
   | .d a=>match ρ g y with
     | .bot=>K ⟨.bot,[],[]⟩
     | .d b=>Yh P t op a b fun x=>K ⟨.d x,[],[]⟩
     | _=>False
   | _=>False
 | .unOp op _ x=>match ρ g x with
   | .bot=>K ⟨.bot,[],[]⟩
   | .d a=>eT op a fun x=>K ⟨.d x,[],[]⟩
   | _=>False
 | .convert s t x=>match P.underlying s with
   | some _=>match P.underlying t with
     | some (.int k)=>match ρ g x with
       | .bot=>K ⟨.bot,[],[]⟩
       | .d (.int _ n)=>K ⟨.d (.int k (k.wrap n)),[],[]⟩
       | _=>False
     | some .string=>match ρ g x with
       | .bot=>K ⟨.bot,[],[]⟩
       | .d (.str s)=>K ⟨.d (.str s),[],[]⟩
       | _=>False
     | some (.slice e)=>match P.underlying e with
       | some (.int .u8)=>match ρ g x with
         | .bot=>K ⟨.bot,[],[]⟩
         | .d (.str s)=>K ⟨.d (.list 1 ((J4 s).map (D.int .u8))),[],[]⟩
         | _=>False
       | _=>False
     | _=>False
   | none=>False
 | .fieldAddr s x f=>match P.underlying s with
   | some (.struct fields)=>match fields[f]? with
     | some fd=>if 0 < AF P fd.type then match ρ g x with
      | .bot=>K ⟨.bot,[],[]⟩
      | .vptr id n o _=>K ⟨.ptr id n (o + fd.offset),[],[]⟩
      | .d (.ptr cs)=>Ci (cs.drop fd.offset) fun l=>K ⟨.d (.ptr l),[],[]⟩
      | .eptr id n sz _ _ i o=>K ⟨.eptr id n sz i (o + fd.offset),[],[]⟩
      | _=>False
      else False
     | none=>False
   | _=>False
 | .field s x f=>match P.underlying s with
   | some (.struct fields)=>match fields[f]? with
     | some fd=>match ρ g x with
      | .bot=>K ⟨.bot,[],[]⟩
      | .d (.agg cs)=>YC P fd.type (cs.drop fd.offset) fun x=>K ⟨.d x,[],[]⟩
      | _=>False
     | none=>False
   | _=>False
 | .indexAddr t x ix=>match P.underlying t with
   | some (.slice e)=>match ρ g ix with
     | .d (.int _ i)=>match ρ g x with
       | .d (.list sz xs)=>if sz = AF P e∧0 < sz then At xs i fun x=>Ci x.cells fun l=>K ⟨.d (.ptr l),[],[]⟩ else False
       | .lim sz xs=>if sz = AF P e∧0 < sz then At xs i fun x=>Ci x.cells fun l=>K ⟨.d (.ptr l),[],[]⟩ else False
       | .row id n sz _ xs=>if sz = AF P e then Ij (0≤i∧i.toNat < xs.length) (K ⟨.eptr id n sz i.toNat 0,[],[]⟩) else False
       | _=>False
     | _=>False
   | some (.array n e)=>match ρ g ix with
     | .d (.int _ i)=>match ρ g x with
       | .d (.ptr cs)=>if AF P e = 1 then Ij (i < n) (At cs i fun y=>K ⟨.d (.ptr [y]),[],[]⟩) else False
       | .vptr id m o _=>if 0 < AF P e then Ij (0≤i∧i < n) (K ⟨.ptr id m (o + i.toNat * AF P e),[],[]⟩) else False
       | _=>False
     | _=>False
   | _=>False
 | .index t x ix=>match P.underlying t with
   | some (.array n e)=>match ρ g ix with
     | .d (.int _ i)=>match ρ g x with
       | .d (.agg cs)=>if 0 < AF P e then Ij (0≤i∧i < n) (YC P e (cs.drop (i.toNat * AF P e)) fun x=>K ⟨.d x,[],[]⟩) else False
       | _=>False
     | _=>False
   | some .string=>match ρ g ix with
     | .d (.int _ i)=>match ρ g x with
       | .d (.str s)=>Ij (0≤i∧i.toNat < s.size) (K ⟨.d (.int .u8 (EY s i)),[],[]⟩)
       | _=>False
     | _=>False
   | _=>False
 | .slice t x lo hi mx=>match P.underlying t with
   | some .string=>match mx with
     | none=>match ρ g x with
       | .d (.str s)=>Zk (ρ g) lo 0 fun l=>Zk (ρ g) hi s.size fun h=>Ij (0≤l∧l≤h∧h≤s.size) (K ⟨.d (.str (s.extract l.toNat h.toNat)),[],[]⟩)
       | _=>False
     | some _=>False
   | some (.slice e)=>match ρ g x with
     | .d (.list sz xs)=>if sz = AF P e∧0 < sz then Kw (ρ g) sz xs lo hi mx [] K else False
     | .d (.nil sz)=>if sz = AF P e∧0 < sz then Kw (ρ g) sz [] lo hi mx [] K else False
     | .lim sz xs=>if sz = AF P e∧0 < sz then Kw (ρ g) sz xs lo hi mx [] K else False
     | .row id n sz e' xs=>if sz = AF P e∧0 < sz then QQ (Kw (ρ g) sz xs lo hi mx [(id,.frow sz xs,n)] K)
      (match lo with
       | none=>match mx with
         | none=>Zk (ρ g) hi xs.length fun h=>Ij (0≤h∧h≤xs.length) (K ⟨.sl id (n + 1),[(id,.row sz e' (xs.take h.toNat),n + 1)],[]⟩)
         | some _=>False
       | some _=>False)
      else False
     | _=>False
   | _=>False
 | .call c=>match c.callee with
   | .value f=>match ρ g f with
     | .d (.fn f caps)=>match Kz (ρ g) c.args.toList 0 with
       | none=>U5 P σ (ρ g) c f caps d dv K
       | some (k,id,n,cl)=>QQ (match caps with
         | []=>Ls (ρ g) k c.args.toList 0 fun vs=>Hd σ cl fun cs=>ah P f vs k cs fun cs' r=>Qx cl cs' fun l ub=>if DX id ub = true then K ⟨.d r,ub++[(id,.var l,n)],[]⟩ else False
         | _=>False) (U5 P σ (ρ g) c f caps d dv K)
     | .clo f cs k id n rid rn=>match σ rid rn with
       | .row _ _ sz e xs=>Ga P σ (ρ g) c.args.toList c.argTypes.toList fun vs bs=>match bs with
         | []=>Ci (O4 cs) fun cv=>bO P f (vs++cv) (vs.length + k) sz e xs fun ys=>if id = rid then False else K ⟨.any,[(rid,.row sz e ys,rn + 1),(id,.var [.sl rid (rn + 1)],n)],[]⟩
         | _=>False
       | _=>False
     | _=>False
   | .builtin .len=>match c.args.toList,c.argTypes.toList with
     | [x],[t]=>match P.underlying t with
       | some .string=>match ρ g x with
         | .bot=>K ⟨.bot,[],[]⟩
         | .d (.str s)=>K ⟨.d (.int .i64 s.size),[],[]⟩
         | _=>False
       | some (.slice _)=>match ρ g x with
         | .bot=>K ⟨.bot,[],[]⟩
         | r=>M8 r fun _ xs=>K ⟨.d (.int .i64 xs.length),[],[]⟩
       | _=>False
     | _,_=>False
   | .builtin .min=>match c.args.toList with
     | [x,y]=>match ρ g x with
       | .d (.int k a)=>match ρ g y with
         | .d (.int _ b)=>K ⟨.d (.int k (if b < a then b else a)),[],[]⟩
         | _=>False
       | _=>False
     | _=>False
   | .builtin .max=>match c.args.toList with
     | [x,y]=>match ρ g x with
       | .d (.int k a)=>match ρ g y with
         | .d (.int _ b)=>K ⟨.d (.int k (if b > a then b else a)),[],[]⟩
         | _=>False
       | _=>False
     | _=>False
   | .builtin .append=>match c.args.toList,c.argTypes.toList with
     | [x,y],[t,u]=>match P.underlying t with
       | some (.slice e)=>if t = u∧0 < AF P e∧J7 P e = true then M8 (ρ g y) fun sz' ys =>
         let fits (n:Nat):Prop:=n + ys.length≤maxLen∧(n + ys.length) * My P e≤140737488355328∧(ys = []∨sz' = AF P e)
         match ρ g x with
         | .row id n sz e' xs=>if e = e'∧sz = AF P e then Ij (fits xs.length) (K ⟨.sl id (n + 1),[(id,.row sz e (xs++ys),n + 1)],[]⟩) else False
         | .d (.nil _)=>Ij (fits 0) (K ⟨.sl d (dv + 1),[(d,.row (AF P e) e ys,dv + 1)],[]⟩)
         | .lim sz xs=>if sz = AF P e then Ij (fits xs.length∧ys≠[]) (K ⟨.sl d (dv + 1),[(d,.row sz e (xs++ys),dv + 1)],[]⟩) else False
         | _=>False
         else False
       | _=>False
     | _,_=>False
   | _=>False
 | .extract t i=>match ρ g t with
   | .tup xs=>match xs[i]? with
     | some (.d x)=>K ⟨.d x,[],[]⟩
     | some (.sl id n)=>K ⟨.sl id n,[],[]⟩
     | _=>False
   | _=>False
 | .makeMap t none=>match P.underlying t with
   | some (.map _ _)=>K ⟨.sl d (dv + 1),[(d,.map [],dv + 1)],[]⟩
   | _=>False
 | .lookup t x ix ok=>match P.underlying t with
   | some (.map kt et)=>aB P kt et (ρ g x) (ρ g ix) ok K
   | _=>False
 | .mapUpdate t m k x=>match P.underlying t with
   | some (.map kt _)=>dJ P kt (ρ g m) (ρ g k) (ρ g x) K
   | _=>False
 | _=>False
def JY:Op→Bool
 | .move _ | .pick _ _ _ | .load _ _ | .unOp _ _ _ | .convert _ _ _ | .fieldAddr _ _ _ | .field _ _ _=>true
 | .binOp op _ _ _ _=>match op with | .quo | .rem | .shl | .shr | .add=>false | _=>true
 | .call c=>match c.callee with | .builtin .len=>true | _=>false
 | _=>false
def T8:List Oper→Nat→Option Nat
 | [],_=>none
 | o :: _,0=>o.dst
 | _ :: r,n + 1=>T8 r n
def PF:AS→Nat→AV→(AS→Prop)→Prop
 | [],_,_,K=>K []
 | s :: r,0,v,K=>match s with | ⟨_,b,n⟩=>K (⟨v,b,n⟩ :: r)
 | s :: r,k + 1,v,K=>PF r k v fun r'=>K (s :: r')
def Uq:AS→Nat→BJ→Nat→(AS→Prop)→Prop
 | [],_,_,_,K=>K []
 | s :: r,0,b,m,K=>match s with | ⟨v,_,_⟩=>K (⟨v,b,m⟩ :: r)
 | s :: r,k + 1,b,m,K=>Uq r k b m fun r'=>K (s :: r')
def N7:Bx→AS→(AS→Prop)→Prop
 | [],S,K=>K S
 | (id,b,n) :: r,S,K=>Fo n fun n=>Xx b fun b=>Uq S id b n fun S=>N7 r S K
def aR (dst:Option Nat) (e:F3) (S:AS) (K:AS→Prop):Prop :=
 match e with
 | ⟨v,bx,_⟩=>match dst with
   | some d=>Uo v fun v=>N7 bx S fun S=>PF S d v K
   | none=>N7 bx S K
def Be:Bx→AS→AS
 | [],S=>S
 | (id,b,n) :: r,S=>Be r (Bq S id b n)
def Ws (dst:Option Nat) (e:F3) (S:AS):AS :=
 match dst with
 | some d=>Gy (Be e.bx S) d e.av
 | none=>Be e.bx S
def σOf (S:AS) (id n:Nat):RV:=res S (.sl id n)
def ρOf (S:AS) (g:Option (Nat × Bool)) (x:Operand):RV:=res S (eV g (ev S x))
def Tr:AS→Nat→(Nat→Prop)→Prop
 | [],_,_=>False
 | s :: _,0,K=>match s with | ⟨_,_,n⟩=>K n
 | _ :: r,k + 1,K=>Tr r k K
def dK (x:Option Nat) (K:Nat→Prop):Prop :=
 match x with
 | some d=>K d
 | none=>K 0
def Fp (S:AS):List (Nat × Nat)→Bool
 | []=>true
 | (h,n) :: r=>decide (h < S.length) && decide ((Av S h).ver < n) && Fp S r
def Db:Option Nat→List Nat
 | some d=>[d]
 | none=>[]
def Tg:List Operand→List Nat
 | []=>[]
 | .tmp t :: r=>t :: Tg r
 | _ :: r=>Tg r
def UV (all:List Oper):Nat→Oper→List Nat
 | 0,_=>[]
 | n + 1,o=>match o.guard with
   | some (j,_)=>Db (T8 all j)++match all[j]? with
     | some m=>UV all n m
     | none=>[]
   | none=>[]
def Ds (all:List Oper) (o:Oper):List Nat:=UV all 5 o++Tg o.op.operands.toList
def Wu (S:AS) (t:Nat) (mk:Bool→AV) (b:Bool) (K:AS→Option Bool→Prop):Prop :=
 T2 b (PF S t (mk true) fun S=>K S (some true)) (PF S t (mk false) fun S=>K S (some false))
def aV (lk:List Nat):Nat→Nat→AS→(AS→Option Bool→Prop)→Prop
 | 0,_,_,_=>False
 | n + 1,t,S,K=>if lk.contains t = true then match (Av S t).av with
   | .d (.bool b)=>Wu S t (fun b=>.d (.bool b)) b K
   | .under t' w' (.d (.bool b))=>aV lk n t' S fun S r=>match r with
     | some c=>match w' with
       | true=>match c with
         | true=>Wu S t (fun b=>.under t' w' (.d (.bool b))) b K
         | false=>K S none
       | false=>match c with
         | true=>K S none
         | false=>Wu S t (fun b=>.under t' w' (.d (.bool b))) b K
     | none=>K S none
   | .under _ _ .bot=>K S none
   | _=>False
   else False
def U2 (want:Bool) (r:Option Bool) (go skip:Prop):Prop :=
 match r with
 | none=>skip
 | some b=>match want with
   | true=>match b with
     | true=>go
     | false=>skip
   | false=>match b with
     | true=>skip
     | false=>go
def c9:AV→Bool
 | .ptr _ _ _ | .sl _ _=>true
 | _=>false
def J9 (S:AS) (o:Oper):Bool :=
 match o.op with
 | .move x=>c9 (ev S x)
 | _=>false
def yS (P:Program) (S:AS) (g:Option (Nat × Bool)) (o:Oper) (d dv:Nat) (K:F3→Prop):Prop :=
 match o.op with
 | .move x=>match ev S x with
   | .ptr id n k=>K ⟨.ptr id n k,[],[]⟩
   | .sl id n=>K ⟨.sl id n,[],[]⟩
   | _=>yA P (σOf S) (ρOf S) g o d dv K
 | _=>yA P (σOf S) (ρOf S) g o d dv K
def bu (P:Program) (all:List Oper) (done:List Nat) (o:Oper) (S:AS) (K:AS→F3→Prop):Prop :=
 match o.guard with
 | none=>dK o.dst fun d=>Tr S d fun n=>yS P S none o d n fun e=>if Fp S e.homes = true then K S e else False
 | some (j,want)=>match T8 all j with
   | none=>False
   | some t=>if done.contains t = true then
     match JY o.op with
     | true=>dK o.dst fun d=>Tr S d fun n=>yS P S (some (t,want)) o d n fun e=>match e with
       | ⟨v,[],[]⟩=>K S ⟨.under t want v,[],[]⟩
       | _=>False
     | false=>aV (Ds all o) 5 t S fun S r=>U2 want r
      (dK o.dst fun d=>Tr S d fun n=>yS P S (some (t,want)) o d n fun e=>if Fp S e.homes = true then K S e else False)
      (K S ⟨.under t want .bot,[],[]⟩)
     else False
def Ss (P:Program) (o:Oper):Option (Bool × Operand) :=
 match o.op with
 | .binOp op t x y _=>match Lw y,o.guard,P.underlying t with
   | true,none,some (.slice _)=>match op with
     | .eql=>some (true,x)
     | .neq=>some (false,x)
     | _=>none
   | _,_,_=>none
 | _=>none
def Ma:List Nat→(List Nat→Prop)→Prop
 | [],K=>K []
 | x :: r,K=>Ma r fun r=>K (x :: r)
def eH (P:Program) (all:List Oper) (done:List Nat) (l:List Oper):AS→(AS→Prop)→Prop :=
 List.rec (motive:=fun _=>List Nat→AS→(AS→Prop)→Prop) (fun _ S K=>K S)
  (fun o _ ih done S K=>if (Db o.dst).all (fun d=>!done.contains d) = true then
   match Ss P o with
   | some (pos,x)=>M8 (ρOf S none x) fun _ xs=>dN xs fun b=>aR o.dst ⟨.d (.bool (b==pos)),[],[]⟩ S fun S=>Ma (Db o.dst++done) fun done=>ih done S K
   | none=>bu P all done o S fun S e=>aR o.dst e S fun S=>Ma (Db o.dst++done) fun done=>ih done S K
   else False) l done
def Ld:List C→List Nat
 | []=>[]
 | .sl id _ :: r=>id :: Ld r
 | _ :: r=>Ld r
def Jb:AV→List Nat
 | .ptr id _ _=>[id]
 | .sl id _=>[id]
 | .eptr id _ _ _ _=>[id]
 | .under _ _ x=>Jb x
 | .cc _ xs=>Ld xs
 | _=>[]
def aH (S:AS) (id:Nat):List Nat:=id :: match (Av S id).box with
 | .var cs=>Ld cs
 | _=>[]
def YL:Op→Bool
 | .assign _ | .box _ _ | .alloc _ | .buildSlice _ _ _ | .makeSlice _ _ _ | .makeMap _ _=>true
 | .call c=>match c.callee with | .value _ | .builtin .append=>true | _=>false
 | _=>false
def VG (S:AS) (ts:List Nat) (o:Oper):List Nat :=
 (if YL o.op = true then [o.dst.getD 0] else [])++match J9 S o with
  | true=>[]
  | false=>ts.flatMap fun t=>(Jb (Av S t).av).flatMap (aH S)
def TW (x y:List Nat):Bool:=x.all fun i=>!y.contains i
def VK (o:Oper) (i:Nat):Bool:=o.after.toList.any fun e=>e.on==i && Region.binds .any e
def am (all:List Oper):Nat→Oper→Nat→Bool
 | 0,o,i=>VK o i
 | n + 1,o,i=>VK o i || o.after.toList.any fun e=>Region.binds .any e && (match all[e.on]? with | some m=>am all n m i | none=>false)
def Qw (all:List Oper) (o:Oper) (i:Nat):Bool:=am all 4 o i
def dY (all:List Oper) (o:Oper) (R W:List Nat) (log:List (Nat × List Nat × List Nat)):Bool :=
 log.all fun x=>(TW x.2.2 (R++W) && TW x.2.1 W) || Qw all o x.1
def eI (P:Program) (all:List Oper) (k:Nat) (log:List (Nat × List Nat × List Nat)) (done:List Nat) (l:List Oper):AS→(AS→Prop)→Prop :=
 List.rec (motive:=fun _=>Nat→List (Nat × List Nat × List Nat)→List Nat→AS→(AS→Prop)→Prop) (fun _ _ _ S K=>K S)
  (fun o _ ih k log done S K=>if (Db o.dst).all (fun d=>!done.contains d) = true then
   bu P all done o S fun S e=>Ma (VG S (Ds all o) o++e.homes.map (·.1)) fun R=>Ma (e.bx.map (·.1)) fun W=>if dY all o R W log = true then
    aR o.dst e S fun S'=>Ma (Db o.dst++done) fun done=>ih (k + 1) ((k,R,W) :: log) done S' K else False
  else False) l k log done
def ZS (all:List Oper):Nat→List Oper→Bool
 | _,[]=>true
 | k,o :: r=>((o.after.toList.all fun e=>!Region.binds .any e || decide (e.on < k)) && (match o.guard with | some (j,_)=>decide (j < k) | none=>true)) &&
  (all.take k).zipIdx.all (fun x=>(TW (Db x.1.dst) (Ds all o) && TW (Ds all x.1) (Db o.dst)) || Qw all o x.2) && ZS all (k + 1) r
def plain:AS→(AS→Prop)→Prop
 | [],K=>K []
 | s :: r,K=>plain r fun r'=>match s with
   | ⟨.under _ _ _,b,n⟩=>K (⟨.any,b,n⟩ :: r')
   | s=>K (s :: r')
def ck (x y:D) (K:Prop):Prop :=
 match x with
 | .nil s=>(D.nil s = y∨D.list s [] = y)∧K
 | x=>x = y∧K
def GG (v v':Nat→Nat):List C→List C→Prop→Prop
 | [],[],K=>K
 | .d x :: r,.d y :: q,K=>ck x y (GG v v' r q K)
 | .sl id n :: r,.sl id' n' :: q,K=>if id = id'∧n = v id∧n' = v' id then GG v v' r q K else False
 | _,_,_=>False
def M5 (v v':Nat→Nat) (a a':AV) (K:Prop):Prop :=
 match a' with
 | .any=>K
 | .d x'=>match a with
   | .d x=>ck x x' K
   | .lim sz xs=>D.list sz xs = x'∧K
   | _=>False
 | .lim sz xs=>a = .lim sz xs∧K
 | .ptr id n o=>match a with
   | .ptr id' n' o'=>if id' = id∧n' = v id∧n = v' id then o' = o∧K else False
   | _=>False
 | .sl id n=>match a with
   | .sl id' n'=>if id' = id∧n' = v id∧n = v' id then K else False
   | _=>False
 | .cc k xs'=>match a with
   | .cc k' xs=>if k = k' then GG v v' xs xs' K else False
   | _=>False
 | _=>False
def ay (v v':Nat→Nat) (b b':BJ) (K:Prop):Prop :=
 match b' with
 | .none=>K
 | .frow sz xs=>(b = .frow sz xs∨∃ e,b = .row sz e xs)∧K
 | .fvar cs=>b = .fvar cs∧K
 | .map es=>b = .map es∧K
 | .row sz e xs=>b = .row sz e xs∧K
 | .var cs'=>match b with
   | .var cs=>GG v v' cs cs' K
   | _=>False
def az (b':BJ) (n n':Nat) (K:Prop):Prop :=
 match b' with
 | .none=>K
 | _=>if n' = 0→n = 0 then K else False
def YD (v v':Nat→Nat):AS→AS→Prop
 | [],[]=>True
 | ⟨av,b,n⟩ :: r,⟨av',b',n'⟩ :: r'=>M5 v v' av av' (az b' n n' (ay v v' b b' (YD v v' r r')))
 | _,_=>False
def Yo:List Nat→AS→(AS→Prop)→Prop
 | [],S,K=>K S
 | t :: r,S,K=>Wt (ρOf S none (.tmp t)) fun x b=>N7 b S fun S=>PF S t (.d x) fun S=>Yo r S K
def XW:Nat→AS→AS→List Nat
 | t,⟨av,_,_⟩ :: r,⟨av',_,_⟩ :: r'=>match av' with
   | .d _=>match av with
     | .sl _ _=>t :: XW (t + 1) r r'
     | _=>XW (t + 1) r r'
   | _=>XW (t + 1) r r'
 | _,_,_=>[]
def cq:List C→List C→Bool
 | c :: r,c' :: q=>match c with
   | .sl _ _=>match c' with
     | .d _=>true
     | _=>cq r q
   | _=>cq r q
 | _,_=>false
def V9:Nat→AS→AS→List Nat
 | t,⟨_,b,_⟩ :: r,⟨_,b',_⟩ :: r'=>match b' with
   | .var cs'=>match b with
     | .var cs=>match cq cs cs' with
       | true=>t :: V9 (t + 1) r r'
       | false=>V9 (t + 1) r r'
     | _=>V9 (t + 1) r r'
   | _=>V9 (t + 1) r r'
 | _,_,_=>[]
def ap:List Nat→AS→(AS→Prop)→Prop
 | [],S,K=>K S
 | t :: r,S,K=>match Av S t with
   | ⟨_,.var cs,n⟩=>CB (σOf S) cs fun l b=>Yc l fun l=>N7 (b++[(t,.var l,n)]) S fun S=>ap r S K
   | _=>False
def Le (S S':AS):Prop:=Yo (XW 0 S S') S fun S=>ap (V9 0 S S') S fun S=>YD (fun i=>(Av S i).ver) (fun i=>(Av S' i).ver) S S'
def Uz:List (Nat × Nat × Nat × TypeId)→AS→(AS→Prop)→Prop
 | [],S,K=>K S
 | (v,j,h,e) :: r,S,K=>match Av S v with
   | ⟨_,.var cs,n⟩=>match cs[j]? with
     | some (.d (.nil s))=>if 0 < s∧v≠h then Tr S h fun m=>Ci (splice cs j [.sl h (m + 1)]) fun l=>N7 [(h,.row s e [],m + 1),(v,.var l,n)] S fun S=>Uz r S K else False
     | _=>False
   | _=>False
def EE:AS→(AS→Prop)→Prop
 | [],K=>K []
 | s :: r,K=>EE r fun r'=>match s with | ⟨v,b,n⟩=>Uo v fun v=>Xx b fun b=>Fo n fun n=>K (⟨v,b,n⟩ :: r')
structure fT (p:Prop):Prop where
 go:p
structure R3 (S:AS) (W:((Exit→AS→Prop)→AS→Prop)) (Q:Exit→AS→Prop):Prop where
 go:∃ (ads:List (Nat × Nat × Nat × TypeId)) (frs:List Nat) (ι:Type) (Inv:ι→AS) (μ:ι→Nat) (i:ι),Uz ads S (fun S=>Yo frs S fun S=>Le S (Inv i)) ∧
  ∀ i,EE (Inv i) (W (fun e S=>match e with | .normal=>∃ j,Le S (Inv j)∧μ j < μ i | e=>Q e S))
theorem loop {S:AS} {W:((Exit→AS→Prop)→AS→Prop)} {Q:Exit→AS→Prop} (ι:Type) (Inv:ι→AS) (μ:ι→Nat) (i:ι) (h:Le S (Inv i))
 (k:∀ i,EE (Inv i) (W (fun e S=>match e with | .normal=>∃ j,Le S (Inv j)∧μ j < μ i | e=>Q e S))):R3 S W Q:=⟨⟨[],[],ι,Inv,μ,i,h,k⟩⟩
theorem WI {S:AS} {W:((Exit→AS→Prop)→AS→Prop)} {Q:Exit→AS→Prop} (ads:List (Nat × Nat × Nat × TypeId)) (ι:Type) (Inv:ι→AS) (μ:ι→Nat) (i:ι) (h:Uz ads S (fun S=>Le S (Inv i)))
 (k:∀ i,EE (Inv i) (W (fun e S=>match e with | .normal=>∃ j,Le S (Inv j)∧μ j < μ i | e=>Q e S))):R3 S W Q:=⟨⟨ads,[],ι,Inv,μ,i,h,k⟩⟩
noncomputable def co (c:Code):Option Nat :=
 Code.rec (motive:=fun _=>Option Nat) none (fun id _ _=>some id) (fun _ _ a b=>match a with | some i=>some i | none=>b) (fun _ _ _ _ _=>none) (fun _ _ a=>a) (fun _ a=>a)
  (fun _ _ _ _ _ _=>none) (fun _=>none) (fun _ a=>a) (fun _=>none) (fun _=>none) none (fun _=>none) c
noncomputable def cA (J:List Nat) (y:Code):Bool :=
 match J with
 | []=>false
 | J=>match co y with
   | some i=>J.contains i
   | none=>false
structure Uv (S:AS) (wx wy:(Exit→AS→Prop)→AS→Prop) (Q:Exit→AS→Prop):Prop where
 go:∃ (ι:Type) (Inv:ι→AS),wx (fun e S=>match e with | .normal=>∃ i,Le S (Inv i) | e=>Q e S) S∧∀ i,EE (Inv i) (wy Q)
theorem Th {S:AS} {wx wy:(Exit→AS→Prop)→AS→Prop} {Q:Exit→AS→Prop} (ι:Type) (Inv:ι→AS) (h:wx (fun e S=>match e with | .normal=>∃ i,Le S (Inv i) | e=>Q e S) S) (k:∀ i,EE (Inv i) (wy Q)):Uv S wx wy Q:=⟨⟨ι,Inv,h,k⟩⟩
def bE (P:Program) (J:List Nat) (c:Code):(Exit→AS→Prop)→AS→Prop :=
 Code.rec (motive:=fun _=>(Exit→AS→Prop)→AS→Prop)
  (fun Q S=>Q .normal S)
  (fun _ ops draw Q S=>match draw with
   | false=>eH P ops.toList [] ops.toList S fun S=>plain S (Q .normal)
   | true=>Ij (ZS ops.toList 0 ops.toList = true∧P.follows .mixedOrders = true) (eI P ops.toList 0 [] [] ops.toList S fun S=>plain S (Q .normal)))
  (fun _ y wx wy Q S=>match cA J y with
   | false=>wx (fun e S=>match e with | .normal=>wy Q S | e=>Q e S) S
   | true=>Uv S wx wy Q)
  (fun c _ _ wx wy Q S=>match ρOf S none c with
   | .d (.bool b)=>T2 b (wx Q S) (wy Q S)
   | _=>False)
  (fun id _ wc Q S=>wc (fun e S=>match e with | .exit id'=>if id' = id then Q .normal S else Q (.exit id') S | e=>Q e S) S)
  (fun _ wc Q S=>R3 S wc Q)
  (fun _ _ _ _ _ _ _ _=>False)
  (fun id Q S=>Q (.exit id) S)
  (fun _ _ _ _=>False)
  (fun _ Q S=>Q .normal S)
  (fun _ _ _=>False)
  (fun Q S=>Q .ret S)
  (fun _ _ _=>False)
  c
def fO:C→AV
 | .d x=>.d x
 | .own sz e xs=>.own sz e xs
 | .sl _ _=>.any
def Xn:List C→(List D→Prop)→Prop
 | [],K=>K []
 | .d x :: r,K=>Xn r fun l=>K (x :: l)
 | _ :: _,_=>False
def P7 (P:Program) (S:AS) (used:List Nat) (frz:Bx):List ResultVar→(List C→List Nat→Bx→Prop)→Prop
 | [],K=>K [] used frz
 | .tmp t :: r,K=>match ρOf S none (.tmp t) with
   | .row id n sz e xs=>QQ (P7 P S used (frz++[(id,.frow sz xs,n)]) r fun l u b=>K (.d (.list sz xs) :: l) u b)
    (if used.contains id = true then False else Ij (∀ x∈xs,∀ y∈x.cells,y.bare = true) (P7 P S (id :: used) frz r fun l u b=>K (.own sz e xs :: l) u b))
   | v=>dP v fun x b=>P7 P S used (frz++b) r fun l u b=>K (.d x :: l) u b
 | .cell t ty :: r,K=>match ρOf S none (.tmp t) with
   | .vptr _ _ o cs=>Xn cs fun l=>YC P ty (l.drop o) fun x=>Mg x fun x=>P7 P S used frz r fun l u b=>K (.d x :: l) u b
   | _=>False
structure eo (x:AV) (r:AV):Prop where
 go:x = r
def dD (l:List C) (used:List Nat) (frz:Bx) (r:AV):Prop :=
 if used.all (fun i=>DX i frz) = true then match l with
  | [c]=>eo (fO c) r
  | l=>eo (.tup l) r
 else False
def b5 (P:Program) (rs:List ResultVar) (used:List Nat) (frz:Bx) (S:AS) (r:AV):Prop :=
 match r with
 | .cc _ _=>match rs with
   | [.tmp t]=>match ρOf S none (.tmp t) with
     | .row id _ sz e xs=>if used.contains id = true then False else if (id :: used).all (fun i=>DX i frz) = true then eo (.cc none [.own sz e xs]) r else False
     | _=>False
   | _=>False
 | r=>match rs with
   | [.tmp t]=>match ρOf S none (.tmp t) with
     | .vptr id _ 0 cs=>if used.contains id = true then False else CB (σOf S) cs fun l b=>No l fun l=>if (id :: used).all (fun i=>DX i (frz++b)) = true then eo (.optr l) r else False
     | _=>P7 P S used frz rs fun l u b=>dD l u b r
   | rs=>P7 P S used frz rs fun l u b=>dD l u b r
def O3:Nat→AS
 | 0=>[]
 | n + 1=>bH :: O3 n
def YI (i:Nat):List C→List C
 | []=>[]
 | c :: r=>match c with
   | .own _ _ _=>.sl i 0 :: YI i r
   | c=>c :: YI i r
def dF:List C→BJ
 | []=>.none
 | c :: r=>match c with
   | .own sz e xs=>.row sz e xs
   | _=>dF r
def Lr (i:Nat):AV→Sl
 | .own sz e xs=>⟨.sl i 0,.row sz e xs,0⟩
 | .optr cs=>⟨.ptr i 0 0,.var (cs.map .d),0⟩
 | .cc k l=>⟨.cc k (YI i l),dF l,0⟩
 | a=>⟨a,.none,0⟩
def enter (i:Nat):List AV→AS→AS
 | [],S=>S
 | a :: r,S=>Lr i a :: enter (i + 1) r (S.drop 1)
def dV:List (Nat × AV)→Nat→AV
 | [],_=>.any
 | (t,v) :: r,k=>match Nat.beq t k with
   | true=>v
   | false=>dV r k
def dW:Bx→Nat→AV→Sl
 | [],_,v=>⟨v,.none,0⟩
 | (t,b,n) :: r,k,v=>match Nat.beq t k with
   | true=>⟨v,b,n⟩
   | false=>dW r k v
def Wp (N:Nat):Nat→(Nat→Sl)→AS
 | 0,_=>[]
 | n + 1,f=>f (Nat.sub N (Nat.succ n)) :: Wp N n f
def B0 (n:Nat) (l:List (Nat × AV)) (b:Bx):AS:=Wp n n fun k=>dW b k (dV l k)
def ai (P:Program) (J:List Nat) (fn:Func) (args:List AV) (r:AV):Prop :=
 match fn.body with
 | some c=>EE (enter 0 args (O3 fn.ntmps)) (bE P J c (fun e S=>match e with
   | .normal | .ret=>b5 P fn.results.toList [] [] S r
   | _=>False))
 | none=>False
def OZ (S:AS):Nat→List AV→(List Nat→Bx→Prop)→Prop
 | _,[],K=>K [] []
 | i,.own sz e ys :: r,K=>match Av S i with
   | ⟨_,.row sz' e' xs,0⟩=>(sz' = sz∧e' = e∧xs = ys)∧OZ S (i + 1) r fun u b=>K (i :: u) b
   | _=>False
 | i,.optr cs :: r,K=>match Av S i with
   | ⟨_,.var cs',0⟩=>CB (σOf S) cs' fun l b=>No l fun l=>l = cs∧OZ S (i + 1) r fun u b'=>K (i :: u) (b++b')
   | _=>False
 | i,.cc _ l :: r,K=>TH l fun sz e ys=>match Av S i with
   | ⟨_,.row sz' e' xs,0⟩=>(sz' = sz∧e' = e∧xs = ys)∧OZ S (i + 1) r fun u b=>K (i :: u) b
   | _=>False
 | i,_ :: r,K=>OZ S (i + 1) r K
def Xd (P:Program) (J:List Nat) (fn:Func) (args outs:List AV) (r:AV):Prop :=
 match fn.body with
 | some c=>EE (enter 0 args (O3 fn.ntmps)) (bE P J c (fun e S=>match e with
   | .normal | .ret=>OZ S 0 outs fun u b=>b5 P fn.results.toList u b S r
   | _=>False))
 | none=>False
def Se:List C→List Nat→List C
 | .own _ _ _ :: r,q :: qs=>.sl q 0 :: Se r qs
 | c :: r,_ :: qs=>c :: Se r qs
 | c :: r,[]=>c :: Se r []
 | [],_=>[]
def Ua (i:Nat):List C→List Nat→BJ
 | .own sz e xs :: r,q :: qs=>match Nat.beq q i with
   | true=>.row sz e xs
   | false=>Ua i r qs
 | _ :: r,_ :: qs=>Ua i r qs
 | _,_=>.none
def de:List AV→Nat→AV
 | [],_=>.any
 | x :: _,0=>x
 | _ :: r,n + 1=>de r n
def WB (args:List AV) (k:Nat) (cs:List C) (qs:List Nat) (i:Nat):Sl :=
 match Nat.beq i k with
 | true=>⟨.ptr k 0 0,.var (Se cs qs),0⟩
 | false=>⟨de args i,Ua i cs qs,0⟩
def be (S:AS):List C→List C→(List Nat→Prop)→Prop
 | [],[],K=>K []
 | .d x :: r,.d y :: r',K=>Mg x fun x=>x = y∧be S r r' K
 | .sl q n :: r,.own sz e ys :: r',K=>match Av S q with
   | ⟨_,.row sz' e' xs,m⟩=>(n = m∧sz' = sz∧e' = e∧xs = ys)∧be S r r' fun used=>if used.contains q = true then False else K (q :: used)
   | _=>False
 | _,_,_=>False
def e7 (fn:Func) (S:AS) (k:Nat) (cs':List C) (r:D):Prop :=
 match Av S k with
 | ⟨_,.var cl,0⟩=>be S cl cs' fun used=>if used.contains k = true then False else match fn.results.toList with
   | [.tmp t]=>match ρOf S none (.tmp t) with
     | .d x=>Mg x fun x=>eo (.d x) (.d r)
     | _=>False
   | _=>False
 | _=>False
def bM (P:Program) (J:List Nat) (fn:Func) (args:List AV) (k:Nat) (qs:List Nat) (cs cs':List C) (r:D):Prop :=
 match fn.body with
 | some c=>EE (Wp fn.ntmps fn.ntmps (WB args k cs qs)) (bE P J c (fun e S=>match e with
   | .normal | .ret=>e7 fn S k cs' r
   | _=>False))
 | none=>False
def fb (P:Program) (fn:Func) (args:List AV) (r:AV):Prop:=ai P [] fn args r
def fc (P:Program) (fn:Func) (args outs:List AV) (r:AV):Prop:=Xd P [] fn args outs r
end Go.Abs
set_option linter.unusedVariables false
set_option linter.unusedSimpArgs false
namespace Go.Abs
open Go.RowKit (Below)
theorem AT.refl (B:Nat) (M:Nat→Prop) (w:World):AT B M w w:=⟨rfl,rfl,rfl,Nat.le_refl _,fun _ _ _=>rfl⟩
theorem AT.trans {B:Nat} {M:Nat→Prop} {a b c:World} (h:AT B M a b) (k:AT B M b c):AT B M a c :=
 ⟨k.os.trans h.os,k.tape.trans h.tape,k.output.trans h.output,Nat.le_trans h.size k.size,fun i hi hm=>(k.block i hi hm).trans (h.block i hi hm)⟩
theorem AT.of {B:Nat} {M:Nat→Prop} {a b:World} (h:Below B a b):AT B M a b:=⟨h.os,h.tape,h.output,h.size,fun i hi _=>h.block i hi⟩
theorem AT.below {B:Nat} {M:Nat→Prop} {a b:World} (h:AT B M a b) (hm:∀ k,¬ M k):Below B a b:=⟨h.os,h.tape,h.output,h.size,fun i hi=>h.block i hi (hm i)⟩
theorem AT.weaken {B B':Nat} {M M':Nat→Prop} {a b:World} (h:AT B M a b) (hB:B'≤B) (hm:∀ k,k < B'→¬ M' k→¬ M k):AT B' M' a b :=
 ⟨h.os,h.tape,h.output,h.size,fun i hi hk=>h.block i (by omega) (hm i hi hk)⟩
theorem AT.setRow (B:Nat) {M:Nat→Prop} (w:World) {b:Nat} (c:Array Value) (hb:B≤b∨M b):AT B M w (w.setRow b c) :=
 ⟨rfl,rfl,rfl,by simp,fun k hk hm=>setRow_other w b k c fun e=>by subst e; rcases hb with h | h; omega; exact hm h⟩
section mono
variable {O O':Nat→Prop} {w w':World}
structure B4 (O O':Nat→Prop) (w w':World):Prop where
 size:w.heap.size≤w'.heap.size
 own:∀ b,b < w.heap.size→O' b→O b
 same:∀ b,b < w.heap.size→¬ O b→w'.heap[b]? = w.heap[b]?
theorem B4.cell (k:B4 O O' w w') {b o:Nat} (hb:b < w.heap.size) (hO:¬ O b):w'.cell? ⟨b,o,none⟩ = w.cell? ⟨b,o,none⟩ :=
 World.cell?_of_block (k.same b hb hO)
theorem AB.mono (k:B4 O O' w w') {v:Value} {x:D} (h:AB O w v x):AB O' w' v x:=by
 induction h with
 | bool b=>exact .bool b
 | int kd n=>exact .int kd n
 | str s=>exact .str s
 | fn f vs xs hl h1 h ih=>exact .fn f vs xs hl h1 ih
 | ptr b off cs c hb hO h1 hcell h ih =>
   have hne:∀ (j:Nat) y,cs[j]? = some y→cs≠[]:=by intro j y hy e; subst e; simp at hy
   exact .ptr b off cs c (fun hn=>Nat.lt_of_lt_of_le (hb hn) k.size) (fun hn h'=>hO hn (k.own b (hb hn) h')) h1
    (fun j y hy=>by rw [← hcell j y hy]; exact k.cell (hb (hne j y hy)) (hO (hne j y hy))) ih
 | agg vs xs hl h1 h ih=>exact .agg vs xs hl h1 ih
 | nil a sz=>exact .nil a sz
 | emp a cap sz=>exact .emp a cap sz
 | list b off cap sz xs c hne hb hO hcap hsz h1 hcell h ih =>
   exact .list b off cap sz xs c hne (Nat.lt_of_lt_of_le hb k.size) (fun h'=>hO (k.own b hb h')) hcap hsz h1
    (fun i x j y hx hy=>by rw [← hcell i x j y hx hy]; exact k.cell hb hO) ih
theorem Bo.mono (k:B4 O O' w w') {vs:List Value} {ys:List D} (h:Bo O w vs ys):Bo O' w' vs ys :=
 ⟨h.1,fun j v y hv hy=>⟨(h.2 j v y hv hy).1.mono k,(h.2 j v y hv hy).2⟩⟩
theorem O2.mono (k:B4 O O' w w') {v:Value} {x:AV} (h:O2 O w v x):O2 O' w' v x:=by
 cases x <;> simp only [O2] at h ⊢
 case d x=>exact h.mono k
 case lim sz xs=>exact ⟨h.1.mono k,h.2⟩
theorem BK.mono (k:B4 O O' w w') {β β':Nat→Value} {n n':Nat→Nat} (hn:∀ i,n i < n' i∨(n' i = n i∧β' i = β i)) {v:Value} {c:C} (h:BK β n O w v c):BK β' n' O' w' v c:=by
 cases c with
 | d x=>exact ⟨h.1.mono k,h.2⟩
 | sl id m =>
   simp only [BK] at h ⊢
   rcases hn id with h1 | ⟨h1,h2⟩
   ·exact ⟨by omega,fun e=>by omega⟩
   ·rw [h1,h2]; exact h
 | own sz e xs=>exact h
def AV.guards:AV→List Nat
 | .under t _ x=>t :: x.guards
 | _=>[]
theorem IZ.mono (k:B4 O O' w w') {β β':Nat→Value} {n n':Nat→Nat} {tm tm':Array Value} {v:Value}
 (hn:∀ i,n i < n' i∨(n' i = n i∧β' i = β i)):∀ {x:AV},(∀ u∈x.guards,tm'[u]? = tm[u]?)→IZ β n O w tm v x→IZ β' n' O' w' tm' v x:=by
 intro x
 induction x with
 | any=>intro _ h; exact h
 | bot=>intro _ h; exact h
 | d x=>intro _ h; exact AB.mono k h
 | lim sz xs=>intro _ h; exact ⟨AB.mono k h.1,h.2⟩
 | ptr id m o =>
   intro _ h
   simp only [IZ] at h ⊢
   rcases hn id with h1 | ⟨h1,h2⟩
   ·exact ⟨by omega,fun e=>by omega⟩
   ·rw [h1,h2]; exact h
 | sl id m =>
   intro _ h
   simp only [IZ] at h ⊢
   rcases hn id with h1 | ⟨h1,h2⟩
   ·exact ⟨by omega,fun e=>by omega⟩
   ·rw [h1,h2]; exact h
 | eptr id m sz i o =>
   intro _ h
   simp only [IZ] at h ⊢
   rcases hn id with h1 | ⟨h1,h2⟩
   ·exact ⟨by omega,fun e=>by omega⟩
   ·rw [h1,h2]; exact h
 | tup xs =>
   intro _ h
   obtain ⟨vs,hv,hl,h⟩:=h
   refine ⟨vs,hv,hl,fun i u x hu hx=>?_⟩
   have:=h i u x hu hx
   cases x with
   | d y=>exact AB.mono k this
   | sl id m=>exact BK.mono k hn this
   | own sz e xs=>exact this
 | own sz e xs=>intro _ h; exact h
 | optr cs=>intro _ h; exact h
 | cc k' xs =>
   intro _ h
   obtain ⟨vs,hv,hl,h⟩:=h
   exact ⟨vs,hv,hl,fun i u x hu hx=>⟨BK.mono k hn (h i u x hu hx).1,(h i u x hu hx).2⟩⟩
 | under t want x ih =>
   intro hg h
   refine ⟨fun ht=>ih (fun u hu=>hg u (by simp [AV.guards,hu])) (h.1 ?_),fun ht=>h.2 ?_⟩
   ·rw [← hg t (by simp [AV.guards])]
    exact ht
   ·rw [← hg t (by simp [AV.guards])]
    exact ht
end mono
theorem CW:∀ (S:AS) (d:Nat) (v:AV) (i:Nat),Av (Gy S d v) i = if i = d∧d < S.length then ⟨v,(Av S d).box,(Av S d).ver⟩ else Av S i
 | [],d,v,i=>by simp [Gy,Av]
 | s :: r,0,v,0=>by simp [Gy,Av]
 | s :: r,0,v,i + 1=>by simp [Gy,Av]
 | s :: r,d + 1,v,0=>by simp [Gy,Av]
 | s :: r,d + 1,v,i + 1=>by simp [Gy,Av,CW r d v i]
theorem Cd:∀ (S:AS) (d:Nat) (b:BJ) (n i:Nat),Av (Bq S d b n) i = if i = d∧d < S.length then ⟨(Av S d).av,b,n⟩ else Av S i
 | [],d,b,n,i=>by simp [Bq,Av]
 | s :: r,0,b,n,0=>by simp [Bq,Av]
 | s :: r,0,b,n,i + 1=>by simp [Bq,Av]
 | s :: r,d + 1,b,n,0=>by simp [Bq,Av]
 | s :: r,d + 1,b,n,i + 1=>by simp [Bq,Av,Cd r d b n i]
theorem K9:∀ (S:AS) (d:Nat) (v:AV),(Gy S d v).length = S.length
 | [],_,_=>rfl
 | _ :: _,0,_=>rfl
 | _ :: r,d + 1,v=>by simp [Gy,K9 r d v]
theorem Dx:∀ (S:AS) (d:Nat) (b:BJ) (n:Nat),(Bq S d b n).length = S.length
 | [],_,_,_=>rfl
 | _ :: _,0,_,_=>rfl
 | _ :: r,d + 1,b,n=>by simp [Bq,Dx r d b n]
theorem KJ:∀ (S:AS) (i:Nat),S.length≤i→Av S i = bH
 | [],_,_=>rfl
 | _ :: r,0,h=>by simp at h
 | _ :: r,i + 1,h=>by simp only [Av]; exact KJ r i (by simpa using h)
def AU (S:AS) (i:Nat):Nat:=(Av S i).ver
structure Cx where
 base:Nat
 M:Nat→Prop
 O:Nat→Prop
 R:Nat→Prop
 w₀:World
 ini:Nat→Value
 glob:TT (fun b=>O b∨base≤b∨M b) w₀
def Cx.mine (x:Cx) (b:Nat):Prop:=x.base≤b∨x.M b
def Cx.less (x:Cx) (R:Nat→Prop):Cx:={ x with R:=R }
def OS (β:Nat→Value) (x:Cx) (S:AS) (b:Nat):Prop:=x.O b∨x.R b∨∃ i,(Av S i).box.owned = true∧A1 (β i) = some b
structure AE (x:Cx) (G:Nat→Prop) (β:Nat→Value) (S:AS) (a:Act) (w:World):Prop where
 len:a.tmps.size = S.length
 df:a.defers = []
 below:AT x.base x.M x.w₀ w
 hbase:x.base≤w.heap.size
 o₀:∀ b,x.O b→b < x.base∧¬ x.M b
 rs:∀ b,x.R b→x.mine b∧b < w.heap.size
 slots:∀ (t:Nat) v,a.tmps[t]? = some v→IZ β (AU S) (OS β x S) w a.tmps v (Av S t).av
 boxes:∀ i,Mw β (AU S) (OS β x S) w i (Av S i).box
 mine:∀ i b,(Av S i).box.owned = true→A1 (β i) = some b→x.mine b∧¬ x.R b
 inj:∀ i j b,(Av S i).box.owned = true→(Av S j).box.owned = true→A1 (β i) = some b→A1 (β j) = some b→i = j
 gds:∀ t,∀ u∈(Av S t).av.guards,G u
 ini:∀ i,(Av S i).ver = 0→(Av S i).box≠.none→β i = x.ini i
theorem B4.refl (O:Nat→Prop) (w:World):B4 O O w w:=⟨Nat.le_refl _,fun _ _ h=>h,fun _ _ _=>rfl⟩
theorem B4.world {O:Nat→Prop} {w w':World} (h:Below w.heap.size w w'):B4 O O w w':=⟨h.size,fun _ _ h=>h,fun b hb _=>h.block b hb⟩
theorem B4.of_sub {O O':Nat→Prop} {w:World} (h:∀ b,O' b→O b):B4 O O' w w:=⟨Nat.le_refl _,fun b _ hb=>h b hb,fun _ _ _=>rfl⟩
theorem AE.glob {x:Cx} {G:Nat→Prop} {β:Nat→Value} {S:AS} {a:Act} {w:World} (h:AE x G β S a w):TT (OS β x S) w:=by
 intro g cs hg
 refine (x.glob g cs hg).mono ⟨h.below.size,fun b hb ho=>?_,fun b hb ho=>h.below.block b (by omega) (fun hm=>ho (.inr (.inr hm)))⟩
 rcases ho with ho | ho | ⟨i,h1,h2⟩
 ·exact .inl ho
 ·exact .inr (h.rs b ho).1
 ·exact .inr (h.mine i b h1 h2).1
theorem UP {O M:Nat→Prop} {w:World} (h:TT (fun b=>O b∨M b) w):TT (fun b=>O b∨w.heap.size≤b∨M b) w:=by
 intro g cs hg
 refine (h g cs hg).mono ⟨Nat.le_refl _,fun b hb ho=>?_,fun _ _ _=>rfl⟩
 rcases ho with ho | ho | ho
 ·exact .inl ho
 ·omega
 ·exact .inr ho
theorem AD {α:Type} {l:List α} {i:Nat} {x:α} (h:l[i]? = some x):i < l.length:=by
 rcases Nat.lt_or_ge i l.length with h' | h'
 ·exact h'
 ·simp [List.getElem?_eq_none h'] at h
theorem En {α:Type} {l:Array α} {i:Nat} {x:α} (h:l[i]? = some x):i < l.size:=by
 rcases Nat.lt_or_ge i l.size with h' | h'
 ·exact h'
 ·simp [Array.getElem?_eq_none h'] at h
section sim
variable {x:Cx} {G:Nat→Prop} {β:Nat→Value} {S:AS} {a:Act} {w:World}
theorem Ca.mono {w w':World} {e:TypeId} {sz n:Nat} {v:Value} {vals:List Value} (h:Ca w e sz v n vals)
 (hk:∀ b,b < w.heap.size→A1 v = some b→w'.heap[b]? = w.heap[b]?):Ca w' e sz v n vals:=by
 rcases h with ⟨hl,h⟩ | h
 ·rcases h with h | ⟨g,cap,cur,hv,hb,hh,hn,hm,hs,ht⟩
  ·exact .inl ⟨hl,.inl h⟩
  ·by_cases hc:cap = 0
   ·subst hc
    have hn0:n = 0:=by omega
    subst hn0
    exact .inr ⟨rfl,by simpa using hl,_,hv⟩
   ·have hlt:=En hh
    exact .inl ⟨hl,.inr ⟨g,cap,cur,hv,hb,by rw [hk g hlt (by rw [hv]; simp [A1,hc])]; exact hh,hn,hm,hs,ht⟩⟩
 ·exact .inr h
theorem Ca.lt {w:World} {e:TypeId} {sz n:Nat} {v:Value} {vals:List Value} (h:Ca w e sz v n vals) {b:Nat} (hb:A1 v = some b):b < w.heap.size:=by
 rcases h with ⟨_,⟨hv,_⟩ | ⟨g,cap,cur,hv,_,hh,_⟩⟩ | ⟨_,_,ad,hv⟩
 ·rw [hv] at hb; simp [A1] at hb
 ·rw [hv] at hb
  simp [A1] at hb
  obtain ⟨_,rfl⟩:=hb
  exact En hh
 ·rw [hv] at hb; simp [A1] at hb
theorem Mw.lt {β:Nat→Value} {n:Nat→Nat} {O:Nat→Prop} {w:World} {id:Nat} {B:BJ} (h:Mw β n O w id B) (ho:B.owned = true) {b:Nat} (hb:A1 (β id) = some b):b < w.heap.size:=by
 cases B <;> simp [BJ.owned] at ho
 case var cs =>
  obtain ⟨b',vals,T,hβ,h1,_⟩:=h
  rw [hβ] at hb
  simp [A1] at hb
  subst hb
  exact En h1
 case row sz e xs =>
  obtain ⟨_,_,vals,hr,_⟩:=h
  exact hr.lt hb
 case map es =>
  obtain ⟨b',vs,clock,hβ,h1,_⟩:=h
  rw [hβ] at hb
  simp [A1] at hb
  subst hb
  exact En h1
theorem AE.blk (h:AE x G β S a w) {i b:Nat} (ho:(Av S i).box.owned = true) (hb:A1 (β i) = some b):b < w.heap.size:=(h.boxes i).lt ho hb
theorem AE.os_lt (h:AE x G β S a w) {b:Nat} (hb:OS β x S b):b < w.heap.size:=by
 rcases hb with hb | hb | ⟨i,h1,h2⟩
 ·exact Nat.lt_of_lt_of_le (h.o₀ b hb).1 h.hbase
 ·exact (h.rs b hb).2
 ·exact h.blk h1 h2
theorem Mw.mono {O O':Nat→Prop} {w w':World} (k:B4 O O' w w') {β β':Nat→Value} {n n':Nat→Nat} {id:Nat} {B:BJ} (hn:∀ i,n i < n' i∨(n' i = n i∧β' i = β i)) (hβ:β' id = β id)
 (hk:∀ b,b < w.heap.size→B.owned = true→A1 (β id) = some b→w'.heap[b]? = w.heap[b]?) (h:Mw β n O w id B):Mw β' n' O' w' id B:=by
 cases B with
 | none=>exact h
 | var cs =>
   obtain ⟨b,vals,T,h1,h3,h4,h5⟩:=h
   have hlt:=En h3
   exact ⟨b,vals,T,by rw [hβ]; exact h1,by rw [hk b hlt rfl (by rw [h1]; rfl)]; exact h3,h4,fun j v c hv hc=>(h5 j v c hv hc).mono k hn⟩
 | row sz e xs =>
   obtain ⟨h1,h2,vals,h3,h4⟩:=h
   exact ⟨h1,h2,vals,by rw [hβ]; exact h3.mono fun b hb hv=>hk b hb rfl hv,h4.mono k⟩
 | fvar cs=>exact ⟨by rw [hβ]; exact AB.mono k h.1,by rw [hβ]; exact h.2⟩
 | frow sz xs=>simp only [Mw]; rw [hβ]; exact AB.mono k h
 | map es =>
   obtain ⟨b,vs,clock,h1,h3,h4,h5⟩:=h
   have hlt:=En h3
   exact ⟨b,vs,clock,by rw [hβ]; exact h1,by rw [hk b hlt rfl (by rw [h1]; rfl)]; exact h3,h4,fun i e p hv hc=>⟨(h5 i e p hv hc).1.mono k,(h5 i e p hv hc).2.1.mono k,(h5 i e p hv hc).2.2⟩⟩
theorem AE.worldR (h:AE x G β S a w) {w':World} (hw:AT w.heap.size x.R w w'):AE x G β S a w':=by
 have hk:B4 (OS β x S) (OS β x S) w w':=⟨hw.size,fun _ _ h=>h,fun b hb hno=>hw.block b hb fun hr=>hno (.inr (.inl hr))⟩
 refine ⟨h.len,h.df,h.below.trans (hw.weaken h.hbase fun k hk hm hr=>?_),Nat.le_trans h.hbase hw.size,h.o₀,fun b hb=>⟨(h.rs b hb).1,Nat.lt_of_lt_of_le (h.rs b hb).2 hw.size⟩,?_,?_,h.mine,h.inj,h.gds,h.ini⟩
 ·rcases (h.rs k hr).1 with h1 | h1
  ·omega
  ·exact hm h1
 ·exact fun t v hv=>(h.slots t v hv).mono hk (fun _=>.inr ⟨rfl,rfl⟩) (fun _ _=>rfl)
 ·exact fun i=>(h.boxes i).mono hk (fun _=>.inr ⟨rfl,rfl⟩) rfl (fun b hb ho hv=>hw.block b hb (h.mine i b ho hv).2)
theorem AE.world (h:AE x G β S a w) {w':World} (hw:Below w.heap.size w w'):AE x G β S a w':=h.worldR (.of hw)
theorem Yd (d:Nat) (v:AV):OS β x (Gy S d v) = OS β x S:=by
 funext b
 simp only [OS,CW]
 congr 2
 apply propext
 constructor
 ·rintro ⟨i,h1,h2⟩
  refine ⟨i,?_,h2⟩
  split at h1
  ·rename_i hh; rw [hh.1]; exact h1
  ·exact h1
 ·rintro ⟨i,h1,h2⟩
  refine ⟨i,?_,h2⟩
  split
  ·rename_i hh; rw [hh.1] at h1; exact h1
  ·exact h1
theorem PL (d:Nat) (v:AV):AU (Gy S d v) = AU S:=by
 funext i
 simp only [AU,CW]
 split
 ·rename_i hh; rw [hh.1]
 ·rfl
theorem MR (d:Nat) (v:AV) (i:Nat):(Av (Gy S d v) i).box = (Av S i).box:=by
 rw [CW]
 split
 ·rename_i hh; rw [hh.1]
 ·rfl
theorem AE.put (h:AE x G β S a w) {d:Nat} {v:Value} {y:AV} (hd:¬ G d) (hr:IZ β (AU S) (OS β x S) w a.tmps v y) (hg:∀ u∈y.guards,G u) :
 AE x G β (Gy S d y) (a.put (some d) v) w where
 len:=by simp [Act.put,K9,h.len]
 df:=h.df
 below:=h.below
 hbase:=h.hbase
 o₀:=h.o₀
 rs:=h.rs
 slots:=by
  intro t u hu
  rw [Yd,PL,CW]
  have keep:∀ (y:AV),(∀ u∈y.guards,G u)→∀ z∈y.guards,(a.put (some d) v).tmps[z]? = a.tmps[z]?:=by
   intro y hy z hz
   have:d≠z:=fun e=>hd (e ▸ hy z hz)
   simp [Act.put,Array.getElem?_setIfInBounds_ne this]
  simp only [Act.put,Array.getElem?_setIfInBounds] at hu
  split at hu
  ·rename_i e
   subst e
   split at hu
   ·rename_i hlt
    cases hu
    rw [if_pos ⟨rfl,by rw [← h.len]; exact hlt⟩]
    exact hr.mono (B4.refl _ _) (fun _=>.inr ⟨rfl,rfl⟩) (keep y hg)
   ·cases hu
  ·rename_i e
   rw [if_neg (fun hh=>e hh.1.symm)]
   exact (h.slots t u hu).mono (B4.refl _ _) (fun _=>.inr ⟨rfl,rfl⟩) (keep _ (h.gds t))
 boxes:=by intro i; rw [Yd,PL,MR]; exact h.boxes i
 mine:=by intro i b; rw [MR]; exact h.mine i b
 inj:=by intro i j b; rw [MR,MR]; exact h.inj i j b
 gds:=by
  intro t u hu
  rw [CW] at hu
  split at hu
  ·exact hg u hu
  ·exact h.gds t u hu
 ini:=by
  intro i
  rw [MR,show (Av (Gy S d y) i).ver = (Av S i).ver from congrFun (PL d y) i]
  exact h.ini i
def IY (β:Nat→Value) (id:Nat) (v:Value) (i:Nat):Value:=if i = id then v else β i
theorem Ie {id:Nat} (hid:id < S.length) (B:BJ) (n i:Nat):Av (Bq S id B n) i = if i = id then ⟨(Av S id).av,B,n⟩ else Av S i:=by
 rw [Cd]; simp [hid]
theorem AE.rebox (h:AE x G β S a w) {id:Nat} {B:BJ} {v:Value} {n:Nat} {w':World} {R':Nat→Prop} (hR:∀ b,R' b→x.R b) (hid:id < S.length)
 (hver:(Av S id).ver < n∨(n = (Av S id).ver∧v = β id∧(Av S id).box≠.none)) (hs:w.heap.size≤w'.heap.size) (hb:AT x.base x.M w w')
 (hkeep:∀ b,b < w.heap.size→((Av S id).box.owned = true→A1 (β id)≠some b)→w'.heap[b]? = w.heap[b]?)
 (hown:B.owned = true→∀ b,A1 v = some b→((A1 (β id) = some b∧(Av S id).box.owned = true)∨w.heap.size≤b∨x.R b)∧¬ R' b)
 (hbox:B4 (OS β x S) (OS (IY β id v) (x.less R') (Bq S id B n)) w w'→(∀ i,AU S i < AU (Bq S id B n) i∨(AU (Bq S id B n) i = AU S i∧IY β id v i = β i)) →
  Mw (IY β id v) (AU (Bq S id B n)) (OS (IY β id v) (x.less R') (Bq S id B n)) w' id B) :
 AE (x.less R') G (IY β id v) (Bq S id B n) a w':=by
 have hget:=Ie (S:=S) hid B n
 have hO:∀ b,b < w.heap.size→OS (IY β id v) (x.less R') (Bq S id B n) b→OS β x S b:=by
  intro b hb h'
  rcases h' with h' | h' | ⟨i,h1,h2⟩
  ·exact .inl h'
  ·exact .inr (.inl (hR b h'))
  ·rw [hget] at h1
   by_cases hi:i = id
   ·subst hi
    simp [IY] at h1 h2
    rcases (hown h1 b h2).1 with ⟨h3,h4⟩ | h3 | h3
    ·exact .inr (.inr ⟨i,h4,h3⟩)
    ·omega
    ·exact .inr (.inl h3)
   ·simp [IY,hi] at h1 h2
    exact .inr (.inr ⟨i,h1,h2⟩)
 have hk:B4 (OS β x S) (OS (IY β id v) (x.less R') (Bq S id B n)) w w' :=
  ⟨hs,hO,fun b hb hno=>hkeep b hb fun ho hbk=>hno (.inr (.inr ⟨id,ho,hbk⟩))⟩
 have hvv:∀ i,AU S i < AU (Bq S id B n) i∨(AU (Bq S id B n) i = AU S i∧IY β id v i = β i):=by
  intro i
  simp only [AU,hget,IY]
  by_cases hi:i = id
  ·subst hi
   simp only [if_true]
   rcases hver with h1 | ⟨h1,h2,_⟩
   ·exact .inl h1
   ·exact .inr ⟨h1,h2⟩
  ·simp [hi]
 refine ⟨by rw [Dx]; exact h.len,h.df,h.below.trans hb,Nat.le_trans h.hbase hs,h.o₀,fun b hb=>⟨(h.rs b (hR b hb)).1,Nat.lt_of_lt_of_le (h.rs b (hR b hb)).2 hs⟩,?_,?_,?_,?_,?_,?_⟩
 ·intro t u hu
  have hav:(Av (Bq S id B n) t).av = (Av S t).av:=by rw [hget]; split <;> simp_all
  rw [hav]
  exact (h.slots t u hu).mono hk hvv (fun _ _=>rfl)
 ·intro i
  rw [hget]
  by_cases hi:i = id
  ·subst hi
   simp only [if_true]
   exact hbox hk hvv
  ·simp only [hi,if_false]
   refine (h.boxes i).mono hk hvv (by simp [IY,hi]) fun b hb ho hbk=>hkeep b hb fun ho' hbk'=>hi (h.inj i id b ho ho' hbk hbk')
 ·intro i b hi hbi
  rw [hget] at hi
  by_cases ei:i = id
  ·subst ei
   simp [IY] at hi hbi
   obtain ⟨h1,h2⟩:=hown hi b hbi
   refine ⟨?_,h2⟩
   rcases h1 with ⟨h3,h4⟩ | h3 | h3
   ·exact (h.mine i b h4 h3).1
   ·exact .inl (Nat.le_trans h.hbase h3)
   ·exact (h.rs b h3).1
  ·simp [IY,ei] at hi hbi
   exact ⟨(h.mine i b hi hbi).1,fun hr=>(h.mine i b hi hbi).2 (hR b hr)⟩
 ·intro i j b hi hj hbi hbj
  rw [hget] at hi hj
  have key:∀ j,j≠id→(Av S j).box.owned = true→A1 (β j) = some b→B.owned = true→A1 v = some b→j = id:=by
   intro j hj1 hj2 hj3 hB hv
   rcases (hown hB b hv).1 with ⟨h3,h4⟩ | h3 | h3
   ·exact h.inj j id b hj2 h4 hj3 h3
   ·have:=h.blk hj2 hj3; omega
   ·exact absurd h3 (h.mine j b hj2 hj3).2
  by_cases ei:i = id
  ·by_cases ej:j = id
   ·rw [ei,ej]
   ·subst ei
    simp [IY,ej] at hi hj hbi hbj
    exact (key j ej hj hbj hi hbi).symm
  ·by_cases ej:j = id
   ·subst ej
    simp [IY,ei] at hi hj hbi hbj
    exact key i ei hi hbi hj hbj
   ·simp [IY,ei,ej] at hi hj hbi hbj
    exact h.inj i j b hi hj hbi hbj
 ·intro t u hu
  have hav:(Av (Bq S id B n) t).av = (Av S t).av:=by rw [hget]; split <;> simp_all
  rw [hav] at hu
  exact h.gds t u hu
 ·intro i h0 hne
  rw [hget] at h0 hne
  by_cases hi:i = id
  ·subst hi
   simp only [if_true] at h0 hne
   rcases hver with h1 | ⟨h1,h2,h3⟩
   ·omega
   ·simp only [IY,if_true]
    rw [h2]
    exact h.ini i (by rw [← h1]; exact h0) h3
  ·simp only [hi,if_false] at h0 hne
   simp only [IY,hi,if_false]
   exact h.ini i h0 hne
theorem E3 (β:Nat→Value) (id:Nat):IY β id (β id) = β:=by funext i; simp only [IY]; split <;> simp_all
theorem AE.multi (h:AE x G β S a w) (E:Nat→Option (BJ × Nat × Value)) {S':AS} {β':Nat→Value} {w':World} (hS:∀ i,Av S' i = match E i with | some (B,n,_)=>⟨(Av S i).av,B,n⟩ | none=>Av S i)
 (hβ:∀ i,β' i = match E i with | some (_,_,v)=>v | none=>β i) (hlen:S'.length = S.length) (hs:w.heap.size≤w'.heap.size) (hb:AT x.base x.M w w')
 (hver:∀ i B n v,E i = some (B,n,v)→(Av S i).ver < n∨(n = (Av S i).ver∧v = β i∧(Av S i).box≠.none))
 (hkeep:∀ b,b < w.heap.size→(∀ i B n v,E i = some (B,n,v)→(Av S i).box.owned = true→A1 (β i)≠some b)→w'.heap[b]? = w.heap[b]?)
 (hown:∀ i B n v b,E i = some (B,n,v)→B.owned = true→A1 v = some b→(∃ j B' n' v',E j = some (B',n',v')∧(Av S j).box.owned = true∧A1 (β j) = some b)∨w.heap.size≤b)
 (hinj:∀ i j B n v B' n' v' b,E i = some (B,n,v)→E j = some (B',n',v')→B.owned = true→B'.owned = true→A1 v = some b→A1 v' = some b→i = j)
 (hbox:B4 (OS β x S) (OS β' x S') w w'→(∀ i,AU S i < AU S' i∨(AU S' i = AU S i∧β' i = β i))→∀ i B n v,E i = some (B,n,v)→Mw β' (AU S') (OS β' x S') w' i B) :
 AE x G β' S' a w':=by
 have hO:∀ b,b < w.heap.size→OS β' x S' b→OS β x S b:=by
  intro b hb h'
  rcases h' with h' | h' | ⟨i,h1,h2⟩
  ·exact .inl h'
  ·exact .inr (.inl h')
  ·rw [hS] at h1
   rw [hβ] at h2
   cases hE:E i with
   | none=>rw [hE] at h1 h2; exact .inr (.inr ⟨i,h1,h2⟩)
   | some q =>
     obtain ⟨B,n,v⟩:=q
     rw [hE] at h1 h2
     rcases hown i B n v b hE h1 h2 with ⟨j,B',n',v',_,h4,h5⟩ | h3
     ·exact .inr (.inr ⟨j,h4,h5⟩)
     ·omega
 have hk:B4 (OS β x S) (OS β' x S') w w':=⟨hs,hO,fun b hb hno=>hkeep b hb fun i B n v _ ho hbk=>hno (.inr (.inr ⟨i,ho,hbk⟩))⟩
 have hvv:∀ i,AU S i < AU S' i∨(AU S' i = AU S i∧β' i = β i):=by
  intro i
  simp only [AU,hS,hβ]
  cases hE:E i with
  | none=>exact .inr ⟨rfl,rfl⟩
  | some q=>obtain ⟨B,n,v⟩:=q; exact (hver i B n v hE).imp (fun h=>h) (fun h=>⟨h.1,h.2.1⟩)
 have hav:∀ t,(Av S' t).av = (Av S t).av:=by intro t; rw [hS]; cases E t <;> rfl
 have stay:∀ i b,E i = none→(Av S i).box.owned = true→A1 (β i) = some b→∀ j B n v,E j = some (B,n,v)→(Av S j).box.owned = true→A1 (β j)≠some b:=by
  intro i b hE ho hb j B n v hj ho' hb'
  have:=h.inj i j b ho ho' hb hb'
  subst this
  rw [hE] at hj; cases hj
 refine ⟨by rw [hlen]; exact h.len,h.df,h.below.trans hb,Nat.le_trans h.hbase hs,h.o₀,fun b hb=>⟨(h.rs b hb).1,Nat.lt_of_lt_of_le (h.rs b hb).2 hs⟩,?_,?_,?_,?_,?_,?_⟩
 ·intro t u hu
  rw [hav]
  exact (h.slots t u hu).mono hk hvv (fun _ _=>rfl)
 ·intro i
  cases hE:E i with
  | some q=>obtain ⟨B,n,v⟩:=q; rw [hS,hE]; exact hbox hk hvv i B n v hE
  | none =>
    have:Av S' i = Av S i:=by rw [hS,hE]
    rw [this]
    exact (h.boxes i).mono hk hvv (by rw [hβ,hE]) fun b hb ho hbk=>hkeep b hb fun j B n v hj ho'=>stay i b hE ho hbk j B n v hj ho'
 ·intro i b hi hbi
  rw [hS] at hi
  rw [hβ] at hbi
  cases hE:E i with
  | none=>rw [hE] at hi hbi; exact h.mine i b hi hbi
  | some q =>
    obtain ⟨B,n,v⟩:=q
    rw [hE] at hi hbi
    rcases hown i B n v b hE hi hbi with ⟨j,B',n',v',_,h4,h5⟩ | h3
    ·exact h.mine j b h4 h5
    ·exact ⟨.inl (Nat.le_trans h.hbase h3),fun hr=>by have:=(h.rs b hr).2; omega⟩
 ·intro i j b hi hj hbi hbj
  rw [hS] at hi hj
  rw [hβ] at hbi hbj
  have mixed:∀ i j B n v,E i = some (B,n,v)→E j = none→B.owned = true→A1 v = some b→(Av S j).box.owned = true→A1 (β j) = some b→False:=by
   intro i j B n v hEi hEj ho hb ho' hb'
   rcases hown i B n v b hEi ho hb with ⟨k,B',n',v',hk',h4,h5⟩ | h3
   ·exact stay j b hEj ho' hb' k B' n' v' hk' h4 h5
   ·have:=h.blk ho' hb'; omega
  cases hEi:E i with
  | none =>
    rw [hEi] at hi hbi
    cases hEj:E j with
    | none=>rw [hEj] at hj hbj; exact h.inj i j b hi hj hbi hbj
    | some q=>obtain ⟨B,n,v⟩:=q; rw [hEj] at hj hbj; exact (mixed j i B n v hEj hEi hj hbj hi hbi).elim
  | some p =>
    obtain ⟨B,n,v⟩:=p
    rw [hEi] at hi hbi
    cases hEj:E j with
    | none=>rw [hEj] at hj hbj; exact (mixed i j B n v hEi hEj hi hbi hj hbj).elim
    | some q=>obtain ⟨B',n',v'⟩:=q; rw [hEj] at hj hbj; exact hinj i j B n v B' n' v' b hEi hEj hi hj hbi hbj
 ·intro t u hu
  rw [hav] at hu
  exact h.gds t u hu
 ·intro i h0 hne
  rw [hS] at h0 hne
  rw [hβ]
  cases hE:E i with
  | none=>rw [hE] at h0 hne; exact h.ini i h0 hne
  | some q =>
    obtain ⟨B,n,v⟩:=q
    rw [hE] at h0 hne
    rcases hver i B n v hE with h1 | ⟨h1,h2,h3⟩
    ·simp only at h0; omega
    ·simp only
     rw [h2]
     exact h.ini i (by rw [← h1]; exact h0) h3
end sim
end Go.Abs
set_option linter.unusedVariables false
set_option linter.unusedSimpArgs false
namespace Go.Abs
open Go.RowKit (Below)
theorem KT:∀ (n:Nat) (K:Nat→Prop),Fo n K = K n
 | 0,_=>rfl
 | n + 1,K=>by rw [Fo,KT n]
theorem B5 {α:Type}:∀ (l:List α) (K:List α→Prop),Ci l K = K l
 | [],_=>rfl
 | x :: r,K=>by rw [Ci,B5 r]
theorem NX:∀ (l:List D) (K:List C→Prop),Yc l K = K (l.map .d)
 | [],_=>rfl
 | x :: r,K=>by rw [Yc,NX r]; rfl
def norm1:D→D
 | .nil s=>.list s []
 | x=>x
def norm:D→D
 | .nil s=>.list s []
 | .agg xs=>.agg (xs.map norm1)
 | x=>x
theorem Sv:∀ (l:List D) (K:List D→Prop),No l K = K (l.map norm1)
 | [],_=>rfl
 | x :: r,K=>by
   rw [No,Sv r]
   cases x <;> rfl
theorem I0 (x:D) (K:D→Prop):Mg x K = K (norm x):=by
 cases x <;> simp only [Mg,Sv,norm]
theorem PV (x:D) (h:x.one = true):(norm1 x).one = true:=by cases x <;> first | rfl | exact h
section
variable {P:Program} {x:Cx} {G:Nat→Prop} {β:Nat→Value} {S:AS} {a:Act} {w:World}
theorem AB.norm1 {O:Nat→Prop} {v:Value} {y:D} (h:AB O w v y):AB O w v (norm1 y):=by
 cases y <;> try exact h
 case nil s=>cases h; exact .emp _ _ _
theorem AB.norm {O:Nat→Prop} {v:Value} {y:D} (h:AB O w v y):AB O w v (norm y):=by
 cases y <;> try exact h
 case nil s=>cases h; exact .emp _ _ _
 case agg xs =>
  cases h with
  | agg vs _ hl h1 h =>
    refine .agg vs _ (by simpa using hl) (fun y hy=>?_) (fun i v y hv hy=>?_)
    ·obtain ⟨z,hz,rfl⟩:=List.mem_map.1 hy
     exact PV z (h1 z hz)
    ·simp only [List.getElem?_map] at hy
     cases hz:xs[i]? with
     | none=>simp [hz] at hy
     | some z=>simp [hz] at hy; subst hy; exact (h i v z hv hz).norm1
theorem Bo.norm {O:Nat→Prop} {vs:List Value} {ys:List D} (h:Bo O w vs ys):Bo O w vs (ys.map norm1):=by
 refine ⟨by simp [h.1],fun j v y hv hy=>?_⟩
 simp only [List.getElem?_map] at hy
 cases hz:ys[j]? with
 | none=>simp [hz] at hy
 | some z=>simp [hz] at hy; subst hy; exact ⟨(h.2 j v z hv hz).1.norm1,PV z (h.2 j v z hv hz).2⟩
def MP (β:Nat→Value) (O:Nat→Prop) (S:AS) (w:World) (v:Value):RV→Prop
 | .any=>True
 | .bot=>False
 | .d x=>AB O w v x
 | .lim sz xs=>AB O w v (.list sz xs)∧Qu v = xs.length
 | .vptr id n o cs=>(Av S id).box = .var cs∧(Av S id).ver = n∧∃ b,β id = .pointer (some ⟨b,0,none⟩)∧v = .pointer (some ⟨b,o,none⟩)
 | .row id n sz e xs=>(Av S id).box = .row sz e xs∧(Av S id).ver = n∧v = β id
 | .eptr id n sz e xs i o=>(Av S id).box = .row sz e xs∧(Av S id).ver = n∧∃ b m cap,β id = .slice (some ⟨b,0,none⟩) m cap∧v = .pointer (some ⟨b,i * sz + o,none⟩)
 | .tup xs=>∃ vs:Array Value,v = .tuple vs∧vs.size = xs.length∧∀ (i:Nat) u x,vs[i]? = some u→xs[i]? = some x→match x with
  | .d y=>AB O w u y
  | c=>BK β (AU S) O w u c
 | .mp id n es=>(Av S id).box = .map es∧(Av S id).ver = n∧v = β id
 | .cagg xs=>∃ vs:Array Value,v = .agg vs∧vs.size = xs.length∧∀ (i:Nat) u x,vs[i]? = some u→xs[i]? = some x→BK β (AU S) O w u x∧u.oneCell' = true
 | .cfun f xs=>∃ vs:Array Value,v = .func (.func f) #[] vs∧vs.size = xs.length∧∀ (i:Nat) u x,vs[i]? = some u→xs[i]? = some x→BK β (AU S) O w u x∧u.oneCell' = true
 | .clo f xs k id n rid rn=>(∃ vs:Array Value,v = .func (.func f) #[] vs∧vs.size = xs.length∧∀ (i:Nat) u x,vs[i]? = some u→xs[i]? = some x→BK β (AU S) O w u x∧u.oneCell' = true) ∧
  ZV xs = some (k,id,n)∧(Av S id).box = .var [.sl rid rn]∧(Av S id).ver = n
theorem Lv {id:Nat} {B:BJ} (h:(Av S id).box = B) (hB:B≠.none):id < S.length:=by
 rcases Nat.lt_or_ge id S.length with h' | h'
 ·exact h'
 ·rw [KJ S id h'] at h; exact absurd h.symm hB
theorem AB.drop {O:Nat→Prop} {b off:Nat} {cs:List D} (h:AB O w (.pointer (some ⟨b,off,none⟩)) (.ptr cs)) (n:Nat):AB O w (.pointer (some ⟨b,off + n,none⟩)) (.ptr (cs.drop n)):=by
 cases h with
 | ptr _ _ _ c hb hO h1 hcell hr =>
   have hne:cs.drop n≠[]→cs≠[]:=by intro h e; subst e; simp at h
   refine .ptr b (off + n) _ (fun j=>c (n + j)) (fun h=>hb (hne h)) (fun h=>hO (hne h)) (fun y hy=>h1 y (List.mem_of_mem_drop hy)) (fun j y hy=>?_) (fun j y hy=>?_)
   ·simp only [List.getElem?_drop] at hy
    have:=hcell (n + j) y hy
    rwa [← Nat.add_assoc] at this
   ·simp only [List.getElem?_drop] at hy
    exact hr (n + j) y hy
theorem WR (h:AE x G β S a w) {v:Value} {y:AV} (hx:IZ β (AU S) (OS β x S) w a.tmps v y):MP β (OS β x S) S w v (res S y):=by
 cases y with
 | any=>trivial
 | bot=>exact hx
 | d x=>exact hx
 | lim sz xs=>exact hx
 | ptr id n o =>
   simp only [IZ,AU] at hx
   have hb:=h.boxes id
   simp only [res]
   generalize hs:Av S id = s at hx hb
   obtain ⟨av,B,m⟩:=s
   cases B with
   | none=>trivial
   | row sz e xs=>trivial
   | frow sz xs=>trivial
   | map es=>trivial
   | var cs =>
     simp only at hx ⊢
     split
     ·rename_i e
      exact ⟨by rw [hs],by rw [hs]; exact e.symm,hx.2 e⟩
     ·trivial
   | fvar cs =>
     simp only at hx ⊢
     split
     ·rename_i e
      obtain ⟨b,h1,h2⟩:=hx.2 e
      obtain ⟨h3,_⟩:=hb
      rw [h1] at h3
      have:=h3.drop o
      rw [Nat.zero_add] at this
      show AB _ _ _ _
      rw [h2]; exact this
     ·trivial
 | sl id n =>
   simp only [IZ,AU] at hx
   have hb:=h.boxes id
   simp only [res]
   generalize hs:Av S id = s at hx hb
   obtain ⟨av,B,m⟩:=s
   cases B with
   | none=>trivial
   | var cs=>trivial
   | fvar cs=>trivial
   | map es =>
     simp only at hx ⊢
     split
     ·rename_i e
      exact ⟨by rw [hs],by rw [hs]; exact e.symm,hx.2 e⟩
     ·trivial
   | row sz e xs =>
     simp only at hx ⊢
     split
     ·rename_i e
      exact ⟨by rw [hs],by rw [hs]; exact e.symm,hx.2 e⟩
     ·trivial
   | frow sz xs =>
     simp only at hx ⊢
     split
     ·rename_i e
      show AB _ _ _ _
      rw [hx.2 e]; exact hb
     ·trivial
 | eptr id n sz i o =>
   simp only [IZ,AU] at hx
   simp only [res]
   generalize hs:Av S id = s at hx
   obtain ⟨av,B,m⟩:=s
   cases B with
   | none=>trivial
   | var cs=>trivial
   | fvar cs=>trivial
   | frow sz xs=>trivial
   | map es=>trivial
   | row sz' e xs =>
     simp only at hx ⊢
     split
     ·rename_i e
      obtain ⟨e,rfl⟩:=e
      exact ⟨by rw [hs],by rw [hs]; exact e.symm,hx.2 e⟩
     ·trivial
 | tup xs=>exact hx
 | own sz e xs=>trivial
 | optr cs=>trivial
 | under t want x=>trivial
 | cc k xs =>
   cases k with
   | none=>exact hx
   | some f =>
     simp only [res]
     split
     ·rename_i j id n hat
      split
      ·rename_i av rid rn m hs
       split
       ·rename_i hnm
        exact ⟨hx,hat,by rw [hs],by rw [hs]; exact hnm.symm⟩
       ·exact hx
      ·exact hx
     ·exact hx
def BB (g:Option (Nat × Bool)) (a:Act):Prop:=∀ t want,g = some (t,want)→a.tmps[t]? = some (.bool want)
theorem Zw (v:Value) {O:Nat→Prop} {n:Nat→Nat} {tm:Array Value}:IZ β n O w tm v (Zv v):=by
 unfold Zv
 split
 ·exact .int _ _
 ·exact .bool _
 ·exact .str _
 ·exact .nil _ _
 ·trivial
theorem bD {g:Option (Nat × Bool)} (hg:BB g a) {O:Nat→Prop} {n:Nat→Nat} {v:Value} {y:AV} (h:IZ β n O w a.tmps v y):IZ β n O w a.tmps v (eV g y):=by
 cases y <;> try exact h
 case under t want x =>
  simp only [eV]
  cases g with
  | none=>trivial
  | some p =>
    obtain ⟨t',w'⟩:=p
    simp only
    split
    ·rename_i e
     obtain ⟨rfl,rfl⟩:=e
     exact h.1 (hg t want rfl)
    ·trivial
theorem ρ_sound (h:AE x G β S a w) {g:Option (Nat × Bool)} (hg:BB g a) (y:Operand):MP β (OS β x S) S w (a.eval y) (ρOf S g y):=by
 refine WR h (bD hg ?_)
 cases y with
 | tmp t =>
   simp only [ev,Act.eval]
   by_cases ht:t < a.tmps.size
   ·have:=h.slots t a.tmps[t] (by simp [ht])
    simpa [Array.getD,ht] using this
   ·have e:Av S t = bH:=KJ S t (by rw [← h.len]; exact Nat.le_of_not_lt ht)
    rw [e]
    trivial
 | const v=>exact Zw v
 | global q =>
   simp only [ev]
   cases hq:dx q with
   | none=>trivial
   | some cs=>exact h.glob q cs hq
 | func f=>exact .fn f #[] [] rfl (fun _ h=>by cases h) (fun i v y h=>by simp at h)
theorem σ_sound (h:AE x G β S a w) {v:Value} {id n:Nat} (hc:BK β (AU S) (OS β x S) w v (.sl id n)):MP β (OS β x S) S w v (σOf S id n) :=
 WR (y:=.sl id n) h hc
def BJ.isF:BJ→Bool
 | .frow _ _ | .fvar _=>true
 | _=>false
theorem BJ.isF_ne {B:BJ} (h:B.isF = true):B≠.none:=by cases B <;> simp [BJ.isF] at h ⊢
theorem Bz (b c:Bx):∀ S,Be (b++c) S = Be c (Be b S):=by
 induction b with
 | nil=>intro S; rfl
 | cons x r ih=>intro S; exact ih _
theorem BP:∀ (b:Bx) (S:AS),(Be b S).length = S.length
 | [],_=>rfl
 | x :: r,S=>by simp only [Be]; rw [BP r,Dx]
theorem Nh {sz:Nat}:∀ (xs:List D),(∀ x∈xs,x.cells.length = sz)→∀ (i:Nat) x (j:Nat) y,xs[i]? = some x→x.cells[j]? = some y→(xs.flatMap D.cells)[i * sz + j]? = some y
 | [],_,i,x,j,y,hx,_=>by simp at hx
 | z :: r,hs,0,x,j,y,hx,hy=>by
   simp at hx
   subst hx
   simp [List.flatMap_cons,List.getElem?_append_left (AD hy),hy]
 | z :: r,hs,i + 1,x,j,y,hx,hy=>by
   have hz:z.cells.length = sz:=hs z (by simp)
   have ih:=Nh r (fun x hx=>hs x (by simp [hx])) i x j y (by simpa using hx) hy
   rw [List.flatMap_cons,List.getElem?_append_right (by rw [hz,Nat.add_mul]; omega),← ih]
   congr 1
   rw [hz,Nat.add_mul]
   omega
theorem Dw {sz:Nat}:∀ (xs:List D),(∀ x∈xs,x.cells.length = sz)→(xs.flatMap D.cells).length = xs.length * sz
 | [],_=>by simp
 | z :: r,hs=>by
   rw [List.flatMap_cons,List.length_append,hs z (by simp),Dw r (fun x hx=>hs x (by simp [hx])),List.length_cons,Nat.add_mul]
   omega
theorem YZ {O:Nat→Prop} {w:World} {e:TypeId} {sz:Nat} {v:Value} {xs:List D} {vals:List Value} (hsz:0 < sz)
 (hs:∀ x∈xs,x.cells.length = sz) (hr:Ca w e sz v xs.length vals) (hl:Bo O w vals (xs.flatMap D.cells)) (hO:∀ b,A1 v = some b→¬ O b) :
 AB O w v (.list sz xs):=by
 by_cases hx:xs = []
 ·subst hx
  rcases hr with ⟨_,⟨hv,_⟩ | ⟨g,cap,cur,hv,_⟩⟩ | ⟨_,_,ad,hv⟩ <;> (rw [hv]; exact .emp _ _ _)
 ·have hpos:0 < xs.length:=List.length_pos_iff.2 hx
  rcases hr with ⟨hlen,⟨hv,h0⟩ | ⟨g,cap,cur,hv,hbg,hh,hn,hm,hcs,ht⟩⟩ | ⟨h0,_⟩
  ·omega
  ·have hcap:cap≠0:=by omega
   have hlt:=En hh
   subst hv
   have key:∀ (i:Nat) x (j:Nat) y,xs[i]? = some x→x.cells[j]? = some y→∃ u,vals[i * sz + j]? = some u∧w.cell? ⟨g,0 + i * sz + j,none⟩ = some u∧AB O w u y∧y.one = true:=by
    intro i x j y hx hy
    have hf:=Nh xs hs i x j y hx hy
    have hlt:i * sz + j < vals.length:=by rw [hl.1]; exact AD hf
    have hu:vals[i * sz + j]? = some vals[i * sz + j]:=List.getElem?_eq_getElem hlt
    refine ⟨_,hu,?_,hl.2 _ _ _ hu hf⟩
    rw [← hu,← ht,List.getElem?_take_of_lt (by rw [← hlen]; exact hlt)]
    simp [World.cell?,hh]
   refine .list g 0 cap sz xs (fun i j=>vals.getD (i * sz + j) undef) hx hlt (hO g (by simp [A1,hcap])) hn hs ?_ ?_ ?_
   ·intro x hx y hy
    obtain ⟨i,hi⟩:=List.mem_iff_getElem?.1 hx
    obtain ⟨j,hj⟩:=List.mem_iff_getElem?.1 hy
    obtain ⟨u,_,_,_,h1⟩:=key i x j y hi hj
    exact h1
   ·intro i x j y hx hy
    obtain ⟨u,h1,h2,h3,_⟩:=key i x j y hx hy
    rw [h2]; simp [List.getD,h1]
   ·intro i x j y hx hy
    obtain ⟨u,h1,h2,h3,_⟩:=key i x j y hx hy
    simpa [List.getD,h1] using h3
  ·omega
theorem dL {O:Nat→Prop} {w:World} {b:Nat} {vals:Array Value} {T:TypeId} {cs:List D} (hh:w.heap[b]? = some (.cells vals T (0,0))) (hl:Bo O w vals.toList cs) (hO:¬ O b) (o:Nat) :
 AB O w (.pointer (some ⟨b,o,none⟩)) (.ptr (cs.drop o)):=by
 have base:AB O w (.pointer (some ⟨b,0,none⟩)) (.ptr cs):=by
  refine .ptr b 0 cs (fun j=>vals.toList.getD j undef) (fun _=>En hh) (fun _=>hO) (fun y hy=>?_) (fun j y hy=>?_) (fun j y hy=>?_)
  ·obtain ⟨j,hj⟩:=List.mem_iff_getElem?.1 hy
   have hlt:j < vals.toList.length:=by rw [hl.1]; exact AD hj
   exact (hl.2 j _ y (List.getElem?_eq_getElem hlt) hj).2
  ·have hlt:j < vals.toList.length:=by rw [hl.1]; exact AD hy
   have hlt':j < vals.size:=by simpa using hlt
   simp [World.cell?,hh,hlt']
  ·have hlt:j < vals.toList.length:=by rw [hl.1]; exact AD hy
   have:=(hl.2 j _ y (List.getElem?_eq_getElem hlt) hy).1
   have hlt':j < vals.size:=by simpa using hlt
   simpa [hlt'] using this
 have:=base.drop o
 rwa [Nat.zero_add] at this
theorem PG {B:BJ} {n:Nat}:∀ (S:AS) (id:Nat),(Av S id).box = B→(Av S id).ver = n→Bq S id B n = S
 | [],_,_,_=>rfl
 | ⟨_,_,_⟩ :: _,0,h1,h2=>by simp only [Av] at h1 h2; subst h1; subst h2; rfl
 | s :: r,id + 1,h1,h2=>by rw [Bq,PG r id h1 h2]
theorem Z8 (h:AE x G β S a w) {id n sz:Nat} {e:TypeId} {xs:List D} (hb:(Av S id).box = .row sz e xs) (hn:(Av S id).ver = n) :
 AE x G β (Bq S id (.frow sz xs) n) a w:=by
 have hid:=Lv hb (by simp)
 have hno:∀ b,A1 (β id) = some b→¬ OS β x (Bq S id (.frow sz xs) n) b:=by
  intro b hbb h'
  have hm:=h.mine id b (by rw [hb]; rfl) hbb
  rcases h' with h' | h' | ⟨i,h1,h2⟩
  ·have:=h.o₀ b h'; rcases hm.1 with h3 | h3; omega; exact this.2 h3
  ·exact hm.2 h'
  ·rw [Cd] at h1
   split at h1
   ·simp [BJ.owned] at h1
   ·rename_i e; exact e ⟨h.inj i id b h1 (by rw [hb]; rfl) h2 hbb,hid⟩
 have hr:=h.rebox (R':=x.R) (id:=id) (B:=.frow sz xs) (v:=β id) (n:=n) (w':=w) (fun _ h=>h) hid (.inr ⟨hn.symm,rfl,by rw [hb]; simp⟩) (Nat.le_refl _) (AT.refl _ _ _) (fun _ _ _=>rfl) (by simp [BJ.owned])
  (fun k hv=>by
   rw [E3] at k ⊢
   have hbx:=h.boxes id
   rw [hb] at hbx
   obtain ⟨h1,h2,vals,h5,h6⟩:=hbx
   exact YZ h1 h2 h5 (h6.mono k) hno)
 rw [E3] at hr
 exact hr
theorem Z9 (h:AE x G β S a w) {id n:Nat} {cs:List C} {ds:List D} (hb:(Av S id).box = .var cs) (hn:(Av S id).ver = n)
 (hd:∀ b vals T,β id = .pointer (some ⟨b,0,none⟩)→w.heap[b]? = some (.cells vals T (0,0))→vals.size = cs.length→(∀ (j:Nat) v c,vals[j]? = some v→cs[j]? = some c→BK β (AU S) (OS β x S) w v c)→Bo (OS β x S) w vals.toList ds) :
 AE x G β (Bq S id (.fvar ds) n) a w:=by
 have hid:=Lv hb (by simp)
 have hno:∀ b,A1 (β id) = some b→¬ OS β x (Bq S id (.fvar ds) n) b:=by
  intro b hbb h'
  have hm:=h.mine id b (by rw [hb]; rfl) hbb
  rcases h' with h' | h' | ⟨i,h1,h2⟩
  ·have:=h.o₀ b h'; rcases hm.1 with h3 | h3; omega; exact this.2 h3
  ·exact hm.2 h'
  ·rw [Cd] at h1
   split at h1
   ·simp [BJ.owned] at h1
   ·rename_i e; exact e ⟨h.inj i id b h1 (by rw [hb]; rfl) h2 hbb,hid⟩
 have hr:=h.rebox (R':=x.R) (id:=id) (B:=.fvar ds) (v:=β id) (n:=n) (w':=w) (fun _ h=>h) hid (.inr ⟨hn.symm,rfl,by rw [hb]; simp⟩) (Nat.le_refl _) (AT.refl _ _ _) (fun _ _ _=>rfl) (by simp [BJ.owned])
  (fun k hv=>by
   rw [E3] at k ⊢
   have hbx:=h.boxes id
   rw [hb] at hbx
   obtain ⟨b,vals,T,h5,h6,h7,h8⟩:=hbx
   refine ⟨?_,b,h5⟩
   rw [h5]
   have:=dL h6 ((hd b vals T h5 h6 h7 h8).mono k) (hno b (by rw [h5]; rfl)) 0
   simpa using this)
 rw [E3] at hr
 exact hr
end
end Go.Abs
set_option linter.unusedVariables false
set_option linter.unusedSimpArgs false
namespace Go.Abs
open Go.RowKit (Below)
def Jh (S:AS) (seen:Bx) (cs:List C) (ds:List D):Prop :=
 cs.length = ds.length∧∀ (j:Nat) c y,cs[j]? = some c→ds[j]? = some y→match c with
  | .d x=>y = norm1 x
  | .sl id n=>∃ sz xs,y = .list sz xs∧(Av S id).ver = n∧(((∃ e,(Av S id).box = .row sz e xs)∧(id,BJ.frow sz xs,n)∈seen)∨(Av S id).box = .frow sz xs)
  | .own _ _ _=>False
def af (S:AS) (seen:Bx) (y:Nat × BJ × Nat):Prop :=
 (Av S y.1).ver = y.2.2∧((∃ sz e xs,(Av S y.1).box = .row sz e xs∧y.2.1 = .frow sz xs)∨(∃ cs ds,(Av S y.1).box = .var cs∧y.2.1 = .fvar ds∧Jh S seen cs ds)∨((Av S y.1).box = y.2.1∧y.2.1.isF = true))
def FZ (S:AS):Bx→Bx→Prop
 | _,[]=>True
 | seen,y :: r=>af S seen y∧FZ S (seen++[y]) r
theorem Jh.mono {S:AS} {seen seen':Bx} (hs:∀ y∈seen,y∈seen') {cs:List C} {ds:List D} (h:Jh S seen cs ds):Jh S seen' cs ds:=by
 refine ⟨h.1,fun j c y hc hy=>?_⟩
 have:=h.2 j c y hc hy
 cases c with
 | d x=>exact this
 | sl id n =>
   obtain ⟨sz,xs,h1,h2,h3⟩:=this
   exact ⟨sz,xs,h1,h2,h3.imp (fun h=>⟨h.1,hs _ h.2⟩) (fun h=>h)⟩
 | own sz e xs=>exact this
theorem af.mono {S:AS} {seen seen':Bx} (hs:∀ y∈seen,y∈seen') {y:Nat × BJ × Nat} (h:af S seen y):af S seen' y:=by
 refine ⟨h.1,?_⟩
 rcases h.2 with h | ⟨cs,ds,h1,h2,h3⟩ | h
 ·exact .inl h
 ·exact .inr (.inl ⟨cs,ds,h1,h2,h3.mono hs⟩)
 ·exact .inr (.inr h)
theorem FZ.mono {S:AS}:∀ {b seen seen':Bx},(∀ y∈seen,y∈seen')→FZ S seen b→FZ S seen' b
 | [],_,_,_,_=>trivial
 | y :: r,seen,seen',hs,h=>⟨h.1.mono hs,h.2.mono (by
     intro z hz
     rcases List.mem_append.1 hz with hz | hz
     ·exact List.mem_append.2 (.inl (hs z hz))
     ·exact List.mem_append.2 (.inr hz))⟩
theorem FZ.append {S:AS}:∀ {b c seen:Bx},FZ S seen b→FZ S [] c→FZ S seen (b++c)
 | [],c,seen,_,h=>h.mono (by simp)
 | y :: r,c,seen,h,h'=>⟨h.1,FZ.append h.2 h'⟩
theorem FZ.snoc {S:AS}:∀ {b seen:Bx} {y:Nat × BJ × Nat},FZ S seen b→af S (seen++b) y→FZ S seen (b++[y])
 | [],seen,y,_,h=>⟨by simpa using h,trivial⟩
 | z :: r,seen,y,h,h'=>⟨h.1,FZ.snoc h.2 (by simpa using h')⟩
theorem FZ.each {S:AS}:∀ {b seen:Bx},FZ S seen b→∀ y∈b,af S (seen++b) y
 | [],_,_,_,h=>by cases h
 | z :: r,seen,h,y,hy=>by
   rcases List.mem_cons.1 hy with rfl | hy
   ·exact h.1.mono (by intro q hq; exact List.mem_append.2 (.inl hq))
   ·have:=FZ.each h.2 y hy
    simpa using this
theorem Jh.unique {S:AS} {seen seen':Bx} {cs:List C} {ds ds':List D} (h:Jh S seen cs ds) (h':Jh S seen' cs ds'):ds = ds':=by
 apply List.ext_getElem?
 intro j
 rcases Nat.lt_or_ge j cs.length with hj | hj
 ·have e1:cs[j]? = some cs[j]:=List.getElem?_eq_getElem hj
  have e2:ds[j]? = some (ds[j]'(by rw [← h.1]; exact hj)):=List.getElem?_eq_getElem _
  have e3:ds'[j]? = some (ds'[j]'(by rw [← h'.1]; exact hj)):=List.getElem?_eq_getElem _
  have k1:=h.2 j _ _ e1 e2
  have k2:=h'.2 j _ _ e1 e3
  rw [e2,e3]
  generalize cs[j] = c at k1 k2
  cases c with
  | d x=>rw [k1,k2]
  | sl id n =>
    obtain ⟨sz,xs,h1,_,h3⟩:=k1
    obtain ⟨sz',xs',h1',_,h3'⟩:=k2
    rw [h1,h1']
    rcases h3 with ⟨⟨e,h3⟩,_⟩ | h3 <;> rcases h3' with ⟨⟨e',h3'⟩,_⟩ | h3' <;> rw [h3] at h3' <;> simp at h3'
    ·rw [h3'.1,h3'.2.2]
    ·rw [h3'.1,h3'.2]
  | own sz e xs=>exact k1.elim
 ·rw [List.getElem?_eq_none (by rw [← h.1]; exact hj),List.getElem?_eq_none (by rw [← h'.1]; exact hj)]
theorem af.unique {S:AS} {seen seen':Bx} {y y':Nat × BJ × Nat} (h:af S seen y) (h':af S seen' y') (e:y.1 = y'.1):y.2.1 = y'.2.1:=by
 rcases h.2 with ⟨sz,e1,xs,h1,h2⟩ | ⟨cs,ds,h1,h2,h3⟩ | ⟨h1,h2⟩ <;> rcases h'.2 with ⟨sz',e1',xs',h1',h2'⟩ | ⟨cs',ds',h1',h2',h3'⟩ | ⟨h1',h2'⟩ <;> rw [← e,h1] at h1'
 ·simp at h1'; rw [h2,h2',h1'.1,h1'.2.2]
 ·cases h1'
 ·rw [← h1'] at h2'; cases h2'
 ·cases h1'
 ·simp at h1'; subst h1'; rw [h2,h2',h3.unique h3']
 ·rw [← h1'] at h2'; cases h2'
 ·rw [h1'] at h2; cases h2
 ·rw [h1'] at h2; cases h2
 ·exact h1'
structure Fr (S:AS) (seen:Bx) (T:AS):Prop where
 len:T.length = S.length
 ver:∀ i,(Av T i).ver = (Av S i).ver
 av:∀ i,(Av T i).av = (Av S i).av
 mem:∀ y∈seen,(Av T y.1).box = y.2.1
 other:∀ i,(∀ y∈seen,y.1≠i)→(Av T i).box = (Av S i).box
 keepF:∀ i,(Av S i).box.isF = true→(Av T i).box = (Av S i).box
theorem af.lt {S:AS} {seen:Bx} {y:Nat × BJ × Nat} (h:af S seen y):y.1 < S.length:=by
 have:(Av S y.1).box≠.none:=by
  rcases h.2 with ⟨sz,e,xs,h1,_⟩ | ⟨cs,ds,h1,_⟩ | ⟨h1,h2⟩
  ·rw [h1]; simp
  ·rw [h1]; simp
  ·rw [h1]; exact BJ.isF_ne h2
 exact Lv rfl this
section
variable {P:Program} {x:Cx} {G:Nat→Prop} {β:Nat→Value} {S:AS} {a:Act} {w:World}
theorem FZ.run_:∀ {b seen:Bx} {T:AS},(∀ y∈seen,af S seen y)→FZ S seen b→Fr S seen T→AE x G β T a w→(∀ k,OS β x T k→OS β x S k) →
 AE x G β (Be b T) a w∧(∀ k,OS β x (Be b T) k→OS β x S k)∧Fr S (seen++b) (Be b T)
 | [],seen,T,_,_,hf,h,hO=>⟨h,hO,by simpa [Be] using hf⟩
 | y :: r,seen,T,hseen,hF,hf,h,hO=>by
   have hy:=hF.1
   have hlt:y.1 < T.length:=by rw [hf.len]; exact hy.lt
   have hstep:AE x G β (Bq T y.1 y.2.1 y.2.2) a w∧(∀ k,OS β x (Bq T y.1 y.2.1 y.2.2) k→OS β x T k):=by
    by_cases hin:∃ z∈seen,z.1 = y.1
    ·obtain ⟨z,hz,e⟩:=hin
     have h1:=hf.mem z hz
     have h2:=(hseen z hz).unique hy e
     rw [PG T y.1 (by rw [← e,h1,h2]) (by rw [hf.ver,hy.1])]
     exact ⟨h,fun _ h=>h⟩
    ·have hbx:(Av T y.1).box = (Av S y.1).box:=hf.other _ fun z hz e=>hin ⟨z,hz,e⟩
     have hver:(Av T y.1).ver = y.2.2:=by rw [hf.ver,hy.1]
     have sub:y.2.1.owned = false→∀ k,OS β x (Bq T y.1 y.2.1 y.2.2) k→OS β x T k:=by
      intro hno k hk
      rcases hk with hk | hk | ⟨i,h1,h2⟩
      ·exact .inl hk
      ·exact .inr (.inl hk)
      ·rw [Cd] at h1
       split at h1
       ·rw [hno] at h1; cases h1
       ·exact .inr (.inr ⟨i,h1,h2⟩)
     rcases hy.2 with ⟨sz,e,xs,h1,h2⟩ | ⟨cs,ds,h1,h2,h3⟩ | ⟨h1,h2⟩
     ·refine ⟨?_,sub (by rw [h2]; rfl)⟩
      rw [h2]
      exact Z8 h (by rw [hbx]; exact h1) hver
     ·refine ⟨?_,sub (by rw [h2]; rfl)⟩
      rw [h2]
      refine Z9 h (by rw [hbx]; exact h1) hver fun b vals T' hβ hh hl hc=>⟨by rw [Array.length_toList,hl]; exact h3.1,fun j v z hv hz=>?_⟩
      have hj:j < cs.length:=by rw [h3.1]; exact AD hz
      have hcc:=hc j v cs[j] (by simpa using hv) (List.getElem?_eq_getElem hj)
      have hcd:=h3.2 j cs[j] z (List.getElem?_eq_getElem hj) hz
      generalize cs[j] = c at hcc hcd
      cases c with
      | d q=>rw [hcd]; exact ⟨hcc.1.norm1,PV q hcc.2⟩
      | sl id n =>
        obtain ⟨sz,xs,k1,k2,k3⟩:=hcd
        have hfr:(Av T id).box = .frow sz xs:=by
         rcases k3 with ⟨_,k3⟩ | k3
         ·exact hf.mem _ k3
         ·by_cases hin:∃ q∈seen,q.1 = id
          ·obtain ⟨q,hq,e⟩:=hin
           have e1:=hf.mem q hq
           have e2:=(hseen q hq).unique (y':=(id,BJ.frow sz xs,n)) (seen':=seen) ⟨k2,.inr (.inr ⟨k3,rfl⟩)⟩ e
           rw [← e,e1,e2]
          ·rw [hf.other id fun q hq e=>hin ⟨q,hq,e⟩]; exact k3
        have hbb:=h.boxes id
        rw [hfr] at hbb
        have hv2:=hcc.2 (by simp only [AU]; rw [hf.ver]; exact k2.symm)
        rw [k1,hv2]
        exact ⟨hbb,rfl⟩
      | own sz e xs=>exact hcd.elim
     ·rw [PG T y.1 (by rw [hbx,h1]) hver]
      exact ⟨h,fun _ h=>h⟩
   have hget:=Ie hlt y.2.1 y.2.2
   have hF1:Fr S (seen++[y]) (Bq T y.1 y.2.1 y.2.2):=by
    refine ⟨by rw [Dx]; exact hf.len,fun i=>?_,fun i=>?_,fun z hz=>?_,fun i hi=>?_,fun i hi=>?_⟩
    ·rw [hget]; split
     ·rename_i e; rw [e]; exact hy.1.symm
     ·exact hf.ver i
    ·rw [hget]; split
     ·rename_i e; rw [e]; exact hf.av _
     ·exact hf.av i
    ·rw [hget]; split
     ·rename_i e
      rcases List.mem_append.1 hz with hz | hz
      ·exact (hy.unique (hseen z hz) e.symm)
      ·simp at hz; rw [hz]
     ·rename_i e
      rcases List.mem_append.1 hz with hz | hz
      ·exact hf.mem z hz
      ·simp at hz; exact absurd (by rw [hz]) e
    ·rw [hget]; split
     ·rename_i e; exact absurd e.symm (hi y (by simp))
     ·exact hf.other i fun z hz=>hi z (by simp [hz])
    ·rw [hget]; split
     ·rename_i e
      rw [e] at hi ⊢
      rcases hy.2 with ⟨sz,e',xs,h1,h2⟩ | ⟨cs,ds,h1,h2,h3⟩ | ⟨h1,h2⟩
      ·rw [h1] at hi; cases hi
      ·rw [h1] at hi; cases hi
      ·exact h1.symm
     ·exact hf.keepF i hi
   have hs2:∀ z∈seen++[y],af S (seen++[y]) z:=by
    intro z hz
    rcases List.mem_append.1 hz with hz | hz
    ·exact (hseen z hz).mono fun q hq=>List.mem_append.2 (.inl hq)
    ·simp at hz; rw [hz]; exact hy.mono fun q hq=>List.mem_append.2 (.inl hq)
   obtain ⟨k1,k2,k3⟩:=FZ.run_ hs2 hF.2 hF1 hstep.1 fun k hk=>hO k (hstep.2 k hk)
   exact ⟨k1,k2,by simpa [Be] using k3⟩
theorem FZ.run (h:AE x G β S a w) {b:Bx} (hF:FZ S [] b):AE x G β (Be b S) a w∧(∀ k,OS β x (Be b S) k→OS β x S k)∧Fr S b (Be b S):=by
 have:=FZ.run_ (x:=x) (G:=G) (β:=β) (a:=a) (w:=w) (S:=S) (b:=b) (seen:=[]) (T:=S) (fun _ h=>by cases h) hF ⟨rfl,fun _=>rfl,fun _=>rfl,(fun _ h=>by cases h),fun _ _=>rfl,fun _ _=>rfl⟩ h (fun _ h=>h)
 simpa using this
def Ji (x:Cx) (G:Nat→Prop) (β:Nat→Value) (S:AS) (a:Act) (w:World) (b:Bx) (p:(Nat→Prop)→Prop):Prop :=
 ∀ B,(∀ y∈b,y∈B)→Fr S B (Be B S)→AE x G β (Be B S) a w→(∀ k,OS β x (Be B S) k→OS β x S k)→p (OS β x (Be B S))
theorem Ji.mono {b b':Bx} {p q:(Nat→Prop)→Prop} (h:Ji x G β S a w b p) (hb:∀ y∈b,y∈b') (hp:∀ O,p O→q O):Ji x G β S a w b' q :=
 fun B hB hf hs hk=>hp _ (h B (fun y hy=>hB y (hb y hy)) hf hs hk)
theorem Ji.and {b b':Bx} {p q:(Nat→Prop)→Prop} (h:Ji x G β S a w b p) (h':Ji x G β S a w b' q):Ji x G β S a w (b++b') fun O=>p O∧q O :=
 fun B hB hf hs hk=>⟨h B (fun y hy=>hB y (by simp [hy])) hf hs hk,h' B (fun y hy=>hB y (by simp [hy])) hf hs hk⟩
theorem Ji.now (hs:AE x G β S a w) {b:Bx} {p:(Nat→Prop)→Prop} (h:Ji x G β S a w b p) (hF:FZ S [] b):p (OS β x (Be b S)):=by
 obtain ⟨h1,h2,h3⟩:=hF.run hs
 exact h b (fun _ h=>h) h3 h1 h2
theorem HO {r:RV} {v:Value} (hr:MP β (OS β x S) S w v r) {K:D→Bx→Prop} (hy:Wt r K) :
 ∃ y b,K y b∧FZ S [] b∧(∀ z∈b,∃ sz xs,z.2.1 = .frow sz xs)∧Ji x G β S a w b fun O=>AB O w v y:=by
 cases r <;> simp only [Wt] at hy
 case d y=>exact ⟨y,[],hy,trivial,(fun _ h=>by cases h),fun B _ _ _ hk=>AB.mono (B4.of_sub hk) hr⟩
 case lim sz xs=>exact ⟨_,[],hy,trivial,(fun _ h=>by cases h),fun B _ _ _ hk=>AB.mono (B4.of_sub hk) hr.1⟩
 case row id n sz e xs =>
  obtain ⟨h1,h2,h3⟩:=hr
  refine ⟨_,_,hy,⟨⟨h2,.inl ⟨sz,e,xs,h1,rfl⟩⟩,trivial⟩,(fun z hz=>⟨sz,xs,by simp at hz; subst hz; rfl⟩),fun B hB hF hS _=>?_⟩
  have:=hF.mem (id,.frow sz xs,n) (hB _ (by simp))
  have hb:=hS.boxes id
  simp only at this
  rw [this] at hb
  rw [h3]; exact hb
theorem SS {r:RV} {v:Value} (hr:MP β (OS β x S) S w v r) {K:D→Bx→Prop} (hy:dP r K) :
 ∃ y b,K y b∧FZ S [] b∧(∀ z∈b,∃ sz xs,z.2.1 = .frow sz xs)∧Ji x G β S a w b fun O=>AB O w v y:=by
 obtain ⟨y,b,hK,hF,hfr,hh⟩:=HO (x:=x) (G:=G) (a:=a) hr hy
 rw [I0] at hK
 exact ⟨_,b,hK,hF,hfr,hh.mono (fun _ h=>h) fun O h=>h.norm⟩
theorem Im (h:AE x G β S a w):∀ {cs:List C} {K:List D→Bx→Prop},CB (σOf S) cs K →
 ∃ l b,K l b∧FZ S [] b∧(∀ z∈b,∃ sz xs,z.2.1 = .frow sz xs)∧cs.length = l.length ∧
   (∀ (j:Nat) c y,cs[j]? = some c→l[j]? = some y→match c with
    | .d q=>y = q
    | .sl id n=>∃ sz xs,y = .list sz xs∧(Av S id).ver = n∧(((∃ e,(Av S id).box = .row sz e xs)∧(id,BJ.frow sz xs,n)∈b)∨(Av S id).box = .frow sz xs)
    | .own _ _ _=>False) ∧
   ∀ vs:List Value,vs.length = cs.length→(∀ (j:Nat) v c,vs[j]? = some v→cs[j]? = some c→BK β (AU S) (OS β x S) w v c)→Ji x G β S a w b fun O=>Bo O w vs l
 | [],K,hy=>⟨[],[],hy,trivial,(fun _ h=>by cases h),rfl,(fun j c y h=>by simp at h),fun vs hv _ B _ _ _ _=>⟨by simpa using hv,fun j v y _ hy=>by simp at hy⟩⟩
 | .d q :: r,K,hy=>by
   have hy:CB (σOf S) r fun l b=>K (q :: l) b:=hy
   obtain ⟨l,b,hK,hF,hfr,hl,hc,hh⟩:=Im h hy
   refine ⟨_,_,hK,hF,hfr,by simp [hl],fun j c y hcj hyj=>?_,fun vs hv hrep=>?_⟩
   ·cases j with
    | zero=>simp at hcj hyj; subst hcj; exact hyj.symm
    | succ j=>exact hc j c y (by simpa using hcj) (by simpa using hyj)
   ·cases vs with
    | nil=>simp at hv
    | cons v vs =>
      have h0:=hrep 0 v (.d q) rfl rfl
      have hr:=hh vs (by simpa using hv) fun j v c hv hc=>hrep (j + 1) v c (by simpa using hv) (by simpa using hc)
      intro B hB hf hs hk
      have hr':=hr B hB hf hs hk
      refine ⟨by simp [hr'.1],fun j u y hu hy=>?_⟩
      cases j with
      | zero=>simp at hu hy; subst hu; subst hy; exact ⟨h0.1.mono (B4.of_sub hk),h0.2⟩
      | succ j=>exact hr'.2 j u y (by simpa using hu) (by simpa using hy)
 | .sl id n :: r,K,hy=>by
   simp only [CB,σOf,res] at hy
   obtain ⟨sz,xs,b0,hst,hb0,hK0⟩:∃ sz xs b0,((Av S id).ver = n∧(((∃ e,(Av S id).box = .row sz e xs)∧b0 = [(id,BJ.frow sz xs,n)])∨((Av S id).box = .frow sz xs∧b0 = [])))∧FZ S [] b0∧CB (σOf S) r fun l b'=>K (.list sz xs :: l) (b0++b'):=by
    generalize hs:Av S id = s at hy
    obtain ⟨av,B,m⟩:=s
    cases B with
    | none=>exact hy.elim
    | var cs=>exact hy.elim
    | fvar cs=>exact hy.elim
    | map es =>
      simp only at hy
      split at hy <;> exact hy.elim
    | row sz e xs =>
      simp only at hy
      split at hy
      ·rename_i e'
       exact ⟨sz,xs,_,⟨e'.symm,.inl ⟨⟨e,rfl⟩,rfl⟩⟩,⟨⟨by rw [hs]; exact e'.symm,.inl ⟨sz,e,xs,by rw [hs],rfl⟩⟩,trivial⟩,hy⟩
      ·exact hy.elim
    | frow sz xs =>
      simp only at hy
      split at hy
      ·rename_i e'
       exact ⟨sz,xs,[],⟨e'.symm,.inr ⟨rfl,rfl⟩⟩,trivial,hy⟩
      ·exact hy.elim
   obtain ⟨l,b,hK,hF,hfr,hl,hc,hh⟩:=Im h hK0
   refine ⟨_,_,hK,hb0.append hF,fun z hz=>?_,by simp [hl],fun j c y hcj hyj=>?_,fun vs hv hrep=>?_⟩
   ·rcases List.mem_append.1 hz with hz | hz
    ·rcases hst.2 with ⟨_,h2⟩ | ⟨_,h2⟩
     ·rw [h2] at hz; simp at hz; exact ⟨sz,xs,by rw [hz]⟩
     ·rw [h2] at hz; cases hz
    ·exact hfr z hz
   ·cases j with
    | zero =>
      simp at hcj hyj
      subst hcj
      refine ⟨sz,xs,hyj.symm,hst.1,?_⟩
      rcases hst.2 with ⟨h1,h2⟩ | ⟨h1,h2⟩
      ·exact .inl ⟨h1,by rw [h2]; simp⟩
      ·exact .inr h1
    | succ j =>
      have:=hc j c y (by simpa using hcj) (by simpa using hyj)
      cases c with
      | d q=>exact this
      | sl id' n' =>
        obtain ⟨sz',xs',h1,h2,h3⟩:=this
        exact ⟨sz',xs',h1,h2,h3.imp (fun h=>⟨h.1,by simp [h.2]⟩) (fun h=>h)⟩
      | own _ _ _=>exact this
   ·cases vs with
    | nil=>simp at hv
    | cons v vs =>
      have h0:=hrep 0 v (.sl id n) rfl rfl
      have hr:=hh vs (by simpa using hv) fun j v c hv hc=>hrep (j + 1) v c (by simpa using hv) (by simpa using hc)
      intro B hB hf hs hk
      have hr':=hr B (fun y hy=>hB y (by simp [hy])) hf hs hk
      have hfrz:(Av (Be B S) id).box = .frow sz xs:=by
       rcases hst.2 with ⟨_,h2⟩ | ⟨h1,h2⟩
       ·exact hf.mem (id,.frow sz xs,n) (hB _ (by rw [h2]; simp))
       ·rw [hf.keepF id (by rw [h1]; rfl)]; exact h1
      have hbb:=hs.boxes id
      rw [hfrz] at hbb
      have hv2:=h0.2 (by simp only [AU]; exact hst.1.symm)
      refine ⟨by simp [hr'.1],fun j u y hu hy=>?_⟩
      cases j with
      | zero=>simp at hu hy; subst hu; subst hy; rw [hv2]; exact ⟨hbb,rfl⟩
      | succ j=>exact hr'.2 j u y (by simpa using hu) (by simpa using hy)
 | .own _ _ _ :: _,K,hy=>hy.elim
end
end Go.Abs
