/- M1 -/
import Derived.Orders
import Derived.Below
import Derived.Laws.AppendOwn
import Derived.Laws.Cells
import Derived.Laws.Build
namespace Go.Proofs.YtjghjdokjgcehaaGreatDoor.P
def idx {α:Type} (l:List α) (i:Int):Option α:=if 0≤i then l[i.toNat]? else none
def rm (n m:Nat):Bool:=decide (n + m≤137438953472)
def iter {σ ρ:Type} (body:(σ→Option ρ)→σ→Option ρ):Nat→σ→Option ρ
 | 0,_=>none
 | n + 1,s=>body (iter body n) s
def AO:Nat:=36893488147419103232
theorem A9 {α ρ:Type} {m:Option α} {G:α→Option ρ} {R:ρ} (h:m.bind G = some R):∃ x,m = some x∧G x = some R:=by
 cases m with
 | none=>cases h
 | some x=>exact ⟨x,rfl,h⟩
theorem E0 {ρ:Type} {b:Bool} {X:Option ρ} {R:ρ} (h:(bif b then X else none) = some R):b = true∧X = some R:=by
 cases b with
 | true=>exact ⟨rfl,h⟩
 | false=>cases h
theorem TT {α:Type} {l:List α} {i:Int} {x:α} (h:idx l i = some x):0≤i∧i.toNat < l.length∧l[i.toNat]? = some x:=by
 unfold idx at h
 split at h
 ·rename_i h0
  exact ⟨h0,(List.getElem?_eq_some_iff.1 h).1,h⟩
 ·cases h
theorem AI {σ ρ:Type} {body:(σ→Option ρ)→σ→Option ρ} {n:Nat} {s:σ} {R:ρ} (h:iter body n s = some R) :
 ∃ Φ:Nat→σ→Option ρ,(∀ k s,Φ k s = some R→∃ k',k = k' + 1∧body (Φ k') s = some R)∧Φ n s = some R:=by
 refine ⟨iter body,fun k s h=>?_,h⟩
 cases k with
 | zero=>cases h
 | succ k=>exact ⟨k,rfl,h⟩
end Go.Proofs.YtjghjdokjgcehaaGreatDoor.P
namespace Go.Abs
def G7:List Int:=[0,1,56,2,57,49,28,3,61,58,42,50,38,29,17,4,62,47,59,36,45,43,51,22,53,39,33,30,24,18,12,5,63,55,48,27,60,41,37,16,46,35,44,21,52,32,23,11,54,26,40,15,34,20,31,10,25,14,19,9,13,8,7,6]
def Zb:Nat→Option (List Int)
 | 2=>some G7
 | _=>none
end Go.Abs
set_option linter.unusedVariables false
set_option linter.unusedSimpArgs false
namespace Go.Abs
inductive D where
 | bool (b:Bool)
 | int (k:IntKind) (n:Int)
 | str (s:ByteArray)
 | fn (f:FuncId) (caps:List D)
 | ptr (cs:List D)
 | nil (sz:Nat)
 | list (sz:Nat) (xs:List D)
 | agg (xs:List D)
def ct (g:Nat):Option (List D):=match Zb g with
 | some l=>some (l.map fun n=>D.int .u8 n)
 | none=>none
def D.cells:D→List D
 | .agg xs=>xs
 | x=>[x]
def D.one:D→Bool
 | .agg _=>false
 | _=>true
def D.bare:D→Bool
 | .bool _ | .int _ _ | .str _ | .nil _ | .fn _ []=>true
 | _=>false
inductive C where
 | d (x:D)
 | sl (id ver:Nat)
 | own (sz:Nat) (e:TypeId) (xs:List D)
inductive AV where
 | any
 | bot
 | d (x:D)
 | lim (sz:Nat) (xs:List D)
 | ptr (id ver off:Nat)
 | sl (id ver:Nat)
 | eptr (id ver sz i off:Nat)
 | tup (xs:List C)
 | own (sz:Nat) (e:TypeId) (xs:List D)
 | optr (cs:List D)
 | under (t:Nat) (want:Bool) (x:AV)
 | cc (k:Option FuncId) (xs:List C)
inductive Cg where
 | none
 | var (cs:List C)
 | row (sz:Nat) (e:TypeId) (xs:List D)
 | fvar (cs:List D)
 | frow (sz:Nat) (xs:List D)
 | map (es:List (D × D))
structure Sl where
 av:AV
 box:Cg
 ver:Nat
abbrev AS:=List Sl
def A2:Value→Option Nat
 | .pointer (some a)=>some a.block
 | .slice (some a) _ cap=>if cap = 0 then none else some a.block
 | .map (some b)=>some b
 | .agg vs=>match vs.back? with
   | some (.slice (some a) _ cap)=>if cap = 0 then none else some a.block
   | _=>none
 | _=>none
def Nh:Value→Value
 | .agg vs=>match vs.back? with
   | some u=>u
   | none=>undef
 | v=>v
def Ps:Value→Nat
 | .slice _ _ c=>c
 | _=>0
inductive AB (O:Nat→Prop) (w:World):Value→D→Prop
 | bool (b:Bool):AB O w (.bool b) (.bool b)
 | int (k:IntKind) (n:Int):AB O w (.int k n) (.int k n)
 | str (s:ByteArray):AB O w (.string s) (.str s)
 | fn (f:FuncId) (vs:Array Value) (xs:List D) (hl:vs.size = xs.length) (h1:∀ x∈xs,x.one = true)
  (h:∀ (i:Nat) v x,vs[i]? = some v→xs[i]? = some x→AB O w v x):AB O w (.func (.func f) #[] vs) (.fn f xs)
 | ptr (b off:Nat) (cs:List D) (c:Nat→Value) (hb:cs≠[]→b < w.heap.size) (hO:cs≠[]→¬ O b) (h1:∀ x∈cs,x.one = true)
  (hcell:∀ (j:Nat) y,cs[j]? = some y→w.cell? ⟨b,off + j,none⟩ = some (c j))
  (h:∀ (j:Nat) y,cs[j]? = some y→AB O w (c j) y):AB O w (.pointer (some ⟨b,off,none⟩)) (.ptr cs)
 | agg (vs:Array Value) (xs:List D) (hl:vs.size = xs.length) (h1:∀ x∈xs,x.one = true)
  (h:∀ (i:Nat) v x,vs[i]? = some v→xs[i]? = some x→AB O w v x):AB O w (.agg vs) (.agg xs)
 | nil (a:Option Addr) (sz:Nat):AB O w (.slice a 0 0) (.nil sz)
 | emp (a:Option Addr) (cap sz:Nat):AB O w (.slice a 0 cap) (.list sz [])
 | list (b off cap sz:Nat) (xs:List D) (c:Nat→Nat→Value) (hne:xs≠[]) (hb:b < w.heap.size) (hO:¬ O b) (hcap:xs.length≤cap) (hsz:∀ x∈xs,x.cells.length = sz)
  (h1:∀ x∈xs,∀ y∈x.cells,y.one = true)
  (hcell:∀ (i:Nat) x (j:Nat) y,xs[i]? = some x→x.cells[j]? = some y→w.cell? ⟨b,off + i * sz + j,none⟩ = some (c i j))
  (h:∀ (i:Nat) x (j:Nat) y,xs[i]? = some x→x.cells[j]? = some y→AB O w (c i j) y) :
  AB O w (.slice (some ⟨b,off,none⟩) xs.length cap) (.list sz xs)
def Tk (O:Nat→Prop) (w:World):Prop:=∀ g cs,ct g = some cs→AB O w (.pointer (some ⟨g,0,none⟩)) (.ptr cs)
def Bo (O:Nat→Prop) (w:World) (vs:List Value) (ys:List D):Prop :=
 vs.length = ys.length∧∀ (j:Nat) v y,vs[j]? = some v→ys[j]? = some y→AB O w v y∧y.one = true
def BQ (β:Nat→Value) (ver:Nat→Nat) (O:Nat→Prop) (w:World) (v:Value):C→Prop
 | .d x=>AB O w v x∧x.one = true
 | .sl id n=>n≤ver id∧(n = ver id→v = β id)
 | .own _ _ _=>False
def fE (k:Option FuncId) (vs:Array Value):Value :=
 match k with
 | none=>.agg vs
 | some f=>.func (.func f) #[] vs
def IV (β:Nat→Value) (ver:Nat→Nat) (O:Nat→Prop) (w:World) (tm:Array Value) (v:Value):AV→Prop
 | .any=>True
 | .bot=>False
 | .d x=>AB O w v x
 | .lim sz xs=>AB O w v (.list sz xs)∧Ps v = xs.length
 | .ptr id n o=>n≤ver id∧(n = ver id→∃ b,β id = .pointer (some ⟨b,0,none⟩)∧v = .pointer (some ⟨b,o,none⟩))
 | .sl id n=>n≤ver id∧(n = ver id→v = β id)
 | .eptr id n sz i o=>n≤ver id∧(n = ver id→∃ b m cap,β id = .slice (some ⟨b,0,none⟩) m cap∧v = .pointer (some ⟨b,i * sz + o,none⟩))
 | .tup xs=>∃ vs:Array Value,v = .tuple vs∧vs.size = xs.length∧∀ (i:Nat) u x,vs[i]? = some u→xs[i]? = some x→match x with
  | .d y=>AB O w u y
  | c=>BQ β ver O w u c
 | .own _ _ _=>False
 | .optr _=>False
 | .under t want x=>(tm[t]? = some (.bool want)→IV β ver O w tm v x)∧(tm[t]?≠some (.bool want)→v = undef)
 | .cc k xs=>∃ vs:Array Value,v = fE k vs∧vs.size = xs.length∧∀ (i:Nat) u x,vs[i]? = some u→xs[i]? = some x→BQ β ver O w u x∧u.oneCell' = true
def Dh (w:World) (e:TypeId) (sz:Nat) (v:Value) (n:Nat) (A6:List Value):Prop :=
 w.ownsRow 0 e sz v n A6∨(n = 0∧A6 = []∧∃ a,v = .slice (some a) 0 0)
def LL (β:Nat→Value) (ver:Nat→Nat) (O:Nat→Prop) (w:World) (id:Nat):Cg→Prop
 | .none=>True
 | .var cs=>∃ b A6 T,β id = .pointer (some ⟨b,0,none⟩)∧w.heap[b]? = some (.cells A6 T (0,0))∧A6.size = cs.length∧∀ (j:Nat) v c,A6[j]? = some v→cs[j]? = some c→BQ β ver O w v c
 | .row sz e xs=>0 < sz∧(∀ x∈xs,x.cells.length = sz)∧∃ A6,Dh w e sz (β id) xs.length A6∧Bo O w A6 (xs.flatMap D.cells)
 | .fvar cs=>AB O w (β id) (.ptr cs)∧∃ b,β id = .pointer (some ⟨b,0,none⟩)
 | .frow sz xs=>AB O w (β id) (.list sz xs)
 | .map es=>∃ (b:Nat) (vs:Array MapEntry) (clock:Nat),β id = .map (some b)∧w.heap[b]? = some (.map vs clock)∧vs.size = es.length ∧
  ∀ (i:Nat) (e:MapEntry) (p:D × D),vs[i]? = some e→es[i]? = some p→AB O w e.key p.1∧AB O w e.val p.2∧p.1.bare = true∧p.2.bare = true
def Cg.owned:Cg→Bool
 | .var _ | .row _ _ _ | .map _=>true
 | _=>false
def PL (O:Nat→Prop) (w:World) (v:Value):AV→Prop
 | .any=>True
 | .d x=>AB O w v x
 | .lim sz xs=>AB O w v (.list sz xs)∧Ps v = xs.length
 | _=>False
def Tn (mine:Nat→Prop) (w:World) (v:Value) (sz:Nat) (e:TypeId) (xs:List D):Prop :=
 0 < sz∧(∀ x∈xs,x.cells.length = sz)∧(∀ b,A2 v = some b→mine b)∧∃ A6,Dh w e sz v xs.length A6∧Bo (fun _=>True) w A6 (xs.flatMap D.cells)
def XT (O:Nat→Prop) (w:World) (v:Value) (cs:List D):Prop :=
 ∃ b A6 T,v = .pointer (some ⟨b,0,none⟩)∧w.heap[b]? = some (.cells A6 T (0,0))∧Bo O w A6.toList cs
def D9 (v:Value) (r:AV) (b:Nat):Prop :=
 match r with
 | .own _ _ _ | .optr _=>A2 v = some b
 | .tup xs=>∃ (vs:Array Value) (i:Nat) (u:Value) (sz:Nat) (e:TypeId) (ys:List D),v = .tuple vs∧vs[i]? = some u∧xs[i]? = some (.own sz e ys)∧A2 u = some b
 | _=>False
def Dg (mine O:Nat→Prop) (w:World) (v:Value) (r:AV):Prop :=
 match r with
 | .own sz e xs=>Tn mine w v sz e xs
 | .optr cs=>(∀ b,A2 v = some b→mine b)∧XT (fun b=>O b∨A2 v = some b) w v cs
 | .tup xs=>∃ vs:Array Value,v = .tuple vs∧vs.size = xs.length∧(∀ (i:Nat) u x,vs[i]? = some u→xs[i]? = some x→match x with
  | .d y=>AB (fun b=>O b∨D9 v (.tup xs) b) w u y
  | .own sz e ys=>Tn mine w u sz e ys
  | .sl _ _=>False) ∧
  ∀ (i j:Nat) u u' sz e ys sz' e' ys' b,vs[i]? = some u→vs[j]? = some u'→xs[i]? = some (.own sz e ys)→xs[j]? = some (.own sz' e' ys')→A2 u = some b→A2 u' = some b→i = j
 | x=>PL O w v x
def Fp (P:Program) (f:FuncId):Bool :=
 match P.funcs[f]? with
 | some fn=>!(fn.name == "runtime.NumGoroutine") && fn.body.isSome
 | none=>false
def Al (P:Program) (f:FuncId) (args:List AV) (r:AV):Prop :=
 Fp P f = true∧∀ (O:Nat→Prop) (w:World) (vs:Array Value),(∀ b,O b→b < w.heap.size)→Tk O w→vs.size = args.length →
  (∀ (i:Nat) v x,vs[i]? = some v→args[i]? = some x→PL O w v x) →
  Calls P f vs w fun e w'=>∃ v,e = .returned v∧RowKit.Below w.heap.size w w'∧Dg (fun b=>w.heap.size≤b) O w' v r
structure Bl (B:Nat) (M:Nat→Prop) (w w':World):Prop where
 os:w'.os = w.os
 tape:w'.tape = w.tape
 output:w'.output = w.output
 size:w.heap.size≤w'.heap.size
 block:∀ k,k < B→¬ M k→w'.heap[k]? = w.heap[k]?
def AV.mut:AV→Bool
 | .own _ _ _ | .optr _ | .cc _ _=>true
 | _=>false
def aD (w:World) (O:Nat→Prop) (v:Value) (l:List C) (vs:Array Value) (u:Value) (ds:List D) (sz:Nat) (e:TypeId) (xs:List D):Prop :=
 l = ds.map .d++[.own sz e xs]∧v = .agg (vs.push u)∧vs.size = ds.length∧0 < sz∧(∀ x∈xs,x.cells.length = sz)∧∃ A6,Dh w e sz u xs.length A6∧Bo O w A6 (xs.flatMap D.cells)
def WF (O:Nat→Prop) (w:World) (v:Value):AV→Prop
 | .own sz e xs=>0 < sz∧(∀ x∈xs,x.cells.length = sz)∧∃ A6,Dh w e sz v xs.length A6∧Bo O w A6 (xs.flatMap D.cells)
 | .optr cs=>XT O w v cs
 | .cc k l=>k = none∧∃ vs u ds sz e xs,aD w O v l vs u ds sz e xs∧Bo O w vs.toList ds
 | x=>PL O w v x
def Gz (vs:Array Value) (args:List AV) (b:Nat):Prop:=∃ (i:Nat) (v:Value) (x:AV),vs[i]? = some v∧args[i]? = some x∧x.mut = true∧A2 v = some b
def NH (O:Nat→Prop) (w:World) (v:Value) (x:AV):AV→Prop
 | .own sz e ys=>WF O w v (.own sz e ys)∧∃ xs,x = .own sz e xs
 | .optr cs=>WF O w v (.optr cs)∧∃ cs',x = .optr cs'∧cs.length = cs'.length
 | .cc _ l=>∃ vs u ds sz e xs,aD w O v l vs u ds sz e xs
 | _=>True
def CY (P:Program) (f:FuncId) (args outs:List AV) (r:AV):Prop :=
 Fp P f = true∧outs.length = args.length∧∀ (O:Nat→Prop) (w:World) (vs:Array Value),(∀ b,O b→b < w.heap.size)→Tk (fun b=>O b∨Gz vs args b) w→vs.size = args.length→(∀ b,Gz vs args b→¬ O b) →
  (∀ (i j:Nat) v v' x y b,vs[i]? = some v→vs[j]? = some v'→args[i]? = some x→args[j]? = some y→x.mut = true→y.mut = true→A2 v = some b→A2 v' = some b→i = j) →
  (∀ (i:Nat) v x,vs[i]? = some v→args[i]? = some x→WF (fun b=>O b∨Gz vs args b) w v x) →
  Calls P f vs w fun e w'=>∃ v,e = .returned v∧Bl w.heap.size (Gz vs args) w w' ∧
   Dg (fun b=>w.heap.size≤b∨(Gz vs args b∧¬ Gz vs outs b)) (fun b=>O b∨Gz vs outs b) w' v r ∧
   ∀ (i:Nat) u x y,vs[i]? = some u→args[i]? = some x→outs[i]? = some y→NH (fun b=>O b∨Gz vs outs b∨D9 v r b) w' u x y
def aK (P:Program) (f:FuncId) (args:List AV) (r:AV):Prop :=
 ∀ (O:Nat→Prop) (w:World) (vs:Array Value),vs.size = args.length→(∀ (i:Nat) v x,vs[i]? = some v→args[i]? = some x→PL O w v x) →
   ∃ v,(callFunc f vs).run P w = .ok (.value v) w∧Dg (fun b=>w.heap.size≤b) O w v r
def Sp (b:Bool) (x y:Prop):Prop:=Bool.rec (motive:=fun _=>Prop) y x b
theorem br {b:Bool} {x y:Prop} (h1:b = true→x) (h2:b = false→y):Bool.rec (motive:=fun _=>Prop) y x b:=by
 cases b
 ·exact h2 rfl
 ·exact h1 rfl
theorem Sp.pos {b:Bool} {x y:Prop} (h:Sp b x y) (hb:b = true):x:=by subst hb; exact h
theorem Sp.neg {b:Bool} {x y:Prop} (h:Sp b x y) (hb:b = false):y:=by subst hb; exact h
structure Jg (p:Prop) (k:Prop):Prop where
 need:p
 then_:k
def aE (P:Program) (f:FuncId) (nils:List Nat) (args:List AV) (r:AV):Prop :=
 Fp P f = true∧∀ (O:Nat→Prop) (w:World) (vs:Array Value),(∀ b,O b→b < w.heap.size)→Tk O w→vs.size = args.length→(∀ i∈nils,vs[i]? = some (.slice none 0 0)) →
  (∀ (i:Nat) v x,vs[i]? = some v→args[i]? = some x→PL O w v x) →
  Calls P f vs w fun e w'=>∃ v,e = .returned v∧RowKit.Below w.heap.size w w'∧Dg (fun b=>w.heap.size≤b) O w' v r
structure Iq (P:Program) (f:FuncId) (nils:List Nat) (args:List AV) (K:AV→Prop) (margs:List AV) (KM:List AV→AV→Prop):Prop where
 go:(∃ r,(Al P f args r∨aK P f args r∨aE P f nils args r)∧K r)∨∃ outs r,CY P f margs outs r∧KM outs r
theorem A1 {P:Program} {f:FuncId} {nils:List Nat} {args margs:List AV} {K:AV→Prop} {KM:List AV→AV→Prop} {r:AV} (c:Al P f args r) (k:K r):Iq P f nils args K margs KM:=⟨.inl ⟨r,.inl c,k⟩⟩
theorem de {P:Program} {f:FuncId} {nils:List Nat} {args margs:List AV} {K:AV→Prop} {KM:List AV→AV→Prop} {r:AV} (c:aK P f args r) (k:K r):Iq P f nils args K margs KM:=⟨.inl ⟨r,.inr (.inl c),k⟩⟩
theorem dY {P:Program} {f:FuncId} {nils:List Nat} {args margs:List AV} {K:AV→Prop} {KM:List AV→AV→Prop} {r:AV} (c:aE P f nils args r) (k:K r):Iq P f nils args K margs KM:=⟨.inl ⟨r,.inr (.inr c),k⟩⟩
theorem BN {P:Program} {f:FuncId} {nils:List Nat} {args margs outs:List AV} {K:AV→Prop} {KM:List AV→AV→Prop} {r:AV} (c:CY P f margs outs r) (k:KM outs r):Iq P f nils args K margs KM:=⟨.inr ⟨outs,r,c,k⟩⟩
def WG (P:Program) (f:FuncId) (args:List AV) (k sz:Nat) (e:TypeId) (xs ys:List D):Prop :=
 Fp P f = true∧∀ (O:Nat→Prop) (w:World) (vs:Array Value) (b:Nat) (u:Value) (T:TypeId),
  (∀ c,O c→c < w.heap.size)→Tk (fun c=>O c∨c = b∨A2 u = some c) w→vs.size = args.length→vs[k]? = some (.pointer (some ⟨b,0,none⟩)) →
  w.heap[b]? = some (.cells #[u] T (0,0))→¬ O b→(∀ c,A2 u = some c→¬ O c∧c≠b)→0 < sz→(∀ x∈xs,x.cells.length = sz) →
  (∃ A6,Dh w e sz u xs.length A6∧Bo (fun c=>O c∨c = b∨A2 u = some c) w A6 (xs.flatMap D.cells)) →
  (∀ (i:Nat) v x,vs[i]? = some v→args[i]? = some x→PL (fun c=>O c∨c = b∨A2 u = some c) w v x) →
  Calls P f vs w fun e' w'=>∃ v u' T',e' = .returned v∧Bl w.heap.size (fun c=>c = b∨A2 u = some c) w w' ∧
   w'.heap[b]? = some (.cells #[u'] T' (0,0))∧(∀ c,A2 u' = some c→A2 u = some c∨w.heap.size≤c)∧(∀ x∈ys,x.cells.length = sz) ∧
   ∃ A6,Dh w' e sz u' ys.length A6∧Bo (fun c=>O c∨c = b∨A2 u' = some c) w' A6 (ys.flatMap D.cells)
structure YQ (P:Program) (f:FuncId) (args:List AV) (k sz:Nat) (e:TypeId) (xs:List D) (K:List D→Prop):Prop where
 go:∃ ys,WG P f args k sz e xs ys∧K ys
theorem Tv {P:Program} {f:FuncId} {args:List AV} {k sz:Nat} {e:TypeId} {xs ys:List D} {K:List D→Prop} (c:WG P f args k sz e xs ys) (h:K ys):YQ P f args k sz e xs K:=⟨⟨ys,c,h⟩⟩
structure At (xs:List D) (i:Int) (K:D→Prop):Prop where
 go:0≤i∧∃ x,xs[i.toNat]? = some x∧K x
structure Rx (x y:Prop):Prop where
 go:x∨y
structure cW (K:List (Nat × Nat)→Prop):Prop where
 go:∃ hs,K hs
structure cX (xs:List D) (K:Bool→Prop):Prop where
 go:∀ b:Bool,(xs≠[]→b = false)→K b
def bS:Sl:=⟨.any,.none,0⟩
def Ar:AS→Nat→Sl
 | [],_=>bS
 | s :: _,0=>s
 | _ :: r,n + 1=>Ar r n
def Et:AS→Nat→AV→AS
 | [],_,_=>[]
 | s :: r,0,v=>⟨v,s.box,s.ver⟩ :: r
 | s :: r,n + 1,v=>s :: Et r n v
def Ba:AS→Nat→Cg→Nat→AS
 | [],_,_,_=>[]
 | s :: r,0,b,n=>⟨s.av,b,n⟩ :: r
 | s :: r,k + 1,b,n=>s :: Ba r k b n
inductive RV where
 | any
 | bot
 | d (x:D)
 | lim (sz:Nat) (xs:List D)
 | vptr (id ver off:Nat) (cs:List C)
 | row (id ver sz:Nat) (e:TypeId) (xs:List D)
 | eptr (id ver sz:Nat) (e:TypeId) (xs:List D) (i off:Nat)
 | tup (xs:List C)
 | mp (id ver:Nat) (es:List (D × D))
 | cagg (xs:List C)
 | cfun (f:FuncId) (xs:List C)
 | clo (f:FuncId) (cs:List C) (k id ver rid rver:Nat)
def YF:List C→Option (Nat × Nat × Nat)
 | []=>none
 | .sl id n :: _=>some (0,id,n)
 | _ :: r=>match YF r with
   | some (k,id,n)=>some (k + 1,id,n)
   | none=>none
def Yd:Value→AV
 | .int k n=>.d (.int k n)
 | .bool b=>.d (.bool b)
 | .string s=>.d (.str s)
 | .slice none 0 0=>.d (.nil 0)
 | _=>.any
def ev (S:AS):Operand→AV
 | .tmp t=>(Ar S t).av
 | .const v=>Yd v
 | .func f=>.d (.fn f [])
 | .global g=>match ct g with
   | some cs=>.d (.ptr cs)
   | none=>.any
def dN (g:Option (Nat × Bool)):AV→AV
 | .under t w y=>match g with
   | some (t',w')=>if t = t'∧w = w' then y else .any
   | none=>.any
 | x=>x
def res (S:AS):AV→RV
 | .any=>.any
 | .bot=>.bot
 | .d x=>.d x
 | .lim sz xs=>.lim sz xs
 | .tup xs=>.tup xs
 | .ptr id n o=>match Ar S id with
   | ⟨_,.var cs,m⟩=>if n = m then .vptr id n o cs else .any
   | ⟨_,.fvar cs,m⟩=>if n = m then .d (.ptr (cs.drop o)) else .any
   | _=>.any
 | .sl id n=>match Ar S id with
   | ⟨_,.row sz e xs,m⟩=>if n = m then .row id n sz e xs else .any
   | ⟨_,.frow sz xs,m⟩=>if n = m then .d (.list sz xs) else .any
   | ⟨_,.map es,m⟩=>if n = m then .mp id n es else .any
   | _=>.any
 | .eptr id n sz i o=>match Ar S id with
   | ⟨_,.row sz' e xs,m⟩=>if n = m∧sz = sz' then .eptr id n sz e xs i o else .any
   | _=>.any
 | .own _ _ _=>.any
 | .optr _=>.any
 | .under _ _ _=>.any
 | .cc k xs=>match k with
   | none=>.cagg xs
   | some f=>match YF xs with
     | some (j,id,n)=>match Ar S id with
       | ⟨_,.var [.sl rid rn],m⟩=>if n = m then .clo f xs j id n rid rn else .cfun f xs
       | _=>.cfun f xs
     | none=>.cfun f xs
end Go.Abs
set_option linter.unusedVariables false
set_option linter.unusedSimpArgs false
namespace Go.Abs
structure Gu where
 av:AV
 bx:List (Nat × Cg × Nat)
 homes:List (Nat × Nat)
abbrev Bx:=List (Nat × Cg × Nat)
def back:RV→AV
 | .any=>.any
 | .bot=>.bot
 | .d x=>.d x
 | .lim sz xs=>.lim sz xs
 | .vptr id n o _=>.ptr id n o
 | .row id n _ _ _=>.sl id n
 | .eptr id n sz _ _ i o=>.eptr id n sz i o
 | .tup xs=>.tup xs
 | .mp id n _=>.sl id n
 | .cagg xs=>.cc none xs
 | .cfun f cs=>.cc (some f) cs
 | .clo f cs _ _ _ _ _=>.cc (some f) cs
def FJ:Nat→(Nat→Prop)→Prop
 | 0,K=>K 0
 | n + 1,K=>FJ n fun m=>K (m + 1)
def Td (v:AV) (K:AV→Prop):Prop :=
 match v with
 | .any=>K .any
 | .bot=>K .bot
 | .d x=>K (.d x)
 | .lim sz xs=>K (.lim sz xs)
 | .ptr id n o=>FJ n fun n=>FJ o fun o=>K (.ptr id n o)
 | .sl id n=>FJ n fun n=>K (.sl id n)
 | .eptr id n sz i o=>FJ n fun n=>FJ sz fun sz=>FJ o fun o=>K (.eptr id n sz i o)
 | .tup xs=>K (.tup xs)
 | .own sz e xs=>K (.own sz e xs)
 | .optr cs=>K (.optr cs)
 | .under t w x=>match x with
   | .any=>K (.under t w .any)
   | .d x=>K (.under t w (.d x))
   | .ptr id n o=>FJ n fun n=>FJ o fun o=>K (.under t w (.ptr id n o))
   | .sl id n=>FJ n fun n=>K (.under t w (.sl id n))
   | .eptr id n sz i o=>FJ n fun n=>FJ sz fun sz=>FJ o fun o=>K (.under t w (.eptr id n sz i o))
   | x=>K (.under t w x)
 | .cc k xs=>K (.cc k xs)
def Wh (b:Cg) (K:Cg→Prop):Prop :=
 match b with
 | .none=>K .none
 | .var cs=>K (.var cs)
 | .row sz e xs=>FJ sz fun sz=>K (.row sz e xs)
 | .fvar cs=>K (.fvar cs)
 | .frow sz xs=>FJ sz fun sz=>K (.frow sz xs)
 | .map es=>K (.map es)
def Cr {α:Type}:List α→(List α→Prop)→Prop
 | [],K=>K []
 | x :: r,K=>Cr r fun r=>K (x :: r)
def splice {α:Type}:List α→Nat→List α→List α
 | cs,0,ys=>ys++cs.drop ys.length
 | [],_ + 1,_=>[]
 | c :: cs,n + 1,ys=>c :: splice cs n ys
def Nz:List D→(List D→Prop)→Prop
 | [],K=>K []
 | x :: r,K=>Nz r fun r=>match x with
   | .nil s=>K (.list s [] :: r)
   | x=>K (x :: r)
def P0 (x:D) (K:D→Prop):Prop :=
 match x with
 | .nil s=>K (.list s [])
 | .agg xs=>Nz xs fun l=>K (.agg l)
 | x=>K x
def Vh (r:RV) (K:D→Bx→Prop):Prop :=
 match r with
 | .d x=>K x []
 | .lim sz xs=>K (.list sz xs) []
 | .row id n sz _ xs=>K (.list sz xs) [(id,.frow sz xs,n)]
 | _=>False
def da (r:RV) (K:D→Bx→Prop):Prop:=Vh r fun x b=>P0 x fun x=>K x b
def Dx (σ:Nat→Nat→RV):List C→(List D→Bx→Prop)→Prop
 | [],K=>K [] []
 | .d x :: r,K=>Dx σ r fun l b=>K (x :: l) b
 | .sl id n :: r,K=>Vh (σ id n) fun x b=>Dx σ r fun l b'=>K (x :: l) (b++b')
 | .own _ _ _ :: _,_=>False
def XL:List D→(List C→Prop)→Prop
 | [],K=>K []
 | x :: r,K=>XL r fun r=>K (.d x :: r)
def zD:Value→Option D
 | .int k n=>some (.int k n)
 | .bool b=>some (.bool b)
 | .string s=>some (.str s)
 | .slice none 0 0=>some (.nil 0)
 | _=>none
def eR:List Value→Option (List D)
 | []=>some []
 | v :: r=>match zD v,eR r with
   | some x,some l=>some (x :: l)
   | _,_=>none
def AW (P:Program) (t:TypeId):Nat:=match P.info? t with | some i=>i.size | none=>0
def K8 (P:Program) (t:TypeId):Nat:=match P.info? t with | some i=>i.bytes | none=>0
def Rz (P:Program):Nat→TypeId→List Nat
 | 0,_=>[]
 | n + 1,t=>match P.underlying t with
   | some (.slice e)=>[AW P e]
   | some (.struct fs)=>fs.toList.flatMap fun f=>Rz P n f.type
   | some (.array k e)=>(List.replicate k e).flatMap fun e=>Rz P n e
   | _=>[0]
def Jx:List D→List Nat→List D
 | .nil _ :: r,s :: q=>.nil s :: Jx r q
 | x :: r,_ :: q=>x :: Jx r q
 | l,_=>l
def zeroCells (P:Program) (t:TypeId):Option (List D) :=
 match P.info? t with
 | some i=>match i.zero with
   | some z=>match eR z.cells.toList with
     | some l=>some (Jx l (Rz P 12 t))
     | none=>none
   | none=>none
 | none=>none
def K6 (P:Program) (t:TypeId):Option Bool :=
 match P.underlying t with
 | some (.struct _) | some (.array _ _)=>some true
 | some _=>some false
 | none=>none
def Zh (P:Program) (t:TypeId) (cs:List D) (K:D→Prop):Prop :=
 match K6 P t with
 | some true=>match P.info? t with
   | some i=>Cr (cs.take i.size) fun l=>if l.length = i.size then K (.agg l) else False
   | none=>False
 | some false=>match cs with
   | y :: _=>K y
   | []=>False
 | none=>False
def eL:List C→Bool
 | []=>false
 | c :: r=>match c with
   | .sl _ _=>true
   | _=>eL r
def O4 (σ:Nat→Nat→RV):List C→Bool
 | []=>true
 | c :: r=>match c with
   | .d _=>O4 σ r
   | .sl id n=>match σ id n with
     | .row _ _ _ _ _=>O4 σ r
     | _=>false
   | .own _ _ _=>false
def bY (P:Program) (σ:Nat→Nat→RV) (t:TypeId) (cs:List C) (K:Gu→Prop):Prop :=
 match K6 P t with
 | some true=>match P.info? t with
   | some i=>Cr (cs.take i.size) fun l=>if l.length = i.size then match eL l with
     | false=>Dx σ l fun l b=>K ⟨.d (.agg l),b,[]⟩
     | true=>Rx (Dx σ l fun l b=>K ⟨.d (.agg l),b,[]⟩) (if O4 σ l = true then K ⟨.cc none l,[],[]⟩ else False)
     else False
   | none=>False
 | some false=>match cs with
   | .d y :: _=>K ⟨.d y,[],[]⟩
   | .sl id n :: _=>K ⟨.sl id n,[],[]⟩
   | _=>False
 | none=>False
def So (op:BinOp) (k:IntKind) (a b:Int) (K:D→Prop):Prop :=
 match op with
 | .add=>K (.int k (k.wrap (a + b)))
 | .sub=>K (.int k (k.wrap (a - b)))
 | .mul=>K (.int k (k.wrap (a * b)))
 | .quo=>Jg (b≠0) (K (.int k (k.wrap (a.tdiv b))))
 | .rem=>Jg (b≠0) (K (.int k (a.tmod b)))
 | .and=>K (.int k (k.wrap (BitVec.ofInt k.bits a &&& BitVec.ofInt k.bits b).toNat))
 | .or=>K (.int k (k.wrap (BitVec.ofInt k.bits a ||| BitVec.ofInt k.bits b).toNat))
 | .xor=>K (.int k (k.wrap (BitVec.ofInt k.bits a ^^^ BitVec.ofInt k.bits b).toNat))
 | .andNot=>K (.int k (k.wrap (BitVec.ofInt k.bits a &&& ~~~ BitVec.ofInt k.bits b).toNat))
 | .eql=>K (.bool (a==b))
 | .neq=>K (.bool (a != b))
 | .lss=>K (.bool (decide (a < b)))
 | .leq=>K (.bool (decide (a≤b)))
 | .gtr=>K (.bool (decide (a > b)))
 | .geq=>K (.bool (decide (a ≥ b)))
 | _=>False
def Sb (op:BinOp) (k:IntKind) (a b:Int) (K:D→Prop):Prop :=
 match op with
 | .shl=>Jg (0≤b) (K (.int k (k.wrap (a * 2 ^ (min b.toNat k.bits)))))
 | .shr=>Jg (0≤b) (K (.int k (a.fdiv (2 ^ (min b.toNat k.bits)))))
 | _=>False
def ec (P:Program) (t:TypeId) (fs:List Field) (n m:Nat):Bool :=
 !P.stoodInHeld t && fs.all fun f=>!(f.name == "_") && ((P.info? f.type).isSome && (decide (f.offset + AW P f.type≤n) && decide (f.offset + AW P f.type≤m)))
def Xi (P:Program):Nat→TypeId→List D→List D→(Bool→Prop)→Prop
 | 0,_,_,_,_=>False
 | n + 1,t,xs,ys,K=>match P.underlying t with
   | some (.int _)=>match xs,ys with
     | .int k a :: _,.int k' b :: _=>if k = k' then K (a==b) else False
     | _,_=>False
   | some .bool=>match xs,ys with
     | .bool a :: _,.bool b :: _=>K (a==b)
     | _,_=>False
   | some .string=>match xs,ys with
     | .str a :: _,.str b :: _=>K (a.toList==b.toList)
     | _,_=>False
   | some (.struct fs)=>Jg (ec P t fs.toList xs.length ys.length = true)
     (List.rec (motive:=fun _=>(Bool→Prop)→Prop) (fun K=>K true)
      (fun f _ ih K=>Xi P n f.type ((xs.drop f.offset).take (AW P f.type)) ((ys.drop f.offset).take (AW P f.type)) fun a=>ih fun b=>K (a && b)) fs.toList K)
   | _=>False
def Yz (P:Program) (t:TypeId):Bool:=match P.underlying t with | some .bool=>true | _=>false
def YH (op:BinOp) (a b:ByteArray) (K:D→Prop):Prop :=
 match op with
 | .add=>Jg (a.size + b.size≤9223372036854775807) (K (.str (a++b)))
 | .eql=>K (.bool (a.toList==b.toList))
 | .neq=>K (.bool (!(a.toList==b.toList)))
 | .lss=>K (.bool (Op.bytesLess a.toList b.toList))
 | .leq=>K (.bool (Op.bytesLess a.toList b.toList || a.toList==b.toList))
 | .gtr=>K (.bool (!(Op.bytesLess a.toList b.toList || a.toList==b.toList)))
 | .geq=>K (.bool (!(Op.bytesLess a.toList b.toList)))
 | _=>False
def WM (P:Program) (t:TypeId) (op:BinOp) (x y:D) (K:D→Prop):Prop :=
 match x,y with
 | .int k a,.int k' b=>match op with
   | .shl=>Sb .shl k a b K
   | .shr=>Sb .shr k a b K
   | op=>if k = k' then So op k a b K else False
 | .str a,.str b=>YH op a b K
 | .bool a,.bool b=>match Yz P t with
   | true=>match op with
     | .eql=>K (.bool (a==b))
     | .neq=>K (.bool (!(a==b)))
     | _=>False
   | false=>False
 | .agg xs,.agg ys=>Jg (P.eqGuardType P.depth t = false∧K6 P t = some true) (match op with
   | .eql=>Xi P 12 t xs ys fun b=>K (.bool b)
   | .neq=>Xi P 12 t xs ys fun b=>K (.bool !b)
   | _=>False)
 | _,_=>False
def dL (op:UnOp) (x:D) (K:D→Prop):Prop :=
 match op,x with
 | .not,.bool b=>K (.bool !b)
 | .neg,.int k n=>K (.int k (k.wrap (0 - n)))
 | .xor,.int k n=>K (.int k (k.wrap (BitVec.ofInt k.bits (if k.signed then -1 else k.max) ^^^ BitVec.ofInt k.bits n).toNat))
 | _,_=>False
def Nt (σ:Nat→Nat→RV) (r:RV) (K:AV→Bx→Prop):Prop :=
 match r with
 | .any=>K .any []
 | .d x=>P0 x fun x=>K (.d x) []
 | .lim sz xs=>K (.d (.list sz xs)) []
 | .vptr id n o cs=>Dx σ cs fun l b=>Nz l fun l=>Cr (l.drop o) fun l'=>K (.d (.ptr l')) (b++[(id,.fvar l,n)])
 | .row id n sz _ xs=>K (.d (.list sz xs)) [(id,.frow sz xs,n)]
 | .eptr id n sz _ xs i o=>At xs i fun x=>Cr (x.cells.drop o) fun l=>K (.d (.ptr l)) [(id,.frow sz xs,n)]
 | .cagg _=>K .any []
 | _=>False
def Qt (σ:Nat→Nat→RV):List C→(List C→Nat→Nat→Prop)→Prop
 | [],_=>False
 | c :: r,K=>match c with
   | .d x=>P0 x fun x=>Qt σ r fun l id n=>K (.d x :: l) id n
   | .sl id n=>match r with
     | []=>match σ id n with
       | .row id n sz e xs=>K [.own sz e xs] id n
       | _=>False
     | _=>False
   | .own _ _ _=>False
def S7:List C→(Nat→TypeId→List D→Prop)→Prop
 | [],_=>False
 | c :: r,K=>match c with
   | .own sz e xs=>match r with
     | []=>K sz e xs
     | _=>False
   | _=>S7 r K
def KR:Operand→Bool
 | .const (.slice none 0 0)=>true
 | _=>false
def Oj:List Operand→Nat→List Nat
 | [],_=>[]
 | x :: r,n=>match KR x with
   | true=>n :: Oj r (n + 1)
   | false=>Oj r (n + 1)
def V2 (P:Program) (t:TypeId) (K:AV→Prop):Prop :=
 match P.underlying t with
 | some (.slice e)=>K (.d (.list (AW P e) []))
 | _=>False
def G1 (P:Program) (σ:Nat→Nat→RV) (ρ:Operand→RV):List Operand→List TypeId→(List AV→Bx→Prop)→Prop
 | [],_,K=>K [] []
 | x :: r,ts,K=>match KR x with
   | true=>match ts with
     | t :: ts=>V2 P t fun v=>G1 P σ ρ r ts fun vs bs=>K (v :: vs) bs
     | []=>False
   | false=>Nt σ (ρ x) fun v b=>G1 P σ ρ r ts.tail fun vs bs=>K (v :: vs) (b++bs)
def Qe (σ:Nat→Nat→RV) (r:RV) (K:AV→Bx→Option (Nat × Nat)→Prop):Prop :=
 match r with
 | .row id n sz e xs=>K (.own sz e xs) [] (some (id,n))
 | .vptr id n 0 cs=>Dx σ cs fun l b=>Nz l fun l=>K (.optr l) b (some (id,n))
 | .cagg cs=>Qt σ cs fun l id n=>K (.cc none l) [] (some (id,n))
 | r=>Nt σ r fun v b=>K v b none
def FP (P:Program) (σ:Nat→Nat→RV) (ρ:Operand→RV):List Operand→List TypeId→(List AV→Bx→List (Option (Nat × Nat))→Prop)→Prop
 | [],_,K=>K [] [] []
 | x :: r,ts,K=>match KR x with
   | true=>match ts with
     | t :: ts=>V2 P t fun v=>FP P σ ρ r ts fun vs bs us=>K (v :: vs) bs (none :: us)
     | []=>False
   | false=>Qe σ (ρ x) fun v b u=>FP P σ ρ r ts.tail fun vs bs us=>K (v :: vs) (b++bs) (u :: us)
def Tw:List D→(List AV→Prop)→Prop
 | [],K=>K []
 | x :: r,K=>Tw r fun r=>K (.d x :: r)
def C.bare:C→Bool
 | .d (.agg xs)=>xs.all D.bare
 | .d x=>x.bare
 | .own _ _ _=>true
 | .sl _ _=>false
def AV.bare:AV→Bool
 | .d (.agg xs)=>xs.all D.bare
 | .d x=>x.bare
 | .tup xs=>xs.all C.bare
 | .own _ _ _=>true
 | _=>false
def X4 (r:AV) (lent:Bx) (K:Bx→Prop):Prop :=
 match lent with
 | []=>K []
 | l=>match r.bare with
   | true=>K []
   | false=>K l
def GY (id:Nat):Bx→Bool
 | []=>true
 | x :: r=>decide (x.1≠id) && GY id r
def Pu:List C→List (Nat × Nat)→(List C→Bx→Prop)→Prop
 | [],[],K=>K [] []
 | .d x :: r,hs,K=>Pu r hs fun l b=>K (.d x :: l) b
 | .own sz e xs :: r,(h,n) :: hs,K=>Pu r hs fun l b=>if GY h b = true then K (.sl h n :: l) ((h,.row sz e xs,n) :: b) else False
 | _,_,_=>False
def R9:List C→Bool
 | []=>false
 | .own _ _ _ :: _=>true
 | _ :: r=>R9 r
def aB (d dv:Nat) (r:AV) (b:Bx) (K:Gu→Prop):Prop :=
 match r with
 | .own sz e xs=>if GY d b = true then K ⟨.sl d (dv + 1),b++[(d,.row sz e xs,dv + 1)],[]⟩ else False
 | .optr cs=>if GY d b = true then XL cs fun l=>K ⟨.ptr d (dv + 1) 0,b++[(d,.var l,dv + 1)],[]⟩ else False
 | .tup xs=>match R9 xs with
   | false=>K ⟨.tup xs,b,[]⟩
   | true=>cW fun hs=>Pu xs hs fun l hb=>if hb.all (fun h=>GY h.1 b) = true then K ⟨.tup l,b++hb,hs⟩ else False
 | .under _ _ _ | .ptr _ _ _ | .sl _ _ | .eptr _ _ _ _ _ | .cc _ _=>False
 | r=>K ⟨r,b,[]⟩
def Kl:List (Option (Nat × Nat))→List AV→(Bx→Prop)→Prop
 | [],[],K=>K []
 | none :: us,_ :: os,K=>Kl us os K
 | some (id,n) :: us,.own sz e ys :: os,K=>Kl us os fun b=>if GY id b = true then K ((id,.row sz e ys,n) :: b) else False
 | some (id,n) :: us,.optr cs :: os,K=>XL cs fun l=>Kl us os fun b=>if GY id b = true then K ((id,.var l,n) :: b) else False
 | some (id,n) :: us,.any :: os,K=>Kl us os fun b=>if GY id b = true then K ((id,.none,n + 1) :: b) else False
 | some (id,n) :: us,.cc _ l :: os,K=>S7 l fun sz e ys=>Kl us os fun b=>if GY id b = true then K ((id,.row sz e ys,n) :: b) else False
 | _,_,_=>False
def LR (r:RV) (K:Nat→List D→Prop):Prop :=
 match r with
 | .d (.list sz xs)=>K sz xs
 | .d (.nil sz)=>K sz []
 | .lim sz xs=>K sz xs
 | .row _ _ sz _ xs=>K sz xs
 | _=>False
def JS (ρ:Operand→RV):List (Nat × Operand)→(List (Nat × D)→Bx→Prop)→Prop
 | [],K=>K [] []
 | (i,x) :: r,K=>Vh (ρ x) fun v b=>JS ρ r fun vs bs=>K ((i,v) :: vs) (b++bs)
def KW (ρ:Operand→RV):List (Nat × Operand)→(List (Nat × D)→Bx→Prop)→Prop
 | [],K=>K [] []
 | (i,x) :: r,K=>da (ρ x) fun v b=>KW ρ r fun vs bs=>K ((i,v) :: vs) (b++bs)
def TC (place:Nat→Option (Nat × Nat)) (cells:List D):List (Nat × D)→Option (List D)
 | []=>some cells
 | (i,v) :: rest=>match place i with
   | none=>none
   | some (off,size)=>if v.cells.length = size∧off + v.cells.length≤cells.length then TC place (splice cells off v.cells) rest else none
def Ro (ρ:Operand→RV):List (Nat × Operand)→Bool
 | []=>false
 | (_,x) :: r=>match ρ x with
   | .row _ _ _ _ _=>true
   | _=>Ro ρ r
def cellsOf (r:RV) (K:List C→Prop):Prop :=
 match r with
 | .row id n _ _ _=>K [.sl id n]
 | .d v=>XL v.cells K
 | .lim sz xs=>K [.d (.list sz xs)]
 | _=>False
def KU (ρ:Operand→RV):List (Nat × Operand)→(List (Nat × List C)→Prop)→Prop
 | [],K=>K []
 | (i,x) :: r,K=>cellsOf (ρ x) fun c=>KU ρ r fun ps=>K ((i,c) :: ps)
def Vs (place:Nat→Option (Nat × Nat)) (cells:List C):List (Nat × List C)→Option (List C)
 | []=>some cells
 | (i,v) :: rest=>match place i with
   | none=>none
   | some (off,size)=>if v.length = size∧off + v.length≤cells.length then Vs place (splice cells off v) rest else none
def OU:Nat→List (Nat × D)→Option (List D)
 | _,[]=>some []
 | n,(i,v) :: r=>if i = n then (OU (n + 1) r).map (v :: ·) else none
def HG (σ:Nat→Nat→RV) (ρ:Operand→RV):List Operand→(List D→Bx→Prop)→Prop
 | [],K=>K [] []
 | x :: r,K=>Nt σ (ρ x) fun v b=>match v with
   | .d y=>if y.one = true then HG σ ρ r fun l bs=>K (y :: l) (b++bs) else False
   | _=>False
def Y7 (r:RV):Option (Nat × Nat) :=
 match r with
 | .vptr id n 0 [.sl _ _]=>some (id,n)
 | .vptr id n 0 [.d (.nil _)]=>some (id,n)
 | _=>none
def QQ (ρ:Operand→RV):List Operand→Bool
 | []=>false
 | x :: r=>match Y7 (ρ x) with
   | some _=>true
   | none=>QQ ρ r
def HE (σ:Nat→Nat→RV) (ρ:Operand→RV):List Operand→(List C→Bx→Prop)→Prop
 | [],K=>K [] []
 | x :: r,K=>match Y7 (ρ x) with
   | some (id,n)=>HE σ ρ r fun l bs=>K (.sl id n :: l) bs
   | none=>Nt σ (ρ x) fun v b=>match v with
     | .d y=>if y.one = true then HE σ ρ r fun l bs=>K (.d y :: l) (b++bs) else False
     | _=>False
def NJ:List C→List AV
 | []=>[]
 | .d x :: r=>.d x :: NJ r
 | _ :: r=>.any :: NJ r
def J4 (P:Program) (t:TypeId):Bool:=match P.info? t with | some i=>(match i.zero with | some z=>decide (z.cells.size = i.size) | none=>false) | none=>false
def VH (P:Program) (t:TypeId) (K:D→Prop):Prop :=
 match zeroCells P t with
 | some l=>match K6 P t with
   | some true=>Nz l fun l=>K (.agg l)
   | some false=>match l with
     | [x]=>P0 x K
     | _=>False
   | none=>False
 | none=>False
def XR (ρ:Operand→RV) (x:Option Operand) (dflt:Int) (K:Int→Prop):Prop :=
 match x with
 | none=>K dflt
 | some x=>match ρ x with
   | .d (.int _ i)=>K i
   | _=>False
def Im {α:Type} (xs:List α) (l h:Int):List α:=(xs.drop l.toNat).take (h.toNat - l.toNat)
def Ke (ρ:Operand→RV) (sz:Nat) (xs:List D) (lo hi mx:Option Operand) (b:Bx) (K:Gu→Prop):Prop :=
 XR ρ lo 0 fun l=>XR ρ hi xs.length fun h=>match mx with
  | none=>Jg (0≤l∧l≤h∧h≤xs.length) (K ⟨.d (.list sz (Im xs l h)),b,[]⟩)
  | some m=>if hi.isNone = true then False else match ρ m with
    | .d (.int _ m)=>Jg (0≤l∧l≤h∧h≤xs.length∧m = h) (K ⟨.lim sz (Im xs l h),b,[]⟩)
    | _=>False
def DX (s:ByteArray) (i:Int):Int:=((s.data.toList.getD i.toNat 0).toNat:Int)
def F8 (s:ByteArray):List Int:=s.data.toList.map fun b=>(b.toNat:Int)
def GJ:D→D→Bool
 | .int k _,.int k' _=>decide (k = k')
 | .str _,.str _=>true
 | _,_=>false
def HZ:D→D→Bool
 | .int _ a,.int _ b=>a==b
 | .str a,.str b=>a==b
 | _,_=>false
def Ob (k:D):List (D × D)→Option Nat
 | []=>none
 | p :: r=>bif HZ k p.1 then some 0 else (Ob k r).map (· + 1)
def Mq (k:D):List (D × D)→Option D
 | []=>none
 | p :: r=>bif HZ k p.1 then some p.2 else Mq k r
def U3 (k v:D):List (D × D)→List (D × D)
 | []=>[(k,v)]
 | p :: r=>bif HZ k p.1 then (k,v) :: r else p :: U3 k v r
def UG:D→Option TypeDesc
 | .int j _=>some (.int j)
 | .str _=>some .string
 | _=>none
def bX (P:Program) (t:TypeId):Option D:=match P.info? t with
 | some i=>match i.zero with
   | some z=>zD z
   | none=>none
 | none=>none
structure Qr (r:Option D) (z:D) (K:D→Bool→Prop):Prop where
 go:∃ v b,r.getD z = v∧r.isSome = b∧K v b
def Zm (P:Program) (kt et:TypeId) (x ix:RV) (ok:Bool) (K:Gu→Prop):Prop :=
 match x with
 | .mp _ _ es=>match ix with
   | .d q=>match UG q with
     | some kd=>Jg (P.underlying kt = some kd∧∀ p∈es,GJ q p.1 = true) (match bX P et with
       | some z=>Qr (Mq q es) z fun v b=>match ok with
         | true=>K ⟨.tup [.d v,.d (.bool b)],[],[]⟩
         | false=>K ⟨.d v,[],[]⟩
       | none=>False)
     | none=>False
   | _=>False
 | _=>False
def cR (P:Program) (kt:TypeId) (m k x:RV) (K:Gu→Prop):Prop :=
 match m with
 | .mp id n es=>match k with
   | .d q=>match x with
     | .d y=>match UG q with
       | some kd=>Jg (y.bare = true∧P.underlying kt = some kd∧∀ p∈es,GJ q p.1 = true) (K ⟨.any,[(id,.map (U3 q y es),n)],[]⟩)
       | none=>False
     | _=>False
   | _=>False
 | _=>False
def yA (P:Program) (σ:Nat→Nat→RV) (ρ:Option (Nat × Bool)→Operand→RV) (g:Option (Nat × Bool)) (o:Oper) (d dv:Nat) (K:Gu→Prop):Prop :=
 match o.op with
 | .move x=>K ⟨back (ρ g x),[],[]⟩
 | .assign x=>match KR x with
   | true=>match P.underlying o.type with
     | some (.slice e)=>if 0 < AW P e then K ⟨.sl d (dv + 1),[(d,.row (AW P e) e [],dv + 1)],[]⟩ else False
     | _=>False
   | false=>K ⟨back (ρ g x),[],[]⟩
 | .pick (.tmp t) a b=>match ρ g (.tmp t) with
   | .bot=>K ⟨.bot,[],[]⟩
   | .d (.bool c)=>match ρ (some (t,true)) a with
     | .bot=>match ρ (some (t,false)) b with
       | .d (.bool y)=>K ⟨.d (.bool y),[],[]⟩
       | _=>False
     | .d (.bool x)=>match ρ (some (t,false)) b with
       | .bot=>K ⟨.d (.bool x),[],[]⟩
       | .d (.bool y)=>K ⟨.d (.bool (bif c then x else y)),[],[]⟩
       | _=>False
     | _=>False
   | _=>False
 | .box _ x=>match ρ g x with
   | .row id n _ _ _=>K ⟨.ptr d (dv + 1) 0,[(d,.var [.sl id n],dv + 1)],[]⟩
   | .cagg l=>K ⟨.ptr d (dv + 1) 0,[(d,.var l,dv + 1)],[]⟩
   | r=>Vh r fun v b=>XL v.cells fun l=>K ⟨.ptr d (dv + 1) 0,b++[(d,.var l,dv + 1)],[]⟩
 | .alloc t=>match zeroCells P t with
   | some l=>XL l fun l=>K ⟨.ptr d (dv + 1) 0,[(d,.var l,dv + 1)],[]⟩
   | none=>False
 | .build t parts=>match P.underlying t with
   | some (.struct fields)=>match zeroCells P t with
     | some z=>if fields.toList.all (fun f=>(P.info? f.type).isSome) then
       match Ro (ρ g) parts.toList with
       | false=>JS (ρ g) parts.toList fun ps b =>
         match TC (fun i=>match fields[i]? with | some f=>some (f.offset,AW P f.type) | none=>none) z ps with
         | some l=>Cr l fun l=>K ⟨.d (.agg l),b,[]⟩
         | none=>False
       | true=>Rx (JS (ρ g) parts.toList fun ps b =>
         match TC (fun i=>match fields[i]? with | some f=>some (f.offset,AW P f.type) | none=>none) z ps with
         | some l=>Cr l fun l=>K ⟨.d (.agg l),b,[]⟩
         | none=>False)
         (XL z fun zc=>KU (ρ g) parts.toList fun ps=>match Vs (fun i=>match fields[i]? with | some f=>some (f.offset,AW P f.type) | none=>none) zc ps with
          | some l=>Cr l fun l=>K ⟨.cc none l,[],[]⟩
          | none=>False)
       else False
     | none=>False
   | _=>False
 | .buildSlice t n parts=>match P.underlying t with
   | some (.slice e)=>KW (ρ g) parts.toList fun ps b=>match OU 0 ps with
     | some l=>Cr l fun l =>
       if l.length = n∧0 < AW P e∧J4 P e = true∧n * AW P e≤16777216∧l.all (fun x=>x.cells.length==AW P e) then K ⟨.sl d (dv + 1),b++[(d,.row (AW P e) e l,dv + 1)],[]⟩ else False
     | none=>False
   | _=>False
 | .makeSlice t l c=>match P.underlying t with
   | some (.slice e)=>match ρ g l with
     | .d (.int _ l)=>match ρ g c with
       | .d (.int _ c)=>if 0 < AW P e∧J4 P e = true then VH P e fun z =>
        Jg (0≤l∧l≤c∧c≤maxLen∧(K8 P e:Int) * c≤281474976710656) (K ⟨.sl d (dv + 1),[(d,.row (AW P e) e (List.replicate l.toNat z),dv + 1)],[]⟩) else False
       | _=>False
     | _=>False
   | _=>False
 | .makeFunc (.func f) first caps=>match first.toList with
   | []=>match QQ (ρ g) caps.toList with
     | false=>HG σ (ρ g) caps.toList fun l b=>K ⟨.d (.fn f l),b,[]⟩
     | true=>Rx (HG σ (ρ g) caps.toList fun l b=>K ⟨.d (.fn f l),b,[]⟩) (HE σ (ρ g) caps.toList fun l b=>K ⟨.cc (some f) l,b,[]⟩)
   | _=>False
 | .load t a=>match ρ g a with
   | .bot=>K ⟨.bot,[],[]⟩
   | .vptr _ _ o cs=>bY P σ t (cs.drop o) K
   | .d (.ptr cs)=>Zh P t cs fun x=>K ⟨.d x,[],[]⟩
   | .eptr _ _ _ _ xs i o=>At xs i fun x=>Zh P t (x.cells.drop o) fun x=>K ⟨.d x,[],[]⟩
   | _=>False
 | .store t a x=>if (P.info? t).isSome = true then match ρ g a with
   | .vptr id n o cs=>match K6 P t with
     | some true=>match ρ g x with
       | .cagg l=>if l.length = AW P t∧o + l.length≤cs.length then Cr (splice cs o l) fun l=>K ⟨.any,[(id,.var l,n)],[]⟩ else False
       | r=>Vh r fun v b =>
         if v.cells.length = AW P t∧o + v.cells.length≤cs.length then XL v.cells fun l=>Cr (splice cs o l) fun l=>K ⟨.any,b++[(id,.var l,n)],[]⟩ else False
     | some false=>if AW P t = 1∧o < cs.length then match ρ g x with
      | .row id' n' _ _ _=>Cr (splice cs o [.sl id' n']) fun l=>K ⟨.any,[(id,.var l,n)],[]⟩
      | r=>Vh r fun v b=>if v.one = true then Cr (splice cs o [.d v]) fun l=>K ⟨.any,b++[(id,.var l,n)],[]⟩ else False
      else False
     | none=>False
   | .eptr id n sz e xs i o=>da (ρ g x) fun v b=>At xs i fun y =>
     if v.cells.length = AW P t∧o + v.cells.length≤y.cells.length∧GY id b = true then
      match y with
      | .agg cs=>Cr (splice cs o v.cells) fun l=>K ⟨.any,b++[(id,.row sz e (xs.set i (.agg l)),n)],[]⟩
      | _=>if v.one then K ⟨.any,b++[(id,.row sz e (xs.set i v),n)],[]⟩ else False
     else False
   | _=>False
   else False
 | .nilCheck x=>match ρ g x with
   | .vptr id n o _=>K ⟨.ptr id n o,[],[]⟩
   | .d (.ptr cs)=>K ⟨.d (.ptr cs),[],[]⟩
   | .d (.fn f cs)=>K ⟨.d (.fn f cs),[],[]⟩
   | .eptr id n sz _ _ i o=>K ⟨.eptr id n sz i o,[],[]⟩
   | _=>False
 | .binOp op t x y _=>match ρ g x with
   | .bot=>K ⟨.bot,[],[]⟩
   | .d a=>match ρ g y with
     | .bot=>K ⟨.bot,[],[]⟩
     | .d b=>WM P t op a b fun x=>K ⟨.d x,[],[]⟩
     | _=>False
   | _=>False
 | .unOp op _ x=>match ρ g x with
   | .bot=>K ⟨.bot,[],[]⟩
   | .d a=>dL op a fun x=>K ⟨.d x,[],[]⟩
   | _=>False
 | .convert s t x=>match P.underlying s with
   | some _=>match P.underlying t with
     | some (.int k)=>match ρ g x with
       | .bot=>K ⟨.bot,[],[]⟩
       | .d (.int _ n)=>K ⟨.d (.int k (k.wrap n)),[],[]⟩
       | _=>False
     | some .string=>match ρ g x with
       | .bot=>K ⟨.bot,[],[]⟩
       | .d (.str s)=>K ⟨.d (.str s),[],[]⟩
       | _=>False
     | some (.slice e)=>match P.underlying e with
       | some (.int .u8)=>match ρ g x with
         | .bot=>K ⟨.bot,[],[]⟩
         | .d (.str s)=>K ⟨.d (.list 1 ((F8 s).map (D.int .u8))),[],[]⟩
         | _=>False
       | _=>False
     | _=>False
   | none=>False
 | .fieldAddr s x f=>match P.underlying s with
   | some (.struct fields)=>match fields[f]? with
     | some fd=>if 0 < AW P fd.type then match ρ g x with
      | .bot=>K ⟨.bot,[],[]⟩
      | .vptr id n o _=>K ⟨.ptr id n (o + fd.offset),[],[]⟩
      | .d (.ptr cs)=>Cr (cs.drop fd.offset) fun l=>K ⟨.d (.ptr l),[],[]⟩
      | .eptr id n sz _ _ i o=>K ⟨.eptr id n sz i (o + fd.offset),[],[]⟩
      | _=>False
      else False
     | none=>False
   | _=>False
 | .field s x f=>match P.underlying s with
   | some (.struct fields)=>match fields[f]? with
     | some fd=>match ρ g x with
      | .bot=>K ⟨.bot,[],[]⟩
      | .d (.agg cs)=>Zh P fd.type (cs.drop fd.offset) fun x=>K ⟨.d x,[],[]⟩
      | _=>False
     | none=>False
   | _=>False
 | .indexAddr t x ix=>match P.underlying t with
   | some (.slice e)=>match ρ g ix with
     | .d (.int _ i)=>match ρ g x with
       | .d (.list sz xs)=>if sz = AW P e∧0 < sz then At xs i fun x=>Cr x.cells fun l=>K ⟨.d (.ptr l),[],[]⟩ else False
       | .lim sz xs=>if sz = AW P e∧0 < sz then At xs i fun x=>Cr x.cells fun l=>K ⟨.d (.ptr l),[],[]⟩ else False
       | .row id n sz _ xs=>if sz = AW P e then Jg (0≤i∧i.toNat < xs.length) (K ⟨.eptr id n sz i.toNat 0,[],[]⟩) else False
       | _=>False
     | _=>False
   | some (.array n e)=>match ρ g ix with
     | .d (.int _ i)=>match ρ g x with
       | .d (.ptr cs)=>if AW P e = 1 then Jg (i < n) (At cs i fun y=>K ⟨.d (.ptr [y]),[],[]⟩) else False
       | _=>False
     | _=>False
   | _=>False
 | .index t x ix=>match P.underlying t with
   | some .string=>match ρ g ix with
     | .d (.int _ i)=>match ρ g x with
       | .d (.str s)=>Jg (0≤i∧i.toNat < s.size) (K ⟨.d (.int .u8 (DX s i)),[],[]⟩)
       | _=>False
     | _=>False
   | _=>False
 | .slice t x lo hi mx=>match P.underlying t with
   | some .string=>match mx with
     | none=>match ρ g x with
       | .d (.str s)=>XR (ρ g) lo 0 fun l=>XR (ρ g) hi s.size fun h=>Jg (0≤l∧l≤h∧h≤s.size) (K ⟨.d (.str (s.extract l.toNat h.toNat)),[],[]⟩)
       | _=>False
     | some _=>False
   | some (.slice e)=>match ρ g x with
     | .d (.list sz xs)=>if sz = AW P e∧0 < sz then Ke (ρ g) sz xs lo hi mx [] K else False
     | .d (.nil sz)=>if sz = AW P e∧0 < sz then Ke (ρ g) sz [] lo hi mx [] K else False
     | .lim sz xs=>if sz = AW P e∧0 < sz then Ke (ρ g) sz xs lo hi mx [] K else False
     | .row id n sz e' xs=>if sz = AW P e∧0 < sz then Rx (Ke (ρ g) sz xs lo hi mx [(id,.frow sz xs,n)] K)
      (match lo with
       | none=>match mx with
         | none=>XR (ρ g) hi xs.length fun h=>Jg (0≤h∧h≤xs.length) (K ⟨.sl id (n + 1),[(id,.row sz e' (xs.take h.toNat),n + 1)],[]⟩)
         | some _=>False
       | some _=>False)
      else False
     | _=>False
   | _=>False
 | .call c=>match c.callee with
   | .value f=>match ρ g f with
     | .d (.fn f caps)=>Tw caps fun cv=>G1 P σ (ρ g) c.args.toList c.argTypes.toList fun vs bs=>FP P σ (ρ g) c.args.toList c.argTypes.toList fun ms mb us =>
      Iq P f (Oj c.args.toList 0) (vs++cv) (fun r=>X4 r bs fun b=>aB d dv r b K)
       (ms++cv) (fun outs r=>Kl (us++cv.map fun _=>none) outs fun ub=>if ub.all (fun x=>GY x.1 mb) = true then aB d dv r (mb++ub) K else False)
     | .clo f cs k id n rid rn=>match σ rid rn with
       | .row _ _ sz e xs=>G1 P σ (ρ g) c.args.toList c.argTypes.toList fun vs bs=>match bs with
         | []=>Cr (NJ cs) fun cv=>YQ P f (vs++cv) (vs.length + k) sz e xs fun ys=>if id = rid then False else K ⟨.any,[(rid,.row sz e ys,rn + 1),(id,.var [.sl rid (rn + 1)],n)],[]⟩
         | _=>False
       | _=>False
     | _=>False
   | .builtin .len=>match c.args.toList,c.argTypes.toList with
     | [x],[t]=>match P.underlying t with
       | some .string=>match ρ g x with
         | .bot=>K ⟨.bot,[],[]⟩
         | .d (.str s)=>K ⟨.d (.int .i64 s.size),[],[]⟩
         | _=>False
       | some (.slice _)=>match ρ g x with
         | .bot=>K ⟨.bot,[],[]⟩
         | r=>LR r fun _ xs=>K ⟨.d (.int .i64 xs.length),[],[]⟩
       | _=>False
     | _,_=>False
   | .builtin .min=>match c.args.toList with
     | [x,y]=>match ρ g x with
       | .d (.int k a)=>match ρ g y with
         | .d (.int _ b)=>K ⟨.d (.int k (if b < a then b else a)),[],[]⟩
         | _=>False
       | _=>False
     | _=>False
   | .builtin .max=>match c.args.toList with
     | [x,y]=>match ρ g x with
       | .d (.int k a)=>match ρ g y with
         | .d (.int _ b)=>K ⟨.d (.int k (if b > a then b else a)),[],[]⟩
         | _=>False
       | _=>False
     | _=>False
   | .builtin .append=>match c.args.toList,c.argTypes.toList with
     | [x,y],[t,u]=>match P.underlying t with
       | some (.slice e)=>if t = u∧0 < AW P e∧J4 P e = true then LR (ρ g y) fun sz' ys =>
         let fits (n:Nat):Prop:=n + ys.length≤maxLen∧(n + ys.length) * K8 P e≤140737488355328∧(ys = []∨sz' = AW P e)
         match ρ g x with
         | .row id n sz e' xs=>if e = e'∧sz = AW P e then Jg (fits xs.length) (K ⟨.sl id (n + 1),[(id,.row sz e (xs++ys),n + 1)],[]⟩) else False
         | .d (.nil _)=>Jg (fits 0) (K ⟨.sl d (dv + 1),[(d,.row (AW P e) e ys,dv + 1)],[]⟩)
         | .lim sz xs=>if sz = AW P e then Jg (fits xs.length∧ys≠[]) (K ⟨.sl d (dv + 1),[(d,.row sz e (xs++ys),dv + 1)],[]⟩) else False
         | _=>False
         else False
       | _=>False
     | _,_=>False
   | _=>False
 | .extract t i=>match ρ g t with
   | .tup xs=>match xs[i]? with
     | some (.d x)=>K ⟨.d x,[],[]⟩
     | some (.sl id n)=>K ⟨.sl id n,[],[]⟩
     | _=>False
   | _=>False
 | .makeMap t none=>match P.underlying t with
   | some (.map _ _)=>K ⟨.sl d (dv + 1),[(d,.map [],dv + 1)],[]⟩
   | _=>False
 | .lookup t x ix ok=>match P.underlying t with
   | some (.map kt et)=>Zm P kt et (ρ g x) (ρ g ix) ok K
   | _=>False
 | .mapUpdate t m k x=>match P.underlying t with
   | some (.map kt _)=>cR P kt (ρ g m) (ρ g k) (ρ g x) K
   | _=>False
 | _=>False
def JN:Op→Bool
 | .move _ | .pick _ _ _ | .load _ _ | .unOp _ _ _ | .convert _ _ _ | .fieldAddr _ _ _ | .field _ _ _=>true
 | .binOp op _ _ _ _=>match op with | .quo | .rem | .shl | .shr | .add=>false | _=>true
 | .call c=>match c.callee with | .builtin .len=>true | _=>false
 | _=>false
def Sx:List Oper→Nat→Option Nat
 | [],_=>none
 | o :: _,0=>o.dst
 | _ :: r,n + 1=>Sx r n
def O9:AS→Nat→AV→(AS→Prop)→Prop
 | [],_,_,K=>K []
 | s :: r,0,v,K=>match s with | ⟨_,b,n⟩=>K (⟨v,b,n⟩ :: r)
 | s :: r,k + 1,v,K=>O9 r k v fun r'=>K (s :: r')
def Tg:AS→Nat→Cg→Nat→(AS→Prop)→Prop
 | [],_,_,_,K=>K []
 | s :: r,0,b,m,K=>match s with | ⟨v,_,_⟩=>K (⟨v,b,m⟩ :: r)
 | s :: r,k + 1,b,m,K=>Tg r k b m fun r'=>K (s :: r')
def NI:Bx→AS→(AS→Prop)→Prop
 | [],S,K=>K S
 | (id,b,n) :: r,S,K=>FJ n fun n=>Wh b fun b=>Tg S id b n fun S=>NI r S K
def Z6 (dst:Option Nat) (e:Gu) (S:AS) (K:AS→Prop):Prop :=
 match e with
 | ⟨v,bx,_⟩=>match dst with
   | some d=>Td v fun v=>NI bx S fun S=>O9 S d v K
   | none=>NI bx S K
def Bm:Bx→AS→AS
 | [],S=>S
 | (id,b,n) :: r,S=>Bm r (Ba S id b n)
def Vg (dst:Option Nat) (e:Gu) (S:AS):AS :=
 match dst with
 | some d=>Et (Bm e.bx S) d e.av
 | none=>Bm e.bx S
def σOf (S:AS) (id n:Nat):RV:=res S (.sl id n)
def ρOf (S:AS) (g:Option (Nat × Bool)) (x:Operand):RV:=res S (dN g (ev S x))
def Se:AS→Nat→(Nat→Prop)→Prop
 | [],_,_=>False
 | s :: _,0,K=>match s with | ⟨_,_,n⟩=>K n
 | _ :: r,k + 1,K=>Se r k K
def dK (x:Option Nat) (K:Nat→Prop):Prop :=
 match x with
 | some d=>K d
 | none=>K 0
def FK (S:AS):List (Nat × Nat)→Bool
 | []=>true
 | (h,n) :: r=>decide (h < S.length) && decide ((Ar S h).ver < n) && FK S r
def Dt:Option Nat→List Nat
 | some d=>[d]
 | none=>[]
def RH:List Operand→List Nat
 | []=>[]
 | .tmp t :: r=>t :: RH r
 | _ :: r=>RH r
def TS (all:List Oper):Nat→Oper→List Nat
 | 0,_=>[]
 | n + 1,o=>match o.guard with
   | some (j,_)=>Dt (Sx all j)++match all[j]? with
     | some m=>TS all n m
     | none=>[]
   | none=>[]
def DU (all:List Oper) (o:Oper):List Nat:=TS all 5 o++RH o.op.operands.toList
def Vi (S:AS) (t:Nat) (mk:Bool→AV) (b:Bool) (K:AS→Option Bool→Prop):Prop :=
 Sp b (O9 S t (mk true) fun S=>K S (some true)) (O9 S t (mk false) fun S=>K S (some false))
def ZE (lk:List Nat):Nat→Nat→AS→(AS→Option Bool→Prop)→Prop
 | 0,_,_,_=>False
 | n + 1,t,S,K=>if lk.contains t = true then match (Ar S t).av with
   | .d (.bool b)=>Vi S t (fun b=>.d (.bool b)) b K
   | .under t' w' (.d (.bool b))=>ZE lk n t' S fun S r=>match r with
     | some c=>match w' with
       | true=>match c with
         | true=>Vi S t (fun b=>.under t' w' (.d (.bool b))) b K
         | false=>K S none
       | false=>match c with
         | true=>K S none
         | false=>Vi S t (fun b=>.under t' w' (.d (.bool b))) b K
     | none=>K S none
   | .under _ _ .bot=>K S none
   | _=>False
   else False
def Tt (want:Bool) (r:Option Bool) (go skip:Prop):Prop :=
 match r with
 | none=>skip
 | some b=>match want with
   | true=>match b with
     | true=>go
     | false=>skip
   | false=>match b with
     | true=>skip
     | false=>go
def J9 (S:AS) (o:Oper):Bool :=
 match o.op with
 | .move x=>match ev S x with
   | .ptr _ _ _=>true
   | _=>false
 | _=>false
def yS (P:Program) (S:AS) (g:Option (Nat × Bool)) (o:Oper) (d dv:Nat) (K:Gu→Prop):Prop :=
 match o.op with
 | .move x=>match ev S x with
   | .ptr id n k=>K ⟨.ptr id n k,[],[]⟩
   | _=>yA P (σOf S) (ρOf S) g o d dv K
 | _=>yA P (σOf S) (ρOf S) g o d dv K
def ah (P:Program) (all:List Oper) (done:List Nat) (o:Oper) (S:AS) (K:AS→Gu→Prop):Prop :=
 match o.guard with
 | none=>dK o.dst fun d=>Se S d fun n=>yS P S none o d n fun e=>if FK S e.homes = true then K S e else False
 | some (j,want)=>match Sx all j with
   | none=>False
   | some t=>if done.contains t = true then
     match JN o.op with
     | true=>dK o.dst fun d=>Se S d fun n=>yS P S (some (t,want)) o d n fun e=>match e with
       | ⟨v,[],[]⟩=>K S ⟨.under t want v,[],[]⟩
       | _=>False
     | false=>ZE (DU all o) 5 t S fun S r=>Tt want r
      (dK o.dst fun d=>Se S d fun n=>yS P S (some (t,want)) o d n fun e=>if FK S e.homes = true then K S e else False)
      (K S ⟨.under t want .bot,[],[]⟩)
     else False
def QN (P:Program) (o:Oper):Option (Bool × Operand) :=
 match o.op with
 | .binOp op t x y _=>match KR y,o.guard,P.underlying t with
   | true,none,some (.slice _)=>match op with
     | .eql=>some (true,x)
     | .neq=>some (false,x)
     | _=>none
   | _,_,_=>none
 | _=>none
def L3:List Nat→(List Nat→Prop)→Prop
 | [],K=>K []
 | x :: r,K=>L3 r fun r=>K (x :: r)
def dF (P:Program) (all:List Oper) (done:List Nat) (l:List Oper):AS→(AS→Prop)→Prop :=
 List.rec (motive:=fun _=>List Nat→AS→(AS→Prop)→Prop) (fun _ S K=>K S)
  (fun o _ ih done S K=>if (Dt o.dst).all (fun d=>!done.contains d) = true then
   match QN P o with
   | some (pos,x)=>LR (ρOf S none x) fun _ xs=>cX xs fun b=>Z6 o.dst ⟨.d (.bool (b==pos)),[],[]⟩ S fun S=>L3 (Dt o.dst++done) fun done=>ih done S K
   | none=>ah P all done o S fun S e=>Z6 o.dst e S fun S=>L3 (Dt o.dst++done) fun done=>ih done S K
   else False) l done
def K9:List C→List Nat
 | []=>[]
 | .sl id _ :: r=>id :: K9 r
 | _ :: r=>K9 r
def IW:AV→List Nat
 | .ptr id _ _=>[id]
 | .sl id _=>[id]
 | .eptr id _ _ _ _=>[id]
 | .under _ _ x=>IW x
 | .cc _ xs=>K9 xs
 | _=>[]
def Zu (S:AS) (id:Nat):List Nat:=id :: match (Ar S id).box with
 | .var cs=>K9 cs
 | _=>[]
def X7:Op→Bool
 | .assign _ | .box _ _ | .alloc _ | .buildSlice _ _ _ | .makeSlice _ _ _ | .makeMap _ _=>true
 | .call c=>match c.callee with | .value _ | .builtin .append=>true | _=>false
 | _=>false
def U9 (S:AS) (ts:List Nat) (o:Oper):List Nat :=
 (if X7 o.op = true then [o.dst.getD 0] else [])++match J9 S o with
  | true=>[]
  | false=>ts.flatMap fun t=>(IW (Ar S t).av).flatMap (Zu S)
def SP (x y:List Nat):Bool:=x.all fun i=>!y.contains i
def UC (o:Oper) (i:Nat):Bool:=o.after.toList.any fun e=>e.on==i && Region.binds .any e
def YY (all:List Oper):Nat→Oper→Nat→Bool
 | 0,o,i=>UC o i
 | n + 1,o,i=>UC o i || o.after.toList.any fun e=>Region.binds .any e && (match all[e.on]? with | some m=>YY all n m i | none=>false)
def Pt (all:List Oper) (o:Oper) (i:Nat):Bool:=YY all 4 o i
def dp (all:List Oper) (o:Oper) (R W:List Nat) (log:List (Nat × List Nat × List Nat)):Bool :=
 log.all fun x=>(SP x.2.2 (R++W) && SP x.2.1 W) || Pt all o x.1
def dG (P:Program) (all:List Oper) (k:Nat) (log:List (Nat × List Nat × List Nat)) (done:List Nat) (l:List Oper):AS→(AS→Prop)→Prop :=
 List.rec (motive:=fun _=>Nat→List (Nat × List Nat × List Nat)→List Nat→AS→(AS→Prop)→Prop) (fun _ _ _ S K=>K S)
  (fun o _ ih k log done S K=>if (Dt o.dst).all (fun d=>!done.contains d) = true then
   ah P all done o S fun S e=>L3 (U9 S (DU all o) o++e.homes.map (·.1)) fun R=>L3 (e.bx.map (·.1)) fun W=>if dp all o R W log = true then
    Z6 o.dst e S fun S'=>L3 (Dt o.dst++done) fun done=>ih (k + 1) ((k,R,W) :: log) done S' K else False
  else False) l k log done
def YA (all:List Oper):Nat→List Oper→Bool
 | _,[]=>true
 | k,o :: r=>((o.after.toList.all fun e=>!Region.binds .any e || decide (e.on < k)) && (match o.guard with | some (j,_)=>decide (j < k) | none=>true)) &&
  (all.take k).zipIdx.all (fun x=>(SP (Dt x.1.dst) (DU all o) && SP (DU all x.1) (Dt o.dst)) || Pt all o x.2) && YA all (k + 1) r
def plain:AS→(AS→Prop)→Prop
 | [],K=>K []
 | s :: r,K=>plain r fun r'=>match s with
   | ⟨.under _ _ _,b,n⟩=>K (⟨.any,b,n⟩ :: r')
   | s=>K (s :: r')
def bj (x y:D) (K:Prop):Prop :=
 match x with
 | .nil s=>(D.nil s = y∨D.list s [] = y)∧K
 | x=>x = y∧K
def GK (v v':Nat→Nat):List C→List C→Prop→Prop
 | [],[],K=>K
 | .d x :: r,.d y :: q,K=>bj x y (GK v v' r q K)
 | .sl id n :: r,.sl id' n' :: q,K=>if id = id'∧n = v id∧n' = v' id then GK v v' r q K else False
 | _,_,_=>False
def LQ (v v':Nat→Nat) (a a':AV) (K:Prop):Prop :=
 match a' with
 | .any=>K
 | .d x'=>match a with
   | .d x=>bj x x' K
   | .lim sz xs=>D.list sz xs = x'∧K
   | _=>False
 | .lim sz xs=>a = .lim sz xs∧K
 | .ptr id n o=>match a with
   | .ptr id' n' o'=>if id' = id∧n' = v id∧n = v' id then o' = o∧K else False
   | _=>False
 | .sl id n=>match a with
   | .sl id' n'=>if id' = id∧n' = v id∧n = v' id then K else False
   | _=>False
 | .cc k xs'=>match a with
   | .cc k' xs=>if k = k' then GK v v' xs xs' K else False
   | _=>False
 | _=>False
def Zi (v v':Nat→Nat) (b b':Cg) (K:Prop):Prop :=
 match b' with
 | .none=>K
 | .frow sz xs=>(b = .frow sz xs∨∃ e,b = .row sz e xs)∧K
 | .fvar cs=>b = .fvar cs∧K
 | .map es=>b = .map es∧K
 | .row sz e xs=>b = .row sz e xs∧K
 | .var cs'=>match b with
   | .var cs=>GK v v' cs cs' K
   | _=>False
def Zj (b':Cg) (n n':Nat) (K:Prop):Prop :=
 match b' with
 | .none=>K
 | _=>if n' = 0→n = 0 then K else False
def Xz (v v':Nat→Nat):AS→AS→Prop
 | [],[]=>True
 | ⟨av,b,n⟩ :: r,⟨av',b',n'⟩ :: r'=>LQ v v' av av' (Zj b' n n' (Zi v v' b b' (Xz v v' r r')))
 | _,_=>False
def WW:List Nat→AS→(AS→Prop)→Prop
 | [],S,K=>K S
 | t :: r,S,K=>Vh (ρOf S none (.tmp t)) fun x b=>NI b S fun S=>O9 S t (.d x) fun S=>WW r S K
def W6:Nat→AS→AS→List Nat
 | t,⟨av,_,_⟩ :: r,⟨av',_,_⟩ :: r'=>match av' with
   | .d _=>match av with
     | .sl _ _=>t :: W6 (t + 1) r r'
     | _=>W6 (t + 1) r r'
   | _=>W6 (t + 1) r r'
 | _,_,_=>[]
def Le (S S':AS):Prop:=WW (W6 0 S S') S fun S=>Xz (fun i=>(Ar S i).ver) (fun i=>(Ar S' i).ver) S S'
def Tq:List (Nat × Nat × Nat × TypeId)→AS→(AS→Prop)→Prop
 | [],S,K=>K S
 | (v,j,h,e) :: r,S,K=>match Ar S v with
   | ⟨_,.var cs,n⟩=>match cs[j]? with
     | some (.d (.nil s))=>if 0 < s∧v≠h then Se S h fun m=>Cr (splice cs j [.sl h (m + 1)]) fun l=>NI [(h,.row s e [],m + 1),(v,.var l,n)] S fun S=>Tq r S K else False
     | _=>False
   | _=>False
def Fg:AS→(AS→Prop)→Prop
 | [],K=>K []
 | s :: r,K=>Fg r fun r'=>match s with | ⟨v,b,n⟩=>Td v fun v=>Wh b fun b=>FJ n fun n=>K (⟨v,b,n⟩ :: r')
structure fC (p:Prop):Prop where
 go:p
structure Qs (S:AS) (W:((Exit→AS→Prop)→AS→Prop)) (Q:Exit→AS→Prop):Prop where
 go:∃ (ads:List (Nat × Nat × Nat × TypeId)) (frs:List Nat) (ι:Type) (Inv:ι→AS) (μ:ι→Nat) (i:ι),Tq ads S (fun S=>WW frs S fun S=>Le S (Inv i)) ∧
  ∀ i,Fg (Inv i) (W (fun e S=>match e with | .normal=>∃ j,Le S (Inv j)∧μ j < μ i | e=>Q e S))
theorem loop {S:AS} {W:((Exit→AS→Prop)→AS→Prop)} {Q:Exit→AS→Prop} (ι:Type) (Inv:ι→AS) (μ:ι→Nat) (i:ι) (h:Le S (Inv i))
 (k:∀ i,Fg (Inv i) (W (fun e S=>match e with | .normal=>∃ j,Le S (Inv j)∧μ j < μ i | e=>Q e S))):Qs S W Q:=⟨⟨[],[],ι,Inv,μ,i,h,k⟩⟩
theorem Zn {S:AS} {W:((Exit→AS→Prop)→AS→Prop)} {Q:Exit→AS→Prop} (ads:List (Nat × Nat × Nat × TypeId)) (ι:Type) (Inv:ι→AS) (μ:ι→Nat) (i:ι) (h:Tq ads S (fun S=>Le S (Inv i)))
 (k:∀ i,Fg (Inv i) (W (fun e S=>match e with | .normal=>∃ j,Le S (Inv j)∧μ j < μ i | e=>Q e S))):Qs S W Q:=⟨⟨ads,[],ι,Inv,μ,i,h,k⟩⟩
noncomputable def bm (c:Code):Option Nat :=
 Code.rec (motive:=fun _=>Option Nat) none (fun id _ _=>some id) (fun _ _ a b=>match a with | some i=>some i | none=>b) (fun _ _ _ _ _=>none) (fun _ _ a=>a) (fun _ a=>a)
  (fun _ _ _ _ _ _=>none) (fun _=>none) (fun _ a=>a) (fun _=>none) (fun _=>none) none (fun _=>none) c
noncomputable def b3 (J:List Nat) (y:Code):Bool :=
 match J with
 | []=>false
 | J=>match bm y with
   | some i=>J.contains i
   | none=>false
structure Tl (S:AS) (wx wy:(Exit→AS→Prop)→AS→Prop) (Q:Exit→AS→Prop):Prop where
 go:∃ (ι:Type) (Inv:ι→AS),wx (fun e S=>match e with | .normal=>∃ i,Le S (Inv i) | e=>Q e S) S∧∀ i,Fg (Inv i) (wy Q)
theorem Ga {S:AS} {wx wy:(Exit→AS→Prop)→AS→Prop} {Q:Exit→AS→Prop} (ι:Type) (Inv:ι→AS) (h:wx (fun e S=>match e with | .normal=>∃ i,Le S (Inv i) | e=>Q e S) S) (k:∀ i,Fg (Inv i) (wy Q)):Tl S wx wy Q:=⟨⟨ι,Inv,h,k⟩⟩
def az (P:Program) (J:List Nat) (c:Code):(Exit→AS→Prop)→AS→Prop :=
 Code.rec (motive:=fun _=>(Exit→AS→Prop)→AS→Prop)
  (fun Q S=>Q .normal S)
  (fun _ ops draw Q S=>match draw with
   | false=>dF P ops.toList [] ops.toList S fun S=>plain S (Q .normal)
   | true=>Jg (YA ops.toList 0 ops.toList = true∧P.follows .mixedOrders = true) (dG P ops.toList 0 [] [] ops.toList S fun S=>plain S (Q .normal)))
  (fun _ y wx wy Q S=>match b3 J y with
   | false=>wx (fun e S=>match e with | .normal=>wy Q S | e=>Q e S) S
   | true=>Tl S wx wy Q)
  (fun c _ _ wx wy Q S=>match ρOf S none c with
   | .d (.bool b)=>Sp b (wx Q S) (wy Q S)
   | _=>False)
  (fun id _ wc Q S=>wc (fun e S=>match e with | .exit id'=>if id' = id then Q .normal S else Q (.exit id') S | e=>Q e S) S)
  (fun _ wc Q S=>Qs S wc Q)
  (fun _ _ _ _ _ _ _ _=>False)
  (fun id Q S=>Q (.exit id) S)
  (fun _ _ _ _=>False)
  (fun _ Q S=>Q .normal S)
  (fun _ _ _=>False)
  (fun Q S=>Q .ret S)
  (fun _ _ _=>False)
  c
def aR:C→AV
 | .d x=>.d x
 | .own sz e xs=>.own sz e xs
 | .sl _ _=>.any
def VU:List C→(List D→Prop)→Prop
 | [],K=>K []
 | .d x :: r,K=>VU r fun l=>K (x :: l)
 | _ :: _,_=>False
def O3 (P:Program) (S:AS) (used:List Nat) (frz:Bx):List ResultVar→(List C→List Nat→Bx→Prop)→Prop
 | [],K=>K [] used frz
 | .tmp t :: r,K=>match ρOf S none (.tmp t) with
   | .row id n sz e xs=>Rx (O3 P S used (frz++[(id,.frow sz xs,n)]) r fun l u b=>K (.d (.list sz xs) :: l) u b)
    (if used.contains id = true then False else Jg (∀ x∈xs,∀ y∈x.cells,y.bare = true) (O3 P S (id :: used) frz r fun l u b=>K (.own sz e xs :: l) u b))
   | v=>da v fun x b=>O3 P S used (frz++b) r fun l u b=>K (.d x :: l) u b
 | .cell t ty :: r,K=>match ρOf S none (.tmp t) with
   | .vptr _ _ o cs=>VU cs fun l=>Zh P ty (l.drop o) fun x=>P0 x fun x=>O3 P S used frz r fun l u b=>K (.d x :: l) u b
   | _=>False
structure dQ (x:AV) (r:AV):Prop where
 go:x = r
def cF (l:List C) (used:List Nat) (frz:Bx) (r:AV):Prop :=
 if used.all (fun i=>GY i frz) = true then match l with
  | [c]=>dQ (aR c) r
  | l=>dQ (.tup l) r
 else False
def ak (P:Program) (rs:List ResultVar) (used:List Nat) (frz:Bx) (S:AS) (r:AV):Prop :=
 match rs with
 | [.tmp t]=>match ρOf S none (.tmp t) with
   | .vptr id _ 0 cs=>if used.contains id = true then False else Dx (σOf S) cs fun l b=>Nz l fun l=>if (id :: used).all (fun i=>GY i (frz++b)) = true then dQ (.optr l) r else False
   | _=>O3 P S used frz rs fun l u b=>cF l u b r
 | rs=>O3 P S used frz rs fun l u b=>cF l u b r
def ED:Nat→AS
 | 0=>[]
 | n + 1=>bS :: ED n
def X3 (i:Nat):List C→List C
 | []=>[]
 | c :: r=>match c with
   | .own _ _ _=>.sl i 0 :: X3 i r
   | c=>c :: X3 i r
def cG:List C→Cg
 | []=>.none
 | c :: r=>match c with
   | .own sz e xs=>.row sz e xs
   | _=>cG r
def JK (i:Nat):AV→Sl
 | .own sz e xs=>⟨.sl i 0,.row sz e xs,0⟩
 | .optr cs=>⟨.ptr i 0 0,.var (cs.map .d),0⟩
 | .cc k l=>⟨.cc k (X3 i l),cG l,0⟩
 | a=>⟨a,.none,0⟩
def enter (i:Nat):List AV→AS→AS
 | [],S=>S
 | a :: r,S=>JK i a :: enter (i + 1) r (S.drop 1)
def dl:List (Nat × AV)→Nat→AV
 | [],_=>.any
 | (t,v) :: r,k=>match Nat.beq t k with
   | true=>v
   | false=>dl r k
def dm:Bx→Nat→AV→Sl
 | [],_,v=>⟨v,.none,0⟩
 | (t,b,n) :: r,k,v=>match Nat.beq t k with
   | true=>⟨v,b,n⟩
   | false=>dm r k v
def eN (N:Nat):Nat→(Nat→Sl)→AS
 | 0,_=>[]
 | n + 1,f=>f (Nat.sub N (Nat.succ n)) :: eN N n f
def Cd (n:Nat) (l:List (Nat × AV)) (b:Bx):AS:=eN n n fun k=>dm b k (dl l k)
def YP (P:Program) (J:List Nat) (fn:Func) (args:List AV) (r:AV):Prop :=
 match fn.body with
 | some c=>Fg (enter 0 args (ED fn.ntmps)) (az P J c (fun e S=>match e with
   | .normal | .ret=>ak P fn.results.toList [] [] S r
   | _=>False))
 | none=>False
def Oc (S:AS):Nat→List AV→(List Nat→Bx→Prop)→Prop
 | _,[],K=>K [] []
 | i,.own sz e ys :: r,K=>match Ar S i with
   | ⟨_,.row sz' e' xs,0⟩=>(sz' = sz∧e' = e∧xs = ys)∧Oc S (i + 1) r fun u b=>K (i :: u) b
   | _=>False
 | i,.optr cs :: r,K=>match Ar S i with
   | ⟨_,.var cs',0⟩=>Dx (σOf S) cs' fun l b=>Nz l fun l=>l = cs∧Oc S (i + 1) r fun u b'=>K (i :: u) (b++b')
   | _=>False
 | i,.cc _ l :: r,K=>S7 l fun sz e ys=>match Ar S i with
   | ⟨_,.row sz' e' xs,0⟩=>(sz' = sz∧e' = e∧xs = ys)∧Oc S (i + 1) r fun u b=>K (i :: u) b
   | _=>False
 | i,_ :: r,K=>Oc S (i + 1) r K
def VJ (P:Program) (J:List Nat) (fn:Func) (args outs:List AV) (r:AV):Prop :=
 match fn.body with
 | some c=>Fg (enter 0 args (ED fn.ntmps)) (az P J c (fun e S=>match e with
   | .normal | .ret=>Oc S 0 outs fun u b=>ak P fn.results.toList u b S r
   | _=>False))
 | none=>False
def d7 (S:AS) (k q sz:Nat) (e:TypeId) (ys:List D):Prop :=
 match Ar S k with
 | ⟨_,.var [.sl q' n],0⟩=>match Ar S q with
   | ⟨_,.row sz' e' xs,m⟩=>q' = q∧n = m∧sz' = sz∧e' = e∧xs = ys
   | _=>False
 | _=>False
def aJ (P:Program) (J:List Nat) (fn:Func) (args:List AV) (k q sz:Nat) (e:TypeId) (xs ys:List D):Prop :=
 match fn.body with
 | some c=>Fg (Ba (Ba (Et (enter 0 args (ED fn.ntmps)) k (.ptr k 0 0)) k (.var [.sl q 0]) 0) q (.row sz e xs) 0) (az P J c (fun e' S=>match e' with
   | .normal | .ret=>d7 S k q sz e ys
   | _=>False))
 | none=>False
def dR (P:Program) (fn:Func) (args:List AV) (r:AV):Prop:=YP P [] fn args r
def dS (P:Program) (fn:Func) (args outs:List AV) (r:AV):Prop:=VJ P [] fn args outs r
end Go.Abs
set_option linter.unusedVariables false
set_option linter.unusedSimpArgs false
namespace Go.Abs
open Go.RowKit (Below)
theorem Bl.refl (B:Nat) (M:Nat→Prop) (w:World):Bl B M w w:=⟨rfl,rfl,rfl,Nat.le_refl _,fun _ _ _=>rfl⟩
theorem Bl.trans {B:Nat} {M:Nat→Prop} {a b c:World} (h:Bl B M a b) (k:Bl B M b c):Bl B M a c :=
 ⟨k.os.trans h.os,k.tape.trans h.tape,k.output.trans h.output,Nat.le_trans h.size k.size,fun i hi hm=>(k.block i hi hm).trans (h.block i hi hm)⟩
theorem Bl.of {B:Nat} {M:Nat→Prop} {a b:World} (h:Below B a b):Bl B M a b:=⟨h.os,h.tape,h.output,h.size,fun i hi _=>h.block i hi⟩
theorem Bl.below {B:Nat} {M:Nat→Prop} {a b:World} (h:Bl B M a b) (hm:∀ k,¬ M k):Below B a b:=⟨h.os,h.tape,h.output,h.size,fun i hi=>h.block i hi (hm i)⟩
theorem Bl.weaken {B B':Nat} {M M':Nat→Prop} {a b:World} (h:Bl B M a b) (hB:B'≤B) (hm:∀ k,k < B'→¬ M' k→¬ M k):Bl B' M' a b :=
 ⟨h.os,h.tape,h.output,h.size,fun i hi hk=>h.block i (by omega) (hm i hi hk)⟩
theorem Bl.setRow (B:Nat) {M:Nat→Prop} (w:World) {b:Nat} (c:Array Value) (hb:B≤b∨M b):Bl B M w (w.setRow b c) :=
 ⟨rfl,rfl,rfl,by simp,fun k hk hm=>setRow_other w b k c fun e=>by subst e; rcases hb with h | h; omega; exact hm h⟩
section mono
variable {O O':Nat→Prop} {w w':World}
structure BY (O O':Nat→Prop) (w w':World):Prop where
 size:w.heap.size≤w'.heap.size
 own:∀ b,b < w.heap.size→O' b→O b
 same:∀ b,b < w.heap.size→¬ O b→w'.heap[b]? = w.heap[b]?
theorem BY.cell (k:BY O O' w w') {b o:Nat} (hb:b < w.heap.size) (hO:¬ O b):w'.cell? ⟨b,o,none⟩ = w.cell? ⟨b,o,none⟩ :=
 World.cell?_of_block (k.same b hb hO)
theorem AB.mono (k:BY O O' w w') {v:Value} {x:D} (h:AB O w v x):AB O' w' v x:=by
 induction h with
 | bool b=>exact .bool b
 | int kd n=>exact .int kd n
 | str s=>exact .str s
 | fn f vs xs hl h1 h ih=>exact .fn f vs xs hl h1 ih
 | ptr b off cs c hb hO h1 hcell h ih =>
   have hne:∀ (j:Nat) y,cs[j]? = some y→cs≠[]:=by intro j y hy e; subst e; simp at hy
   exact .ptr b off cs c (fun hn=>Nat.lt_of_lt_of_le (hb hn) k.size) (fun hn h'=>hO hn (k.own b (hb hn) h')) h1
    (fun j y hy=>by rw [← hcell j y hy]; exact k.cell (hb (hne j y hy)) (hO (hne j y hy))) ih
 | agg vs xs hl h1 h ih=>exact .agg vs xs hl h1 ih
 | nil a sz=>exact .nil a sz
 | emp a cap sz=>exact .emp a cap sz
 | list b off cap sz xs c hne hb hO hcap hsz h1 hcell h ih =>
   exact .list b off cap sz xs c hne (Nat.lt_of_lt_of_le hb k.size) (fun h'=>hO (k.own b hb h')) hcap hsz h1
    (fun i x j y hx hy=>by rw [← hcell i x j y hx hy]; exact k.cell hb hO) ih
theorem Bo.mono (k:BY O O' w w') {vs:List Value} {ys:List D} (h:Bo O w vs ys):Bo O' w' vs ys :=
 ⟨h.1,fun j v y hv hy=>⟨(h.2 j v y hv hy).1.mono k,(h.2 j v y hv hy).2⟩⟩
theorem PL.mono (k:BY O O' w w') {v:Value} {x:AV} (h:PL O w v x):PL O' w' v x:=by
 cases x <;> simp only [PL] at h ⊢
 case d x=>exact h.mono k
 case lim sz xs=>exact ⟨h.1.mono k,h.2⟩
theorem BQ.mono (k:BY O O' w w') {β β':Nat→Value} {n n':Nat→Nat} (hn:∀ i,n i < n' i∨(n' i = n i∧β' i = β i)) {v:Value} {c:C} (h:BQ β n O w v c):BQ β' n' O' w' v c:=by
 cases c with
 | d x=>exact ⟨h.1.mono k,h.2⟩
 | sl id m =>
   simp only [BQ] at h ⊢
   rcases hn id with h1 | ⟨h1,h2⟩
   ·exact ⟨by omega,fun e=>by omega⟩
   ·rw [h1,h2]; exact h
 | own sz e xs=>exact h
def AV.guards:AV→List Nat
 | .under t _ x=>t :: x.guards
 | _=>[]
theorem IV.mono (k:BY O O' w w') {β β':Nat→Value} {n n':Nat→Nat} {tm tm':Array Value} {v:Value}
 (hn:∀ i,n i < n' i∨(n' i = n i∧β' i = β i)):∀ {x:AV},(∀ u∈x.guards,tm'[u]? = tm[u]?)→IV β n O w tm v x→IV β' n' O' w' tm' v x:=by
 intro x
 induction x with
 | any=>intro _ h; exact h
 | bot=>intro _ h; exact h
 | d x=>intro _ h; exact AB.mono k h
 | lim sz xs=>intro _ h; exact ⟨AB.mono k h.1,h.2⟩
 | ptr id m o =>
   intro _ h
   simp only [IV] at h ⊢
   rcases hn id with h1 | ⟨h1,h2⟩
   ·exact ⟨by omega,fun e=>by omega⟩
   ·rw [h1,h2]; exact h
 | sl id m =>
   intro _ h
   simp only [IV] at h ⊢
   rcases hn id with h1 | ⟨h1,h2⟩
   ·exact ⟨by omega,fun e=>by omega⟩
   ·rw [h1,h2]; exact h
 | eptr id m sz i o =>
   intro _ h
   simp only [IV] at h ⊢
   rcases hn id with h1 | ⟨h1,h2⟩
   ·exact ⟨by omega,fun e=>by omega⟩
   ·rw [h1,h2]; exact h
 | tup xs =>
   intro _ h
   obtain ⟨vs,hv,hl,h⟩:=h
   refine ⟨vs,hv,hl,fun i u x hu hx=>?_⟩
   have:=h i u x hu hx
   cases x with
   | d y=>exact AB.mono k this
   | sl id m=>exact BQ.mono k hn this
   | own sz e xs=>exact this
 | own sz e xs=>intro _ h; exact h
 | optr cs=>intro _ h; exact h
 | cc k' xs =>
   intro _ h
   obtain ⟨vs,hv,hl,h⟩:=h
   exact ⟨vs,hv,hl,fun i u x hu hx=>⟨BQ.mono k hn (h i u x hu hx).1,(h i u x hu hx).2⟩⟩
 | under t want x ih =>
   intro hg h
   refine ⟨fun ht=>ih (fun u hu=>hg u (by simp [AV.guards,hu])) (h.1 ?_),fun ht=>h.2 ?_⟩
   ·rw [← hg t (by simp [AV.guards])]
    exact ht
   ·rw [← hg t (by simp [AV.guards])]
    exact ht
end mono
theorem Cs:∀ (S:AS) (d:Nat) (v:AV) (i:Nat),Ar (Et S d v) i = if i = d∧d < S.length then ⟨v,(Ar S d).box,(Ar S d).ver⟩ else Ar S i
 | [],d,v,i=>by simp [Et,Ar]
 | s :: r,0,v,0=>by simp [Et,Ar]
 | s :: r,0,v,i + 1=>by simp [Et,Ar]
 | s :: r,d + 1,v,0=>by simp [Et,Ar]
 | s :: r,d + 1,v,i + 1=>by simp [Et,Ar,Cs r d v i]
theorem BK:∀ (S:AS) (d:Nat) (b:Cg) (n i:Nat),Ar (Ba S d b n) i = if i = d∧d < S.length then ⟨(Ar S d).av,b,n⟩ else Ar S i
 | [],d,b,n,i=>by simp [Ba,Ar]
 | s :: r,0,b,n,0=>by simp [Ba,Ar]
 | s :: r,0,b,n,i + 1=>by simp [Ba,Ar]
 | s :: r,d + 1,b,n,0=>by simp [Ba,Ar]
 | s :: r,d + 1,b,n,i + 1=>by simp [Ba,Ar,BK r d b n i]
theorem GM:∀ (S:AS) (d:Nat) (v:AV),(Et S d v).length = S.length
 | [],_,_=>rfl
 | _ :: _,0,_=>rfl
 | _ :: r,d + 1,v=>by simp [Et,GM r d v]
theorem C2:∀ (S:AS) (d:Nat) (b:Cg) (n:Nat),(Ba S d b n).length = S.length
 | [],_,_,_=>rfl
 | _ :: _,0,_,_=>rfl
 | _ :: r,d + 1,b,n=>by simp [Ba,C2 r d b n]
theorem K0:∀ (S:AS) (i:Nat),S.length≤i→Ar S i = bS
 | [],_,_=>rfl
 | _ :: r,0,h=>by simp at h
 | _ :: r,i + 1,h=>by simp only [Ar]; exact K0 r i (by simpa using h)
def Bb (S:AS) (i:Nat):Nat:=(Ar S i).ver
structure Cx where
 base:Nat
 M:Nat→Prop
 O:Nat→Prop
 R:Nat→Prop
 w₀:World
 ini:Nat→Value
 glob:Tk (fun b=>O b∨base≤b∨M b) w₀
def Cx.mine (x:Cx) (b:Nat):Prop:=x.base≤b∨x.M b
def Cx.less (x:Cx) (R:Nat→Prop):Cx:={ x with R:=R }
def OS (β:Nat→Value) (x:Cx) (S:AS) (b:Nat):Prop:=x.O b∨x.R b∨∃ i,(Ar S i).box.owned = true∧A2 (β i) = some b
structure AG (x:Cx) (G:Nat→Prop) (β:Nat→Value) (S:AS) (a:Act) (w:World):Prop where
 len:a.tmps.size = S.length
 df:a.defers = []
 below:Bl x.base x.M x.w₀ w
 hbase:x.base≤w.heap.size
 o₀:∀ b,x.O b→b < x.base∧¬ x.M b
 rs:∀ b,x.R b→x.mine b∧b < w.heap.size
 slots:∀ (t:Nat) v,a.tmps[t]? = some v→IV β (Bb S) (OS β x S) w a.tmps v (Ar S t).av
 boxes:∀ i,LL β (Bb S) (OS β x S) w i (Ar S i).box
 mine:∀ i b,(Ar S i).box.owned = true→A2 (β i) = some b→x.mine b∧¬ x.R b
 inj:∀ i j b,(Ar S i).box.owned = true→(Ar S j).box.owned = true→A2 (β i) = some b→A2 (β j) = some b→i = j
 gds:∀ t,∀ u∈(Ar S t).av.guards,G u
 ini:∀ i,(Ar S i).ver = 0→(Ar S i).box≠.none→β i = x.ini i
theorem BY.refl (O:Nat→Prop) (w:World):BY O O w w:=⟨Nat.le_refl _,fun _ _ h=>h,fun _ _ _=>rfl⟩
theorem BY.world {O:Nat→Prop} {w w':World} (h:Below w.heap.size w w'):BY O O w w':=⟨h.size,fun _ _ h=>h,fun b hb _=>h.block b hb⟩
theorem BY.of_sub {O O':Nat→Prop} {w:World} (h:∀ b,O' b→O b):BY O O' w w:=⟨Nat.le_refl _,fun b _ hb=>h b hb,fun _ _ _=>rfl⟩
theorem AG.glob {x:Cx} {G:Nat→Prop} {β:Nat→Value} {S:AS} {a:Act} {w:World} (h:AG x G β S a w):Tk (OS β x S) w:=by
 intro g cs hg
 refine (x.glob g cs hg).mono ⟨h.below.size,fun b hb ho=>?_,fun b hb ho=>h.below.block b (by omega) (fun hm=>ho (.inr (.inr hm)))⟩
 rcases ho with ho | ho | ⟨i,h1,h2⟩
 ·exact .inl ho
 ·exact .inr (h.rs b ho).1
 ·exact .inr (h.mine i b h1 h2).1
theorem TM {O M:Nat→Prop} {w:World} (h:Tk (fun b=>O b∨M b) w):Tk (fun b=>O b∨w.heap.size≤b∨M b) w:=by
 intro g cs hg
 refine (h g cs hg).mono ⟨Nat.le_refl _,fun b hb ho=>?_,fun _ _ _=>rfl⟩
 rcases ho with ho | ho | ho
 ·exact .inl ho
 ·omega
 ·exact .inr ho
theorem AL {α:Type} {l:List α} {i:Nat} {x:α} (h:l[i]? = some x):i < l.length:=by
 rcases Nat.lt_or_ge i l.length with h' | h'
 ·exact h'
 ·simp [List.getElem?_eq_none h'] at h
theorem FW {α:Type} {l:Array α} {i:Nat} {x:α} (h:l[i]? = some x):i < l.size:=by
 rcases Nat.lt_or_ge i l.size with h' | h'
 ·exact h'
 ·simp [Array.getElem?_eq_none h'] at h
section sim
variable {x:Cx} {G:Nat→Prop} {β:Nat→Value} {S:AS} {a:Act} {w:World}
theorem Dh.mono {w w':World} {e:TypeId} {sz n:Nat} {v:Value} {A6:List Value} (h:Dh w e sz v n A6)
 (hk:∀ b,b < w.heap.size→A2 v = some b→w'.heap[b]? = w.heap[b]?):Dh w' e sz v n A6:=by
 rcases h with ⟨hl,h⟩ | h
 ·rcases h with h | ⟨g,cap,cur,hv,hb,hh,hn,hm,hs,ht⟩
  ·exact .inl ⟨hl,.inl h⟩
  ·by_cases hc:cap = 0
   ·subst hc
    have hn0:n = 0:=by omega
    subst hn0
    exact .inr ⟨rfl,by simpa using hl,_,hv⟩
   ·have hlt:=FW hh
    exact .inl ⟨hl,.inr ⟨g,cap,cur,hv,hb,by rw [hk g hlt (by rw [hv]; simp [A2,hc])]; exact hh,hn,hm,hs,ht⟩⟩
 ·exact .inr h
theorem Dh.lt {w:World} {e:TypeId} {sz n:Nat} {v:Value} {A6:List Value} (h:Dh w e sz v n A6) {b:Nat} (hb:A2 v = some b):b < w.heap.size:=by
 rcases h with ⟨_,⟨hv,_⟩ | ⟨g,cap,cur,hv,_,hh,_⟩⟩ | ⟨_,_,ad,hv⟩
 ·rw [hv] at hb; simp [A2] at hb
 ·rw [hv] at hb
  simp [A2] at hb
  obtain ⟨_,rfl⟩:=hb
  exact FW hh
 ·rw [hv] at hb; simp [A2] at hb
theorem LL.lt {β:Nat→Value} {n:Nat→Nat} {O:Nat→Prop} {w:World} {id:Nat} {B:Cg} (h:LL β n O w id B) (ho:B.owned = true) {b:Nat} (hb:A2 (β id) = some b):b < w.heap.size:=by
 cases B <;> simp [Cg.owned] at ho
 case var cs =>
  obtain ⟨b',A6,T,hβ,h1,_⟩:=h
  rw [hβ] at hb
  simp [A2] at hb
  subst hb
  exact FW h1
 case row sz e xs =>
  obtain ⟨_,_,A6,hr,_⟩:=h
  exact hr.lt hb
 case map es =>
  obtain ⟨b',vs,clock,hβ,h1,_⟩:=h
  rw [hβ] at hb
  simp [A2] at hb
  subst hb
  exact FW h1
theorem AG.blk (h:AG x G β S a w) {i b:Nat} (ho:(Ar S i).box.owned = true) (hb:A2 (β i) = some b):b < w.heap.size:=(h.boxes i).lt ho hb
theorem AG.os_lt (h:AG x G β S a w) {b:Nat} (hb:OS β x S b):b < w.heap.size:=by
 rcases hb with hb | hb | ⟨i,h1,h2⟩
 ·exact Nat.lt_of_lt_of_le (h.o₀ b hb).1 h.hbase
 ·exact (h.rs b hb).2
 ·exact h.blk h1 h2
theorem LL.mono {O O':Nat→Prop} {w w':World} (k:BY O O' w w') {β β':Nat→Value} {n n':Nat→Nat} {id:Nat} {B:Cg} (hn:∀ i,n i < n' i∨(n' i = n i∧β' i = β i)) (hβ:β' id = β id)
 (hk:∀ b,b < w.heap.size→B.owned = true→A2 (β id) = some b→w'.heap[b]? = w.heap[b]?) (h:LL β n O w id B):LL β' n' O' w' id B:=by
 cases B with
 | none=>exact h
 | var cs =>
   obtain ⟨b,A6,T,h1,h3,h4,h5⟩:=h
   have hlt:=FW h3
   exact ⟨b,A6,T,by rw [hβ]; exact h1,by rw [hk b hlt rfl (by rw [h1]; rfl)]; exact h3,h4,fun j v c hv hc=>(h5 j v c hv hc).mono k hn⟩
 | row sz e xs =>
   obtain ⟨h1,h2,A6,h3,h4⟩:=h
   exact ⟨h1,h2,A6,by rw [hβ]; exact h3.mono fun b hb hv=>hk b hb rfl hv,h4.mono k⟩
 | fvar cs=>exact ⟨by rw [hβ]; exact AB.mono k h.1,by rw [hβ]; exact h.2⟩
 | frow sz xs=>simp only [LL]; rw [hβ]; exact AB.mono k h
 | map es =>
   obtain ⟨b,vs,clock,h1,h3,h4,h5⟩:=h
   have hlt:=FW h3
   exact ⟨b,vs,clock,by rw [hβ]; exact h1,by rw [hk b hlt rfl (by rw [h1]; rfl)]; exact h3,h4,fun i e p hv hc=>⟨(h5 i e p hv hc).1.mono k,(h5 i e p hv hc).2.1.mono k,(h5 i e p hv hc).2.2⟩⟩
theorem AG.worldR (h:AG x G β S a w) {w':World} (hw:Bl w.heap.size x.R w w'):AG x G β S a w':=by
 have hk:BY (OS β x S) (OS β x S) w w':=⟨hw.size,fun _ _ h=>h,fun b hb hno=>hw.block b hb fun hr=>hno (.inr (.inl hr))⟩
 refine ⟨h.len,h.df,h.below.trans (hw.weaken h.hbase fun k hk hm hr=>?_),Nat.le_trans h.hbase hw.size,h.o₀,fun b hb=>⟨(h.rs b hb).1,Nat.lt_of_lt_of_le (h.rs b hb).2 hw.size⟩,?_,?_,h.mine,h.inj,h.gds,h.ini⟩
 ·rcases (h.rs k hr).1 with h1 | h1
  ·omega
  ·exact hm h1
 ·exact fun t v hv=>(h.slots t v hv).mono hk (fun _=>.inr ⟨rfl,rfl⟩) (fun _ _=>rfl)
 ·exact fun i=>(h.boxes i).mono hk (fun _=>.inr ⟨rfl,rfl⟩) rfl (fun b hb ho hv=>hw.block b hb (h.mine i b ho hv).2)
theorem AG.world (h:AG x G β S a w) {w':World} (hw:Below w.heap.size w w'):AG x G β S a w':=h.worldR (.of hw)
theorem WE (d:Nat) (v:AV):OS β x (Et S d v) = OS β x S:=by
 funext b
 simp only [OS,Cs]
 congr 2
 apply propext
 constructor
 ·rintro ⟨i,h1,h2⟩
  refine ⟨i,?_,h2⟩
  split at h1
  ·rename_i hh; rw [hh.1]; exact h1
  ·exact h1
 ·rintro ⟨i,h1,h2⟩
  refine ⟨i,?_,h2⟩
  split
  ·rename_i hh; rw [hh.1] at h1; exact h1
  ·exact h1
theorem OI (d:Nat) (v:AV):Bb (Et S d v) = Bb S:=by
 funext i
 simp only [Bb,Cs]
 split
 ·rename_i hh; rw [hh.1]
 ·rfl
theorem Mi (d:Nat) (v:AV) (i:Nat):(Ar (Et S d v) i).box = (Ar S i).box:=by
 rw [Cs]
 split
 ·rename_i hh; rw [hh.1]
 ·rfl
theorem AG.put (h:AG x G β S a w) {d:Nat} {v:Value} {y:AV} (hd:¬ G d) (hr:IV β (Bb S) (OS β x S) w a.tmps v y) (hg:∀ u∈y.guards,G u) :
 AG x G β (Et S d y) (a.put (some d) v) w where
 len:=by simp [Act.put,GM,h.len]
 df:=h.df
 below:=h.below
 hbase:=h.hbase
 o₀:=h.o₀
 rs:=h.rs
 slots:=by
  intro t u hu
  rw [WE,OI,Cs]
  have keep:∀ (y:AV),(∀ u∈y.guards,G u)→∀ z∈y.guards,(a.put (some d) v).tmps[z]? = a.tmps[z]?:=by
   intro y hy z hz
   have:d≠z:=fun e=>hd (e ▸ hy z hz)
   simp [Act.put,Array.getElem?_setIfInBounds_ne this]
  simp only [Act.put,Array.getElem?_setIfInBounds] at hu
  split at hu
  ·rename_i e
   subst e
   split at hu
   ·rename_i hlt
    cases hu
    rw [if_pos ⟨rfl,by rw [← h.len]; exact hlt⟩]
    exact hr.mono (BY.refl _ _) (fun _=>.inr ⟨rfl,rfl⟩) (keep y hg)
   ·cases hu
  ·rename_i e
   rw [if_neg (fun hh=>e hh.1.symm)]
   exact (h.slots t u hu).mono (BY.refl _ _) (fun _=>.inr ⟨rfl,rfl⟩) (keep _ (h.gds t))
 boxes:=by intro i; rw [WE,OI,Mi]; exact h.boxes i
 mine:=by intro i b; rw [Mi]; exact h.mine i b
 inj:=by intro i j b; rw [Mi,Mi]; exact h.inj i j b
 gds:=by
  intro t u hu
  rw [Cs] at hu
  split at hu
  ·exact hg u hu
  ·exact h.gds t u hu
 ini:=by
  intro i
  rw [Mi,show (Ar (Et S d y) i).ver = (Ar S i).ver from congrFun (OI d y) i]
  exact h.ini i
def MK (β:Nat→Value) (id:Nat) (v:Value) (i:Nat):Value:=if i = id then v else β i
theorem Ik {id:Nat} (hid:id < S.length) (B:Cg) (n i:Nat):Ar (Ba S id B n) i = if i = id then ⟨(Ar S id).av,B,n⟩ else Ar S i:=by
 rw [BK]; simp [hid]
theorem AG.rebox (h:AG x G β S a w) {id:Nat} {B:Cg} {v:Value} {n:Nat} {w':World} {R':Nat→Prop} (hR:∀ b,R' b→x.R b) (hid:id < S.length)
 (hver:(Ar S id).ver < n∨(n = (Ar S id).ver∧v = β id∧(Ar S id).box≠.none)) (hs:w.heap.size≤w'.heap.size) (hb:Bl x.base x.M w w')
 (hkeep:∀ b,b < w.heap.size→((Ar S id).box.owned = true→A2 (β id)≠some b)→w'.heap[b]? = w.heap[b]?)
 (hown:B.owned = true→∀ b,A2 v = some b→((A2 (β id) = some b∧(Ar S id).box.owned = true)∨w.heap.size≤b∨x.R b)∧¬ R' b)
 (hbox:BY (OS β x S) (OS (MK β id v) (x.less R') (Ba S id B n)) w w'→(∀ i,Bb S i < Bb (Ba S id B n) i∨(Bb (Ba S id B n) i = Bb S i∧MK β id v i = β i)) →
  LL (MK β id v) (Bb (Ba S id B n)) (OS (MK β id v) (x.less R') (Ba S id B n)) w' id B) :
 AG (x.less R') G (MK β id v) (Ba S id B n) a w':=by
 have hget:=Ik (S:=S) hid B n
 have hO:∀ b,b < w.heap.size→OS (MK β id v) (x.less R') (Ba S id B n) b→OS β x S b:=by
  intro b hb h'
  rcases h' with h' | h' | ⟨i,h1,h2⟩
  ·exact .inl h'
  ·exact .inr (.inl (hR b h'))
  ·rw [hget] at h1
   by_cases hi:i = id
   ·subst hi
    simp [MK] at h1 h2
    rcases (hown h1 b h2).1 with ⟨h3,h4⟩ | h3 | h3
    ·exact .inr (.inr ⟨i,h4,h3⟩)
    ·omega
    ·exact .inr (.inl h3)
   ·simp [MK,hi] at h1 h2
    exact .inr (.inr ⟨i,h1,h2⟩)
 have hk:BY (OS β x S) (OS (MK β id v) (x.less R') (Ba S id B n)) w w' :=
  ⟨hs,hO,fun b hb hno=>hkeep b hb fun ho hbk=>hno (.inr (.inr ⟨id,ho,hbk⟩))⟩
 have hvv:∀ i,Bb S i < Bb (Ba S id B n) i∨(Bb (Ba S id B n) i = Bb S i∧MK β id v i = β i):=by
  intro i
  simp only [Bb,hget,MK]
  by_cases hi:i = id
  ·subst hi
   simp only [if_true]
   rcases hver with h1 | ⟨h1,h2,_⟩
   ·exact .inl h1
   ·exact .inr ⟨h1,h2⟩
  ·simp [hi]
 refine ⟨by rw [C2]; exact h.len,h.df,h.below.trans hb,Nat.le_trans h.hbase hs,h.o₀,fun b hb=>⟨(h.rs b (hR b hb)).1,Nat.lt_of_lt_of_le (h.rs b (hR b hb)).2 hs⟩,?_,?_,?_,?_,?_,?_⟩
 ·intro t u hu
  have hav:(Ar (Ba S id B n) t).av = (Ar S t).av:=by rw [hget]; split <;> simp_all
  rw [hav]
  exact (h.slots t u hu).mono hk hvv (fun _ _=>rfl)
 ·intro i
  rw [hget]
  by_cases hi:i = id
  ·subst hi
   simp only [if_true]
   exact hbox hk hvv
  ·simp only [hi,if_false]
   refine (h.boxes i).mono hk hvv (by simp [MK,hi]) fun b hb ho hbk=>hkeep b hb fun ho' hbk'=>hi (h.inj i id b ho ho' hbk hbk')
 ·intro i b hi hbi
  rw [hget] at hi
  by_cases ei:i = id
  ·subst ei
   simp [MK] at hi hbi
   obtain ⟨h1,h2⟩:=hown hi b hbi
   refine ⟨?_,h2⟩
   rcases h1 with ⟨h3,h4⟩ | h3 | h3
   ·exact (h.mine i b h4 h3).1
   ·exact .inl (Nat.le_trans h.hbase h3)
   ·exact (h.rs b h3).1
  ·simp [MK,ei] at hi hbi
   exact ⟨(h.mine i b hi hbi).1,fun hr=>(h.mine i b hi hbi).2 (hR b hr)⟩
 ·intro i j b hi hj hbi hbj
  rw [hget] at hi hj
  have key:∀ j,j≠id→(Ar S j).box.owned = true→A2 (β j) = some b→B.owned = true→A2 v = some b→j = id:=by
   intro j hj1 hj2 hj3 hB hv
   rcases (hown hB b hv).1 with ⟨h3,h4⟩ | h3 | h3
   ·exact h.inj j id b hj2 h4 hj3 h3
   ·have:=h.blk hj2 hj3; omega
   ·exact absurd h3 (h.mine j b hj2 hj3).2
  by_cases ei:i = id
  ·by_cases ej:j = id
   ·rw [ei,ej]
   ·subst ei
    simp [MK,ej] at hi hj hbi hbj
    exact (key j ej hj hbj hi hbi).symm
  ·by_cases ej:j = id
   ·subst ej
    simp [MK,ei] at hi hj hbi hbj
    exact key i ei hi hbi hj hbj
   ·simp [MK,ei,ej] at hi hj hbi hbj
    exact h.inj i j b hi hj hbi hbj
 ·intro t u hu
  have hav:(Ar (Ba S id B n) t).av = (Ar S t).av:=by rw [hget]; split <;> simp_all
  rw [hav] at hu
  exact h.gds t u hu
 ·intro i h0 hne
  rw [hget] at h0 hne
  by_cases hi:i = id
  ·subst hi
   simp only [if_true] at h0 hne
   rcases hver with h1 | ⟨h1,h2,h3⟩
   ·omega
   ·simp only [MK,if_true]
    rw [h2]
    exact h.ini i (by rw [← h1]; exact h0) h3
  ·simp only [hi,if_false] at h0 hne
   simp only [MK,hi,if_false]
   exact h.ini i h0 hne
theorem Gh (β:Nat→Value) (id:Nat):MK β id (β id) = β:=by funext i; simp only [MK]; split <;> simp_all
theorem AG.multi (h:AG x G β S a w) (E:Nat→Option (Cg × Nat × Value)) {S':AS} {β':Nat→Value} {w':World} (hS:∀ i,Ar S' i = match E i with | some (B,n,_)=>⟨(Ar S i).av,B,n⟩ | none=>Ar S i)
 (hβ:∀ i,β' i = match E i with | some (_,_,v)=>v | none=>β i) (hlen:S'.length = S.length) (hs:w.heap.size≤w'.heap.size) (hb:Bl x.base x.M w w')
 (hver:∀ i B n v,E i = some (B,n,v)→(Ar S i).ver < n∨(n = (Ar S i).ver∧v = β i∧(Ar S i).box≠.none))
 (hkeep:∀ b,b < w.heap.size→(∀ i B n v,E i = some (B,n,v)→(Ar S i).box.owned = true→A2 (β i)≠some b)→w'.heap[b]? = w.heap[b]?)
 (hown:∀ i B n v b,E i = some (B,n,v)→B.owned = true→A2 v = some b→(∃ j B' n' v',E j = some (B',n',v')∧(Ar S j).box.owned = true∧A2 (β j) = some b)∨w.heap.size≤b)
 (hinj:∀ i j B n v B' n' v' b,E i = some (B,n,v)→E j = some (B',n',v')→B.owned = true→B'.owned = true→A2 v = some b→A2 v' = some b→i = j)
 (hbox:BY (OS β x S) (OS β' x S') w w'→(∀ i,Bb S i < Bb S' i∨(Bb S' i = Bb S i∧β' i = β i))→∀ i B n v,E i = some (B,n,v)→LL β' (Bb S') (OS β' x S') w' i B) :
 AG x G β' S' a w':=by
 have hO:∀ b,b < w.heap.size→OS β' x S' b→OS β x S b:=by
  intro b hb h'
  rcases h' with h' | h' | ⟨i,h1,h2⟩
  ·exact .inl h'
  ·exact .inr (.inl h')
  ·rw [hS] at h1
   rw [hβ] at h2
   cases hE:E i with
   | none=>rw [hE] at h1 h2; exact .inr (.inr ⟨i,h1,h2⟩)
   | some q =>
     obtain ⟨B,n,v⟩:=q
     rw [hE] at h1 h2
     rcases hown i B n v b hE h1 h2 with ⟨j,B',n',v',_,h4,h5⟩ | h3
     ·exact .inr (.inr ⟨j,h4,h5⟩)
     ·omega
 have hk:BY (OS β x S) (OS β' x S') w w':=⟨hs,hO,fun b hb hno=>hkeep b hb fun i B n v _ ho hbk=>hno (.inr (.inr ⟨i,ho,hbk⟩))⟩
 have hvv:∀ i,Bb S i < Bb S' i∨(Bb S' i = Bb S i∧β' i = β i):=by
  intro i
  simp only [Bb,hS,hβ]
  cases hE:E i with
  | none=>exact .inr ⟨rfl,rfl⟩
  | some q=>obtain ⟨B,n,v⟩:=q; exact (hver i B n v hE).imp (fun h=>h) (fun h=>⟨h.1,h.2.1⟩)
 have hav:∀ t,(Ar S' t).av = (Ar S t).av:=by intro t; rw [hS]; cases E t <;> rfl
 have stay:∀ i b,E i = none→(Ar S i).box.owned = true→A2 (β i) = some b→∀ j B n v,E j = some (B,n,v)→(Ar S j).box.owned = true→A2 (β j)≠some b:=by
  intro i b hE ho hb j B n v hj ho' hb'
  have:=h.inj i j b ho ho' hb hb'
  subst this
  rw [hE] at hj; cases hj
 refine ⟨by rw [hlen]; exact h.len,h.df,h.below.trans hb,Nat.le_trans h.hbase hs,h.o₀,fun b hb=>⟨(h.rs b hb).1,Nat.lt_of_lt_of_le (h.rs b hb).2 hs⟩,?_,?_,?_,?_,?_,?_⟩
 ·intro t u hu
  rw [hav]
  exact (h.slots t u hu).mono hk hvv (fun _ _=>rfl)
 ·intro i
  cases hE:E i with
  | some q=>obtain ⟨B,n,v⟩:=q; rw [hS,hE]; exact hbox hk hvv i B n v hE
  | none =>
    have:Ar S' i = Ar S i:=by rw [hS,hE]
    rw [this]
    exact (h.boxes i).mono hk hvv (by rw [hβ,hE]) fun b hb ho hbk=>hkeep b hb fun j B n v hj ho'=>stay i b hE ho hbk j B n v hj ho'
 ·intro i b hi hbi
  rw [hS] at hi
  rw [hβ] at hbi
  cases hE:E i with
  | none=>rw [hE] at hi hbi; exact h.mine i b hi hbi
  | some q =>
    obtain ⟨B,n,v⟩:=q
    rw [hE] at hi hbi
    rcases hown i B n v b hE hi hbi with ⟨j,B',n',v',_,h4,h5⟩ | h3
    ·exact h.mine j b h4 h5
    ·exact ⟨.inl (Nat.le_trans h.hbase h3),fun hr=>by have:=(h.rs b hr).2; omega⟩
 ·intro i j b hi hj hbi hbj
  rw [hS] at hi hj
  rw [hβ] at hbi hbj
  have mixed:∀ i j B n v,E i = some (B,n,v)→E j = none→B.owned = true→A2 v = some b→(Ar S j).box.owned = true→A2 (β j) = some b→False:=by
   intro i j B n v hEi hEj ho hb ho' hb'
   rcases hown i B n v b hEi ho hb with ⟨k,B',n',v',hk',h4,h5⟩ | h3
   ·exact stay j b hEj ho' hb' k B' n' v' hk' h4 h5
   ·have:=h.blk ho' hb'; omega
  cases hEi:E i with
  | none =>
    rw [hEi] at hi hbi
    cases hEj:E j with
    | none=>rw [hEj] at hj hbj; exact h.inj i j b hi hj hbi hbj
    | some q=>obtain ⟨B,n,v⟩:=q; rw [hEj] at hj hbj; exact (mixed j i B n v hEj hEi hj hbj hi hbi).elim
  | some p =>
    obtain ⟨B,n,v⟩:=p
    rw [hEi] at hi hbi
    cases hEj:E j with
    | none=>rw [hEj] at hj hbj; exact (mixed i j B n v hEi hEj hi hbi hj hbj).elim
    | some q=>obtain ⟨B',n',v'⟩:=q; rw [hEj] at hj hbj; exact hinj i j B n v B' n' v' b hEi hEj hi hj hbi hbj
 ·intro t u hu
  rw [hav] at hu
  exact h.gds t u hu
 ·intro i h0 hne
  rw [hS] at h0 hne
  rw [hβ]
  cases hE:E i with
  | none=>rw [hE] at h0 hne; exact h.ini i h0 hne
  | some q =>
    obtain ⟨B,n,v⟩:=q
    rw [hE] at h0 hne
    rcases hver i B n v hE with h1 | ⟨h1,h2,h3⟩
    ·simp only at h0; omega
    ·simp only
     rw [h2]
     exact h.ini i (by rw [← h1]; exact h0) h3
end sim
end Go.Abs
set_option linter.unusedVariables false
set_option linter.unusedSimpArgs false
namespace Go.Abs
open Go.RowKit (Below)
theorem K2:∀ (n:Nat) (K:Nat→Prop),FJ n K = K n
 | 0,_=>rfl
 | n + 1,K=>by rw [FJ,K2 n]
theorem BG {α:Type}:∀ (l:List α) (K:List α→Prop),Cr l K = K l
 | [],_=>rfl
 | x :: r,K=>by rw [Cr,BG r]
theorem OF:∀ (l:List D) (K:List C→Prop),XL l K = K (l.map .d)
 | [],_=>rfl
 | x :: r,K=>by rw [XL,OF r]; rfl
def norm1:D→D
 | .nil s=>.list s []
 | x=>x
def norm:D→D
 | .nil s=>.list s []
 | .agg xs=>.agg (xs.map norm1)
 | x=>x
theorem QP:∀ (l:List D) (K:List D→Prop),Nz l K = K (l.map norm1)
 | [],_=>rfl
 | x :: r,K=>by
   rw [Nz,QP r]
   cases x <;> rfl
theorem Ol (x:D) (K:D→Prop):P0 x K = K (norm x):=by
 cases x <;> simp only [P0,QP,norm]
theorem OX (x:D) (h:x.one = true):(norm1 x).one = true:=by cases x <;> first | rfl | exact h
section
variable {P:Program} {x:Cx} {G:Nat→Prop} {β:Nat→Value} {S:AS} {a:Act} {w:World}
theorem AB.norm1 {O:Nat→Prop} {v:Value} {y:D} (h:AB O w v y):AB O w v (norm1 y):=by
 cases y <;> try exact h
 case nil s=>cases h; exact .emp _ _ _
theorem AB.norm {O:Nat→Prop} {v:Value} {y:D} (h:AB O w v y):AB O w v (norm y):=by
 cases y <;> try exact h
 case nil s=>cases h; exact .emp _ _ _
 case agg xs =>
  cases h with
  | agg vs _ hl h1 h =>
    refine .agg vs _ (by simpa using hl) (fun y hy=>?_) (fun i v y hv hy=>?_)
    ·obtain ⟨z,hz,rfl⟩:=List.mem_map.1 hy
     exact OX z (h1 z hz)
    ·simp only [List.getElem?_map] at hy
     cases hz:xs[i]? with
     | none=>simp [hz] at hy
     | some z=>simp [hz] at hy; subst hy; exact (h i v z hv hz).norm1
theorem Bo.norm {O:Nat→Prop} {vs:List Value} {ys:List D} (h:Bo O w vs ys):Bo O w vs (ys.map norm1):=by
 refine ⟨by simp [h.1],fun j v y hv hy=>?_⟩
 simp only [List.getElem?_map] at hy
 cases hz:ys[j]? with
 | none=>simp [hz] at hy
 | some z=>simp [hz] at hy; subst hy; exact ⟨(h.2 j v z hv hz).1.norm1,OX z (h.2 j v z hv hz).2⟩
def MN (β:Nat→Value) (O:Nat→Prop) (S:AS) (w:World) (v:Value):RV→Prop
 | .any=>True
 | .bot=>False
 | .d x=>AB O w v x
 | .lim sz xs=>AB O w v (.list sz xs)∧Ps v = xs.length
 | .vptr id n o cs=>(Ar S id).box = .var cs∧(Ar S id).ver = n∧∃ b,β id = .pointer (some ⟨b,0,none⟩)∧v = .pointer (some ⟨b,o,none⟩)
 | .row id n sz e xs=>(Ar S id).box = .row sz e xs∧(Ar S id).ver = n∧v = β id
 | .eptr id n sz e xs i o=>(Ar S id).box = .row sz e xs∧(Ar S id).ver = n∧∃ b m cap,β id = .slice (some ⟨b,0,none⟩) m cap∧v = .pointer (some ⟨b,i * sz + o,none⟩)
 | .tup xs=>∃ vs:Array Value,v = .tuple vs∧vs.size = xs.length∧∀ (i:Nat) u x,vs[i]? = some u→xs[i]? = some x→match x with
  | .d y=>AB O w u y
  | c=>BQ β (Bb S) O w u c
 | .mp id n es=>(Ar S id).box = .map es∧(Ar S id).ver = n∧v = β id
 | .cagg xs=>∃ vs:Array Value,v = .agg vs∧vs.size = xs.length∧∀ (i:Nat) u x,vs[i]? = some u→xs[i]? = some x→BQ β (Bb S) O w u x∧u.oneCell' = true
 | .cfun f xs=>∃ vs:Array Value,v = .func (.func f) #[] vs∧vs.size = xs.length∧∀ (i:Nat) u x,vs[i]? = some u→xs[i]? = some x→BQ β (Bb S) O w u x∧u.oneCell' = true
 | .clo f xs k id n rid rn=>(∃ vs:Array Value,v = .func (.func f) #[] vs∧vs.size = xs.length∧∀ (i:Nat) u x,vs[i]? = some u→xs[i]? = some x→BQ β (Bb S) O w u x∧u.oneCell' = true) ∧
  YF xs = some (k,id,n)∧(Ar S id).box = .var [.sl rid rn]∧(Ar S id).ver = n
theorem Ny {id:Nat} {B:Cg} (h:(Ar S id).box = B) (hB:B≠.none):id < S.length:=by
 rcases Nat.lt_or_ge id S.length with h' | h'
 ·exact h'
 ·rw [K0 S id h'] at h; exact absurd h.symm hB
theorem AB.drop {O:Nat→Prop} {b off:Nat} {cs:List D} (h:AB O w (.pointer (some ⟨b,off,none⟩)) (.ptr cs)) (n:Nat):AB O w (.pointer (some ⟨b,off + n,none⟩)) (.ptr (cs.drop n)):=by
 cases h with
 | ptr _ _ _ c hb hO h1 hcell hr =>
   have hne:cs.drop n≠[]→cs≠[]:=by intro h e; subst e; simp at h
   refine .ptr b (off + n) _ (fun j=>c (n + j)) (fun h=>hb (hne h)) (fun h=>hO (hne h)) (fun y hy=>h1 y (List.mem_of_mem_drop hy)) (fun j y hy=>?_) (fun j y hy=>?_)
   ·simp only [List.getElem?_drop] at hy
    have:=hcell (n + j) y hy
    rwa [← Nat.add_assoc] at this
   ·simp only [List.getElem?_drop] at hy
    exact hr (n + j) y hy
theorem V7 (h:AG x G β S a w) {v:Value} {y:AV} (hx:IV β (Bb S) (OS β x S) w a.tmps v y):MN β (OS β x S) S w v (res S y):=by
 cases y with
 | any=>trivial
 | bot=>exact hx
 | d x=>exact hx
 | lim sz xs=>exact hx
 | ptr id n o =>
   simp only [IV,Bb] at hx
   have hb:=h.boxes id
   simp only [res]
   generalize hs:Ar S id = s at hx hb
   obtain ⟨av,B,m⟩:=s
   cases B with
   | none=>trivial
   | row sz e xs=>trivial
   | frow sz xs=>trivial
   | map es=>trivial
   | var cs =>
     simp only at hx ⊢
     split
     ·rename_i e
      exact ⟨by rw [hs],by rw [hs]; exact e.symm,hx.2 e⟩
     ·trivial
   | fvar cs =>
     simp only at hx ⊢
     split
     ·rename_i e
      obtain ⟨b,h1,h2⟩:=hx.2 e
      obtain ⟨h3,_⟩:=hb
      rw [h1] at h3
      have:=h3.drop o
      rw [Nat.zero_add] at this
      show AB _ _ _ _
      rw [h2]; exact this
     ·trivial
 | sl id n =>
   simp only [IV,Bb] at hx
   have hb:=h.boxes id
   simp only [res]
   generalize hs:Ar S id = s at hx hb
   obtain ⟨av,B,m⟩:=s
   cases B with
   | none=>trivial
   | var cs=>trivial
   | fvar cs=>trivial
   | map es =>
     simp only at hx ⊢
     split
     ·rename_i e
      exact ⟨by rw [hs],by rw [hs]; exact e.symm,hx.2 e⟩
     ·trivial
   | row sz e xs =>
     simp only at hx ⊢
     split
     ·rename_i e
      exact ⟨by rw [hs],by rw [hs]; exact e.symm,hx.2 e⟩
     ·trivial
   | frow sz xs =>
     simp only at hx ⊢
     split
     ·rename_i e
      show AB _ _ _ _
      rw [hx.2 e]; exact hb
     ·trivial
 | eptr id n sz i o =>
   simp only [IV,Bb] at hx
   simp only [res]
   generalize hs:Ar S id = s at hx
   obtain ⟨av,B,m⟩:=s
   cases B with
   | none=>trivial
   | var cs=>trivial
   | fvar cs=>trivial
   | frow sz xs=>trivial
   | map es=>trivial
   | row sz' e xs =>
     simp only at hx ⊢
     split
     ·rename_i e
      obtain ⟨e,rfl⟩:=e
      exact ⟨by rw [hs],by rw [hs]; exact e.symm,hx.2 e⟩
     ·trivial
 | tup xs=>exact hx
 | own sz e xs=>trivial
 | optr cs=>trivial
 | under t want x=>trivial
 | cc k xs =>
   cases k with
   | none=>exact hx
   | some f =>
     simp only [res]
     split
     ·rename_i j id n hat
      split
      ·rename_i av rid rn m hs
       split
       ·rename_i hnm
        exact ⟨hx,hat,by rw [hs],by rw [hs]; exact hnm.symm⟩
       ·exact hx
      ·exact hx
     ·exact hx
def BP (g:Option (Nat × Bool)) (a:Act):Prop:=∀ t want,g = some (t,want)→a.tmps[t]? = some (.bool want)
theorem Ye (v:Value) {O:Nat→Prop} {n:Nat→Nat} {tm:Array Value}:IV β n O w tm v (Yd v):=by
 unfold Yd
 split
 ·exact .int _ _
 ·exact .bool _
 ·exact .str _
 ·exact .nil _ _
 ·trivial
theorem ax {g:Option (Nat × Bool)} (hg:BP g a) {O:Nat→Prop} {n:Nat→Nat} {v:Value} {y:AV} (h:IV β n O w a.tmps v y):IV β n O w a.tmps v (dN g y):=by
 cases y <;> try exact h
 case under t want x =>
  simp only [dN]
  cases g with
  | none=>trivial
  | some p =>
    obtain ⟨t',w'⟩:=p
    simp only
    split
    ·rename_i e
     obtain ⟨rfl,rfl⟩:=e
     exact h.1 (hg t want rfl)
    ·trivial
theorem ρ_sound (h:AG x G β S a w) {g:Option (Nat × Bool)} (hg:BP g a) (y:Operand):MN β (OS β x S) S w (a.eval y) (ρOf S g y):=by
 refine V7 h (ax hg ?_)
 cases y with
 | tmp t =>
   simp only [ev,Act.eval]
   by_cases ht:t < a.tmps.size
   ·have:=h.slots t a.tmps[t] (by simp [ht])
    simpa [Array.getD,ht] using this
   ·have e:Ar S t = bS:=K0 S t (by rw [← h.len]; exact Nat.le_of_not_lt ht)
    rw [e]
    trivial
 | const v=>exact Ye v
 | global q =>
   simp only [ev]
   cases hq:ct q with
   | none=>trivial
   | some cs=>exact h.glob q cs hq
 | func f=>exact .fn f #[] [] rfl (fun _ h=>by cases h) (fun i v y h=>by simp at h)
theorem σ_sound (h:AG x G β S a w) {v:Value} {id n:Nat} (hc:BQ β (Bb S) (OS β x S) w v (.sl id n)):MN β (OS β x S) S w v (σOf S id n) :=
 V7 (y:=.sl id n) h hc
def Cg.isF:Cg→Bool
 | .frow _ _ | .fvar _=>true
 | _=>false
theorem Cg.isF_ne {B:Cg} (h:B.isF = true):B≠.none:=by cases B <;> simp [Cg.isF] at h ⊢
theorem BI (b c:Bx):∀ S,Bm (b++c) S = Bm c (Bm b S):=by
 induction b with
 | nil=>intro S; rfl
 | cons x r ih=>intro S; exact ih _
theorem Cj:∀ (b:Bx) (S:AS),(Bm b S).length = S.length
 | [],_=>rfl
 | x :: r,S=>by simp only [Bm]; rw [Cj r,C2]
theorem Mu {sz:Nat}:∀ (xs:List D),(∀ x∈xs,x.cells.length = sz)→∀ (i:Nat) x (j:Nat) y,xs[i]? = some x→x.cells[j]? = some y→(xs.flatMap D.cells)[i * sz + j]? = some y
 | [],_,i,x,j,y,hx,_=>by simp at hx
 | z :: r,hs,0,x,j,y,hx,hy=>by
   simp at hx
   subst hx
   simp [List.flatMap_cons,List.getElem?_append_left (AL hy),hy]
 | z :: r,hs,i + 1,x,j,y,hx,hy=>by
   have hz:z.cells.length = sz:=hs z (by simp)
   have ih:=Mu r (fun x hx=>hs x (by simp [hx])) i x j y (by simpa using hx) hy
   rw [List.flatMap_cons,List.getElem?_append_right (by rw [hz,Nat.add_mul]; omega),← ih]
   congr 1
   rw [hz,Nat.add_mul]
   omega
theorem Ec {sz:Nat}:∀ (xs:List D),(∀ x∈xs,x.cells.length = sz)→(xs.flatMap D.cells).length = xs.length * sz
 | [],_=>by simp
 | z :: r,hs=>by
   rw [List.flatMap_cons,List.length_append,hs z (by simp),Ec r (fun x hx=>hs x (by simp [hx])),List.length_cons,Nat.add_mul]
   omega
theorem Uu {O:Nat→Prop} {w:World} {e:TypeId} {sz:Nat} {v:Value} {xs:List D} {A6:List Value} (hsz:0 < sz)
 (hs:∀ x∈xs,x.cells.length = sz) (hr:Dh w e sz v xs.length A6) (hl:Bo O w A6 (xs.flatMap D.cells)) (hO:∀ b,A2 v = some b→¬ O b) :
 AB O w v (.list sz xs):=by
 by_cases hx:xs = []
 ·subst hx
  rcases hr with ⟨_,⟨hv,_⟩ | ⟨g,cap,cur,hv,_⟩⟩ | ⟨_,_,ad,hv⟩ <;> (rw [hv]; exact .emp _ _ _)
 ·have hpos:0 < xs.length:=List.length_pos_iff.2 hx
  rcases hr with ⟨hlen,⟨hv,h0⟩ | ⟨g,cap,cur,hv,hbg,hh,hn,hm,hcs,ht⟩⟩ | ⟨h0,_⟩
  ·omega
  ·have hcap:cap≠0:=by omega
   have hlt:=FW hh
   subst hv
   have key:∀ (i:Nat) x (j:Nat) y,xs[i]? = some x→x.cells[j]? = some y→∃ u,A6[i * sz + j]? = some u∧w.cell? ⟨g,0 + i * sz + j,none⟩ = some u∧AB O w u y∧y.one = true:=by
    intro i x j y hx hy
    have hf:=Mu xs hs i x j y hx hy
    have hlt:i * sz + j < A6.length:=by rw [hl.1]; exact AL hf
    have hu:A6[i * sz + j]? = some A6[i * sz + j]:=List.getElem?_eq_getElem hlt
    refine ⟨_,hu,?_,hl.2 _ _ _ hu hf⟩
    rw [← hu,← ht,List.getElem?_take_of_lt (by rw [← hlen]; exact hlt)]
    simp [World.cell?,hh]
   refine .list g 0 cap sz xs (fun i j=>A6.getD (i * sz + j) undef) hx hlt (hO g (by simp [A2,hcap])) hn hs ?_ ?_ ?_
   ·intro x hx y hy
    obtain ⟨i,hi⟩:=List.mem_iff_getElem?.1 hx
    obtain ⟨j,hj⟩:=List.mem_iff_getElem?.1 hy
    obtain ⟨u,_,_,_,h1⟩:=key i x j y hi hj
    exact h1
   ·intro i x j y hx hy
    obtain ⟨u,h1,h2,h3,_⟩:=key i x j y hx hy
    rw [h2]; simp [List.getD,h1]
   ·intro i x j y hx hy
    obtain ⟨u,h1,h2,h3,_⟩:=key i x j y hx hy
    simpa [List.getD,h1] using h3
  ·omega
theorem cS {O:Nat→Prop} {w:World} {b:Nat} {A6:Array Value} {T:TypeId} {cs:List D} (hh:w.heap[b]? = some (.cells A6 T (0,0))) (hl:Bo O w A6.toList cs) (hO:¬ O b) (o:Nat) :
 AB O w (.pointer (some ⟨b,o,none⟩)) (.ptr (cs.drop o)):=by
 have base:AB O w (.pointer (some ⟨b,0,none⟩)) (.ptr cs):=by
  refine .ptr b 0 cs (fun j=>A6.toList.getD j undef) (fun _=>FW hh) (fun _=>hO) (fun y hy=>?_) (fun j y hy=>?_) (fun j y hy=>?_)
  ·obtain ⟨j,hj⟩:=List.mem_iff_getElem?.1 hy
   have hlt:j < A6.toList.length:=by rw [hl.1]; exact AL hj
   exact (hl.2 j _ y (List.getElem?_eq_getElem hlt) hj).2
  ·have hlt:j < A6.toList.length:=by rw [hl.1]; exact AL hy
   have hlt':j < A6.size:=by simpa using hlt
   simp [World.cell?,hh,hlt']
  ·have hlt:j < A6.toList.length:=by rw [hl.1]; exact AL hy
   have:=(hl.2 j _ y (List.getElem?_eq_getElem hlt) hy).1
   have hlt':j < A6.size:=by simpa using hlt
   simpa [hlt'] using this
 have:=base.drop o
 rwa [Nat.zero_add] at this
theorem OA {B:Cg} {n:Nat}:∀ (S:AS) (id:Nat),(Ar S id).box = B→(Ar S id).ver = n→Ba S id B n = S
 | [],_,_,_=>rfl
 | ⟨_,_,_⟩ :: _,0,h1,h2=>by simp only [Ar] at h1 h2; subst h1; subst h2; rfl
 | s :: r,id + 1,h1,h2=>by rw [Ba,OA r id h1 h2]
theorem Yp (h:AG x G β S a w) {id n sz:Nat} {e:TypeId} {xs:List D} (hb:(Ar S id).box = .row sz e xs) (hn:(Ar S id).ver = n) :
 AG x G β (Ba S id (.frow sz xs) n) a w:=by
 have hid:=Ny hb (by simp)
 have hno:∀ b,A2 (β id) = some b→¬ OS β x (Ba S id (.frow sz xs) n) b:=by
  intro b hbb h'
  have hm:=h.mine id b (by rw [hb]; rfl) hbb
  rcases h' with h' | h' | ⟨i,h1,h2⟩
  ·have:=h.o₀ b h'; rcases hm.1 with h3 | h3; omega; exact this.2 h3
  ·exact hm.2 h'
  ·rw [BK] at h1
   split at h1
   ·simp [Cg.owned] at h1
   ·rename_i e; exact e ⟨h.inj i id b h1 (by rw [hb]; rfl) h2 hbb,hid⟩
 have hr:=h.rebox (R':=x.R) (id:=id) (B:=.frow sz xs) (v:=β id) (n:=n) (w':=w) (fun _ h=>h) hid (.inr ⟨hn.symm,rfl,by rw [hb]; simp⟩) (Nat.le_refl _) (Bl.refl _ _ _) (fun _ _ _=>rfl) (by simp [Cg.owned])
  (fun k hv=>by
   rw [Gh] at k ⊢
   have hbx:=h.boxes id
   rw [hb] at hbx
   obtain ⟨h1,h2,A6,h5,h6⟩:=hbx
   exact Uu h1 h2 h5 (h6.mono k) hno)
 rw [Gh] at hr
 exact hr
theorem Yq (h:AG x G β S a w) {id n:Nat} {cs:List C} {ds:List D} (hb:(Ar S id).box = .var cs) (hn:(Ar S id).ver = n)
 (hd:∀ b A6 T,β id = .pointer (some ⟨b,0,none⟩)→w.heap[b]? = some (.cells A6 T (0,0))→A6.size = cs.length→(∀ (j:Nat) v c,A6[j]? = some v→cs[j]? = some c→BQ β (Bb S) (OS β x S) w v c)→Bo (OS β x S) w A6.toList ds) :
 AG x G β (Ba S id (.fvar ds) n) a w:=by
 have hid:=Ny hb (by simp)
 have hno:∀ b,A2 (β id) = some b→¬ OS β x (Ba S id (.fvar ds) n) b:=by
  intro b hbb h'
  have hm:=h.mine id b (by rw [hb]; rfl) hbb
  rcases h' with h' | h' | ⟨i,h1,h2⟩
  ·have:=h.o₀ b h'; rcases hm.1 with h3 | h3; omega; exact this.2 h3
  ·exact hm.2 h'
  ·rw [BK] at h1
   split at h1
   ·simp [Cg.owned] at h1
   ·rename_i e; exact e ⟨h.inj i id b h1 (by rw [hb]; rfl) h2 hbb,hid⟩
 have hr:=h.rebox (R':=x.R) (id:=id) (B:=.fvar ds) (v:=β id) (n:=n) (w':=w) (fun _ h=>h) hid (.inr ⟨hn.symm,rfl,by rw [hb]; simp⟩) (Nat.le_refl _) (Bl.refl _ _ _) (fun _ _ _=>rfl) (by simp [Cg.owned])
  (fun k hv=>by
   rw [Gh] at k ⊢
   have hbx:=h.boxes id
   rw [hb] at hbx
   obtain ⟨b,A6,T,h5,h6,h7,h8⟩:=hbx
   refine ⟨?_,b,h5⟩
   rw [h5]
   have:=cS h6 ((hd b A6 T h5 h6 h7 h8).mono k) (hno b (by rw [h5]; rfl)) 0
   simpa using this)
 rw [Gh] at hr
 exact hr
end
end Go.Abs
set_option linter.unusedVariables false
set_option linter.unusedSimpArgs false
namespace Go.Abs
open Go.RowKit (Below)
def Je (S:AS) (seen:Bx) (cs:List C) (ds:List D):Prop :=
 cs.length = ds.length∧∀ (j:Nat) c y,cs[j]? = some c→ds[j]? = some y→match c with
  | .d x=>y = norm1 x
  | .sl id n=>∃ sz xs,y = .list sz xs∧(Ar S id).ver = n∧(((∃ e,(Ar S id).box = .row sz e xs)∧(id,Cg.frow sz xs,n)∈seen)∨(Ar S id).box = .frow sz xs)
  | .own _ _ _=>False
def Z3 (S:AS) (seen:Bx) (y:Nat × Cg × Nat):Prop :=
 (Ar S y.1).ver = y.2.2∧((∃ sz e xs,(Ar S y.1).box = .row sz e xs∧y.2.1 = .frow sz xs)∨(∃ cs ds,(Ar S y.1).box = .var cs∧y.2.1 = .fvar ds∧Je S seen cs ds)∨((Ar S y.1).box = y.2.1∧y.2.1.isF = true))
def FZ (S:AS):Bx→Bx→Prop
 | _,[]=>True
 | seen,y :: r=>Z3 S seen y∧FZ S (seen++[y]) r
theorem Je.mono {S:AS} {seen seen':Bx} (hs:∀ y∈seen,y∈seen') {cs:List C} {ds:List D} (h:Je S seen cs ds):Je S seen' cs ds:=by
 refine ⟨h.1,fun j c y hc hy=>?_⟩
 have:=h.2 j c y hc hy
 cases c with
 | d x=>exact this
 | sl id n =>
   obtain ⟨sz,xs,h1,h2,h3⟩:=this
   exact ⟨sz,xs,h1,h2,h3.imp (fun h=>⟨h.1,hs _ h.2⟩) (fun h=>h)⟩
 | own sz e xs=>exact this
theorem Z3.mono {S:AS} {seen seen':Bx} (hs:∀ y∈seen,y∈seen') {y:Nat × Cg × Nat} (h:Z3 S seen y):Z3 S seen' y:=by
 refine ⟨h.1,?_⟩
 rcases h.2 with h | ⟨cs,ds,h1,h2,h3⟩ | h
 ·exact .inl h
 ·exact .inr (.inl ⟨cs,ds,h1,h2,h3.mono hs⟩)
 ·exact .inr (.inr h)
theorem FZ.mono {S:AS}:∀ {b seen seen':Bx},(∀ y∈seen,y∈seen')→FZ S seen b→FZ S seen' b
 | [],_,_,_,_=>trivial
 | y :: r,seen,seen',hs,h=>⟨h.1.mono hs,h.2.mono (by
     intro z hz
     rcases List.mem_append.1 hz with hz | hz
     ·exact List.mem_append.2 (.inl (hs z hz))
     ·exact List.mem_append.2 (.inr hz))⟩
theorem FZ.append {S:AS}:∀ {b c seen:Bx},FZ S seen b→FZ S [] c→FZ S seen (b++c)
 | [],c,seen,_,h=>h.mono (by simp)
 | y :: r,c,seen,h,h'=>⟨h.1,FZ.append h.2 h'⟩
theorem FZ.snoc {S:AS}:∀ {b seen:Bx} {y:Nat × Cg × Nat},FZ S seen b→Z3 S (seen++b) y→FZ S seen (b++[y])
 | [],seen,y,_,h=>⟨by simpa using h,trivial⟩
 | z :: r,seen,y,h,h'=>⟨h.1,FZ.snoc h.2 (by simpa using h')⟩
theorem FZ.each {S:AS}:∀ {b seen:Bx},FZ S seen b→∀ y∈b,Z3 S (seen++b) y
 | [],_,_,_,h=>by cases h
 | z :: r,seen,h,y,hy=>by
   rcases List.mem_cons.1 hy with rfl | hy
   ·exact h.1.mono (by intro q hq; exact List.mem_append.2 (.inl hq))
   ·have:=FZ.each h.2 y hy
    simpa using this
theorem Je.unique {S:AS} {seen seen':Bx} {cs:List C} {ds ds':List D} (h:Je S seen cs ds) (h':Je S seen' cs ds'):ds = ds':=by
 apply List.ext_getElem?
 intro j
 rcases Nat.lt_or_ge j cs.length with hj | hj
 ·have e1:cs[j]? = some cs[j]:=List.getElem?_eq_getElem hj
  have e2:ds[j]? = some (ds[j]'(by rw [← h.1]; exact hj)):=List.getElem?_eq_getElem _
  have e3:ds'[j]? = some (ds'[j]'(by rw [← h'.1]; exact hj)):=List.getElem?_eq_getElem _
  have k1:=h.2 j _ _ e1 e2
  have k2:=h'.2 j _ _ e1 e3
  rw [e2,e3]
  generalize cs[j] = c at k1 k2
  cases c with
  | d x=>rw [k1,k2]
  | sl id n =>
    obtain ⟨sz,xs,h1,_,h3⟩:=k1
    obtain ⟨sz',xs',h1',_,h3'⟩:=k2
    rw [h1,h1']
    rcases h3 with ⟨⟨e,h3⟩,_⟩ | h3 <;> rcases h3' with ⟨⟨e',h3'⟩,_⟩ | h3' <;> rw [h3] at h3' <;> simp at h3'
    ·rw [h3'.1,h3'.2.2]
    ·rw [h3'.1,h3'.2]
  | own sz e xs=>exact k1.elim
 ·rw [List.getElem?_eq_none (by rw [← h.1]; exact hj),List.getElem?_eq_none (by rw [← h'.1]; exact hj)]
theorem Z3.unique {S:AS} {seen seen':Bx} {y y':Nat × Cg × Nat} (h:Z3 S seen y) (h':Z3 S seen' y') (e:y.1 = y'.1):y.2.1 = y'.2.1:=by
 rcases h.2 with ⟨sz,e1,xs,h1,h2⟩ | ⟨cs,ds,h1,h2,h3⟩ | ⟨h1,h2⟩ <;> rcases h'.2 with ⟨sz',e1',xs',h1',h2'⟩ | ⟨cs',ds',h1',h2',h3'⟩ | ⟨h1',h2'⟩ <;> rw [← e,h1] at h1'
 ·simp at h1'; rw [h2,h2',h1'.1,h1'.2.2]
 ·cases h1'
 ·rw [← h1'] at h2'; cases h2'
 ·cases h1'
 ·simp at h1'; subst h1'; rw [h2,h2',h3.unique h3']
 ·rw [← h1'] at h2'; cases h2'
 ·rw [h1'] at h2; cases h2
 ·rw [h1'] at h2; cases h2
 ·exact h1'
structure Fr (S:AS) (seen:Bx) (T:AS):Prop where
 len:T.length = S.length
 ver:∀ i,(Ar T i).ver = (Ar S i).ver
 av:∀ i,(Ar T i).av = (Ar S i).av
 mem:∀ y∈seen,(Ar T y.1).box = y.2.1
 other:∀ i,(∀ y∈seen,y.1≠i)→(Ar T i).box = (Ar S i).box
 keepF:∀ i,(Ar S i).box.isF = true→(Ar T i).box = (Ar S i).box
theorem Z3.lt {S:AS} {seen:Bx} {y:Nat × Cg × Nat} (h:Z3 S seen y):y.1 < S.length:=by
 have:(Ar S y.1).box≠.none:=by
  rcases h.2 with ⟨sz,e,xs,h1,_⟩ | ⟨cs,ds,h1,_⟩ | ⟨h1,h2⟩
  ·rw [h1]; simp
  ·rw [h1]; simp
  ·rw [h1]; exact Cg.isF_ne h2
 exact Ny rfl this
section
variable {P:Program} {x:Cx} {G:Nat→Prop} {β:Nat→Value} {S:AS} {a:Act} {w:World}
theorem FZ.run_:∀ {b seen:Bx} {T:AS},(∀ y∈seen,Z3 S seen y)→FZ S seen b→Fr S seen T→AG x G β T a w→(∀ k,OS β x T k→OS β x S k) →
 AG x G β (Bm b T) a w∧(∀ k,OS β x (Bm b T) k→OS β x S k)∧Fr S (seen++b) (Bm b T)
 | [],seen,T,_,_,hf,h,hO=>⟨h,hO,by simpa [Bm] using hf⟩
 | y :: r,seen,T,hseen,hF,hf,h,hO=>by
   have hy:=hF.1
   have hlt:y.1 < T.length:=by rw [hf.len]; exact hy.lt
   have hstep:AG x G β (Ba T y.1 y.2.1 y.2.2) a w∧(∀ k,OS β x (Ba T y.1 y.2.1 y.2.2) k→OS β x T k):=by
    by_cases hin:∃ z∈seen,z.1 = y.1
    ·obtain ⟨z,hz,e⟩:=hin
     have h1:=hf.mem z hz
     have h2:=(hseen z hz).unique hy e
     rw [OA T y.1 (by rw [← e,h1,h2]) (by rw [hf.ver,hy.1])]
     exact ⟨h,fun _ h=>h⟩
    ·have hbx:(Ar T y.1).box = (Ar S y.1).box:=hf.other _ fun z hz e=>hin ⟨z,hz,e⟩
     have hver:(Ar T y.1).ver = y.2.2:=by rw [hf.ver,hy.1]
     have sub:y.2.1.owned = false→∀ k,OS β x (Ba T y.1 y.2.1 y.2.2) k→OS β x T k:=by
      intro hno k hk
      rcases hk with hk | hk | ⟨i,h1,h2⟩
      ·exact .inl hk
      ·exact .inr (.inl hk)
      ·rw [BK] at h1
       split at h1
       ·rw [hno] at h1; cases h1
       ·exact .inr (.inr ⟨i,h1,h2⟩)
     rcases hy.2 with ⟨sz,e,xs,h1,h2⟩ | ⟨cs,ds,h1,h2,h3⟩ | ⟨h1,h2⟩
     ·refine ⟨?_,sub (by rw [h2]; rfl)⟩
      rw [h2]
      exact Yp h (by rw [hbx]; exact h1) hver
     ·refine ⟨?_,sub (by rw [h2]; rfl)⟩
      rw [h2]
      refine Yq h (by rw [hbx]; exact h1) hver fun b A6 T' hβ hh hl hc=>⟨by rw [Array.length_toList,hl]; exact h3.1,fun j v z hv hz=>?_⟩
      have hj:j < cs.length:=by rw [h3.1]; exact AL hz
      have hcc:=hc j v cs[j] (by simpa using hv) (List.getElem?_eq_getElem hj)
      have hcd:=h3.2 j cs[j] z (List.getElem?_eq_getElem hj) hz
      generalize cs[j] = c at hcc hcd
      cases c with
      | d q=>rw [hcd]; exact ⟨hcc.1.norm1,OX q hcc.2⟩
      | sl id n =>
        obtain ⟨sz,xs,k1,k2,k3⟩:=hcd
        have hfr:(Ar T id).box = .frow sz xs:=by
         rcases k3 with ⟨_,k3⟩ | k3
         ·exact hf.mem _ k3
         ·by_cases hin:∃ q∈seen,q.1 = id
          ·obtain ⟨q,hq,e⟩:=hin
           have e1:=hf.mem q hq
           have e2:=(hseen q hq).unique (y':=(id,Cg.frow sz xs,n)) (seen':=seen) ⟨k2,.inr (.inr ⟨k3,rfl⟩)⟩ e
           rw [← e,e1,e2]
          ·rw [hf.other id fun q hq e=>hin ⟨q,hq,e⟩]; exact k3
        have hbb:=h.boxes id
        rw [hfr] at hbb
        have hv2:=hcc.2 (by simp only [Bb]; rw [hf.ver]; exact k2.symm)
        rw [k1,hv2]
        exact ⟨hbb,rfl⟩
      | own sz e xs=>exact hcd.elim
     ·rw [OA T y.1 (by rw [hbx,h1]) hver]
      exact ⟨h,fun _ h=>h⟩
   have hget:=Ik hlt y.2.1 y.2.2
   have hF1:Fr S (seen++[y]) (Ba T y.1 y.2.1 y.2.2):=by
    refine ⟨by rw [C2]; exact hf.len,fun i=>?_,fun i=>?_,fun z hz=>?_,fun i hi=>?_,fun i hi=>?_⟩
    ·rw [hget]; split
     ·rename_i e; rw [e]; exact hy.1.symm
     ·exact hf.ver i
    ·rw [hget]; split
     ·rename_i e; rw [e]; exact hf.av _
     ·exact hf.av i
    ·rw [hget]; split
     ·rename_i e
      rcases List.mem_append.1 hz with hz | hz
      ·exact (hy.unique (hseen z hz) e.symm)
      ·simp at hz; rw [hz]
     ·rename_i e
      rcases List.mem_append.1 hz with hz | hz
      ·exact hf.mem z hz
      ·simp at hz; exact absurd (by rw [hz]) e
    ·rw [hget]; split
     ·rename_i e; exact absurd e.symm (hi y (by simp))
     ·exact hf.other i fun z hz=>hi z (by simp [hz])
    ·rw [hget]; split
     ·rename_i e
      rw [e] at hi ⊢
      rcases hy.2 with ⟨sz,e',xs,h1,h2⟩ | ⟨cs,ds,h1,h2,h3⟩ | ⟨h1,h2⟩
      ·rw [h1] at hi; cases hi
      ·rw [h1] at hi; cases hi
      ·exact h1.symm
     ·exact hf.keepF i hi
   have hs2:∀ z∈seen++[y],Z3 S (seen++[y]) z:=by
    intro z hz
    rcases List.mem_append.1 hz with hz | hz
    ·exact (hseen z hz).mono fun q hq=>List.mem_append.2 (.inl hq)
    ·simp at hz; rw [hz]; exact hy.mono fun q hq=>List.mem_append.2 (.inl hq)
   obtain ⟨k1,k2,k3⟩:=FZ.run_ hs2 hF.2 hF1 hstep.1 fun k hk=>hO k (hstep.2 k hk)
   exact ⟨k1,k2,by simpa [Bm] using k3⟩
theorem FZ.run (h:AG x G β S a w) {b:Bx} (hF:FZ S [] b):AG x G β (Bm b S) a w∧(∀ k,OS β x (Bm b S) k→OS β x S k)∧Fr S b (Bm b S):=by
 have:=FZ.run_ (x:=x) (G:=G) (β:=β) (a:=a) (w:=w) (S:=S) (b:=b) (seen:=[]) (T:=S) (fun _ h=>by cases h) hF ⟨rfl,fun _=>rfl,fun _=>rfl,(fun _ h=>by cases h),fun _ _=>rfl,fun _ _=>rfl⟩ h (fun _ h=>h)
 simpa using this
def Jf (x:Cx) (G:Nat→Prop) (β:Nat→Value) (S:AS) (a:Act) (w:World) (b:Bx) (p:(Nat→Prop)→Prop):Prop :=
 ∀ B,(∀ y∈b,y∈B)→Fr S B (Bm B S)→AG x G β (Bm B S) a w→(∀ k,OS β x (Bm B S) k→OS β x S k)→p (OS β x (Bm B S))
theorem Jf.mono {b b':Bx} {p q:(Nat→Prop)→Prop} (h:Jf x G β S a w b p) (hb:∀ y∈b,y∈b') (hp:∀ O,p O→q O):Jf x G β S a w b' q :=
 fun B hB hf hs hk=>hp _ (h B (fun y hy=>hB y (hb y hy)) hf hs hk)
theorem Jf.and {b b':Bx} {p q:(Nat→Prop)→Prop} (h:Jf x G β S a w b p) (h':Jf x G β S a w b' q):Jf x G β S a w (b++b') fun O=>p O∧q O :=
 fun B hB hf hs hk=>⟨h B (fun y hy=>hB y (by simp [hy])) hf hs hk,h' B (fun y hy=>hB y (by simp [hy])) hf hs hk⟩
theorem Jf.now (hs:AG x G β S a w) {b:Bx} {p:(Nat→Prop)→Prop} (h:Jf x G β S a w b p) (hF:FZ S [] b):p (OS β x (Bm b S)):=by
 obtain ⟨h1,h2,h3⟩:=hF.run hs
 exact h b (fun _ h=>h) h3 h1 h2
theorem HV {r:RV} {v:Value} (hr:MN β (OS β x S) S w v r) {K:D→Bx→Prop} (hy:Vh r K) :
 ∃ y b,K y b∧FZ S [] b∧(∀ z∈b,∃ sz xs,z.2.1 = .frow sz xs)∧Jf x G β S a w b fun O=>AB O w v y:=by
 cases r <;> simp only [Vh] at hy
 case d y=>exact ⟨y,[],hy,trivial,(fun _ h=>by cases h),fun B _ _ _ hk=>AB.mono (BY.of_sub hk) hr⟩
 case lim sz xs=>exact ⟨_,[],hy,trivial,(fun _ h=>by cases h),fun B _ _ _ hk=>AB.mono (BY.of_sub hk) hr.1⟩
 case row id n sz e xs =>
  obtain ⟨h1,h2,h3⟩:=hr
  refine ⟨_,_,hy,⟨⟨h2,.inl ⟨sz,e,xs,h1,rfl⟩⟩,trivial⟩,(fun z hz=>⟨sz,xs,by simp at hz; subst hz; rfl⟩),fun B hB hF hS _=>?_⟩
  have:=hF.mem (id,.frow sz xs,n) (hB _ (by simp))
  have hb:=hS.boxes id
  simp only at this
  rw [this] at hb
  rw [h3]; exact hb
theorem Ry {r:RV} {v:Value} (hr:MN β (OS β x S) S w v r) {K:D→Bx→Prop} (hy:da r K) :
 ∃ y b,K y b∧FZ S [] b∧(∀ z∈b,∃ sz xs,z.2.1 = .frow sz xs)∧Jf x G β S a w b fun O=>AB O w v y:=by
 obtain ⟨y,b,hK,hF,hfr,hh⟩:=HV (x:=x) (G:=G) (a:=a) hr hy
 rw [Ol] at hK
 exact ⟨_,b,hK,hF,hfr,hh.mono (fun _ h=>h) fun O h=>h.norm⟩
theorem Ko (h:AG x G β S a w):∀ {cs:List C} {K:List D→Bx→Prop},Dx (σOf S) cs K →
 ∃ l b,K l b∧FZ S [] b∧(∀ z∈b,∃ sz xs,z.2.1 = .frow sz xs)∧cs.length = l.length ∧
   (∀ (j:Nat) c y,cs[j]? = some c→l[j]? = some y→match c with
    | .d q=>y = q
    | .sl id n=>∃ sz xs,y = .list sz xs∧(Ar S id).ver = n∧(((∃ e,(Ar S id).box = .row sz e xs)∧(id,Cg.frow sz xs,n)∈b)∨(Ar S id).box = .frow sz xs)
    | .own _ _ _=>False) ∧
   ∀ vs:List Value,vs.length = cs.length→(∀ (j:Nat) v c,vs[j]? = some v→cs[j]? = some c→BQ β (Bb S) (OS β x S) w v c)→Jf x G β S a w b fun O=>Bo O w vs l
 | [],K,hy=>⟨[],[],hy,trivial,(fun _ h=>by cases h),rfl,(fun j c y h=>by simp at h),fun vs hv _ B _ _ _ _=>⟨by simpa using hv,fun j v y _ hy=>by simp at hy⟩⟩
 | .d q :: r,K,hy=>by
   have hy:Dx (σOf S) r fun l b=>K (q :: l) b:=hy
   obtain ⟨l,b,hK,hF,hfr,hl,hc,hh⟩:=Ko h hy
   refine ⟨_,_,hK,hF,hfr,by simp [hl],fun j c y hcj hyj=>?_,fun vs hv hrep=>?_⟩
   ·cases j with
    | zero=>simp at hcj hyj; subst hcj; exact hyj.symm
    | succ j=>exact hc j c y (by simpa using hcj) (by simpa using hyj)
   ·cases vs with
    | nil=>simp at hv
    | cons v vs =>
      have h0:=hrep 0 v (.d q) rfl rfl
      have hr:=hh vs (by simpa using hv) fun j v c hv hc=>hrep (j + 1) v c (by simpa using hv) (by simpa using hc)
      intro B hB hf hs hk
      have hr':=hr B hB hf hs hk
      refine ⟨by simp [hr'.1],fun j u y hu hy=>?_⟩
      cases j with
      | zero=>simp at hu hy; subst hu; subst hy; exact ⟨h0.1.mono (BY.of_sub hk),h0.2⟩
      | succ j=>exact hr'.2 j u y (by simpa using hu) (by simpa using hy)
 | .sl id n :: r,K,hy=>by
   simp only [Dx,σOf,res] at hy
   obtain ⟨sz,xs,b0,hst,hb0,hK0⟩:∃ sz xs b0,((Ar S id).ver = n∧(((∃ e,(Ar S id).box = .row sz e xs)∧b0 = [(id,Cg.frow sz xs,n)])∨((Ar S id).box = .frow sz xs∧b0 = [])))∧FZ S [] b0∧Dx (σOf S) r fun l b'=>K (.list sz xs :: l) (b0++b'):=by
    generalize hs:Ar S id = s at hy
    obtain ⟨av,B,m⟩:=s
    cases B with
    | none=>exact hy.elim
    | var cs=>exact hy.elim
    | fvar cs=>exact hy.elim
    | map es =>
      simp only at hy
      split at hy <;> exact hy.elim
    | row sz e xs =>
      simp only at hy
      split at hy
      ·rename_i e'
       exact ⟨sz,xs,_,⟨e'.symm,.inl ⟨⟨e,rfl⟩,rfl⟩⟩,⟨⟨by rw [hs]; exact e'.symm,.inl ⟨sz,e,xs,by rw [hs],rfl⟩⟩,trivial⟩,hy⟩
      ·exact hy.elim
    | frow sz xs =>
      simp only at hy
      split at hy
      ·rename_i e'
       exact ⟨sz,xs,[],⟨e'.symm,.inr ⟨rfl,rfl⟩⟩,trivial,hy⟩
      ·exact hy.elim
   obtain ⟨l,b,hK,hF,hfr,hl,hc,hh⟩:=Ko h hK0
   refine ⟨_,_,hK,hb0.append hF,fun z hz=>?_,by simp [hl],fun j c y hcj hyj=>?_,fun vs hv hrep=>?_⟩
   ·rcases List.mem_append.1 hz with hz | hz
    ·rcases hst.2 with ⟨_,h2⟩ | ⟨_,h2⟩
     ·rw [h2] at hz; simp at hz; exact ⟨sz,xs,by rw [hz]⟩
     ·rw [h2] at hz; cases hz
    ·exact hfr z hz
   ·cases j with
    | zero =>
      simp at hcj hyj
      subst hcj
      refine ⟨sz,xs,hyj.symm,hst.1,?_⟩
      rcases hst.2 with ⟨h1,h2⟩ | ⟨h1,h2⟩
      ·exact .inl ⟨h1,by rw [h2]; simp⟩
      ·exact .inr h1
    | succ j =>
      have:=hc j c y (by simpa using hcj) (by simpa using hyj)
      cases c with
      | d q=>exact this
      | sl id' n' =>
        obtain ⟨sz',xs',h1,h2,h3⟩:=this
        exact ⟨sz',xs',h1,h2,h3.imp (fun h=>⟨h.1,by simp [h.2]⟩) (fun h=>h)⟩
      | own _ _ _=>exact this
   ·cases vs with
    | nil=>simp at hv
    | cons v vs =>
      have h0:=hrep 0 v (.sl id n) rfl rfl
      have hr:=hh vs (by simpa using hv) fun j v c hv hc=>hrep (j + 1) v c (by simpa using hv) (by simpa using hc)
      intro B hB hf hs hk
      have hr':=hr B (fun y hy=>hB y (by simp [hy])) hf hs hk
      have hfrz:(Ar (Bm B S) id).box = .frow sz xs:=by
       rcases hst.2 with ⟨_,h2⟩ | ⟨h1,h2⟩
       ·exact hf.mem (id,.frow sz xs,n) (hB _ (by rw [h2]; simp))
       ·rw [hf.keepF id (by rw [h1]; rfl)]; exact h1
      have hbb:=hs.boxes id
      rw [hfrz] at hbb
      have hv2:=h0.2 (by simp only [Bb]; exact hst.1.symm)
      refine ⟨by simp [hr'.1],fun j u y hu hy=>?_⟩
      cases j with
      | zero=>simp at hu hy; subst hu; subst hy; rw [hv2]; exact ⟨hbb,rfl⟩
      | succ j=>exact hr'.2 j u y (by simpa using hu) (by simpa using hy)
 | .own _ _ _ :: _,K,hy=>hy.elim
end
end Go.Abs
