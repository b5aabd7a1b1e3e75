/- The abstract machine: data without addresses, a frame's own memory as boxes, contracts. Definitions alone. -/
import Derived.Test.YtejfnieiaecpkaaGreatDoorAbsGlob
import Derived.Orders
import Derived.Below
import Derived.Laws.AppendOwn
set_option linter.unusedVariables false
set_option linter.unusedSimpArgs false
namespace Go.Abs
inductive D where
 | bool (b:Bool)
 | int (k:IntKind) (n:Int)
 | str (s:ByteArray)
 | fn (f:FuncId) (caps:List D)
 | ptr (cs:List D)
 | nil (sz:Nat)
 | list (sz:Nat) (xs:List D)
 | agg (xs:List D)
def de (g:Nat):Option (List D):=match dU g with
 | some l=>some (l.map fun n=>D.int .u8 n)
 | none=>none
def D.cells:D→List D
 | .agg xs=>xs
 | x=>[x]
def D.one:D→Bool
 | .agg _=>false
 | _=>true
def D.bare:D→Bool
 | .bool _ | .int _ _ | .str _ | .nil _ | .fn _ []=>true
 | _=>false
inductive C where
 | d (x:D)
 | sl (id ver:Nat)
 | own (sz:Nat) (e:TypeId) (xs:List D)
inductive AV where
 | any
 | bot
 | d (x:D)
 | lim (sz:Nat) (xs:List D)
 | ptr (id ver off:Nat)
 | sl (id ver:Nat)
 | eptr (id ver sz i off:Nat)
 | tup (xs:List C)
 | own (sz:Nat) (e:TypeId) (xs:List D)
 | optr (cs:List D)
 | under (t:Nat) (want:Bool) (x:AV)
 | cc (k:Option FuncId) (xs:List C)
inductive Ct where
 | none
 | var (cs:List C)
 | row (sz:Nat) (e:TypeId) (xs:List D)
 | fvar (cs:List D)
 | frow (sz:Nat) (xs:List D)
 | map (es:List (D × D))
structure Sl where
 av:AV
 box:Ct
 ver:Nat
abbrev AS:=List Sl
def Ax:Value→Option Nat
 | .pointer (some a)=>some a.block
 | .slice (some a) _ cap=>if cap = 0 then none else some a.block
 | .map (some b)=>some b
 | _=>none
def PR:Value→Nat
 | .slice _ _ c=>c
 | _=>0
inductive A9 (O:Nat→Prop) (w:World):Value→D→Prop
 | bool (b:Bool):A9 O w (.bool b) (.bool b)
 | int (k:IntKind) (n:Int):A9 O w (.int k n) (.int k n)
 | str (s:ByteArray):A9 O w (.string s) (.str s)
 | fn (f:FuncId) (vs:Array Value) (xs:List D) (hl:vs.size = xs.length) (h1:∀ x∈xs,x.one = true)
  (h:∀ (i:Nat) v x,vs[i]? = some v→xs[i]? = some x→A9 O w v x):A9 O w (.func (.func f) #[] vs) (.fn f xs)
 | ptr (b off:Nat) (cs:List D) (c:Nat→Value) (hb:cs≠[]→b < w.heap.size) (hO:cs≠[]→¬ O b) (h1:∀ x∈cs,x.one = true)
  (hcell:∀ (j:Nat) y,cs[j]? = some y→w.cell? ⟨b,off + j,none⟩ = some (c j))
  (h:∀ (j:Nat) y,cs[j]? = some y→A9 O w (c j) y):A9 O w (.pointer (some ⟨b,off,none⟩)) (.ptr cs)
 | agg (vs:Array Value) (xs:List D) (hl:vs.size = xs.length) (h1:∀ x∈xs,x.one = true)
  (h:∀ (i:Nat) v x,vs[i]? = some v→xs[i]? = some x→A9 O w v x):A9 O w (.agg vs) (.agg xs)
 | nil (a:Option Addr) (sz:Nat):A9 O w (.slice a 0 0) (.nil sz)
 | emp (a:Option Addr) (cap sz:Nat):A9 O w (.slice a 0 cap) (.list sz [])
 | list (b off cap sz:Nat) (xs:List D) (c:Nat→Nat→Value) (hne:xs≠[]) (hb:b < w.heap.size) (hO:¬ O b) (hcap:xs.length≤cap) (hsz:∀ x∈xs,x.cells.length = sz)
  (h1:∀ x∈xs,∀ y∈x.cells,y.one = true)
  (hcell:∀ (i:Nat) x (j:Nat) y,xs[i]? = some x→x.cells[j]? = some y→w.cell? ⟨b,off + i * sz + j,none⟩ = some (c i j))
  (h:∀ (i:Nat) x (j:Nat) y,xs[i]? = some x→x.cells[j]? = some y→A9 O w (c i j) y) :
  A9 O w (.slice (some ⟨b,off,none⟩) xs.length cap) (.list sz xs)
def Vy (O:Nat→Prop) (w:World):Prop:=∀ g cs,de g = some cs→A9 O w (.pointer (some ⟨g,0,none⟩)) (.ptr cs)
def BC (O:Nat→Prop) (w:World) (vs:List Value) (ys:List D):Prop :=
 vs.length = ys.length∧∀ (j:Nat) v y,vs[j]? = some v→ys[j]? = some y→A9 O w v y∧y.one = true
def Ch (β:Nat→Value) (ver:Nat→Nat) (O:Nat→Prop) (w:World) (v:Value):C→Prop
 | .d x=>A9 O w v x∧x.one = true
 | .sl id n=>n≤ver id∧(n = ver id→v = β id)
 | .own _ _ _=>False
def fR (k:Option FuncId) (vs:Array Value):Value :=
 match k with
 | none=>.agg vs
 | some f=>.func (.func f) #[] vs
def J6 (β:Nat→Value) (ver:Nat→Nat) (O:Nat→Prop) (w:World) (tm:Array Value) (v:Value):AV→Prop
 | .any=>True
 | .bot=>False
 | .d x=>A9 O w v x
 | .lim sz xs=>A9 O w v (.list sz xs)∧PR v = xs.length
 | .ptr id n o=>n≤ver id∧(n = ver id→∃ b,β id = .pointer (some ⟨b,0,none⟩)∧v = .pointer (some ⟨b,o,none⟩))
 | .sl id n=>n≤ver id∧(n = ver id→v = β id)
 | .eptr id n sz i o=>n≤ver id∧(n = ver id→∃ b m cap,β id = .slice (some ⟨b,0,none⟩) m cap∧v = .pointer (some ⟨b,i * sz + o,none⟩))
 | .tup xs=>∃ vs:Array Value,v = .tuple vs∧vs.size = xs.length∧∀ (i:Nat) u x,vs[i]? = some u→xs[i]? = some x→match x with
  | .d y=>A9 O w u y
  | c=>Ch β ver O w u c
 | .own _ _ _=>False
 | .optr _=>False
 | .under t want x=>(tm[t]? = some (.bool want)→J6 β ver O w tm v x)∧(tm[t]?≠some (.bool want)→v = undef)
 | .cc k xs=>∃ vs:Array Value,v = fR k vs∧vs.size = xs.length∧∀ (i:Nat) u x,vs[i]? = some u→xs[i]? = some x→Ch β ver O w u x∧u.oneCell' = true
def Ew (w:World) (e:TypeId) (sz:Nat) (v:Value) (n:Nat) (vals:List Value):Prop :=
 w.ownsRow 0 e sz v n vals∨(n = 0∧vals = []∧∃ a,v = .slice (some a) 0 0)
def MC (β:Nat→Value) (ver:Nat→Nat) (O:Nat→Prop) (w:World) (id:Nat):Ct→Prop
 | .none=>True
 | .var cs=>∃ b vals T,β id = .pointer (some ⟨b,0,none⟩)∧w.heap[b]? = some (.cells vals T (0,0))∧vals.size = cs.length∧∀ (j:Nat) v c,vals[j]? = some v→cs[j]? = some c→Ch β ver O w v c
 | .row sz e xs=>0 < sz∧(∀ x∈xs,x.cells.length = sz)∧∃ vals,Ew w e sz (β id) xs.length vals∧BC O w vals (xs.flatMap D.cells)
 | .fvar cs=>A9 O w (β id) (.ptr cs)∧∃ b,β id = .pointer (some ⟨b,0,none⟩)
 | .frow sz xs=>A9 O w (β id) (.list sz xs)
 | .map es=>∃ (b:Nat) (vs:Array MapEntry) (clock:Nat),β id = .map (some b)∧w.heap[b]? = some (.map vs clock)∧vs.size = es.length ∧
  ∀ (i:Nat) (e:MapEntry) (p:D × D),vs[i]? = some e→es[i]? = some p→A9 O w e.key p.1∧A9 O w e.val p.2∧p.1.bare = true∧p.2.bare = true
def Ct.owned:Ct→Bool
 | .var _ | .row _ _ _ | .map _=>true
 | _=>false
def QY (O:Nat→Prop) (w:World) (v:Value):AV→Prop
 | .any=>True
 | .d x=>A9 O w v x
 | .lim sz xs=>A9 O w v (.list sz xs)∧PR v = xs.length
 | _=>False
def Um (mine:Nat→Prop) (w:World) (v:Value) (sz:Nat) (e:TypeId) (xs:List D):Prop :=
 0 < sz∧(∀ x∈xs,x.cells.length = sz)∧(∀ b,Ax v = some b→mine b)∧∃ vals,Ew w e sz v xs.length vals∧BC (fun _=>True) w vals (xs.flatMap D.cells)
def YN (O:Nat→Prop) (w:World) (v:Value) (cs:List D):Prop :=
 ∃ b vals T,v = .pointer (some ⟨b,0,none⟩)∧w.heap[b]? = some (.cells vals T (0,0))∧BC O w vals.toList cs
def DL (v:Value) (r:AV) (b:Nat):Prop :=
 match r with
 | .own _ _ _ | .optr _=>Ax v = some b
 | .tup xs=>∃ (vs:Array Value) (i:Nat) (u:Value) (sz:Nat) (e:TypeId) (ys:List D),v = .tuple vs∧vs[i]? = some u∧xs[i]? = some (.own sz e ys)∧Ax u = some b
 | _=>False
def DI (mine O:Nat→Prop) (w:World) (v:Value) (r:AV):Prop :=
 match r with
 | .own sz e xs=>Um mine w v sz e xs
 | .optr cs=>(∀ b,Ax v = some b→mine b)∧YN (fun b=>O b∨Ax v = some b) w v cs
 | .tup xs=>∃ vs:Array Value,v = .tuple vs∧vs.size = xs.length∧(∀ (i:Nat) u x,vs[i]? = some u→xs[i]? = some x→match x with
  | .d y=>A9 (fun b=>O b∨DL v (.tup xs) b) w u y
  | .own sz e ys=>Um mine w u sz e ys
  | .sl _ _=>False) ∧
  ∀ (i j:Nat) u u' sz e ys sz' e' ys' b,vs[i]? = some u→vs[j]? = some u'→xs[i]? = some (.own sz e ys)→xs[j]? = some (.own sz' e' ys')→Ax u = some b→Ax u' = some b→i = j
 | x=>QY O w v x
def GG (P:Program) (f:FuncId):Bool :=
 match P.funcs[f]? with
 | some fn=>!(fn.name == "runtime.NumGoroutine") && fn.body.isSome
 | none=>false
def Ao (P:Program) (f:FuncId) (args:List AV) (r:AV):Prop :=
 GG P f = true∧∀ (O:Nat→Prop) (w:World) (vs:Array Value),(∀ b,O b→b < w.heap.size)→Vy O w→vs.size = args.length →
  (∀ (i:Nat) v x,vs[i]? = some v→args[i]? = some x→QY O w v x) →
  Calls P f vs w fun e w'=>∃ v,e = .returned v∧RowKit.Below w.heap.size w w'∧DI (fun b=>w.heap.size≤b) O w' v r
structure Br (B:Nat) (M:Nat→Prop) (w w':World):Prop where
 os:w'.os = w.os
 tape:w'.tape = w.tape
 output:w'.output = w.output
 size:w.heap.size≤w'.heap.size
 block:∀ k,k < B→¬ M k→w'.heap[k]? = w.heap[k]?
def AV.mut:AV→Bool
 | .own _ _ _ | .optr _=>true
 | _=>false
def Z7 (O:Nat→Prop) (w:World) (v:Value):AV→Prop
 | .own sz e xs=>0 < sz∧(∀ x∈xs,x.cells.length = sz)∧∃ vals,Ew w e sz v xs.length vals∧BC O w vals (xs.flatMap D.cells)
 | .optr cs=>YN O w v cs
 | x=>QY O w v x
def Jn (vs:Array Value) (args:List AV) (b:Nat):Prop:=∃ (i:Nat) (v:Value) (x:AV),vs[i]? = some v∧args[i]? = some x∧x.mut = true∧Ax v = some b
def RU (O:Nat→Prop) (w:World) (v:Value) (x:AV):AV→Prop
 | .own sz e ys=>Z7 O w v (.own sz e ys)∧∃ xs,x = .own sz e xs
 | .optr cs=>Z7 O w v (.optr cs)∧∃ cs',x = .optr cs'∧cs.length = cs'.length
 | _=>True
def Ec (P:Program) (f:FuncId) (args outs:List AV) (r:AV):Prop :=
 GG P f = true∧outs.length = args.length∧∀ (O:Nat→Prop) (w:World) (vs:Array Value),(∀ b,O b→b < w.heap.size)→Vy (fun b=>O b∨Jn vs args b) w→vs.size = args.length→(∀ b,Jn vs args b→¬ O b) →
  (∀ (i j:Nat) v v' x y b,vs[i]? = some v→vs[j]? = some v'→args[i]? = some x→args[j]? = some y→x.mut = true→y.mut = true→Ax v = some b→Ax v' = some b→i = j) →
  (∀ (i:Nat) v x,vs[i]? = some v→args[i]? = some x→Z7 (fun b=>O b∨Jn vs args b) w v x) →
  Calls P f vs w fun e w'=>∃ v,e = .returned v∧Br w.heap.size (Jn vs args) w w' ∧
   DI (fun b=>w.heap.size≤b∨(Jn vs args b∧¬ Jn vs outs b)) (fun b=>O b∨Jn vs outs b) w' v r ∧
   ∀ (i:Nat) u x y,vs[i]? = some u→args[i]? = some x→outs[i]? = some y→RU (fun b=>O b∨Jn vs outs b∨DL v r b) w' u x y
def fq (P:Program) (f:FuncId) (args:List AV) (r:AV):Prop :=
 ∀ (O:Nat→Prop) (w:World) (vs:Array Value),vs.size = args.length→(∀ (i:Nat) v x,vs[i]? = some v→args[i]? = some x→QY O w v x) →
   ∃ v,(callFunc f vs).run P w = .ok (.value v) w∧DI (fun b=>w.heap.size≤b) O w v r
def Th (b:Bool) (x y:Prop):Prop:=Bool.rec (motive:=fun _=>Prop) y x b
theorem br {b:Bool} {x y:Prop} (h1:b = true→x) (h2:b = false→y):Bool.rec (motive:=fun _=>Prop) y x b:=by
 cases b
 ·exact h2 rfl
 ·exact h1 rfl
theorem Th.pos {b:Bool} {x y:Prop} (h:Th b x y) (hb:b = true):x:=by subst hb; exact h
theorem Th.neg {b:Bool} {x y:Prop} (h:Th b x y) (hb:b = false):y:=by subst hb; exact h
structure JL (p:Prop) (k:Prop):Prop where
 need:p
 then_:k
structure Mf (P:Program) (f:FuncId) (args:List AV) (K:AV→Prop) (margs:List AV) (KM:List AV→AV→Prop):Prop where
 go:(∃ r,(Ao P f args r∨fq P f args r)∧K r)∨∃ outs r,Ec P f margs outs r∧KM outs r
theorem AD {P:Program} {f:FuncId} {args margs:List AV} {K:AV→Prop} {KM:List AV→AV→Prop} {r:AV} (c:Ao P f args r) (k:K r):Mf P f args K margs KM:=⟨.inl ⟨r,.inl c,k⟩⟩
theorem Cv {P:Program} {f:FuncId} {args margs outs:List AV} {K:AV→Prop} {KM:List AV→AV→Prop} {r:AV} (c:Ec P f margs outs r) (k:KM outs r):Mf P f args K margs KM:=⟨.inr ⟨outs,r,c,k⟩⟩
def XK (P:Program) (f:FuncId) (args:List AV) (k sz:Nat) (e:TypeId) (xs ys:List D):Prop :=
 GG P f = true∧∀ (O:Nat→Prop) (w:World) (vs:Array Value) (b:Nat) (u:Value) (T:TypeId),
  (∀ c,O c→c < w.heap.size)→Vy (fun c=>O c∨c = b∨Ax u = some c) w→vs.size = args.length→vs[k]? = some (.pointer (some ⟨b,0,none⟩)) →
  w.heap[b]? = some (.cells #[u] T (0,0))→¬ O b→(∀ c,Ax u = some c→¬ O c∧c≠b)→0 < sz→(∀ x∈xs,x.cells.length = sz) →
  (∃ vals,Ew w e sz u xs.length vals∧BC (fun c=>O c∨c = b∨Ax u = some c) w vals (xs.flatMap D.cells)) →
  (∀ (i:Nat) v x,vs[i]? = some v→args[i]? = some x→QY (fun c=>O c∨c = b∨Ax u = some c) w v x) →
  Calls P f vs w fun e' w'=>∃ v u' T',e' = .returned v∧Br w.heap.size (fun c=>c = b∨Ax u = some c) w w' ∧
   w'.heap[b]? = some (.cells #[u'] T' (0,0))∧(∀ c,Ax u' = some c→Ax u = some c∨w.heap.size≤c)∧(∀ x∈ys,x.cells.length = sz) ∧
   ∃ vals,Ew w' e sz u' ys.length vals∧BC (fun c=>O c∨c = b∨Ax u' = some c) w' vals (ys.flatMap D.cells)
structure Z4 (P:Program) (f:FuncId) (args:List AV) (k sz:Nat) (e:TypeId) (xs:List D) (K:List D→Prop):Prop where
 go:∃ ys,XK P f args k sz e xs ys∧K ys
theorem Uu {P:Program} {f:FuncId} {args:List AV} {k sz:Nat} {e:TypeId} {xs ys:List D} {K:List D→Prop} (c:XK P f args k sz e xs ys) (h:K ys):Z4 P f args k sz e xs K:=⟨⟨ys,c,h⟩⟩
structure At (xs:List D) (i:Int) (K:D→Prop):Prop where
 go:0≤i∧∃ x,xs[i.toNat]? = some x∧K x
structure Ua (x y:Prop):Prop where
 go:x∨y
structure dE (K:List (Nat × Nat)→Prop):Prop where
 go:∃ hs,K hs
structure dO (xs:List D) (K:Bool→Prop):Prop where
 go:∀ b:Bool,(xs≠[]→b = false)→K b
def bS:Sl:=⟨.any,.none,0⟩
def As:AS→Nat→Sl
 | [],_=>bS
 | s :: _,0=>s
 | _ :: r,n + 1=>As r n
def Eh:AS→Nat→AV→AS
 | [],_,_=>[]
 | s :: r,0,v=>⟨v,s.box,s.ver⟩ :: r
 | s :: r,n + 1,v=>s :: Eh r n v
def AR:AS→Nat→Ct→Nat→AS
 | [],_,_,_=>[]
 | s :: r,0,b,n=>⟨s.av,b,n⟩ :: r
 | s :: r,k + 1,b,n=>s :: AR r k b n
inductive RV where
 | any
 | bot
 | d (x:D)
 | lim (sz:Nat) (xs:List D)
 | vptr (id ver off:Nat) (cs:List C)
 | row (id ver sz:Nat) (e:TypeId) (xs:List D)
 | eptr (id ver sz:Nat) (e:TypeId) (xs:List D) (i off:Nat)
 | tup (xs:List C)
 | mp (id ver:Nat) (es:List (D × D))
 | cagg (xs:List C)
 | cfun (f:FuncId) (xs:List C)
 | clo (f:FuncId) (cs:List C) (k id ver rid rver:Nat)
def YC:List C→Option (Nat × Nat × Nat)
 | []=>none
 | .sl id n :: _=>some (0,id,n)
 | _ :: r=>match YC r with
   | some (k,id,n)=>some (k + 1,id,n)
   | none=>none
def ac:Value→AV
 | .int k n=>.d (.int k n)
 | .bool b=>.d (.bool b)
 | .string s=>.d (.str s)
 | .slice none 0 0=>.d (.nil 0)
 | _=>.any
def ev (S:AS):Operand→AV
 | .tmp t=>(As S t).av
 | .const v=>ac v
 | .func f=>.d (.fn f [])
 | .global g=>match de g with
   | some cs=>.d (.ptr cs)
   | none=>.any
def eU (g:Option (Nat × Bool)):AV→AV
 | .under t w y=>match g with
   | some (t',w')=>if t = t'∧w = w' then y else .any
   | none=>.any
 | x=>x
def res (S:AS):AV→RV
 | .any=>.any
 | .bot=>.bot
 | .d x=>.d x
 | .lim sz xs=>.lim sz xs
 | .tup xs=>.tup xs
 | .ptr id n o=>match As S id with
   | ⟨_,.var cs,m⟩=>if n = m then .vptr id n o cs else .any
   | ⟨_,.fvar cs,m⟩=>if n = m then .d (.ptr (cs.drop o)) else .any
   | _=>.any
 | .sl id n=>match As S id with
   | ⟨_,.row sz e xs,m⟩=>if n = m then .row id n sz e xs else .any
   | ⟨_,.frow sz xs,m⟩=>if n = m then .d (.list sz xs) else .any
   | ⟨_,.map es,m⟩=>if n = m then .mp id n es else .any
   | _=>.any
 | .eptr id n sz i o=>match As S id with
   | ⟨_,.row sz' e xs,m⟩=>if n = m∧sz = sz' then .eptr id n sz e xs i o else .any
   | _=>.any
 | .own _ _ _=>.any
 | .optr _=>.any
 | .under _ _ _=>.any
 | .cc k xs=>match k with
   | none=>.cagg xs
   | some f=>match YC xs with
     | some (j,id,n)=>match As S id with
       | ⟨_,.var [.sl rid rn],m⟩=>if n = m then .clo f xs j id n rid rn else .cfun f xs
       | _=>.cfun f xs
     | none=>.cfun f xs
end Go.Abs
