/-
  The abstract machine: data without addresses, a frame's own memory as boxes, contracts. Definitions alone.
-/
import Derived.Test.YtejfnieiaecpkaaGreatDoorAbsGlob
import Derived.Orders
import Derived.Below
import Derived.Laws.AppendOwn
set_option linter.unusedVariables false
set_option linter.unusedSimpArgs false
namespace Go.Abs

/-- Data that is never written again. ('nil': an empty slice without room.) -/
inductive D where
  | bool (b : Bool)
  | int (k : IntKind) (n : Int)
  | str (s : ByteArray)
  | fn (f : FuncId) (caps : List D)
  | ptr (cs : List D)
  | nil (sz : Nat)
  | list (sz : Nat) (xs : List D)
  | agg (xs : List D)

/-- What the listed package-level variables hold: tables of bytes, by the variable's number. -/
def gtab (g : Nat) : Option (List D) := match gtabN g with
  | some l => some (l.map fun n => D.int .u8 n)
  | none => none

def D.cells : D → List D
  | .agg xs => xs
  | x => [x]
def D.one : D → Bool
  | .agg _ => false
  | _ => true
/-- It looks at no memory. -/
def D.bare : D → Bool
  | .bool _ | .int _ _ | .str _ | .nil _ | .fn _ [] => true
  | _ => false

/-- A cell of a variable of the frame's own, a part of a tuple: data, the slice of a box, (in a contract) a row of its own. -/
inductive C where
  | d (x : D)
  | sl (id ver : Nat)
  | own (sz : Nat) (e : TypeId) (xs : List D)

/-- What is known of a slot. A reference to a box bears the box's place and its version. 'own', 'optr': in contracts alone. -/
inductive AV where
  | any
  | bot
  | d (x : D)
  | lim (sz : Nat) (xs : List D)
  | ptr (id ver off : Nat)
  | sl (id ver : Nat)
  | eptr (id ver sz i off : Nat)
  | tup (xs : List C)
  | own (sz : Nat) (e : TypeId) (xs : List D)
  | optr (cs : List D)
  | under (t : Nat) (want : Bool) (x : AV)
  | cc (k : Option FuncId) (xs : List C)

/-- The frame's own memory ('var', 'row'), or what was its own and is now data ('fvar', 'frow'). -/
inductive Body where
  | none
  | var (cs : List C)
  | row (sz : Nat) (e : TypeId) (xs : List D)
  | fvar (cs : List D)
  | frow (sz : Nat) (xs : List D)
  | map (es : List (D × D))

structure Sl where
  av : AV
  box : Body
  ver : Nat

abbrev AS := List Sl

def blkOf : Value → Option Nat
  | .pointer (some a) => some a.block
  | .slice (some a) _ cap => if cap = 0 then none else some a.block
  | .map (some b) => some b
  | _ => none
def capOf : Value → Nat
  | .slice _ _ c => c
  | _ => 0

/-- A value stands for data; the blocks of O are not looked at. -/
inductive RepD (O : Nat → Prop) (w : World) : Value → D → Prop
  | bool (b : Bool) : RepD O w (.bool b) (.bool b)
  | int (k : IntKind) (n : Int) : RepD O w (.int k n) (.int k n)
  | str (s : ByteArray) : RepD O w (.string s) (.str s)
  | fn (f : FuncId) (vs : Array Value) (xs : List D) (hl : vs.size = xs.length) (h1 : ∀ x ∈ xs, x.one = true)
      (h : ∀ (i : Nat) v x, vs[i]? = some v → xs[i]? = some x → RepD O w v x) : RepD O w (.func (.func f) #[] vs) (.fn f xs)
  | ptr (b off : Nat) (cs : List D) (c : Nat → Value) (hb : cs ≠ [] → b < w.heap.size) (hO : cs ≠ [] → ¬ O b) (h1 : ∀ x ∈ cs, x.one = true)
      (hcell : ∀ (j : Nat) y, cs[j]? = some y → w.cell? ⟨b, off + j, none⟩ = some (c j))
      (h : ∀ (j : Nat) y, cs[j]? = some y → RepD O w (c j) y) : RepD O w (.pointer (some ⟨b, off, none⟩)) (.ptr cs)
  | agg (vs : Array Value) (xs : List D) (hl : vs.size = xs.length) (h1 : ∀ x ∈ xs, x.one = true)
      (h : ∀ (i : Nat) v x, vs[i]? = some v → xs[i]? = some x → RepD O w v x) : RepD O w (.agg vs) (.agg xs)
  | nil (a : Option Addr) (sz : Nat) : RepD O w (.slice a 0 0) (.nil sz)
  | emp (a : Option Addr) (cap sz : Nat) : RepD O w (.slice a 0 cap) (.list sz [])
  | list (b off cap sz : Nat) (xs : List D) (c : Nat → Nat → Value) (hne : xs ≠ []) (hb : b < w.heap.size) (hO : ¬ O b) (hcap : xs.length ≤ cap) (hsz : ∀ x ∈ xs, x.cells.length = sz)
      (h1 : ∀ x ∈ xs, ∀ y ∈ x.cells, y.one = true)
      (hcell : ∀ (i : Nat) x (j : Nat) y, xs[i]? = some x → x.cells[j]? = some y → w.cell? ⟨b, off + i * sz + j, none⟩ = some (c i j))
      (h : ∀ (i : Nat) x (j : Nat) y, xs[i]? = some x → x.cells[j]? = some y → RepD O w (c i j) y) :
      RepD O w (.slice (some ⟨b, off, none⟩) xs.length cap) (.list sz xs)

/-- The listed package-level variables hold what they shall, and nobody owns them. -/
def Glob (O : Nat → Prop) (w : World) : Prop := ∀ g cs, gtab g = some cs → RepD O w (.pointer (some ⟨g, 0, none⟩)) (.ptr cs)

/-- Cell by cell. -/
def RepL (O : Nat → Prop) (w : World) (vs : List Value) (ys : List D) : Prop :=
  vs.length = ys.length ∧ ∀ (j : Nat) v y, vs[j]? = some v → ys[j]? = some y → RepD O w v y ∧ y.one = true

def RepCell (β : Nat → Value) (ver : Nat → Nat) (O : Nat → Prop) (w : World) (v : Value) : C → Prop
  | .d x => RepD O w v x ∧ x.one = true
  | .sl id n => n ≤ ver id ∧ (n = ver id → v = β id)
  | .own _ _ _ => False

/-- A struct, or a function value with what it caught. -/
def ccV (k : Option FuncId) (vs : Array Value) : Value :=
  match k with
  | none => .agg vs
  | some f => .func (.func f) #[] vs
def RepA (β : Nat → Value) (ver : Nat → Nat) (O : Nat → Prop) (w : World) (tm : Array Value) (v : Value) : AV → Prop
  | .any => True
  | .bot => False
  | .d x => RepD O w v x
  | .lim sz xs => RepD O w v (.list sz xs) ∧ capOf v = xs.length
  | .ptr id n o => n ≤ ver id ∧ (n = ver id → ∃ b, β id = .pointer (some ⟨b, 0, none⟩) ∧ v = .pointer (some ⟨b, o, none⟩))
  | .sl id n => n ≤ ver id ∧ (n = ver id → v = β id)
  | .eptr id n sz i o => n ≤ ver id ∧ (n = ver id → ∃ b m cap, β id = .slice (some ⟨b, 0, none⟩) m cap ∧ v = .pointer (some ⟨b, i * sz + o, none⟩))
  | .tup xs => ∃ vs : Array Value, v = .tuple vs ∧ vs.size = xs.length ∧ ∀ (i : Nat) u x, vs[i]? = some u → xs[i]? = some x → match x with
      | .d y => RepD O w u y
      | c => RepCell β ver O w u c
  | .own _ _ _ => False
  | .optr _ => False
  | .under t want x => (tm[t]? = some (.bool want) → RepA β ver O w tm v x) ∧ (tm[t]? ≠ some (.bool want) → v = undef)
  | .cc k xs => ∃ vs : Array Value, v = ccV k vs ∧ vs.size = xs.length ∧ ∀ (i : Nat) u x, vs[i]? = some u → xs[i]? = some x → RepCell β ver O w u x ∧ u.oneCell' = true

/-- A row that somebody owns: as the library has it, or an empty one without room. -/
def RowRep (w : World) (e : TypeId) (sz : Nat) (v : Value) (n : Nat) (vals : List Value) : Prop :=
  w.ownsRow 0 e sz v n vals ∨ (n = 0 ∧ vals = [] ∧ ∃ a, v = .slice (some a) 0 0)

def RepBox (β : Nat → Value) (ver : Nat → Nat) (O : Nat → Prop) (w : World) (id : Nat) : Body → Prop
  | .none => True
  | .var cs => ∃ b vals T, β id = .pointer (some ⟨b, 0, none⟩) ∧ w.heap[b]? = some (.cells vals T (0, 0)) ∧ vals.size = cs.length ∧ ∀ (j : Nat) v c, vals[j]? = some v → cs[j]? = some c → RepCell β ver O w v c
  | .row sz e xs => 0 < sz ∧ (∀ x ∈ xs, x.cells.length = sz) ∧ ∃ vals, RowRep w e sz (β id) xs.length vals ∧ RepL O w vals (xs.flatMap D.cells)
  | .fvar cs => RepD O w (β id) (.ptr cs) ∧ ∃ b, β id = .pointer (some ⟨b, 0, none⟩)
  | .frow sz xs => RepD O w (β id) (.list sz xs)
  | .map es => ∃ (b : Nat) (vs : Array MapEntry) (clock : Nat), β id = .map (some b) ∧ w.heap[b]? = some (.map vs clock) ∧ vs.size = es.length ∧
      ∀ (i : Nat) (e : MapEntry) (p : D × D), vs[i]? = some e → es[i]? = some p → RepD O w e.key p.1 ∧ RepD O w e.val p.2 ∧ p.1.bare = true ∧ p.2.bare = true

def Body.owned : Body → Bool
  | .var _ | .row _ _ _ | .map _ => true
  | _ => false

/-- A closed description of data. -/
def RepC (O : Nat → Prop) (w : World) (v : Value) : AV → Prop
  | .any => True
  | .d x => RepD O w v x
  | .lim sz xs => RepD O w v (.list sz xs) ∧ capOf v = xs.length
  | _ => False

/-- A row of its own, that looks at no other memory. -/
def OwnRow (mine : Nat → Prop) (w : World) (v : Value) (sz : Nat) (e : TypeId) (xs : List D) : Prop :=
  0 < sz ∧ (∀ x ∈ xs, x.cells.length = sz) ∧ (∀ b, blkOf v = some b → mine b) ∧ ∃ vals, RowRep w e sz v xs.length vals ∧ RepL (fun _ => True) w vals (xs.flatMap D.cells)

/-- A variable of its own. -/
def OwnVar (O : Nat → Prop) (w : World) (v : Value) (cs : List D) : Prop :=
  ∃ b vals T, v = .pointer (some ⟨b, 0, none⟩) ∧ w.heap[b]? = some (.cells vals T (0, 0)) ∧ RepL O w vals.toList cs

/-- The blocks that a result owns. -/
def resBlk (v : Value) (r : AV) (b : Nat) : Prop :=
  match r with
  | .own _ _ _ | .optr _ => blkOf v = some b
  | .tup xs => ∃ (vs : Array Value) (i : Nat) (u : Value) (sz : Nat) (e : TypeId) (ys : List D), v = .tuple vs ∧ vs[i]? = some u ∧ xs[i]? = some (.own sz e ys) ∧ blkOf u = some b
  | _ => False
/-- A result. -/
def RepRes (mine O : Nat → Prop) (w : World) (v : Value) (r : AV) : Prop :=
  match r with
  | .own sz e xs => OwnRow mine w v sz e xs
  | .optr cs => (∀ b, blkOf v = some b → mine b) ∧ OwnVar (fun b => O b ∨ blkOf v = some b) w v cs
  | .tup xs => ∃ vs : Array Value, v = .tuple vs ∧ vs.size = xs.length ∧ (∀ (i : Nat) u x, vs[i]? = some u → xs[i]? = some x → match x with
      | .d y => RepD (fun b => O b ∨ resBlk v (.tup xs) b) w u y
      | .own sz e ys => OwnRow mine w u sz e ys
      | .sl _ _ => False) ∧
      ∀ (i j : Nat) u u' sz e ys sz' e' ys' b, vs[i]? = some u → vs[j]? = some u' → xs[i]? = some (.own sz e ys) → xs[j]? = some (.own sz' e' ys') → blkOf u = some b → blkOf u' = some b → i = j
  | x => RepC O w v x

def callable (P : Program) (f : FuncId) : Bool :=
  match P.funcs[f]? with
  | some fn => !(fn.name == "runtime.NumGoroutine") && fn.body.isSome
  | none => false

/-- THE CONTRACT: over any memory in which the arguments stand for 'args', the call returns what stands for r, and nothing that was there has turned. -/
def ACall (P : Program) (f : FuncId) (args : List AV) (r : AV) : Prop :=
  callable P f = true ∧ ∀ (O : Nat → Prop) (w : World) (vs : Array Value), (∀ b, O b → b < w.heap.size) → Glob O w → vs.size = args.length →
    (∀ (i : Nat) v x, vs[i]? = some v → args[i]? = some x → RepC O w v x) →
    Calls P f vs w fun e w' => ∃ v, e = .returned v ∧ RowKit.Below w.heap.size w w' ∧ RepRes (fun b => w.heap.size ≤ b) O w' v r

/-- Below B all is as it was, but for the blocks of M. -/
structure BelowM (B : Nat) (M : Nat → Prop) (w w' : World) : Prop where
  os : w'.os = w.os
  tape : w'.tape = w.tape
  output : w'.output = w.output
  size : w.heap.size ≤ w'.heap.size
  block : ∀ k, k < B → ¬ M k → w'.heap[k]? = w.heap[k]?

def AV.mut : AV → Bool
  | .own _ _ _ | .optr _ => true
  | _ => false
/-- An argument that may be handed over. -/
def RepIn (O : Nat → Prop) (w : World) (v : Value) : AV → Prop
  | .own sz e xs => 0 < sz ∧ (∀ x ∈ xs, x.cells.length = sz) ∧ ∃ vals, RowRep w e sz v xs.length vals ∧ RepL O w vals (xs.flatMap D.cells)
  | .optr cs => OwnVar O w v cs
  | x => RepC O w v x
/-- The blocks that are handed over. -/
def Mut (vs : Array Value) (args : List AV) (b : Nat) : Prop := ∃ (i : Nat) (v : Value) (x : AV), vs[i]? = some v ∧ args[i]? = some x ∧ x.mut = true ∧ blkOf v = some b
def RepOut (O : Nat → Prop) (w : World) (v : Value) (x : AV) : AV → Prop
  | .own sz e ys => RepIn O w v (.own sz e ys) ∧ ∃ xs, x = .own sz e xs
  | .optr cs => RepIn O w v (.optr cs) ∧ ∃ cs', x = .optr cs' ∧ cs.length = cs'.length
  | _ => True
/-- THE CONTRACT of a call that may write what it is handed. 'outs': what it holds behind the call ('any': nobody asks). -/
def MCall (P : Program) (f : FuncId) (args outs : List AV) (r : AV) : Prop :=
  callable P f = true ∧ outs.length = args.length ∧ ∀ (O : Nat → Prop) (w : World) (vs : Array Value), (∀ b, O b → b < w.heap.size) → Glob (fun b => O b ∨ Mut vs args b) w → vs.size = args.length → (∀ b, Mut vs args b → ¬ O b) →
    (∀ (i j : Nat) v v' x y b, vs[i]? = some v → vs[j]? = some v' → args[i]? = some x → args[j]? = some y → x.mut = true → y.mut = true → blkOf v = some b → blkOf v' = some b → i = j) →
    (∀ (i : Nat) v x, vs[i]? = some v → args[i]? = some x → RepIn (fun b => O b ∨ Mut vs args b) w v x) →
    Calls P f vs w fun e w' => ∃ v, e = .returned v ∧ BelowM w.heap.size (Mut vs args) w w' ∧
      RepRes (fun b => w.heap.size ≤ b ∨ (Mut vs args b ∧ ¬ Mut vs outs b)) (fun b => O b ∨ Mut vs outs b) w' v r ∧
      ∀ (i : Nat) u x y, vs[i]? = some u → args[i]? = some x → outs[i]? = some y → RepOut (fun b => O b ∨ Mut vs outs b ∨ resBlk v r b) w' u x y

/-- THE CONTRACT of a function without a body: the model answers at once. -/
def XCall (P : Program) (f : FuncId) (args : List AV) (r : AV) : Prop :=
  ∀ (O : Nat → Prop) (w : World) (vs : Array Value), vs.size = args.length → (∀ (i : Nat) v x, vs[i]? = some v → args[i]? = some x → RepC O w v x) →
    ∃ v, (callFunc f vs).run P w = .ok (.value v) w ∧ RepRes (fun b => w.heap.size ≤ b) O w v r

/-! ### The stops of an evaluation -/
/-- A test: where it is known, the one way; else both. -/
def bcase (b : Bool) (x y : Prop) : Prop := Bool.rec (motive := fun _ => Prop) y x b
theorem br {b : Bool} {x y : Prop} (h1 : b = true → x) (h2 : b = false → y) : Bool.rec (motive := fun _ => Prop) y x b := by
  cases b
  · exact h2 rfl
  · exact h1 rfl
theorem bcase.pos {b : Bool} {x y : Prop} (h : bcase b x y) (hb : b = true) : x := by subst hb; exact h
theorem bcase.neg {b : Bool} {x y : Prop} (h : bcase b x y) (hb : b = false) : y := by subst hb; exact h
structure Need (p : Prop) (k : Prop) : Prop where
  need : p
  then_ : k
structure CallStop (P : Program) (f : FuncId) (args : List AV) (K : AV → Prop) (margs : List AV) (KM : List AV → AV → Prop) : Prop where
  go : (∃ r, (ACall P f args r ∨ XCall P f args r) ∧ K r) ∨ ∃ outs r, MCall P f margs outs r ∧ KM outs r
theorem callA {P : Program} {f : FuncId} {args margs : List AV} {K : AV → Prop} {KM : List AV → AV → Prop} {r : AV} (c : ACall P f args r) (k : K r) : CallStop P f args K margs KM := ⟨.inl ⟨r, .inl c, k⟩⟩
theorem callX {P : Program} {f : FuncId} {args margs : List AV} {K : AV → Prop} {KM : List AV → AV → Prop} {r : AV} (c : XCall P f args r) (k : K r) : CallStop P f args K margs KM := ⟨.inl ⟨r, .inr c, k⟩⟩
theorem callM {P : Program} {f : FuncId} {args margs outs : List AV} {K : AV → Prop} {KM : List AV → AV → Prop} {r : AV} (c : MCall P f margs outs r) (k : KM outs r) : CallStop P f args K margs KM := ⟨.inr ⟨outs, r, c, k⟩⟩
/-- THE CONTRACT of a closure that catches a variable with a row of the frame's own (its place among the arguments: k) and leaves ys there. -/
def WCall (P : Program) (f : FuncId) (args : List AV) (k sz : Nat) (e : TypeId) (xs ys : List D) : Prop :=
  callable P f = true ∧ ∀ (O : Nat → Prop) (w : World) (vs : Array Value) (b : Nat) (u : Value) (T : TypeId),
    (∀ c, O c → c < w.heap.size) → Glob (fun c => O c ∨ c = b ∨ blkOf u = some c) w → vs.size = args.length → vs[k]? = some (.pointer (some ⟨b, 0, none⟩)) →
    w.heap[b]? = some (.cells #[u] T (0, 0)) → ¬ O b → (∀ c, blkOf u = some c → ¬ O c ∧ c ≠ b) → 0 < sz → (∀ x ∈ xs, x.cells.length = sz) →
    (∃ vals, RowRep w e sz u xs.length vals ∧ RepL (fun c => O c ∨ c = b ∨ blkOf u = some c) w vals (xs.flatMap D.cells)) →
    (∀ (i : Nat) v x, vs[i]? = some v → args[i]? = some x → RepC (fun c => O c ∨ c = b ∨ blkOf u = some c) w v x) →
    Calls P f vs w fun e' w' => ∃ v u' T', e' = .returned v ∧ BelowM w.heap.size (fun c => c = b ∨ blkOf u = some c) w w' ∧
      w'.heap[b]? = some (.cells #[u'] T' (0, 0)) ∧ (∀ c, blkOf u' = some c → blkOf u = some c ∨ w.heap.size ≤ c) ∧ (∀ x ∈ ys, x.cells.length = sz) ∧
      ∃ vals, RowRep w' e sz u' ys.length vals ∧ RepL (fun c => O c ∨ c = b ∨ blkOf u' = some c) w' vals (ys.flatMap D.cells)
structure WStop (P : Program) (f : FuncId) (args : List AV) (k sz : Nat) (e : TypeId) (xs : List D) (K : List D → Prop) : Prop where
  go : ∃ ys, WCall P f args k sz e xs ys ∧ K ys
theorem callW {P : Program} {f : FuncId} {args : List AV} {k sz : Nat} {e : TypeId} {xs ys : List D} {K : List D → Prop} (c : WCall P f args k sz e xs ys) (h : K ys) : WStop P f args k sz e xs K := ⟨⟨ys, c, h⟩⟩
structure At (xs : List D) (i : Int) (K : D → Prop) : Prop where
  go : 0 ≤ i ∧ ∃ x, xs[i.toNat]? = some x ∧ K x
structure Either (x y : Prop) : Prop where
  go : x ∨ y
/-- Where the rows of a tuple shall lie: places and versions. -/
structure Homes (K : List (Nat × Nat) → Prop) : Prop where
  go : ∃ hs, K hs
/-- Is a slice nil? That is not known, but of one with elements. -/
structure IsNil (xs : List D) (K : Bool → Prop) : Prop where
  go : ∀ b : Bool, (xs ≠ [] → b = false) → K b

/-! ### The state -/
def sl0 : Sl := ⟨.any, .none, 0⟩
def sget : AS → Nat → Sl
  | [], _ => sl0
  | s :: _, 0 => s
  | _ :: r, n + 1 => sget r n
def setAV : AS → Nat → AV → AS
  | [], _, _ => []
  | s :: r, 0, v => ⟨v, s.box, s.ver⟩ :: r
  | s :: r, n + 1, v => s :: setAV r n v
def setBox : AS → Nat → Body → Nat → AS
  | [], _, _, _ => []
  | s :: r, 0, b, n => ⟨s.av, b, n⟩ :: r
  | s :: r, k + 1, b, n => s :: setBox r k b n

/-! ### Operands -/
inductive RV where
  | any
  | bot
  | d (x : D)
  | lim (sz : Nat) (xs : List D)
  | vptr (id ver off : Nat) (cs : List C)
  | row (id ver sz : Nat) (e : TypeId) (xs : List D)
  | eptr (id ver sz : Nat) (e : TypeId) (xs : List D) (i off : Nat)
  | tup (xs : List C)
  | mp (id ver : Nat) (es : List (D × D))
  | cagg (xs : List C)
  | cfun (f : FuncId) (xs : List C)
  | clo (f : FuncId) (cs : List C) (k id ver rid rver : Nat)

/-- The first slice of a box among cells: its place, the box, the version. -/
def slAt : List C → Option (Nat × Nat × Nat)
  | [] => none
  | .sl id n :: _ => some (0, id, n)
  | _ :: r => match slAt r with
    | some (k, id, n) => some (k + 1, id, n)
    | none => none
def cval : Value → AV
  | .int k n => .d (.int k n)
  | .bool b => .d (.bool b)
  | .string s => .d (.str s)
  | .slice none 0 0 => .d (.nil 0)
  | _ => .any
def ev (S : AS) : Operand → AV
  | .tmp t => (sget S t).av
  | .const v => cval v
  | .func f => .d (.fn f [])
  | .global g => match gtab g with
    | some cs => .d (.ptr cs)
    | none => .any
/-- An operand as an operation under the guard g sees it. -/
def unw (g : Option (Nat × Bool)) : AV → AV
  | .under t w y => match g with
    | some (t', w') => if t = t' ∧ w = w' then y else .any
    | none => .any
  | x => x
def res (S : AS) : AV → RV
  | .any => .any
  | .bot => .bot
  | .d x => .d x
  | .lim sz xs => .lim sz xs
  | .tup xs => .tup xs
  | .ptr id n o => match sget S id with
    | ⟨_, .var cs, m⟩ => if n = m then .vptr id n o cs else .any
    | ⟨_, .fvar cs, m⟩ => if n = m then .d (.ptr (cs.drop o)) else .any
    | _ => .any
  | .sl id n => match sget S id with
    | ⟨_, .row sz e xs, m⟩ => if n = m then .row id n sz e xs else .any
    | ⟨_, .frow sz xs, m⟩ => if n = m then .d (.list sz xs) else .any
    | ⟨_, .map es, m⟩ => if n = m then .mp id n es else .any
    | _ => .any
  | .eptr id n sz i o => match sget S id with
    | ⟨_, .row sz' e xs, m⟩ => if n = m ∧ sz = sz' then .eptr id n sz e xs i o else .any
    | _ => .any
  | .own _ _ _ => .any
  | .optr _ => .any
  | .under _ _ _ => .any
  | .cc k xs => match k with
    | none => .cagg xs
    | some f => match slAt xs with
      | some (j, id, n) => match sget S id with
        | ⟨_, .var [.sl rid rn], m⟩ => if n = m then .clo f xs j id n rid rn else .cfun f xs
        | _ => .cfun f xs
      | none => .cfun f xs
end Go.Abs
