/-
  The abstract machine: data without addresses, a frame's own memory as boxes, and what an operation does to them. Definitions alone.
-/
import Derived.Orders
import Derived.Below
import Derived.Laws.AppendOwn
namespace Go.Abs

/-- Data that is never written again. -/
inductive D where
  | bool (b : Bool)
  | int (k : IntKind) (n : Int)
  | str (s : ByteArray)
  | func (f : FuncId)
  | list (sz : Nat) (xs : List D)
  | agg (xs : List D)

def D.cells : D → List D
  | .agg xs => xs
  | x => [x]
def D.one : D → Bool
  | .agg _ => false
  | _ => true

/-- What is known of a slot. A reference to a box bears the box's place and its version. -/
inductive AV where
  | any
  | bot
  | d (x : D)
  | lim (sz : Nat) (xs : List D)
  | cptr (cs : List D)
  | ptr (id ver off : Nat)
  | sl (id ver : Nat)
  | eptr (id ver sz i off : Nat)
  | tup (xs : List D)
  | own (sz : Nat) (e : TypeId) (xs : List D)
  | under (t : Nat) (want : Bool) (x : AV)

/-- The frame's own memory ('var', 'row'), or what was its own and is now data ('fvar', 'frow'). -/
inductive Body where
  | none
  | var (cs : List D)
  | row (sz : Nat) (e : TypeId) (xs : List D)
  | fvar (cs : List D)
  | frow (sz : Nat) (xs : List D)

structure Sl where
  av : AV
  box : Body
  ver : Nat

abbrev AS := List Sl

def blkOf : Value → Option Nat
  | .pointer (some a) => some a.block
  | .slice (some a) _ cap => if cap = 0 then none else some a.block
  | _ => none
def capOf : Value → Nat
  | .slice _ _ c => c
  | _ => 0

/-- A value stands for data; the blocks of O are not looked at. -/
inductive RepD (O : Nat → Prop) (w : World) : Value → D → Prop
  | bool (b : Bool) : RepD O w (.bool b) (.bool b)
  | int (k : IntKind) (n : Int) : RepD O w (.int k n) (.int k n)
  | str (s : ByteArray) : RepD O w (.string s) (.str s)
  | func (f : FuncId) : RepD O w (.func (.func f) #[] #[]) (.func f)
  | agg (vs : Array Value) (xs : List D) (hl : vs.size = xs.length) (h1 : ∀ x ∈ xs, x.one = true)
      (h : ∀ (i : Nat) v x, vs[i]? = some v → xs[i]? = some x → RepD O w v x) : RepD O w (.agg vs) (.agg xs)
  | emp (a : Option Addr) (cap sz : Nat) : RepD O w (.slice a 0 cap) (.list sz [])
  | list (b off cap sz : Nat) (xs : List D) (c : Nat → Nat → Value) (hne : xs ≠ []) (hb : b < w.heap.size) (hO : ¬ O b) (hcap : xs.length ≤ cap) (hsz : ∀ x ∈ xs, x.cells.length = sz)
      (h1 : ∀ x ∈ xs, ∀ y ∈ x.cells, y.one = true)
      (hcell : ∀ (i : Nat) x (j : Nat) y, xs[i]? = some x → x.cells[j]? = some y → w.cell? ⟨b, off + i * sz + j, none⟩ = some (c i j))
      (h : ∀ (i : Nat) x (j : Nat) y, xs[i]? = some x → x.cells[j]? = some y → RepD O w (c i j) y) :
      RepD O w (.slice (some ⟨b, off, none⟩) xs.length cap) (.list sz xs)

/-- Cell by cell. -/
def RepL (O : Nat → Prop) (w : World) (vs : List Value) (ys : List D) : Prop :=
  vs.length = ys.length ∧ ∀ (j : Nat) v y, vs[j]? = some v → ys[j]? = some y → RepD O w v y ∧ y.one = true

def RepP (O : Nat → Prop) (w : World) (v : Value) (cs : List D) : Prop :=
  ∃ b off, v = .pointer (some ⟨b, off, none⟩) ∧ ∀ (j : Nat) y, cs[j]? = some y → b < w.heap.size ∧ ¬ O b ∧ ∃ c, w.cell? ⟨b, off + j, none⟩ = some c ∧ RepD O w c y ∧ y.one = true

def RepA (β : Nat → Value) (ver : Nat → Nat) (O : Nat → Prop) (w : World) (tm : Array Value) (v : Value) : AV → Prop
  | .any => True
  | .bot => False
  | .d x => RepD O w v x
  | .lim sz xs => RepD O w v (.list sz xs) ∧ capOf v = xs.length
  | .cptr cs => RepP O w v cs
  | .ptr id n o => n ≤ ver id ∧ (n = ver id → ∃ b, β id = .pointer (some ⟨b, 0, none⟩) ∧ v = .pointer (some ⟨b, o, none⟩))
  | .sl id n => n ≤ ver id ∧ (n = ver id → v = β id)
  | .eptr id n sz i o => n ≤ ver id ∧ (n = ver id → ∃ b m cap, β id = .slice (some ⟨b, 0, none⟩) m cap ∧ v = .pointer (some ⟨b, i * sz + o, none⟩))
  | .tup xs => ∃ vs : Array Value, v = .tuple vs ∧ vs.size = xs.length ∧ ∀ (i : Nat) u x, vs[i]? = some u → xs[i]? = some x → RepD O w u x
  | .own _ _ _ => False
  | .under t want x => tm[t]? = some (.bool want) → RepA β ver O w tm v x

/-- A row that the frame owns: as the library has it, or an empty one without room. -/
def RowRep (w : World) (base : Nat) (e : TypeId) (sz : Nat) (v : Value) (n : Nat) (vals : List Value) : Prop :=
  w.ownsRow base e sz v n vals ∨ (n = 0 ∧ vals = [] ∧ ∃ a, v = .slice (some a) 0 0)

def RepBox (β : Nat → Value) (O : Nat → Prop) (w : World) (base id : Nat) : Body → Prop
  | .none => True
  | .var cs => ∃ b vals T, β id = .pointer (some ⟨b, 0, none⟩) ∧ base ≤ b ∧ w.heap[b]? = some (.cells vals T (0, 0)) ∧ RepL O w vals.toList cs
  | .row sz e xs => 0 < sz ∧ (∀ x ∈ xs, x.cells.length = sz) ∧ ∃ vals, RowRep w base e sz (β id) xs.length vals ∧ RepL O w vals (xs.flatMap D.cells)
  | .fvar cs => RepP O w (β id) cs ∧ ∃ b, β id = .pointer (some ⟨b, 0, none⟩)
  | .frow sz xs => RepD O w (β id) (.list sz xs)

def Body.owned : Body → Bool
  | .var _ | .row _ _ _ => true
  | _ => false

/-- A closed description (an argument, a result). -/
def RepC (O : Nat → Prop) (w : World) (v : Value) : AV → Prop
  | .any => True
  | .d x => RepD O w v x
  | .lim sz xs => RepD O w v (.list sz xs) ∧ capOf v = xs.length
  | .cptr cs => RepP O w v cs
  | .tup xs => ∃ vs : Array Value, v = .tuple vs ∧ vs.size = xs.length ∧ ∀ (i : Nat) u x, vs[i]? = some u → xs[i]? = some x → RepD O w u x
  | _ => False

def RepRes (O : Nat → Prop) (w w' : World) (v : Value) : AV → Prop
  | .own sz e xs => 0 < sz ∧ (∀ x ∈ xs, x.cells.length = sz) ∧ ∃ vals, RowRep w' w.heap.size e sz v xs.length vals ∧ RepL (fun b => O b ∨ blkOf v = some b) w' vals (xs.flatMap D.cells)
  | x => RepC O w' v x

def callable (P : Program) (f : FuncId) : Bool :=
  match P.funcs[f]? with
  | some fn => !(fn.name == "runtime.NumGoroutine") && fn.body.isSome
  | none => false

/-- THE CONTRACT: over any memory in which the arguments stand for 'args', the call returns what stands for r, and nothing that was there has turned. -/
def ACall (P : Program) (f : FuncId) (args : List AV) (r : AV) : Prop :=
  callable P f = true ∧ ∀ (O : Nat → Prop) (w : World) (vs : Array Value), (∀ b, O b → b < w.heap.size) → vs.size = args.length →
    (∀ (i : Nat) v x, vs[i]? = some v → args[i]? = some x → RepC O w v x) →
    Calls P f vs w fun e w' => ∃ v, e = .returned v ∧ RowKit.Below w.heap.size w w' ∧ RepRes O w w' v r

/-! ### The stops of an evaluation -/
/-- A test: where it is known, the one way; else both. -/
def bcase (b : Bool) (x y : Prop) : Prop := Bool.rec (motive := fun _ => Prop) y x b
theorem br {b : Bool} {x y : Prop} (h1 : b = true → x) (h2 : b = false → y) : Bool.rec (motive := fun _ => Prop) y x b := by
  cases b
  · exact h2 rfl
  · exact h1 rfl
theorem bcase.pos {b : Bool} {x y : Prop} (h : bcase b x y) (hb : b = true) : x := by subst hb; exact h
theorem bcase.neg {b : Bool} {x y : Prop} (h : bcase b x y) (hb : b = false) : y := by subst hb; exact h
structure Need (p : Prop) (k : Prop) : Prop where
  need : p
  then_ : k
structure CallStop (P : Program) (f : FuncId) (args : List AV) (K : AV → Prop) : Prop where
  go : ∃ r, ACall P f args r ∧ K r
structure At (xs : List D) (i : Int) (K : D → Prop) : Prop where
  go : 0 ≤ i ∧ ∃ x, xs[i.toNat]? = some x ∧ K x
structure Either (p x y : Prop) : Prop where
  go : (p ∧ x) ∨ y

/-! ### The state -/
def sl0 : Sl := ⟨.any, .none, 0⟩
def sget : AS → Nat → Sl
  | [], _ => sl0
  | s :: _, 0 => s
  | _ :: r, n + 1 => sget r n
def setAV : AS → Nat → AV → AS
  | [], _, _ => []
  | s :: r, 0, v => ⟨v, s.box, s.ver⟩ :: r
  | s :: r, n + 1, v => s :: setAV r n v
def setBox : AS → Nat → Body → Nat → AS
  | [], _, _, _ => []
  | s :: r, 0, b, n => ⟨s.av, b, n⟩ :: r
  | s :: r, k + 1, b, n => s :: setBox r k b n

/-! ### Operands -/
inductive RV where
  | any
  | bot
  | d (x : D)
  | lim (sz : Nat) (xs : List D)
  | cptr (cs : List D)
  | vptr (id ver off : Nat) (cs : List D)
  | row (id ver sz : Nat) (e : TypeId) (xs : List D)
  | eptr (id ver sz : Nat) (e : TypeId) (xs : List D) (i off : Nat)
  | tup (xs : List D)

def cval : Value → AV
  | .int k n => .d (.int k n)
  | .bool b => .d (.bool b)
  | .string s => .d (.str s)
  | .slice none 0 0 => .lim 0 []
  | _ => .any
def ev (S : AS) : Operand → AV
  | .tmp t => (sget S t).av
  | .const v => cval v
  | .func f => .d (.func f)
  | .global _ => .any
/-- An operand as an operation under the guard g sees it. -/
def unw (g : Option (Nat × Bool)) : AV → AV
  | .under t w y => match g with
    | some (t', w') => if t = t' ∧ w = w' then y else .any
    | none => .any
  | x => x
def res (S : AS) : AV → RV
  | .any => .any
  | .bot => .bot
  | .d x => .d x
  | .lim sz xs => .lim sz xs
  | .cptr cs => .cptr cs
  | .tup xs => .tup xs
  | .ptr id n o => match sget S id with
    | ⟨_, .var cs, m⟩ => if n = m then .vptr id n o cs else .any
    | ⟨_, .fvar cs, m⟩ => if n = m then .cptr (cs.drop o) else .any
    | _ => .any
  | .sl id n => match sget S id with
    | ⟨_, .row sz e xs, m⟩ => if n = m then .row id n sz e xs else .any
    | ⟨_, .frow sz xs, m⟩ => if n = m then .d (.list sz xs) else .any
    | _ => .any
  | .eptr id n sz i o => match sget S id with
    | ⟨_, .row sz' e xs, m⟩ => if n = m ∧ sz = sz' then .eptr id n sz e xs i o else .any
    | _ => .any
  | .own _ _ _ => .any
  | .under _ _ _ => .any

end Go.Abs
