/-
  The abstract machine: the operations, the code.
-/
import Derived.Test.YtejfnieiaecpkaaGreatDoorAbs
set_option linter.unusedVariables false
set_option linter.unusedSimpArgs false
namespace Go.Abs

/-- An effect: the slot's value; boxes, each with its version; of those: which must be new. -/
structure Eff where
  av : AV
  bx : List (Nat × Body × Nat)
  homes : List (Nat × Nat)

abbrev Bx := List (Nat × Body × Nat)

def back : RV → AV
  | .any => .any
  | .bot => .bot
  | .d x => .d x
  | .lim sz xs => .lim sz xs
  | .vptr id n o _ => .ptr id n o
  | .row id n _ _ _ => .sl id n
  | .eptr id n sz _ _ i o => .eptr id n sz i o
  | .tup xs => .tup xs
  | .mp id n _ => .sl id n
  | .cagg xs => .cc none xs
  | .cfun f cs => .cc (some f) cs
  | .clo f cs _ _ _ _ _ => .cc (some f) cs

/-! ### To be evaluated -/
def forceN : Nat → (Nat → Prop) → Prop
  | 0, K => K 0
  | n + 1, K => forceN n fun m => K (m + 1)
def forceAV (v : AV) (K : AV → Prop) : Prop :=
  match v with
  | .any => K .any
  | .bot => K .bot
  | .d x => K (.d x)
  | .lim sz xs => K (.lim sz xs)
  | .ptr id n o => forceN n fun n => forceN o fun o => K (.ptr id n o)
  | .sl id n => forceN n fun n => K (.sl id n)
  | .eptr id n sz i o => forceN n fun n => forceN sz fun sz => forceN o fun o => K (.eptr id n sz i o)
  | .tup xs => K (.tup xs)
  | .own sz e xs => K (.own sz e xs)
  | .optr cs => K (.optr cs)
  | .under t w x => match x with
    | .any => K (.under t w .any)
    | .d x => K (.under t w (.d x))
    | .ptr id n o => forceN n fun n => forceN o fun o => K (.under t w (.ptr id n o))
    | .sl id n => forceN n fun n => K (.under t w (.sl id n))
    | .eptr id n sz i o => forceN n fun n => forceN sz fun sz => forceN o fun o => K (.under t w (.eptr id n sz i o))
    | x => K (.under t w x)
  | .cc k xs => K (.cc k xs)
def forceB (b : Body) (K : Body → Prop) : Prop :=
  match b with
  | .none => K .none
  | .var cs => K (.var cs)
  | .row sz e xs => forceN sz fun sz => K (.row sz e xs)
  | .fvar cs => K (.fvar cs)
  | .frow sz xs => forceN sz fun sz => K (.frow sz xs)
  | .map es => K (.map es)
def forceS {α : Type} : List α → (List α → Prop) → Prop
  | [], K => K []
  | x :: r, K => forceS r fun r => K (x :: r)

def splice {α : Type} : List α → Nat → List α → List α
  | cs, 0, ys => ys ++ cs.drop ys.length
  | [], _ + 1, _ => []
  | c :: cs, n + 1, ys => c :: splice cs n ys

/-! ### Data -/
/-- A nil slice as a list. -/
def normC : List D → (List D → Prop) → Prop
  | [], K => K []
  | x :: r, K => normC r fun r => match x with
    | .nil s => K (.list s [] :: r)
    | x => K (x :: r)
def normK (x : D) (K : D → Prop) : Prop :=
  match x with
  | .nil s => K (.list s [])
  | .agg xs => normC xs fun l => K (.agg l)
  | x => K x
/-- As data: a row of the frame's own is given up for that. -/
def asD (r : RV) (K : D → Bx → Prop) : Prop :=
  match r with
  | .d x => K x []
  | .lim sz xs => K (.list sz xs) []
  | .row id n sz _ xs => K (.list sz xs) [(id, .frow sz xs, n)]
  | _ => False
def asN (r : RV) (K : D → Bx → Prop) : Prop := asD r fun x b => normK x fun x => K x b
/-- The cells of a variable of the frame's own, as data. -/
def cellsK (σ : Nat → Nat → RV) : List C → (List D → Bx → Prop) → Prop
  | [], K => K [] []
  | .d x :: r, K => cellsK σ r fun l b => K (x :: l) b
  | .sl id n :: r, K => asD (σ id n) fun x b => cellsK σ r fun l b' => K (x :: l) (b ++ b')
  | .own _ _ _ :: _, _ => False
def toC : List D → (List C → Prop) → Prop
  | [], K => K []
  | x :: r, K => toC r fun r => K (.d x :: r)

def zD : Value → Option D
  | .int k n => some (.int k n)
  | .bool b => some (.bool b)
  | .string s => some (.str s)
  | .slice none 0 0 => some (.nil 0)
  | _ => none
def zDs : List Value → Option (List D)
  | [] => some []
  | v :: r => match zD v, zDs r with
    | some x, some l => some (x :: l)
    | _, _ => none
def sizeT (P : Program) (t : TypeId) : Nat := match P.info? t with | some i => i.size | none => 0
def bytesT (P : Program) (t : TypeId) : Nat := match P.info? t with | some i => i.bytes | none => 0
/-- For each cell of a type: of what size a slice's elements are. -/
def cellSizes (P : Program) : Nat → TypeId → List Nat
  | 0, _ => []
  | n + 1, t => match P.underlying t with
    | some (.slice e) => [sizeT P e]
    | some (.struct fs) => fs.toList.flatMap fun f => cellSizes P n f.type
    | some (.array k e) => (List.replicate k e).flatMap fun e => cellSizes P n e
    | _ => [0]
def withSizes : List D → List Nat → List D
  | .nil _ :: r, s :: q => .nil s :: withSizes r q
  | x :: r, _ :: q => x :: withSizes r q
  | l, _ => l
/-- The cells of a type's zero. -/
def zeroCells (P : Program) (t : TypeId) : Option (List D) :=
  match P.info? t with
  | some i => match i.zero with
    | some z => match zDs z.cells.toList with
      | some l => some (withSizes l (cellSizes P 12 t))
      | none => none
    | none => none
  | none => none

def aggT (P : Program) (t : TypeId) : Option Bool :=
  match P.underlying t with
  | some (.struct _) | some (.array _ _) => some true
  | some _ => some false
  | none => none

/-- A variable of type t that begins with these cells. -/
def ldD (P : Program) (t : TypeId) (cs : List D) (K : D → Prop) : Prop :=
  match aggT P t with
  | some true => match P.info? t with
    | some i => forceS (cs.take i.size) fun l => if l.length = i.size then K (.agg l) else False
    | none => False
  | some false => match cs with
    | y :: _ => K y
    | [] => False
  | none => False
def ldC (P : Program) (σ : Nat → Nat → RV) (t : TypeId) (cs : List C) (K : Eff → Prop) : Prop :=
  match aggT P t with
  | some true => match P.info? t with
    | some i => forceS (cs.take i.size) fun l => if l.length = i.size then cellsK σ l fun l b => K ⟨.d (.agg l), b, []⟩ else False
    | none => False
  | some false => match cs with
    | .d y :: _ => K ⟨.d y, [], []⟩
    | .sl id n :: _ => K ⟨.sl id n, [], []⟩
    | _ => False
  | none => False

def arith (op : BinOp) (k : IntKind) (a b : Int) (K : D → Prop) : Prop :=
  match op with
  | .add => K (.int k (k.wrap (a + b)))
  | .sub => K (.int k (k.wrap (a - b)))
  | .mul => K (.int k (k.wrap (a * b)))
  | .quo => Need (b ≠ 0) (K (.int k (k.wrap (a.tdiv b))))
  | .rem => Need (b ≠ 0) (K (.int k (a.tmod b)))
  | .and => K (.int k (k.wrap (BitVec.ofInt k.bits a &&& BitVec.ofInt k.bits b).toNat))
  | .or => K (.int k (k.wrap (BitVec.ofInt k.bits a ||| BitVec.ofInt k.bits b).toNat))
  | .xor => K (.int k (k.wrap (BitVec.ofInt k.bits a ^^^ BitVec.ofInt k.bits b).toNat))
  | .andNot => K (.int k (k.wrap (BitVec.ofInt k.bits a &&& ~~~ BitVec.ofInt k.bits b).toNat))
  | .eql => K (.bool (a == b))
  | .neq => K (.bool (a != b))
  | .lss => K (.bool (decide (a < b)))
  | .leq => K (.bool (decide (a ≤ b)))
  | .gtr => K (.bool (decide (a > b)))
  | .geq => K (.bool (decide (a ≥ b)))
  | _ => False
def shiftD (op : BinOp) (k : IntKind) (a b : Int) (K : D → Prop) : Prop :=
  match op with
  | .shl => Need (0 ≤ b) (K (.int k (k.wrap (a * 2 ^ (min b.toNat k.bits)))))
  | .shr => Need (0 ≤ b) (K (.int k (a.fdiv (2 ^ (min b.toNat k.bits)))))
  | _ => False
def eqOK (P : Program) (t : TypeId) (fs : List Field) (n m : Nat) : Bool :=
  !P.stoodInHeld t && fs.all fun f => !(f.name == "_") && ((P.info? f.type).isSome && (decide (f.offset + sizeT P f.type ≤ n) && decide (f.offset + sizeT P f.type ≤ m)))
/-- Two variables of type t, from these cells on: are they equal? (Integers, bools, strings, structs of such.) -/
def eqC (P : Program) : Nat → TypeId → List D → List D → (Bool → Prop) → Prop
  | 0, _, _, _, _ => False
  | n + 1, t, xs, ys, K => match P.underlying t with
    | some (.int _) => match xs, ys with
      | .int k a :: _, .int k' b :: _ => if k = k' then K (a == b) else False
      | _, _ => False
    | some .bool => match xs, ys with
      | .bool a :: _, .bool b :: _ => K (a == b)
      | _, _ => False
    | some .string => match xs, ys with
      | .str a :: _, .str b :: _ => K (a.toList == b.toList)
      | _, _ => False
    | some (.struct fs) => Need (eqOK P t fs.toList xs.length ys.length = true)
      (List.rec (motive := fun _ => (Bool → Prop) → Prop) (fun K => K true)
        (fun f _ ih K => eqC P n f.type ((xs.drop f.offset).take (sizeT P f.type)) ((ys.drop f.offset).take (sizeT P f.type)) fun a => ih fun b => K (a && b)) fs.toList K)
    | _ => False
def isBool (P : Program) (t : TypeId) : Bool := match P.underlying t with | some .bool => true | _ => false
def strD (op : BinOp) (a b : ByteArray) (K : D → Prop) : Prop :=
  match op with
  | .add => Need (a.size + b.size ≤ 9223372036854775807) (K (.str (a ++ b)))
  | .eql => K (.bool (a.toList == b.toList))
  | .neq => K (.bool (!(a.toList == b.toList)))
  | .lss => K (.bool (Op.bytesLess a.toList b.toList))
  | .leq => K (.bool (Op.bytesLess a.toList b.toList || a.toList == b.toList))
  | .gtr => K (.bool (!(Op.bytesLess a.toList b.toList || a.toList == b.toList)))
  | .geq => K (.bool (!(Op.bytesLess a.toList b.toList)))
  | _ => False
def binD (P : Program) (t : TypeId) (op : BinOp) (x y : D) (K : D → Prop) : Prop :=
  match x, y with
  | .int k a, .int k' b => match op with
    | .shl => shiftD .shl k a b K
    | .shr => shiftD .shr k a b K
    | op => if k = k' then arith op k a b K else False
  | .str a, .str b => strD op a b K
  | .bool a, .bool b => match isBool P t with
    | true => match op with
      | .eql => K (.bool (a == b))
      | .neq => K (.bool (!(a == b)))
      | _ => False
    | false => False
  | .agg xs, .agg ys => Need (P.eqGuardType P.depth t = false ∧ aggT P t = some true) (match op with
    | .eql => eqC P 12 t xs ys fun b => K (.bool b)
    | .neq => eqC P 12 t xs ys fun b => K (.bool !b)
    | _ => False)
  | _, _ => False
def unD (op : UnOp) (x : D) (K : D → Prop) : Prop :=
  match op, x with
  | .not, .bool b => K (.bool !b)
  | .neg, .int k n => K (.int k (k.wrap (0 - n)))
  | .xor, .int k n => K (.int k (k.wrap (BitVec.ofInt k.bits (if k.signed then -1 else k.max) ^^^ BitVec.ofInt k.bits n).toNat))
  | _, _ => False

/-! ### Arguments and results -/
def argOf (σ : Nat → Nat → RV) (r : RV) (K : AV → Bx → Prop) : Prop :=
  match r with
  | .any => K .any []
  | .d x => normK x fun x => K (.d x) []
  | .lim sz xs => K (.d (.list sz xs)) []
  | .vptr id n o cs => cellsK σ cs fun l b => normC l fun l => forceS (l.drop o) fun l' => K (.d (.ptr l')) (b ++ [(id, .fvar l, n)])
  | .row id n sz _ xs => K (.d (.list sz xs)) [(id, .frow sz xs, n)]
  | .eptr id n sz _ xs i o => At xs i fun x => forceS (x.cells.drop o) fun l => K (.d (.ptr l)) [(id, .frow sz xs, n)]
  | _ => False
def isNilC : Operand → Bool
  | .const (.slice none 0 0) => true
  | _ => false
def nilOf (P : Program) (t : TypeId) (K : AV → Prop) : Prop :=
  match P.underlying t with
  | some (.slice e) => K (.d (.list (sizeT P e) []))
  | _ => False
def argsOf (P : Program) (σ : Nat → Nat → RV) (ρ : Operand → RV) : List Operand → List TypeId → (List AV → Bx → Prop) → Prop
  | [], _, K => K [] []
  | x :: r, ts, K => match isNilC x with
    | true => match ts with
      | t :: ts => nilOf P t fun v => argsOf P σ ρ r ts fun vs bs => K (v :: vs) bs
      | [] => False
    | false => argOf σ (ρ x) fun v b => argsOf P σ ρ r ts.tail fun vs bs => K (v :: vs) (b ++ bs)
/-- The same, rows and variables of the frame's own handed over. -/
def margOf (σ : Nat → Nat → RV) (r : RV) (K : AV → Bx → Option (Nat × Nat) → Prop) : Prop :=
  match r with
  | .row id n sz e xs => K (.own sz e xs) [] (some (id, n))
  | .vptr id n 0 cs => cellsK σ cs fun l b => normC l fun l => K (.optr l) b (some (id, n))
  | r => argOf σ r fun v b => K v b none
def margsOf (P : Program) (σ : Nat → Nat → RV) (ρ : Operand → RV) : List Operand → List TypeId → (List AV → Bx → List (Option (Nat × Nat)) → Prop) → Prop
  | [], _, K => K [] [] []
  | x :: r, ts, K => match isNilC x with
    | true => match ts with
      | t :: ts => nilOf P t fun v => margsOf P σ ρ r ts fun vs bs us => K (v :: vs) bs (none :: us)
      | [] => False
    | false => margOf σ (ρ x) fun v b u => margsOf P σ ρ r ts.tail fun vs bs us => K (v :: vs) (b ++ bs) (u :: us)

def capsK : List D → (List AV → Prop) → Prop
  | [], K => K []
  | x :: r, K => capsK r fun r => K (.d x :: r)

/-- A result that shares no memory with anything. -/
def C.bare : C → Bool
  | .d (.agg xs) => xs.all D.bare
  | .d x => x.bare
  | .own _ _ _ => true
  | .sl _ _ => false
def AV.bare : AV → Bool
  | .d (.agg xs) => xs.all D.bare
  | .d x => x.bare
  | .tup xs => xs.all C.bare
  | .own _ _ _ => true
  | _ => false
def lentB (r : AV) (lent : Bx) (K : Bx → Prop) : Prop :=
  match lent with
  | [] => K []
  | l => match r.bare with
    | true => K []
    | false => K l
def notIn (id : Nat) : Bx → Bool
  | [] => true
  | x :: r => decide (x.1 ≠ id) && notIn id r
/-- The rows of a tuple, each at its place. -/
def homeK : List C → List (Nat × Nat) → (List C → Bx → Prop) → Prop
  | [], [], K => K [] []
  | .d x :: r, hs, K => homeK r hs fun l b => K (.d x :: l) b
  | .own sz e xs :: r, (h, n) :: hs, K => homeK r hs fun l b => if notIn h b = true then K (.sl h n :: l) ((h, .row sz e xs, n) :: b) else False
  | _, _, _ => False
def hasOwn : List C → Bool
  | [] => false
  | .own _ _ _ :: _ => true
  | _ :: r => hasOwn r
/-- What the result is to the caller, who holds it in slot d. 'b': what has been given up or written for it. -/
def got (d dv : Nat) (r : AV) (b : Bx) (K : Eff → Prop) : Prop :=
  match r with
  | .own sz e xs => if notIn d b = true then K ⟨.sl d (dv + 1), b ++ [(d, .row sz e xs, dv + 1)], []⟩ else False
  | .optr cs => if notIn d b = true then toC cs fun l => K ⟨.ptr d (dv + 1) 0, b ++ [(d, .var l, dv + 1)], []⟩ else False
  | .tup xs => match hasOwn xs with
    | false => K ⟨.tup xs, b, []⟩
    | true => Homes fun hs => homeK xs hs fun l hb => if hb.all (fun h => notIn h.1 b) = true then K ⟨.tup l, b ++ hb, hs⟩ else False
  | .under _ _ _ | .ptr _ _ _ | .sl _ _ | .eptr _ _ _ _ _ | .cc _ _ => False
  | r => K ⟨r, b, []⟩
/-- What was handed over, behind the call. -/
def outsK : List (Option (Nat × Nat)) → List AV → (Bx → Prop) → Prop
  | [], [], K => K []
  | none :: us, _ :: os, K => outsK us os K
  | some (id, n) :: us, .own sz e ys :: os, K => outsK us os fun b => if notIn id b = true then K ((id, .row sz e ys, n) :: b) else False
  | some (id, n) :: us, .optr cs :: os, K => toC cs fun l => outsK us os fun b => if notIn id b = true then K ((id, .var l, n) :: b) else False
  | some (id, n) :: us, .any :: os, K => outsK us os fun b => if notIn id b = true then K ((id, .none, n + 1) :: b) else False
  | _, _, _ => False

def listOf (r : RV) (K : Nat → List D → Prop) : Prop :=
  match r with
  | .d (.list sz xs) => K sz xs
  | .d (.nil sz) => K sz []
  | .lim sz xs => K sz xs
  | .row _ _ sz _ xs => K sz xs
  | _ => False

def partsD (ρ : Operand → RV) : List (Nat × Operand) → (List (Nat × D) → Bx → Prop) → Prop
  | [], K => K [] []
  | (i, x) :: r, K => asD (ρ x) fun v b => partsD ρ r fun vs bs => K ((i, v) :: vs) (b ++ bs)
def partsN (ρ : Operand → RV) : List (Nat × Operand) → (List (Nat × D) → Bx → Prop) → Prop
  | [], K => K [] []
  | (i, x) :: r, K => asN (ρ x) fun v b => partsN ρ r fun vs bs => K ((i, v) :: vs) (b ++ bs)
def fillD (place : Nat → Option (Nat × Nat)) (cells : List D) : List (Nat × D) → Option (List D)
  | [] => some cells
  | (i, v) :: rest => match place i with
    | none => none
    | some (off, size) => if v.cells.length = size ∧ off + v.cells.length ≤ cells.length then fillD place (splice cells off v.cells) rest else none
/-- Parts of which some are rows of the frame's own. -/
def rowIn (ρ : Operand → RV) : List (Nat × Operand) → Bool
  | [] => false
  | (_, x) :: r => match ρ x with
    | .row _ _ _ _ _ => true
    | _ => rowIn ρ r
def cellsOf (r : RV) (K : List C → Prop) : Prop :=
  match r with
  | .row id n _ _ _ => K [.sl id n]
  | .d v => toC v.cells K
  | .lim sz xs => K [.d (.list sz xs)]
  | _ => False
def partsC (ρ : Operand → RV) : List (Nat × Operand) → (List (Nat × List C) → Prop) → Prop
  | [], K => K []
  | (i, x) :: r, K => cellsOf (ρ x) fun c => partsC ρ r fun ps => K ((i, c) :: ps)
def fillC (place : Nat → Option (Nat × Nat)) (cells : List C) : List (Nat × List C) → Option (List C)
  | [] => some cells
  | (i, v) :: rest => match place i with
    | none => none
    | some (off, size) => if v.length = size ∧ off + v.length ≤ cells.length then fillC place (splice cells off v) rest else none
def inOrder : Nat → List (Nat × D) → Option (List D)
  | _, [] => some []
  | n, (i, v) :: r => if i = n then (inOrder (n + 1) r).map (v :: ·) else none
/-- What a function value catches. -/
def catchK (σ : Nat → Nat → RV) (ρ : Operand → RV) : List Operand → (List D → Bx → Prop) → Prop
  | [], K => K [] []
  | x :: r, K => argOf σ (ρ x) fun v b => match v with
    | .d y => if y.one = true then catchK σ ρ r fun l bs => K (y :: l) (b ++ bs) else False
    | _ => False

/-- Does it catch a variable with a slice of the frame's own? -/
def ownVar (r : RV) : Option (Nat × Nat) :=
  match r with
  | .vptr id n 0 [.sl _ _] => some (id, n)
  | .vptr id n 0 [.d (.nil _)] => some (id, n)
  | _ => none
def ownIn (ρ : Operand → RV) : List Operand → Bool
  | [] => false
  | x :: r => match ownVar (ρ x) with
    | some _ => true
    | none => ownIn ρ r
def catchC (σ : Nat → Nat → RV) (ρ : Operand → RV) : List Operand → (List C → Bx → Prop) → Prop
  | [], K => K [] []
  | x :: r, K => match ownVar (ρ x) with
    | some (id, n) => catchC σ ρ r fun l bs => K (.sl id n :: l) bs
    | none => argOf σ (ρ x) fun v b => match v with
      | .d y => if y.one = true then catchC σ ρ r fun l bs => K (.d y :: l) (b ++ bs) else False
      | _ => False
def capAV : List C → List AV
  | [] => []
  | .d x :: r => .d x :: capAV r
  | _ :: r => .any :: capAV r

def hasZero (P : Program) (t : TypeId) : Bool := match P.info? t with | some i => (match i.zero with | some z => decide (z.cells.size = i.size) | none => false) | none => false
/-- The zero of an element's type. -/
def zeroE (P : Program) (t : TypeId) (K : D → Prop) : Prop :=
  match zeroCells P t with
  | some l => match aggT P t with
    | some true => normC l fun l => K (.agg l)
    | some false => match l with
      | [x] => normK x K
      | _ => False
    | none => False
  | none => False

def ixK (ρ : Operand → RV) (x : Option Operand) (dflt : Int) (K : Int → Prop) : Prop :=
  match x with
  | none => K dflt
  | some x => match ρ x with
    | .d (.int _ i) => K i
    | _ => False
def cut {α : Type} (xs : List α) (l h : Int) : List α := (xs.drop l.toNat).take (h.toNat - l.toNat)
def sliceK (ρ : Operand → RV) (sz : Nat) (xs : List D) (lo hi mx : Option Operand) (b : Bx) (K : Eff → Prop) : Prop :=
  ixK ρ lo 0 fun l => ixK ρ hi xs.length fun h => match mx with
    | none => Need (0 ≤ l ∧ l ≤ h ∧ h ≤ xs.length) (K ⟨.d (.list sz (cut xs l h)), b, []⟩)
    | some m => if hi.isNone = true then False else match ρ m with
      | .d (.int _ m) => Need (0 ≤ l ∧ l ≤ h ∧ h ≤ xs.length ∧ m = h) (K ⟨.lim sz (cut xs l h), b, []⟩)
      | _ => False

def byteAt (s : ByteArray) (i : Int) : Int := ((s.data.toList.getD i.toNat 0).toNat : Int)
def bytesOf (s : ByteArray) : List Int := s.data.toList.map fun b => (b.toNat : Int)

/-- Keys of one kind. -/
def keyKind : D → D → Bool
  | .int k _, .int k' _ => decide (k = k')
  | .str _, .str _ => true
  | _, _ => false
def keyEq : D → D → Bool
  | .int _ a, .int _ b => a == b
  | .str a, .str b => a == b
  | _, _ => false
/-- The place of a key. -/
def idxD (k : D) : List (D × D) → Option Nat
  | [] => none
  | p :: r => bif keyEq k p.1 then some 0 else (idxD k r).map (· + 1)
def findD (k : D) : List (D × D) → Option D
  | [] => none
  | p :: r => bif keyEq k p.1 then some p.2 else findD k r
def updD (k v : D) : List (D × D) → List (D × D)
  | [] => [(k, v)]
  | p :: r => bif keyEq k p.1 then (k, v) :: r else p :: updD k v r

def kdOf : D → Option TypeDesc
  | .int j _ => some (.int j)
  | .str _ => some .string
  | _ => none
def zeroS (P : Program) (t : TypeId) : Option D := match P.info? t with
  | some i => match i.zero with
    | some z => zD z
    | none => none
  | none => none
structure LookStop (r : Option D) (z : D) (K : D → Bool → Prop) : Prop where
  go : ∃ v b, r.getD z = v ∧ r.isSome = b ∧ K v b
/-- A look into a map of the frame's own. -/
def lookK (P : Program) (kt et : TypeId) (x ix : RV) (ok : Bool) (K : Eff → Prop) : Prop :=
  match x with
  | .mp _ _ es => match ix with
    | .d q => match kdOf q with
      | some kd => Need (P.underlying kt = some kd ∧ ∀ p ∈ es, keyKind q p.1 = true) (match zeroS P et with
        | some z => LookStop (findD q es) z fun v b => match ok with
          | true => K ⟨.tup [.d v, .d (.bool b)], [], []⟩
          | false => K ⟨.d v, [], []⟩
        | none => False)
      | none => False
    | _ => False
  | _ => False
def updK (P : Program) (kt : TypeId) (m k x : RV) (K : Eff → Prop) : Prop :=
  match m with
  | .mp id n es => match k with
    | .d q => match x with
      | .d y => match kdOf q with
        | some kd => Need (y.bare = true ∧ P.underlying kt = some kd ∧ ∀ p ∈ es, keyKind q p.1 = true) (K ⟨.any, [(id, .map (updD q y es), n)], []⟩)
        | none => False
      | _ => False
    | _ => False
  | _ => False

/-- The operation's effect. ρ: the operands (behind a guard); σ: the slices of boxes; d, dv: the slot that it writes, and its box's version. -/
def yA (P : Program) (σ : Nat → Nat → RV) (ρ : Option (Nat × Bool) → Operand → RV) (g : Option (Nat × Bool)) (o : Oper) (d dv : Nat) (K : Eff → Prop) : Prop :=
  match o.op with
  | .move x => K ⟨back (ρ g x), [], []⟩
  | .assign x => match isNilC x with
    | true => match P.underlying o.type with
      | some (.slice e) => if 0 < sizeT P e then K ⟨.sl d (dv + 1), [(d, .row (sizeT P e) e [], dv + 1)], []⟩ else False
      | _ => False
    | false => K ⟨back (ρ g x), [], []⟩
  | .pick (.tmp t) a b => match ρ g (.tmp t) with
    | .bot => K ⟨.bot, [], []⟩
    | .d (.bool c) => match ρ (some (t, true)) a with
      | .bot => match ρ (some (t, false)) b with
        | .d (.bool y) => K ⟨.d (.bool y), [], []⟩
        | _ => False
      | .d (.bool x) => match ρ (some (t, false)) b with
        | .bot => K ⟨.d (.bool x), [], []⟩
        | .d (.bool y) => K ⟨.d (.bool (bif c then x else y)), [], []⟩
        | _ => False
      | _ => False
    | _ => False
  | .box _ x => match ρ g x with
    | .row id n _ _ _ => K ⟨.ptr d (dv + 1) 0, [(d, .var [.sl id n], dv + 1)], []⟩
    | .cagg l => K ⟨.ptr d (dv + 1) 0, [(d, .var l, dv + 1)], []⟩
    | r => asD r fun v b => toC v.cells fun l => K ⟨.ptr d (dv + 1) 0, b ++ [(d, .var l, dv + 1)], []⟩
  | .alloc t => match zeroCells P t with
    | some l => toC l fun l => K ⟨.ptr d (dv + 1) 0, [(d, .var l, dv + 1)], []⟩
    | none => False
  | .build t parts => match P.underlying t with
    | some (.struct fields) => match zeroCells P t with
      | some z => if fields.toList.all (fun f => (P.info? f.type).isSome) then
        match rowIn (ρ g) parts.toList with
        | false => partsD (ρ g) parts.toList fun ps b =>
          match fillD (fun i => match fields[i]? with | some f => some (f.offset, sizeT P f.type) | none => none) z ps with
          | some l => forceS l fun l => K ⟨.d (.agg l), b, []⟩
          | none => False
        | true => Either (partsD (ρ g) parts.toList fun ps b =>
          match fillD (fun i => match fields[i]? with | some f => some (f.offset, sizeT P f.type) | none => none) z ps with
          | some l => forceS l fun l => K ⟨.d (.agg l), b, []⟩
          | none => False)
          (toC z fun zc => partsC (ρ g) parts.toList fun ps => match fillC (fun i => match fields[i]? with | some f => some (f.offset, sizeT P f.type) | none => none) zc ps with
            | some l => forceS l fun l => K ⟨.cc none l, [], []⟩
            | none => False)
        else False
      | none => False
    | _ => False
  | .buildSlice t n parts => match P.underlying t with
    | some (.slice e) => partsN (ρ g) parts.toList fun ps b => match inOrder 0 ps with
      | some l => forceS l fun l =>
        if l.length = n ∧ 0 < sizeT P e ∧ hasZero P e = true ∧ n * sizeT P e ≤ 16777216 ∧ l.all (fun x => x.cells.length == sizeT P e) then K ⟨.sl d (dv + 1), b ++ [(d, .row (sizeT P e) e l, dv + 1)], []⟩ else False
      | none => False
    | _ => False
  | .makeSlice t l c => match P.underlying t with
    | some (.slice e) => match ρ g l with
      | .d (.int _ l) => match ρ g c with
        | .d (.int _ c) => if 0 < sizeT P e ∧ hasZero P e = true then zeroE P e fun z =>
            Need (0 ≤ l ∧ l ≤ c ∧ c ≤ maxLen ∧ (bytesT P e : Int) * c ≤ 281474976710656) (K ⟨.sl d (dv + 1), [(d, .row (sizeT P e) e (List.replicate l.toNat z), dv + 1)], []⟩) else False
        | _ => False
      | _ => False
    | _ => False
  | .makeFunc (.func f) first caps => match first.toList with
    | [] => match ownIn (ρ g) caps.toList with
      | false => catchK σ (ρ g) caps.toList fun l b => K ⟨.d (.fn f l), b, []⟩
      | true => Either (catchK σ (ρ g) caps.toList fun l b => K ⟨.d (.fn f l), b, []⟩) (catchC σ (ρ g) caps.toList fun l b => K ⟨.cc (some f) l, b, []⟩)
    | _ => False
  | .load t a => match ρ g a with
    | .bot => K ⟨.bot, [], []⟩
    | .vptr _ _ o cs => ldC P σ t (cs.drop o) K
    | .d (.ptr cs) => ldD P t cs fun x => K ⟨.d x, [], []⟩
    | .eptr _ _ _ _ xs i o => At xs i fun x => ldD P t (x.cells.drop o) fun x => K ⟨.d x, [], []⟩
    | _ => False
  | .store t a x => if (P.info? t).isSome = true then match ρ g a with
    | .vptr id n o cs => match aggT P t with
      | some true => match ρ g x with
        | .cagg l => if l.length = sizeT P t ∧ o + l.length ≤ cs.length then forceS (splice cs o l) fun l => K ⟨.any, [(id, .var l, n)], []⟩ else False
        | r => asD r fun v b =>
          if v.cells.length = sizeT P t ∧ o + v.cells.length ≤ cs.length then toC v.cells fun l => forceS (splice cs o l) fun l => K ⟨.any, b ++ [(id, .var l, n)], []⟩ else False
      | some false => if sizeT P t = 1 ∧ o < cs.length then match ρ g x with
          | .row id' n' _ _ _ => forceS (splice cs o [.sl id' n']) fun l => K ⟨.any, [(id, .var l, n)], []⟩
          | r => asD r fun v b => if v.one = true then forceS (splice cs o [.d v]) fun l => K ⟨.any, b ++ [(id, .var l, n)], []⟩ else False
        else False
      | none => False
    | .eptr id n sz e xs i o => asN (ρ g x) fun v b => At xs i fun y =>
      if v.cells.length = sizeT P t ∧ o + v.cells.length ≤ y.cells.length ∧ notIn id b = true then
        match y with
        | .agg cs => forceS (splice cs o v.cells) fun l => K ⟨.any, b ++ [(id, .row sz e (xs.set i (.agg l)), n)], []⟩
        | _ => if v.one then K ⟨.any, b ++ [(id, .row sz e (xs.set i v), n)], []⟩ else False
      else False
    | _ => False
    else False
  | .nilCheck x => match ρ g x with
    | .vptr id n o _ => K ⟨.ptr id n o, [], []⟩
    | .d (.ptr cs) => K ⟨.d (.ptr cs), [], []⟩
    | .d (.fn f cs) => K ⟨.d (.fn f cs), [], []⟩
    | .eptr id n sz _ _ i o => K ⟨.eptr id n sz i o, [], []⟩
    | _ => False
  | .binOp op t x y _ => match ρ g x with
    | .bot => K ⟨.bot, [], []⟩
    | .d a => match ρ g y with
      | .bot => K ⟨.bot, [], []⟩
      | .d b => binD P t op a b fun x => K ⟨.d x, [], []⟩
      | _ => False
    | _ => False
  | .unOp op _ x => match ρ g x with
    | .bot => K ⟨.bot, [], []⟩
    | .d a => unD op a fun x => K ⟨.d x, [], []⟩
    | _ => False
  | .convert s t x => match P.underlying s with
    | some _ => match P.underlying t with
      | some (.int k) => match ρ g x with
        | .bot => K ⟨.bot, [], []⟩
        | .d (.int _ n) => K ⟨.d (.int k (k.wrap n)), [], []⟩
        | _ => False
      | some .string => match ρ g x with
        | .bot => K ⟨.bot, [], []⟩
        | .d (.str s) => K ⟨.d (.str s), [], []⟩
        | _ => False
      | some (.slice e) => match P.underlying e with
        | some (.int .u8) => match ρ g x with
          | .bot => K ⟨.bot, [], []⟩
          | .d (.str s) => K ⟨.d (.list 1 ((bytesOf s).map (D.int .u8))), [], []⟩
          | _ => False
        | _ => False
      | _ => False
    | none => False
  | .fieldAddr s x f => match P.underlying s with
    | some (.struct fields) => match fields[f]? with
      | some fd => if 0 < sizeT P fd.type then match ρ g x with
          | .bot => K ⟨.bot, [], []⟩
          | .vptr id n o _ => K ⟨.ptr id n (o + fd.offset), [], []⟩
          | .d (.ptr cs) => forceS (cs.drop fd.offset) fun l => K ⟨.d (.ptr l), [], []⟩
          | .eptr id n sz _ _ i o => K ⟨.eptr id n sz i (o + fd.offset), [], []⟩
          | _ => False
        else False
      | none => False
    | _ => False
  | .field s x f => match P.underlying s with
    | some (.struct fields) => match fields[f]? with
      | some fd => match ρ g x with
          | .bot => K ⟨.bot, [], []⟩
          | .d (.agg cs) => ldD P fd.type (cs.drop fd.offset) fun x => K ⟨.d x, [], []⟩
          | _ => False
      | none => False
    | _ => False
  | .indexAddr t x ix => match P.underlying t with
    | some (.slice e) => match ρ g ix with
      | .d (.int _ i) => match ρ g x with
        | .d (.list sz xs) => if sz = sizeT P e ∧ 0 < sz then At xs i fun x => forceS x.cells fun l => K ⟨.d (.ptr l), [], []⟩ else False
        | .lim sz xs => if sz = sizeT P e ∧ 0 < sz then At xs i fun x => forceS x.cells fun l => K ⟨.d (.ptr l), [], []⟩ else False
        | .row id n sz _ xs => if sz = sizeT P e then Need (0 ≤ i ∧ i.toNat < xs.length) (K ⟨.eptr id n sz i.toNat 0, [], []⟩) else False
        | _ => False
      | _ => False
    | some (.array n e) => match ρ g ix with
      | .d (.int _ i) => match ρ g x with
        | .d (.ptr cs) => if sizeT P e = 1 then Need (i < n) (At cs i fun y => K ⟨.d (.ptr [y]), [], []⟩) else False
        | _ => False
      | _ => False
    | _ => False
  | .index t x ix => match P.underlying t with
    | some .string => match ρ g ix with
      | .d (.int _ i) => match ρ g x with
        | .d (.str s) => Need (0 ≤ i ∧ i.toNat < s.size) (K ⟨.d (.int .u8 (byteAt s i)), [], []⟩)
        | _ => False
      | _ => False
    | _ => False
  | .slice t x lo hi mx => match P.underlying t with
    | some .string => match mx with
      | none => match ρ g x with
        | .d (.str s) => ixK (ρ g) lo 0 fun l => ixK (ρ g) hi s.size fun h => Need (0 ≤ l ∧ l ≤ h ∧ h ≤ s.size) (K ⟨.d (.str (s.extract l.toNat h.toNat)), [], []⟩)
        | _ => False
      | some _ => False
    | some (.slice e) => match ρ g x with
      | .d (.list sz xs) => if sz = sizeT P e ∧ 0 < sz then sliceK (ρ g) sz xs lo hi mx [] K else False
      | .d (.nil sz) => if sz = sizeT P e ∧ 0 < sz then sliceK (ρ g) sz [] lo hi mx [] K else False
      | .lim sz xs => if sz = sizeT P e ∧ 0 < sz then sliceK (ρ g) sz xs lo hi mx [] K else False
      | .row id n sz e' xs => if sz = sizeT P e ∧ 0 < sz then Either (sliceK (ρ g) sz xs lo hi mx [(id, .frow sz xs, n)] K)
          (match lo with
            | none => match mx with
              | none => ixK (ρ g) hi xs.length fun h => Need (0 ≤ h ∧ h ≤ xs.length) (K ⟨.sl id (n + 1), [(id, .row sz e' (xs.take h.toNat), n + 1)], []⟩)
              | some _ => False
            | some _ => False)
        else False
      | _ => False
    | _ => False
  | .call c => match c.callee with
    | .value f => match ρ g f with
      | .d (.fn f caps) => capsK caps fun cv => argsOf P σ (ρ g) c.args.toList c.argTypes.toList fun vs bs => margsOf P σ (ρ g) c.args.toList c.argTypes.toList fun ms mb us =>
          CallStop P f (vs ++ cv) (fun r => lentB r bs fun b => got d dv r b K)
            (ms ++ cv) (fun outs r => outsK (us ++ cv.map fun _ => none) outs fun ub => if ub.all (fun x => notIn x.1 mb) = true then got d dv r (mb ++ ub) K else False)
      | .clo f cs k id n rid rn => match σ rid rn with
        | .row _ _ sz e xs => argsOf P σ (ρ g) c.args.toList c.argTypes.toList fun vs bs => match bs with
          | [] => forceS (capAV cs) fun cv => WStop P f (vs ++ cv) (vs.length + k) sz e xs fun ys => if id = rid then False else K ⟨.any, [(rid, .row sz e ys, rn + 1), (id, .var [.sl rid (rn + 1)], n)], []⟩
          | _ => False
        | _ => False
      | _ => False
    | .builtin .len => match c.args.toList, c.argTypes.toList with
      | [x], [t] => match P.underlying t with
        | some .string => match ρ g x with
          | .bot => K ⟨.bot, [], []⟩
          | .d (.str s) => K ⟨.d (.int .i64 s.size), [], []⟩
          | _ => False
        | some (.slice _) => match ρ g x with
          | .bot => K ⟨.bot, [], []⟩
          | r => listOf r fun _ xs => K ⟨.d (.int .i64 xs.length), [], []⟩
        | _ => False
      | _, _ => False
    | .builtin .min => match c.args.toList with
      | [x, y] => match ρ g x with
        | .d (.int k a) => match ρ g y with
          | .d (.int _ b) => K ⟨.d (.int k (if b < a then b else a)), [], []⟩
          | _ => False
        | _ => False
      | _ => False
    | .builtin .max => match c.args.toList with
      | [x, y] => match ρ g x with
        | .d (.int k a) => match ρ g y with
          | .d (.int _ b) => K ⟨.d (.int k (if b > a then b else a)), [], []⟩
          | _ => False
        | _ => False
      | _ => False
    | .builtin .append => match c.args.toList, c.argTypes.toList with
      | [x, y], [t, u] => match P.underlying t with
        | some (.slice e) => if t = u ∧ 0 < sizeT P e ∧ hasZero P e = true then listOf (ρ g y) fun sz' ys =>
          let fits (n : Nat) : Prop := n + ys.length ≤ maxLen ∧ (n + ys.length) * bytesT P e ≤ 140737488355328 ∧ (ys = [] ∨ sz' = sizeT P e)
          match ρ g x with
          | .row id n sz e' xs => if e = e' ∧ sz = sizeT P e then Need (fits xs.length) (K ⟨.sl id (n + 1), [(id, .row sz e (xs ++ ys), n + 1)], []⟩) else False
          | .d (.nil _) => Need (fits 0) (K ⟨.sl d (dv + 1), [(d, .row (sizeT P e) e ys, dv + 1)], []⟩)
          | .lim sz xs => if sz = sizeT P e then Need (fits xs.length ∧ ys ≠ []) (K ⟨.sl d (dv + 1), [(d, .row sz e (xs ++ ys), dv + 1)], []⟩) else False
          | _ => False
          else False
        | _ => False
      | _, _ => False
    | _ => False
  | .extract t i => match ρ g t with
    | .tup xs => match xs[i]? with
      | some (.d x) => K ⟨.d x, [], []⟩
      | some (.sl id n) => K ⟨.sl id n, [], []⟩
      | _ => False
    | _ => False
  | .makeMap t none => match P.underlying t with
    | some (.map _ _) => K ⟨.sl d (dv + 1), [(d, .map [], dv + 1)], []⟩
    | _ => False
  | .lookup t x ix ok => match P.underlying t with
    | some (.map kt et) => lookK P kt et (ρ g x) (ρ g ix) ok K
    | _ => False
  | .mapUpdate t m k x => match P.underlying t with
    | some (.map kt _) => updK P kt (ρ g m) (ρ g k) (ρ g x) K
    | _ => False
  | _ => False

/-- Under a guard that is not decided such an operation is carried out all the same: it can do no harm. -/
def harmless : Op → Bool
  | .move _ | .pick _ _ _ | .load _ _ | .unOp _ _ _ | .convert _ _ _ | .fieldAddr _ _ _ | .field _ _ _ => true
  | .binOp op _ _ _ _ => match op with | .quo | .rem | .shl | .shr | .add => false | _ => true
  | .call c => match c.callee with | .builtin .len => true | _ => false
  | _ => false

def dstOf : List Oper → Nat → Option Nat
  | [], _ => none
  | o :: _, 0 => o.dst
  | _ :: r, n + 1 => dstOf r n

def setAVK : AS → Nat → AV → (AS → Prop) → Prop
  | [], _, _, K => K []
  | s :: r, 0, v, K => match s with | ⟨_, b, n⟩ => K (⟨v, b, n⟩ :: r)
  | s :: r, k + 1, v, K => setAVK r k v fun r' => K (s :: r')
def setBoxK : AS → Nat → Body → Nat → (AS → Prop) → Prop
  | [], _, _, _, K => K []
  | s :: r, 0, b, m, K => match s with | ⟨v, _, _⟩ => K (⟨v, b, m⟩ :: r)
  | s :: r, k + 1, b, m, K => setBoxK r k b m fun r' => K (s :: r')
def boxesK : Bx → AS → (AS → Prop) → Prop
  | [], S, K => K S
  | (id, b, n) :: r, S, K => forceN n fun n => forceB b fun b => setBoxK S id b n fun S => boxesK r S K
def appK (dst : Option Nat) (e : Eff) (S : AS) (K : AS → Prop) : Prop :=
  match e with
  | ⟨v, bx, _⟩ => match dst with
    | some d => forceAV v fun v => boxesK bx S fun S => setAVK S d v K
    | none => boxesK bx S K
def appB : Bx → AS → AS
  | [], S => S
  | (id, b, n) :: r, S => appB r (setBox S id b n)
def app (dst : Option Nat) (e : Eff) (S : AS) : AS :=
  match dst with
  | some d => setAV (appB e.bx S) d e.av
  | none => appB e.bx S

def σOf (S : AS) (id n : Nat) : RV := res S (.sl id n)
def ρOf (S : AS) (g : Option (Nat × Bool)) (x : Operand) : RV := res S (unw g (ev S x))

/-- The version of a box, if there is such a slot. -/
def verK : AS → Nat → (Nat → Prop) → Prop
  | [], _, _ => False
  | s :: _, 0, K => match s with | ⟨_, _, n⟩ => K n
  | _ :: r, k + 1, K => verK r k K

def dK (x : Option Nat) (K : Nat → Prop) : Prop :=
  match x with
  | some d => K d
  | none => K 0
def homesOK (S : AS) : List (Nat × Nat) → Bool
  | [] => true
  | (h, n) :: r => decide (h < S.length) && decide ((sget S h).ver < n) && homesOK S r
def dstList : Option Nat → List Nat
  | some d => [d]
  | none => []
def opTmps : List Operand → List Nat
  | [] => []
  | .tmp t :: r => t :: opTmps r
  | _ :: r => opTmps r
/-- The slots of an operation's guard, of that one's guard, and so on. -/
def guardsOf (all : List Oper) : Nat → Oper → List Nat
  | 0, _ => []
  | n + 1, o => match o.guard with
    | some (j, _) => dstList (dstOf all j) ++ match all[j]? with
      | some m => guardsOf all n m
      | none => []
    | none => []
/-- The slots that an operation looks at. -/
def looks (all : List Oper) (o : Oper) : List Nat := guardsOf all 5 o ++ opTmps o.op.operands.toList
/-- A bool that stands in slot t is decided; the slot is known from then on. -/
def boolK (S : AS) (t : Nat) (mk : Bool → AV) (b : Bool) (K : AS → Option Bool → Prop) : Prop :=
  bcase b (setAVK S t (mk true) fun S => K S (some true)) (setAVK S t (mk false) fun S => K S (some false))
/-- The bool of a slot that may stand under guards: those are decided first, the outermost one at first. 'none': it was skipped. -/
def decK (lk : List Nat) : Nat → Nat → AS → (AS → Option Bool → Prop) → Prop
  | 0, _, _, _ => False
  | n + 1, t, S, K => if lk.contains t = true then match (sget S t).av with
    | .d (.bool b) => boolK S t (fun b => .d (.bool b)) b K
    | .under t' w' (.d (.bool b)) => decK lk n t' S fun S r => match r with
      | some c => match w' with
        | true => match c with
          | true => boolK S t (fun b => .under t' w' (.d (.bool b))) b K
          | false => K S none
        | false => match c with
          | true => K S none
          | false => boolK S t (fun b => .under t' w' (.d (.bool b))) b K
      | none => K S none
    | .under _ _ .bot => K S none
    | _ => False
    else False
/-- As wanted, or not. -/
def asWanted (want : Bool) (r : Option Bool) (go skip : Prop) : Prop :=
  match r with
  | none => skip
  | some b => match want with
    | true => match b with
      | true => go
      | false => skip
    | false => match b with
      | true => skip
      | false => go
/-- A move of a reference to a variable copies what is known of it, and looks at no box. -/
def ptrMove (S : AS) (o : Oper) : Bool :=
  match o.op with
  | .move x => match ev S x with
    | .ptr _ _ _ => true
    | _ => false
  | _ => false
def yS (P : Program) (S : AS) (g : Option (Nat × Bool)) (o : Oper) (d dv : Nat) (K : Eff → Prop) : Prop :=
  match o.op with
  | .move x => match ev S x with
    | .ptr id n k => K ⟨.ptr id n k, [], []⟩
    | _ => yA P (σOf S) (ρOf S) g o d dv K
  | _ => yA P (σOf S) (ρOf S) g o d dv K
/-- One operation: the guard, the effect. -/
def opY (P : Program) (all : List Oper) (done : List Nat) (o : Oper) (S : AS) (K : AS → Eff → Prop) : Prop :=
  match o.guard with
  | none => dK o.dst fun d => verK S d fun n => yS P S none o d n fun e => if homesOK S e.homes = true then K S e else False
  | some (j, want) => match dstOf all j with
    | none => False
    | some t => if done.contains t = true then
      match harmless o.op with
      | true => dK o.dst fun d => verK S d fun n => yS P S (some (t, want)) o d n fun e => match e with
        | ⟨v, [], []⟩ => K S ⟨.under t want v, [], []⟩
        | _ => False
      | false => decK (looks all o) 5 t S fun S r => asWanted want r
          (dK o.dst fun d => verK S d fun n => yS P S (some (t, want)) o d n fun e => if homesOK S e.homes = true then K S e else False)
          (K S ⟨.under t want .bot, [], []⟩)
      else False

/-- Is it a test whether a slice is nil? -/
def nilTest (P : Program) (o : Oper) : Option (Bool × Operand) :=
  match o.op with
  | .binOp op t x y _ => match isNilC y, o.guard, P.underlying t with
    | true, none, some (.slice _) => match op with
      | .eql => some (true, x)
      | .neq => some (false, x)
      | _ => none
    | _, _, _ => none
  | _ => none

def forceNL : List Nat → (List Nat → Prop) → Prop
  | [], K => K []
  | x :: r, K => forceNL r fun r => K (x :: r)
/-- (By the recursor itself: what the elaborator and the kernel unfold is then one text.) -/
def opsA (P : Program) (all : List Oper) (done : List Nat) (l : List Oper) : AS → (AS → Prop) → Prop :=
  List.rec (motive := fun _ => List Nat → AS → (AS → Prop) → Prop) (fun _ S K => K S)
    (fun o _ ih done S K => if (dstList o.dst).all (fun d => !done.contains d) = true then
      match nilTest P o with
      | some (pos, x) => listOf (ρOf S none x) fun _ xs => IsNil xs fun b => appK o.dst ⟨.d (.bool (b == pos)), [], []⟩ S fun S => forceNL (dstList o.dst ++ done) fun done => ih done S K
      | none => opY P all done o S fun S e => appK o.dst e S fun S => forceNL (dstList o.dst ++ done) fun done => ih done S K
      else False) l done

/-! ### A region whose order is open -/
def cellRefs : List C → List Nat
  | [] => []
  | .sl id _ :: r => id :: cellRefs r
  | _ :: r => cellRefs r
def refs : AV → List Nat
  | .ptr id _ _ => [id]
  | .sl id _ => [id]
  | .eptr id _ _ _ _ => [id]
  | .under _ _ x => refs x
  | .cc _ xs => cellRefs xs
  | _ => []
/-- A box, and those whose slices its cells hold. -/
def refs2 (S : AS) (id : Nat) : List Nat := id :: match (sget S id).box with
  | .var cs => cellRefs cs
  | _ => []
/-- It looks at the version of the box of its own slot. -/
def makes : Op → Bool
  | .assign _ | .box _ _ | .alloc _ | .buildSlice _ _ _ | .makeSlice _ _ _ | .makeMap _ _ => true
  | .call c => match c.callee with | .value _ | .builtin .append => true | _ => false
  | _ => false
def boxR (S : AS) (ts : List Nat) (o : Oper) : List Nat :=
  (if makes o.op = true then [o.dst.getD 0] else []) ++ match ptrMove S o with
    | true => []
    | false => ts.flatMap fun t => (refs (sget S t).av).flatMap (refs2 S)
def disj (x y : List Nat) : Bool := x.all fun i => !y.contains i
def edge (o : Oper) (i : Nat) : Bool := o.after.toList.any fun e => e.on == i && Region.binds .any e
/-- Behind it, or behind one that is behind it, and so on. -/
def edgeN (all : List Oper) : Nat → Oper → Nat → Bool
  | 0, o, i => edge o i
  | n + 1, o, i => edge o i || o.after.toList.any fun e => Region.binds .any e && (match all[e.on]? with | some m => edgeN all n m i | none => false)
def edge2 (all : List Oper) (o : Oper) (i : Nat) : Bool := edgeN all 4 o i
def okBox (all : List Oper) (o : Oper) (R W : List Nat) (log : List (Nat × List Nat × List Nat)) : Bool :=
  log.all fun x => (disj x.2.2 (R ++ W) && disj x.2.1 W) || edge2 all o x.1
def opsD (P : Program) (all : List Oper) (k : Nat) (log : List (Nat × List Nat × List Nat)) (done : List Nat) (l : List Oper) : AS → (AS → Prop) → Prop :=
  List.rec (motive := fun _ => Nat → List (Nat × List Nat × List Nat) → List Nat → AS → (AS → Prop) → Prop) (fun _ _ _ S K => K S)
    (fun o _ ih k log done S K => if (dstList o.dst).all (fun d => !done.contains d) = true then
      opY P all done o S fun S e => forceNL (boxR S (looks all o) o ++ e.homes.map (·.1)) fun R => forceNL (e.bx.map (·.1)) fun W => if okBox all o R W log = true then
        appK o.dst e S fun S' => forceNL (dstList o.dst ++ done) fun done => ih (k + 1) ((k, R, W) :: log) done S' K else False
    else False) l k log done
/-- The order of the text is as good as any, as to the slots. -/
def regS (all : List Oper) : Nat → List Oper → Bool
  | _, [] => true
  | k, o :: r => ((o.after.toList.all fun e => !Region.binds .any e || decide (e.on < k)) && (match o.guard with | some (j, _) => decide (j < k) | none => true)) &&
      (all.take k).zipIdx.all (fun x => (disj (dstList x.1.dst) (looks all o) && disj (looks all x.1) (dstList o.dst)) || edge2 all o x.2) && regS all (k + 1) r

/-- Behind a region nobody asks what a guarded operation gave. -/
def plain : AS → (AS → Prop) → Prop
  | [], K => K []
  | s :: r, K => plain r fun r' => match s with
    | ⟨.under _ _ _, b, n⟩ => K (⟨.any, b, n⟩ :: r')
    | s => K (s :: r')

/-! ### Weakening -/
/-- The same data; or nil, and an empty list. -/
def eqN (x y : D) (K : Prop) : Prop :=
  match x with
  | .nil s => (D.nil s = y ∨ D.list s [] = y) ∧ K
  | x => x = y ∧ K
def leCells (v v' : Nat → Nat) : List C → List C → Prop → Prop
  | [], [], K => K
  | .d x :: r, .d y :: q, K => eqN x y (leCells v v' r q K)
  | .sl id n :: r, .sl id' n' :: q, K => if id = id' ∧ n = v id ∧ n' = v' id then leCells v v' r q K else False
  | _, _, _ => False
def leSlot (v v' : Nat → Nat) (a a' : AV) (K : Prop) : Prop :=
  match a' with
  | .any => K
  | .d x' => match a with
    | .d x => eqN x x' K
    | .lim sz xs => D.list sz xs = x' ∧ K
    | _ => False
  | .lim sz xs => a = .lim sz xs ∧ K
  | .ptr id n o => match a with
    | .ptr id' n' o' => if id' = id ∧ n' = v id ∧ n = v' id then o' = o ∧ K else False
    | _ => False
  | .sl id n => match a with
    | .sl id' n' => if id' = id ∧ n' = v id ∧ n = v' id then K else False
    | _ => False
  | .cc k xs' => match a with
    | .cc k' xs => if k = k' then leCells v v' xs xs' K else False
    | _ => False
  | _ => False
def leBox (v v' : Nat → Nat) (b b' : Body) (K : Prop) : Prop :=
  match b' with
  | .none => K
  | .frow sz xs => (b = .frow sz xs ∨ ∃ e, b = .row sz e xs) ∧ K
  | .fvar cs => b = .fvar cs ∧ K
  | .map es => b = .map es ∧ K
  | .row sz e xs => b = .row sz e xs ∧ K
  | .var cs' => match b with
    | .var cs => leCells v v' cs cs' K
    | _ => False
/-- A box that has been there from the beginning is that one. -/
def leVer (b' : Body) (n n' : Nat) (K : Prop) : Prop :=
  match b' with
  | .none => K
  | _ => if n' = 0 → n = 0 then K else False
def leAll (v v' : Nat → Nat) : AS → AS → Prop
  | [], [] => True
  | ⟨av, b, n⟩ :: r, ⟨av', b', n'⟩ :: r' => leSlot v v' av av' (leVer b' n n' (leBox v v' b b' (leAll v v' r r')))
  | _, _ => False
/-- What these slots hold is looked at as data from now on. -/
def dataK : List Nat → AS → (AS → Prop) → Prop
  | [], S, K => K S
  | t :: r, S, K => asD (ρOf S none (.tmp t)) fun x b => boxesK b S fun S => setAVK S t (.d x) fun S => dataK r S K

/-- Where the second has data and the first a row. -/
def toData : Nat → AS → AS → List Nat
  | t, ⟨av, _, _⟩ :: r, ⟨av', _, _⟩ :: r' => match av' with
    | .d _ => match av with
      | .sl _ _ => t :: toData (t + 1) r r'
      | _ => toData (t + 1) r r'
    | _ => toData (t + 1) r r'
  | _, _, _ => []
/-- The second says no more than the first. -/
def Le (S S' : AS) : Prop := dataK (toData 0 S S') S fun S => leAll (fun i => (sget S i).ver) (fun i => (sget S' i).ver) S S'

/-- A cell with a nil slice becomes a row of the frame's own: variable, cell, the row's place, the elements' type. -/
def adoptK : List (Nat × Nat × Nat × TypeId) → AS → (AS → Prop) → Prop
  | [], S, K => K S
  | (v, j, h, e) :: r, S, K => match sget S v with
    | ⟨_, .var cs, n⟩ => match cs[j]? with
      | some (.d (.nil s)) => if 0 < s ∧ v ≠ h then verK S h fun m => forceS (splice cs j [.sl h (m + 1)]) fun l => boxesK [(h, .row s e [], m + 1), (v, .var l, n)] S fun S => adoptK r S K else False
      | _ => False
    | _ => False

def forceAS : AS → (AS → Prop) → Prop
  | [], K => K []
  | s :: r, K => forceAS r fun r' => match s with | ⟨v, b, n⟩ => forceAV v fun v => forceB b fun b => forceN n fun n => K (⟨v, b, n⟩ :: r')
structure Hold (p : Prop) : Prop where
  go : p
/-- A loop: what is taken over first; what holds at each round, with a measure; where it begins. -/
structure LoopStop (S : AS) (W : ((Exit → AS → Prop) → AS → Prop)) (Q : Exit → AS → Prop) : Prop where
  go : ∃ (ads : List (Nat × Nat × Nat × TypeId)) (frs : List Nat) (ι : Type) (Inv : ι → AS) (μ : ι → Nat) (i : ι), adoptK ads S (fun S => dataK frs S fun S => Le S (Inv i)) ∧
      ∀ i, forceAS (Inv i) (W (fun e S => match e with | .normal => ∃ j, Le S (Inv j) ∧ μ j < μ i | e => Q e S))
theorem loop {S : AS} {W : ((Exit → AS → Prop) → AS → Prop)} {Q : Exit → AS → Prop} (ι : Type) (Inv : ι → AS) (μ : ι → Nat) (i : ι) (h : Le S (Inv i))
    (k : ∀ i, forceAS (Inv i) (W (fun e S => match e with | .normal => ∃ j, Le S (Inv j) ∧ μ j < μ i | e => Q e S))) : LoopStop S W Q := ⟨⟨[], [], ι, Inv, μ, i, h, k⟩⟩
theorem loopA {S : AS} {W : ((Exit → AS → Prop) → AS → Prop)} {Q : Exit → AS → Prop} (ads : List (Nat × Nat × Nat × TypeId)) (ι : Type) (Inv : ι → AS) (μ : ι → Nat) (i : ι) (h : adoptK ads S (fun S => Le S (Inv i)))
    (k : ∀ i, forceAS (Inv i) (W (fun e S => match e with | .normal => ∃ j, Le S (Inv j) ∧ μ j < μ i | e => Q e S))) : LoopStop S W Q := ⟨⟨ads, [], ι, Inv, μ, i, h, k⟩⟩
theorem loopD {S : AS} {W : ((Exit → AS → Prop) → AS → Prop)} {Q : Exit → AS → Prop} (frs : List Nat) (ι : Type) (Inv : ι → AS) (μ : ι → Nat) (i : ι) (h : dataK frs S (fun S => Le S (Inv i)))
    (k : ∀ i, forceAS (Inv i) (W (fun e S => match e with | .normal => ∃ j, Le S (Inv j) ∧ μ j < μ i | e => Q e S))) : LoopStop S W Q := ⟨⟨[], frs, ι, Inv, μ, i, h, k⟩⟩

/-- The number of a code's first region. -/
noncomputable def firstReg (c : Code) : Option Nat :=
  Code.rec (motive := fun _ => Option Nat) none (fun id _ _ => some id) (fun _ _ a b => match a with | some i => some i | none => b) (fun _ _ _ _ _ => none) (fun _ _ a => a) (fun _ a => a)
    (fun _ _ _ _ _ _ => none) (fun _ => none) (fun _ a => a) (fun _ => none) (fun _ => none) none (fun _ => none) c
/-- Do ways come together in front of this code? (J: the first regions of such codes.) -/
noncomputable def joinAt (J : List Nat) (y : Code) : Bool :=
  match J with
  | [] => false
  | J => match firstReg y with
    | some i => J.contains i
    | none => false
/-- Where ways come together: what holds there, whichever way it was. -/
structure JoinStop (S : AS) (wx wy : (Exit → AS → Prop) → AS → Prop) (Q : Exit → AS → Prop) : Prop where
  go : ∃ (ι : Type) (Inv : ι → AS), wx (fun e S => match e with | .normal => ∃ i, Le S (Inv i) | e => Q e S) S ∧ ∀ i, forceAS (Inv i) (wy Q)
theorem join {S : AS} {wx wy : (Exit → AS → Prop) → AS → Prop} {Q : Exit → AS → Prop} (ι : Type) (Inv : ι → AS) (h : wx (fun e S => match e with | .normal => ∃ i, Le S (Inv i) | e => Q e S) S) (k : ∀ i, forceAS (Inv i) (wy Q)) : JoinStop S wx wy Q := ⟨⟨ι, Inv, h, k⟩⟩

def wpA (P : Program) (J : List Nat) (c : Code) : (Exit → AS → Prop) → AS → Prop :=
  Code.rec (motive := fun _ => (Exit → AS → Prop) → AS → Prop)
    (fun Q S => Q .normal S)
    (fun _ ops draw Q S => match draw with
      | false => opsA P ops.toList [] ops.toList S fun S => plain S (Q .normal)
      | true => Need (regS ops.toList 0 ops.toList = true ∧ P.follows .mixedOrders = true) (opsD P ops.toList 0 [] [] ops.toList S fun S => plain S (Q .normal)))
    (fun _ y wx wy Q S => match joinAt J y with
      | false => wx (fun e S => match e with | .normal => wy Q S | e => Q e S) S
      | true => JoinStop S wx wy Q)
    (fun c _ _ wx wy Q S => match ρOf S none c with
      | .d (.bool b) => bcase b (wx Q S) (wy Q S)
      | _ => False)
    (fun id _ wc Q S => wc (fun e S => match e with | .exit id' => if id' = id then Q .normal S else Q (.exit id') S | e => Q e S) S)
    (fun _ wc Q S => LoopStop S wc Q)
    (fun _ _ _ _ _ _ _ _ => False)
    (fun id Q S => Q (.exit id) S)
    (fun _ _ _ _ => False)
    (fun _ Q S => Q .normal S)
    (fun _ _ _ => False)
    (fun Q S => Q .ret S)
    (fun _ _ _ => False)
    c

/-! ### Functions -/
def cAV : C → AV
  | .d x => .d x
  | .own sz e xs => .own sz e xs
  | .sl _ _ => .any
def dCells : List C → (List D → Prop) → Prop
  | [], K => K []
  | .d x :: r, K => dCells r fun l => K (x :: l)
  | _ :: _, _ => False
/-- What the function hands back. 'used': the boxes that it hands over; 'frz': those that it gives up. -/
def retOf (P : Program) (S : AS) (used : List Nat) (frz : Bx) : List ResultVar → (List C → List Nat → Bx → Prop) → Prop
  | [], K => K [] used frz
  | .tmp t :: r, K => match ρOf S none (.tmp t) with
    | .row id n sz e xs => Either (retOf P S used (frz ++ [(id, .frow sz xs, n)]) r fun l u b => K (.d (.list sz xs) :: l) u b)
        (if used.contains id = true then False else Need (∀ x ∈ xs, ∀ y ∈ x.cells, y.bare = true) (retOf P S (id :: used) frz r fun l u b => K (.own sz e xs :: l) u b))
    | v => asN v fun x b => retOf P S used (frz ++ b) r fun l u b => K (.d x :: l) u b
  | .cell t ty :: r, K => match ρOf S none (.tmp t) with
    | .vptr _ _ o cs => dCells cs fun l => ldD P ty (l.drop o) fun x => normK x fun x => retOf P S used frz r fun l u b => K (.d x :: l) u b
    | _ => False
structure Ret (x : AV) (r : AV) : Prop where
  go : x = r
def retE (l : List C) (used : List Nat) (frz : Bx) (r : AV) : Prop :=
  if used.all (fun i => notIn i frz) = true then match l with
    | [c] => Ret (cAV c) r
    | l => Ret (.tup l) r
  else False
def retA (P : Program) (rs : List ResultVar) (used : List Nat) (frz : Bx) (S : AS) (r : AV) : Prop :=
  match rs with
  | [.tmp t] => match ρOf S none (.tmp t) with
    | .vptr id _ 0 cs => if used.contains id = true then False else cellsK (σOf S) cs fun l b => normC l fun l => if (id :: used).all (fun i => notIn i (frz ++ b)) = true then Ret (.optr l) r else False
    | _ => retOf P S used frz rs fun l u b => retE l u b r
  | rs => retOf P S used frz rs fun l u b => retE l u b r

def setMany : List (Nat × AV) → AS → AS
  | [], S => S
  | (t, v) :: r, S => setMany r (setAV S t v)
def blank : Nat → AS
  | 0 => []
  | n + 1 => sl0 :: blank n
def enterOne (i : Nat) : AV → Sl
  | .own sz e xs => ⟨.sl i 0, .row sz e xs, 0⟩
  | .optr cs => ⟨.ptr i 0 0, .var (cs.map .d), 0⟩
  | a => ⟨a, .none, 0⟩
def enter (i : Nat) : List AV → AS → AS
  | [], S => S
  | a :: r, S => enterOne i a :: enter (i + 1) r (S.drop 1)

/-- A state by its known slots and boxes. -/
def lookA : List (Nat × AV) → Nat → AV
  | [], _ => .any
  | (t, v) :: r, k => match Nat.beq t k with
    | true => v
    | false => lookA r k
def lookS : Bx → Nat → AV → Sl
  | [], _, v => ⟨v, .none, 0⟩
  | (t, b, n) :: r, k, v => match Nat.beq t k with
    | true => ⟨v, b, n⟩
    | false => lookS r k v
def tabS (N : Nat) : Nat → (Nat → Sl) → AS
  | 0, _ => []
  | n + 1, f => f (Nat.sub N (Nat.succ n)) :: tabS N n f
/-- (Each slot looked up by itself: a chain of settings is exponential to evaluate.) -/
def mkS (n : Nat) (l : List (Nat × AV)) (b : Bx) : AS := tabS n n fun k => lookS b k (lookA l k)
def RunsJ (P : Program) (J : List Nat) (fn : Func) (args : List AV) (r : AV) : Prop :=
  match fn.body with
  | some c => forceAS (enter 0 args (blank fn.ntmps)) (wpA P J c (fun e S => match e with
    | .normal | .ret => retA P fn.results.toList [] [] S r
    | _ => False))
  | none => False
/-- What was handed over is there still, and holds this. -/
def keptK (S : AS) : Nat → List AV → (List Nat → Bx → Prop) → Prop
  | _, [], K => K [] []
  | i, .own sz e ys :: r, K => match sget S i with
    | ⟨_, .row sz' e' xs, 0⟩ => (sz' = sz ∧ e' = e ∧ xs = ys) ∧ keptK S (i + 1) r fun u b => K (i :: u) b
    | _ => False
  | i, .optr cs :: r, K => match sget S i with
    | ⟨_, .var cs', 0⟩ => cellsK (σOf S) cs' fun l b => normC l fun l => l = cs ∧ keptK S (i + 1) r fun u b' => K (i :: u) (b ++ b')
    | _ => False
  | i, _ :: r, K => keptK S (i + 1) r K
def RunsMJ (P : Program) (J : List Nat) (fn : Func) (args outs : List AV) (r : AV) : Prop :=
  match fn.body with
  | some c => forceAS (enter 0 args (blank fn.ntmps)) (wpA P J c (fun e S => match e with
    | .normal | .ret => keptK S 0 outs fun u b => retA P fn.results.toList u b S r
    | _ => False))
  | none => False
/-- A closure that catches a variable (slot k) with a row of the frame's own (laid at slot q). -/
def endW (S : AS) (k q sz : Nat) (e : TypeId) (ys : List D) : Prop :=
  match sget S k with
  | ⟨_, .var [.sl q' n], 0⟩ => match sget S q with
    | ⟨_, .row sz' e' xs, m⟩ => q' = q ∧ n = m ∧ sz' = sz ∧ e' = e ∧ xs = ys
    | _ => False
  | _ => False
def RunsW (P : Program) (J : List Nat) (fn : Func) (args : List AV) (k q sz : Nat) (e : TypeId) (xs ys : List D) : Prop :=
  match fn.body with
  | some c => forceAS (setBox (setBox (setAV (enter 0 args (blank fn.ntmps)) k (.ptr k 0 0)) k (.var [.sl q 0]) 0) q (.row sz e xs) 0) (wpA P J c (fun e' S => match e' with
    | .normal | .ret => endW S k q sz e ys
    | _ => False))
  | none => False
def Runs (P : Program) (fn : Func) (args : List AV) (r : AV) : Prop := RunsJ P [] fn args r
def RunsM (P : Program) (fn : Func) (args outs : List AV) (r : AV) : Prop := RunsMJ P [] fn args outs r
end Go.Abs
