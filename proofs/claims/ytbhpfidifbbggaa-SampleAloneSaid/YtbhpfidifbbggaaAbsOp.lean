/-
  The abstract machine: the operations, the code.
-/
import Derived.Test.YtbhpfidifbbggaaAbs
namespace Go.Abs

structure Eff where
  av : AV
  bx : List (Nat × Body × Nat)

def back : RV → AV
  | .any => .any
  | .bot => .bot
  | .d x => .d x
  | .lim sz xs => .lim sz xs
  | .cptr cs => .cptr cs
  | .vptr id n o _ => .ptr id n o
  | .row id n _ _ _ => .sl id n
  | .eptr id n sz _ _ i o => .eptr id n sz i o
  | .tup xs => .tup xs

/-- As data: a row of the frame's own is given up for that. -/
def asD (r : RV) (K : D → List (Nat × Body × Nat) → Prop) : Prop :=
  match r with
  | .d x => K x []
  | .lim sz xs => K (.list sz xs) []
  | .row id n sz _ xs => K (.list sz xs) [(id, .frow sz xs, n)]
  | _ => False

def forceN : Nat → (Nat → Prop) → Prop
  | 0, K => K 0
  | n + 1, K => forceN n fun m => K (m + 1)
def forceAV (v : AV) (K : AV → Prop) : Prop :=
  match v with
  | .any => K .any
  | .bot => K .bot
  | .d x => K (.d x)
  | .lim sz xs => K (.lim sz xs)
  | .cptr cs => K (.cptr cs)
  | .ptr id n o => forceN n fun n => forceN o fun o => K (.ptr id n o)
  | .sl id n => forceN n fun n => K (.sl id n)
  | .eptr id n sz i o => forceN n fun n => forceN sz fun sz => forceN o fun o => K (.eptr id n sz i o)
  | .tup xs => K (.tup xs)
  | .own sz e xs => K (.own sz e xs)
  | .under t w x => match x with
    | .any => K (.under t w .any)
    | .d x => K (.under t w (.d x))
    | .cptr cs => K (.under t w (.cptr cs))
    | .ptr id n o => forceN n fun n => forceN o fun o => K (.under t w (.ptr id n o))
    | .eptr id n sz i o => forceN n fun n => forceN sz fun sz => forceN o fun o => K (.under t w (.eptr id n sz i o))
    | x => K (.under t w x)
def forceB (b : Body) (K : Body → Prop) : Prop :=
  match b with
  | .none => K .none
  | .var cs => K (.var cs)
  | .row sz e xs => forceN sz fun sz => K (.row sz e xs)
  | .fvar cs => K (.fvar cs)
  | .frow sz xs => forceN sz fun sz => K (.frow sz xs)
def forceS : List D → (List D → Prop) → Prop
  | [], K => K []
  | x :: r, K => forceS r fun r => K (x :: r)

def splice : List D → Nat → List D → List D
  | cs, 0, ys => ys ++ cs.drop ys.length
  | [], _ + 1, _ => []
  | c :: cs, n + 1, ys => c :: splice cs n ys

def zD : Value → Option D
  | .int k n => some (.int k n)
  | .bool b => some (.bool b)
  | .string s => some (.str s)
  | .slice none 0 0 => some (.list 0 [])
  | _ => none
def zDs : List Value → Option (List D)
  | [] => some []
  | v :: r => match zD v, zDs r with
    | some x, some l => some (x :: l)
    | _, _ => none
def zeroD : Value → Option D
  | .agg cs => (zDs cs.toList).map .agg
  | v => zD v

def aggT (P : Program) (t : TypeId) : Option Bool :=
  match P.underlying t with
  | some (.struct _) | some (.array _ _) => some true
  | some _ => some false
  | none => none

/-- A variable of type t that begins with these cells. -/
def ldD (P : Program) (t : TypeId) (cs : List D) (K : D → Prop) : Prop :=
  match aggT P t with
  | some true => match P.info? t with
    | some i => forceS (cs.take i.size) fun l => if l.length = i.size then K (.agg l) else False
    | none => False
  | some false => match cs with
    | y :: _ => K y
    | [] => False
  | none => False

def arith (op : BinOp) (k : IntKind) (a b : Int) (K : D → Prop) : Prop :=
  match op with
  | .add => K (.int k (k.wrap (a + b)))
  | .sub => K (.int k (k.wrap (a - b)))
  | .mul => K (.int k (k.wrap (a * b)))
  | .quo => Need (b ≠ 0) (K (.int k (k.wrap (a.tdiv b))))
  | .rem => Need (b ≠ 0) (K (.int k (a.tmod b)))
  | .and => K (.int k (k.wrap (BitVec.ofInt k.bits a &&& BitVec.ofInt k.bits b).toNat))
  | .or => K (.int k (k.wrap (BitVec.ofInt k.bits a ||| BitVec.ofInt k.bits b).toNat))
  | .xor => K (.int k (k.wrap (BitVec.ofInt k.bits a ^^^ BitVec.ofInt k.bits b).toNat))
  | .andNot => K (.int k (k.wrap (BitVec.ofInt k.bits a &&& ~~~ BitVec.ofInt k.bits b).toNat))
  | .eql => K (.bool (a == b))
  | .neq => K (.bool (a != b))
  | .lss => K (.bool (decide (a < b)))
  | .leq => K (.bool (decide (a ≤ b)))
  | .gtr => K (.bool (decide (a > b)))
  | .geq => K (.bool (decide (a ≥ b)))
  | _ => False
def shiftD (op : BinOp) (k : IntKind) (a b : Int) (K : D → Prop) : Prop :=
  match op with
  | .shl => Need (0 ≤ b) (K (.int k (k.wrap (a * 2 ^ (min b.toNat k.bits)))))
  | .shr => Need (0 ≤ b) (K (.int k (a.fdiv (2 ^ (min b.toNat k.bits)))))
  | _ => False
def binD (isB : Bool) (op : BinOp) (x y : D) (K : D → Prop) : Prop :=
  match x, y with
  | .int k a, .int k' b => match op with
    | .shl => shiftD .shl k a b K
    | .shr => shiftD .shr k a b K
    | op => if k = k' then arith op k a b K else False
  | .str a, .str b => match op with
    | .eql => K (.bool (a.toList == b.toList))
    | .neq => K (.bool (!(a.toList == b.toList)))
    | _ => False
  | .bool a, .bool b => match isB with
    | true => match op with
      | .eql => K (.bool (a == b))
      | .neq => K (.bool (!(a == b)))
      | _ => False
    | false => False
  | _, _ => False
def isBool (P : Program) (t : TypeId) : Bool := match P.underlying t with | some .bool => true | _ => false
def unD (op : UnOp) (x : D) (K : D → Prop) : Prop :=
  match op, x with
  | .not, .bool b => K (.bool !b)
  | .neg, .int k n => K (.int k (k.wrap (0 - n)))
  | _, _ => False

def argOf (r : RV) (K : AV → List (Nat × Body × Nat) → Prop) : Prop :=
  match r with
  | .any => K .any []
  | .d x => K (.d x) []
  | .lim sz xs => K (.d (.list sz xs)) []
  | .cptr cs => K (.cptr cs) []
  | .vptr id n o cs => forceS (cs.drop o) fun l => K (.cptr l) [(id, .fvar cs, n)]
  | .row id n sz _ xs => K (.d (.list sz xs)) [(id, .frow sz xs, n)]
  | _ => False
def argsOf (ρ : Operand → RV) : List Operand → (List AV → List (Nat × Body × Nat) → Prop) → Prop
  | [], K => K [] []
  | x :: r, K => argOf (ρ x) fun v b => argsOf ρ r fun vs bs => K (v :: vs) (b ++ bs)

/-- A result that shares no memory with anything. -/
def D.bare : D → Bool
  | .bool _ | .int _ _ | .str _ | .func _ => true
  | _ => false
def AV.bare : AV → Bool
  | .d (.agg xs) => xs.all D.bare
  | .d x => x.bare
  | .tup xs => xs.all D.bare
  | _ => false

def lentK (r : AV) (lent : List (Nat × Body × Nat)) (K : Eff → Prop) : Prop :=
  match lent with
  | [] => K ⟨r, []⟩
  | l => match r.bare with
    | true => K ⟨r, []⟩
    | false => K ⟨r, l⟩
/-- What the result is to the caller, who holds it in slot d. -/
def got (d dv : Nat) (r : AV) (lent : List (Nat × Body × Nat)) (K : Eff → Prop) : Prop :=
  match r with
  | .own sz e xs => K ⟨.sl d (dv + 1), lent ++ [(d, .row sz e xs, dv + 1)]⟩
  | .under _ _ _ | .ptr _ _ _ | .sl _ _ | .eptr _ _ _ _ _ => False
  | r => lentK r lent K

def listOf (r : RV) (K : Nat → List D → Prop) : Prop :=
  match r with
  | .d (.list sz xs) => K sz xs
  | .lim sz xs => K sz xs
  | .row _ _ sz _ xs => K sz xs
  | _ => False

def partsD (ρ : Operand → RV) : List (Nat × Operand) → (List (Nat × D) → List (Nat × Body × Nat) → Prop) → Prop
  | [], K => K [] []
  | (i, x) :: r, K => asD (ρ x) fun v b => partsD ρ r fun vs bs => K ((i, v) :: vs) (b ++ bs)
def fillD (place : Nat → Option (Nat × Nat)) (cells : List D) : List (Nat × D) → Option (List D)
  | [] => some cells
  | (i, v) :: rest => match place i with
    | none => none
    | some (off, size) => if v.cells.length = size ∧ off + v.cells.length ≤ cells.length then fillD place (splice cells off v.cells) rest else none
def inOrder : Nat → List (Nat × D) → Option (List D)
  | _, [] => some []
  | n, (i, v) :: r => if i = n then (inOrder (n + 1) r).map (v :: ·) else none

def sizeT (P : Program) (t : TypeId) : Nat := match P.info? t with | some i => i.size | none => 0
def bytesT (P : Program) (t : TypeId) : Nat := match P.info? t with | some i => i.bytes | none => 0

def hasZero (P : Program) (t : TypeId) : Bool := match P.info? t with | some i => (match i.zero with | some z => decide (z.cells.size = i.size) | none => false) | none => false

def notRow (id : Nat) : List (Nat × Body × Nat) → Bool
  | [] => true
  | x :: r => decide (x.1 ≠ id) && notRow id r

/-- The operation's effect. ρ: the operands (behind a guard); d, dv: the slot that it writes, and its box's version. -/
def yA (P : Program) (ρ : Option (Nat × Bool) → Operand → RV) (g : Option (Nat × Bool)) (o : Oper) (d dv : Nat) (K : Eff → Prop) : Prop :=
  match o.op with
  | .move x => K ⟨back (ρ g x), []⟩
  | .assign (.const (.slice none 0 0)) => match P.underlying o.type with
    | some (.slice e) => if 0 < sizeT P e then K ⟨.sl d (dv + 1), [(d, .row (sizeT P e) e [], dv + 1)]⟩ else False
    | _ => False
  | .assign x => K ⟨back (ρ g x), []⟩
  | .pick (.tmp t) a b => match ρ g (.tmp t) with
    | .bot => K ⟨.bot, []⟩
    | .d (.bool c) => match ρ (some (t, true)) a with
      | .bot => match ρ (some (t, false)) b with
        | .d (.bool y) => K ⟨.d (.bool y), []⟩
        | _ => False
      | .d (.bool x) => match ρ (some (t, false)) b with
        | .bot => K ⟨.d (.bool x), []⟩
        | .d (.bool y) => K ⟨.d (.bool (bif c then x else y)), []⟩
        | _ => False
      | _ => False
    | _ => False
  | .box _ x => asD (ρ g x) fun v b => forceS v.cells fun l => K ⟨.ptr d (dv + 1) 0, b ++ [(d, .var l, dv + 1)]⟩
  | .alloc t => match P.info? t with
    | some i => match i.zero with
      | some z => match zeroD z with
        | some v => forceS v.cells fun l => K ⟨.ptr d (dv + 1) 0, [(d, .var l, dv + 1)]⟩
        | none => False
      | none => False
    | none => False
  | .build t parts => match P.underlying t with
    | some (.struct fields) => match P.info? t with
      | some i => match i.zero with
        | some z => match zeroD z with
          | some zd => if fields.toList.all (fun f => (P.info? f.type).isSome) then partsD (ρ g) parts.toList fun ps b =>
            match fillD (fun i => match fields[i]? with | some f => some (f.offset, sizeT P f.type) | none => none) zd.cells ps with
            | some l => forceS l fun l => K ⟨.d (.agg l), b⟩
            | none => False
            else False
          | none => False
        | none => False
      | none => False
    | _ => False
  | .buildSlice t n parts => match P.underlying t with
    | some (.slice e) => partsD (ρ g) parts.toList fun ps b => match inOrder 0 ps with
      | some l => forceS l fun l =>
        if l.length = n ∧ 0 < n ∧ 0 < sizeT P e ∧ hasZero P e = true ∧ n * sizeT P e ≤ 16777216 ∧ l.all (fun x => x.cells.length == sizeT P e) then K ⟨.sl d (dv + 1), b ++ [(d, .row (sizeT P e) e l, dv + 1)]⟩ else False
      | none => False
    | _ => False
  | .load t a => match ρ g a with
    | .bot => K ⟨.bot, []⟩
    | .vptr _ _ o cs => ldD P t (cs.drop o) fun x => K ⟨.d x, []⟩
    | .cptr cs => ldD P t cs fun x => K ⟨.d x, []⟩
    | .eptr _ _ _ _ xs i o => At xs i fun x => ldD P t (x.cells.drop o) fun x => K ⟨.d x, []⟩
    | _ => False
  | .store t a x => if (P.info? t).isSome = true then match ρ g a with
    | .vptr id n o cs => asD (ρ g x) fun v b =>
      if v.cells.length = sizeT P t ∧ o + v.cells.length ≤ cs.length then forceS (splice cs o v.cells) fun l => K ⟨.any, b ++ [(id, .var l, n)]⟩ else False
    | .eptr id n sz e xs i o => asD (ρ g x) fun v b => At xs i fun y =>
      if v.cells.length = sizeT P t ∧ o + v.cells.length ≤ y.cells.length ∧ notRow id b = true then
        match y with
        | .agg cs => forceS (splice cs o v.cells) fun l => K ⟨.any, b ++ [(id, .row sz e (xs.set i (.agg l)), n)]⟩
        | _ => if v.one then K ⟨.any, b ++ [(id, .row sz e (xs.set i v), n)]⟩ else False
      else False
    | _ => False
    else False
  | .nilCheck x => match ρ g x with
    | .vptr id n o _ => K ⟨.ptr id n o, []⟩
    | .cptr cs => K ⟨.cptr cs, []⟩
    | .eptr id n sz _ _ i o => K ⟨.eptr id n sz i o, []⟩
    | _ => False
  | .binOp op t x y _ => match ρ g x with
    | .bot => K ⟨.bot, []⟩
    | .d a => match ρ g y with
      | .bot => K ⟨.bot, []⟩
      | .d b => binD (isBool P t) op a b fun x => K ⟨.d x, []⟩
      | _ => False
    | _ => False
  | .unOp op _ x => match ρ g x with
    | .bot => K ⟨.bot, []⟩
    | .d a => unD op a fun x => K ⟨.d x, []⟩
    | _ => False
  | .convert s t x => match P.underlying s with
    | some _ => match P.underlying t with
      | some (.int k) => match ρ g x with
        | .bot => K ⟨.bot, []⟩
        | .d (.int _ n) => K ⟨.d (.int k (k.wrap n)), []⟩
        | _ => False
      | _ => False
    | none => False
  | .fieldAddr s x f => match P.underlying s with
    | some (.struct fields) => match fields[f]? with
      | some fd => if 0 < sizeT P fd.type then match ρ g x with
          | .bot => K ⟨.bot, []⟩
          | .vptr id n o _ => K ⟨.ptr id n (o + fd.offset), []⟩
          | .cptr cs => forceS (cs.drop fd.offset) fun l => K ⟨.cptr l, []⟩
          | .eptr id n sz _ _ i o => K ⟨.eptr id n sz i (o + fd.offset), []⟩
          | _ => False
        else False
      | none => False
    | _ => False
  | .field s x f => match P.underlying s with
    | some (.struct fields) => match fields[f]? with
      | some fd => match ρ g x with
          | .bot => K ⟨.bot, []⟩
          | .d (.agg cs) => ldD P fd.type (cs.drop fd.offset) fun x => K ⟨.d x, []⟩
          | _ => False
      | none => False
    | _ => False
  | .indexAddr t x ix => match P.underlying t with
    | some (.slice e) => match ρ g ix with
      | .d (.int _ i) => match ρ g x with
        | .d (.list sz xs) => if sz = sizeT P e ∧ 0 < sz then At xs i fun x => forceS x.cells fun l => K ⟨.cptr l, []⟩ else False
        | .lim sz xs => if sz = sizeT P e ∧ 0 < sz then At xs i fun x => forceS x.cells fun l => K ⟨.cptr l, []⟩ else False
        | .row id n sz _ xs => if sz = sizeT P e then Need (0 ≤ i ∧ i.toNat < xs.length) (K ⟨.eptr id n sz i.toNat 0, []⟩) else False
        | _ => False
      | _ => False
    | _ => False
  | .call c => match c.callee with
    | .value f => match ρ g f with
      | .d (.func f) => argsOf (ρ g) c.args.toList fun vs bs => CallStop P f vs fun r => got d dv r bs K
      | _ => False
    | .builtin .len => match c.args.toList, c.argTypes.toList with
      | [x], [t] => match P.underlying t with
        | some .string => match ρ g x with
          | .bot => K ⟨.bot, []⟩
          | .d (.str s) => K ⟨.d (.int .i64 s.size), []⟩
          | _ => False
        | some (.slice _) => match ρ g x with
          | .bot => K ⟨.bot, []⟩
          | r => listOf r fun _ xs => K ⟨.d (.int .i64 xs.length), []⟩
        | _ => False
      | _, _ => False
    | .builtin .append => match c.args.toList, c.argTypes.toList with
      | [x, y], [t, u] => match P.underlying t with
        | some (.slice e) => if t = u then listOf (ρ g y) fun sz' ys => match ρ g x with
          | .row id n sz e' xs => if e = e' ∧ sz = sizeT P e ∧ hasZero P e = true then Need (xs.length + ys.length ≤ maxLen ∧ (xs.length + ys.length) * bytesT P e ≤ 140737488355328 ∧ (ys = [] ∨ sz' = sz)) (K ⟨.sl id (n + 1), [(id, .row sz e (xs ++ ys), n + 1)]⟩) else False
          | _ => False
          else False
        | _ => False
      | _, _ => False
    | _ => False
  | .extract t i => match ρ g t with
    | .tup xs => match xs[i]? with
      | some x => K ⟨.d x, []⟩
      | none => False
    | _ => False
  | _ => False

/-- Under a guard that is not decided such an operation is carried out all the same: it can do no harm. -/
def harmless : Op → Bool
  | .move _ | .pick _ _ _ | .load _ _ | .unOp _ _ _ | .convert _ _ _ | .fieldAddr _ _ _ | .field _ _ _ => true
  | .binOp op _ _ _ _ => match op with | .quo | .rem | .shl | .shr => false | _ => true
  | .call c => match c.callee with | .builtin .len => true | _ => false
  | _ => false

def dstOf : List Oper → Nat → Option Nat
  | [], _ => none
  | o :: _, 0 => o.dst
  | _ :: r, n + 1 => dstOf r n

def setAVK : AS → Nat → AV → (AS → Prop) → Prop
  | [], _, _, K => K []
  | s :: r, 0, v, K => match s with | ⟨_, b, n⟩ => K (⟨v, b, n⟩ :: r)
  | s :: r, k + 1, v, K => setAVK r k v fun r' => K (s :: r')
def setBoxK : AS → Nat → Body → Nat → (AS → Prop) → Prop
  | [], _, _, _, K => K []
  | s :: r, 0, b, m, K => match s with | ⟨v, _, _⟩ => K (⟨v, b, m⟩ :: r)
  | s :: r, k + 1, b, m, K => setBoxK r k b m fun r' => K (s :: r')
def boxesK : List (Nat × Body × Nat) → AS → (AS → Prop) → Prop
  | [], S, K => K S
  | (id, b, n) :: r, S, K => forceN n fun n => forceB b fun b => setBoxK S id b n fun S => boxesK r S K
def appK (dst : Option Nat) (e : Eff) (S : AS) (K : AS → Prop) : Prop :=
  match e with
  | ⟨v, bx⟩ => match dst with
    | some d => forceAV v fun v => boxesK bx S fun S => setAVK S d v K
    | none => boxesK bx S K
def appB : List (Nat × Body × Nat) → AS → AS
  | [], S => S
  | (id, b, n) :: r, S => appB r (setBox S id b n)
def app (dst : Option Nat) (e : Eff) (S : AS) : AS :=
  match dst with
  | some d => setAV (appB e.bx S) d e.av
  | none => appB e.bx S

def ρOf (S : AS) (g : Option (Nat × Bool)) (x : Operand) : RV := res S (unw g (ev S x))

/-- The version of a box, if there is such a slot. -/
def verK : AS → Nat → (Nat → Prop) → Prop
  | [], _, _ => False
  | s :: _, 0, K => match s with | ⟨_, _, n⟩ => K n
  | _ :: r, k + 1, K => verK r k K

def dK (x : Option Nat) (K : Nat → Prop) : Prop :=
  match x with
  | some d => K d
  | none => K 0
/-- One operation: the guard, the effect. -/
def opY (P : Program) (all : List Oper) (done : List Nat) (o : Oper) (S : AS) (K : AS → Eff → Prop) : Prop :=
  match o.guard with
  | none => dK o.dst fun d => verK S d fun n => yA P (ρOf S) none o d n (K S)
  | some (j, want) => match dstOf all j with
    | none => False
    | some t => if done.contains t = true then
      match harmless o.op with
      | true => dK o.dst fun d => verK S d fun n => yA P (ρOf S) (some (t, want)) o d n fun e => match e with
        | ⟨v, []⟩ => K S ⟨.under t want v, []⟩
        | _ => False
      | false => match (sget S t).av with
        | .d (.bool b) => match want with
          | true => bcase b (setAVK S t (.d (.bool true)) fun S => dK o.dst fun d => verK S d fun n => yA P (ρOf S) (some (t, true)) o d n (K S)) (setAVK S t (.d (.bool false)) fun S => K S ⟨.under t true .bot, []⟩)
          | false => bcase b (setAVK S t (.d (.bool true)) fun S => K S ⟨.under t false .bot, []⟩) (setAVK S t (.d (.bool false)) fun S => dK o.dst fun d => verK S d fun n => yA P (ρOf S) (some (t, false)) o d n (K S))
        | _ => False
      else False

def forceNL : List Nat → (List Nat → Prop) → Prop
  | [], K => K []
  | x :: r, K => forceNL r fun r => K (x :: r)
def dstList : Option Nat → List Nat
  | some d => [d]
  | none => []
/-- (By the recursor itself: what the elaborator and the kernel unfold is then one text.) -/
def opsA (P : Program) (all : List Oper) (done : List Nat) (l : List Oper) : AS → (AS → Prop) → Prop :=
  List.rec (motive := fun _ => List Nat → AS → (AS → Prop) → Prop) (fun _ S K => K S)
    (fun o _ ih done S K => if (dstList o.dst).all (fun d => !done.contains d) = true then opY P all done o S fun S e => appK o.dst e S fun S => forceNL (dstList o.dst ++ done) fun done => ih done S K else False) l done

/-! ### A region whose order is open -/
def refs : AV → List Nat
  | .ptr id _ _ => [id]
  | .sl id _ => [id]
  | .eptr id _ _ _ _ => [id]
  | .under _ _ x => refs x
  | _ => []
def opTmps : List Operand → List Nat
  | [] => []
  | .tmp t :: r => t :: opTmps r
  | _ :: r => opTmps r
/-- The slots that an operation looks at. -/
def looks (all : List Oper) (o : Oper) : List Nat :=
  (match o.guard with
    | some (j, _) => dstList (dstOf all j)
    | none => []) ++ opTmps o.op.operands.toList
/-- It looks at the version of the box of its own slot. -/
def makes : Op → Bool
  | .assign _ | .box _ _ | .alloc _ | .buildSlice _ _ _ => true
  | .call c => match c.callee with | .value _ => true | _ => false
  | _ => false
def boxR (S : AS) (ts : List Nat) (o : Oper) : List Nat :=
  (if makes o.op = true then [o.dst.getD 0] else []) ++ ts.flatMap fun t => refs (sget S t).av
def disj (x y : List Nat) : Bool := x.all fun i => !y.contains i
def edge (o : Oper) (i : Nat) : Bool := o.after.toList.any fun e => e.on == i && Region.binds .any e
def okBox (o : Oper) (R W : List Nat) (log : List (Nat × List Nat × List Nat)) : Bool :=
  log.all fun x => (disj x.2.2 (R ++ W) && disj x.2.1 W) || edge o x.1
def opsD (P : Program) (all : List Oper) (k : Nat) (log : List (Nat × List Nat × List Nat)) (done : List Nat) (l : List Oper) : AS → (AS → Prop) → Prop :=
  List.rec (motive := fun _ => Nat → List (Nat × List Nat × List Nat) → List Nat → AS → (AS → Prop) → Prop) (fun _ _ _ S K => K S)
    (fun o _ ih k log done S K => if (dstList o.dst).all (fun d => !done.contains d) = true then
      opY P all done o S fun S e => forceNL (boxR S (looks all o) o) fun R => forceNL (e.bx.map (·.1)) fun W => if okBox o R W log = true then
        appK o.dst e S fun S' => forceNL (dstList o.dst ++ done) fun done => ih (k + 1) ((k, R, W) :: log) done S' K else False
    else False) l k log done
/-- The order of the text is as good as any, as to the slots. -/
def regS (all : List Oper) : Nat → List Oper → Bool
  | _, [] => true
  | k, o :: r => ((o.after.toList.all fun e => !Region.binds .any e || decide (e.on < k)) && (match o.guard with | some (j, _) => decide (j < k) | none => true)) &&
      (all.take k).zipIdx.all (fun x => (disj (dstList x.1.dst) (looks all o) && disj (looks all x.1) (dstList o.dst)) || edge o x.2) && regS all (k + 1) r

/-- Behind a region nobody asks what a guarded operation gave. -/
def plain : AS → (AS → Prop) → Prop
  | [], K => K []
  | s :: r, K => plain r fun r' => match s with
    | ⟨.under _ _ _, b, n⟩ => K (⟨.any, b, n⟩ :: r')
    | s => K (s :: r')

def leSlot (v v' : Nat → Nat) (a a' : AV) (K : Prop) : Prop :=
  match a' with
  | .any => K
  | .d x' => match a with
    | .d x => x = x' ∧ K
    | .lim sz xs => D.list sz xs = x' ∧ K
    | _ => False
  | .lim sz xs => a = .lim sz xs ∧ K
  | .cptr cs => a = .cptr cs ∧ K
  | .tup xs => a = .tup xs ∧ K
  | .ptr id n o => match a with
    | .ptr id' n' o' => if id' = id ∧ n' = v id ∧ n = v' id then o' = o ∧ K else False
    | _ => False
  | .sl id n => match a with
    | .sl id' n' => if id' = id ∧ n' = v id ∧ n = v' id then K else False
    | _ => False
  | _ => False
def leBox (b b' : Body) (K : Prop) : Prop :=
  match b' with
  | .none => K
  | .frow sz xs => (b = .frow sz xs ∨ ∃ e, b = .row sz e xs) ∧ K
  | .fvar cs => (b = .fvar cs ∨ b = .var cs) ∧ K
  | b' => b = b' ∧ K
def leAll (v v' : Nat → Nat) : AS → AS → Prop
  | [], [] => True
  | s :: r, s' :: r' => leSlot v v' s.av s'.av (leBox s.box s'.box (leAll v v' r r'))
  | _, _ => False
/-- The second says no more than the first. -/
def Le (S S' : AS) : Prop := leAll (fun i => (sget S i).ver) (fun i => (sget S' i).ver) S S'

def forceAS : AS → (AS → Prop) → Prop
  | [], K => K []
  | s :: r, K => forceAS r fun r' => match s with | ⟨v, b, n⟩ => forceAV v fun v => forceB b fun b => forceN n fun n => K (⟨v, b, n⟩ :: r')
structure Hold (p : Prop) : Prop where
  go : p

def wpA (P : Program) (c : Code) : (Exit → AS → Prop) → AS → Prop :=
  Code.rec (motive := fun _ => (Exit → AS → Prop) → AS → Prop)
    (fun Q S => Q .normal S)
    (fun _ ops draw Q S => match draw with
      | false => opsA P ops.toList [] ops.toList S fun S => plain S (Q .normal)
      | true => Need (regS ops.toList 0 ops.toList = true ∧ P.follows .mixedOrders = true) (opsD P ops.toList 0 [] [] ops.toList S fun S => plain S (Q .normal)))
    (fun _ _ wx wy Q S => wx (fun e S => match e with | .normal => wy Q S | e => Q e S) S)
    (fun c _ _ wx wy Q S => match ρOf S none c with
      | .d (.bool b) => bcase b (wx Q S) (wy Q S)
      | _ => False)
    (fun id _ wc Q S => wc (fun e S => match e with | .exit id' => if id' = id then Q .normal S else Q (.exit id') S | e => Q e S) S)
    (fun _ wc Q S => Hold (∃ (ι : Type) (Inv : ι → AS) (μ : ι → Nat) (i : ι), Le S (Inv i) ∧
      ∀ i, forceAS (Inv i) (wc (fun e S => match e with | .normal => ∃ j, Le S (Inv j) ∧ μ j < μ i | e => Q e S))))
    (fun _ _ _ _ _ _ _ _ => False)
    (fun id Q S => Q (.exit id) S)
    (fun _ _ _ _ => False)
    (fun _ Q S => Q .normal S)
    (fun _ _ _ => False)
    (fun Q S => Q .ret S)
    (fun _ _ _ => False)
    c

/-- What the function hands back. -/
def retOf (P : Program) (S : AS) : List ResultVar → (List D → Prop) → Prop
  | [], K => K []
  | .tmp t :: r, K => asD (ρOf S none (.tmp t)) fun x _ => retOf P S r fun l => K (x :: l)
  | .cell t ty :: r, K => match ρOf S none (.tmp t) with
    | .vptr _ _ o cs => ldD P ty (cs.drop o) fun x => retOf P S r fun l => K (x :: l)
    | _ => False
structure Ret (x : AV) (r : AV) : Prop where
  go : x = r
def retA (P : Program) (rs : List ResultVar) (S : AS) (r : AV) : Prop :=
  match rs with
  | [.tmp t] => match ρOf S none (.tmp t) with
    | .row _ _ sz e xs => Either (AV.own sz e xs = r) True (Ret (.d (.list sz xs)) r)
    | v => asD v fun x _ => Ret (.d x) r
  | rs => retOf P S rs fun l => match l with
    | [x] => Ret (.d x) r
    | l => Ret (.tup l) r

def setMany : List (Nat × AV) → AS → AS
  | [], S => S
  | (t, v) :: r, S => setMany r (setAV S t v)
def blank : Nat → AS
  | 0 => []
  | n + 1 => sl0 :: blank n
def enter : List AV → AS → AS
  | [], S => S
  | a :: r, S => ⟨a, .none, 0⟩ :: enter r (S.drop 1)

/-- A state by its known slots and boxes. -/
def mkS (n : Nat) (l : List (Nat × AV)) (b : List (Nat × Body × Nat)) : AS := appB b (setMany l (blank n))
def Runs (P : Program) (fn : Func) (args : List AV) (r : AV) : Prop :=
  match fn.body with
  | some c => forceAS (enter args (blank fn.ntmps)) (wpA P c (fun e S => match e with
    | .normal | .ret => retA P fn.results.toList S r
    | _ => False))
  | none => False

end Go.Abs
