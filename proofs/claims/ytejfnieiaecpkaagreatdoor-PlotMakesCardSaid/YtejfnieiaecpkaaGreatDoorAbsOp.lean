/- The abstract machine: the operations, the code. -/
import Derived.Test.YtejfnieiaecpkaaGreatDoorAbs
set_option linter.unusedVariables false
set_option linter.unusedSimpArgs false
namespace Go.Abs
structure GD where
 av:AV
 bx:List (Nat × Ct × Nat)
 homes:List (Nat × Nat)
abbrev Bx:=List (Nat × Ct × Nat)
def ar:RV→AV
 | .any=>.any
 | .bot=>.bot
 | .d x=>.d x
 | .lim sz xs=>.lim sz xs
 | .vptr id n o _=>.ptr id n o
 | .row id n _ _ _=>.sl id n
 | .eptr id n sz _ _ i o=>.eptr id n sz i o
 | .tup xs=>.tup xs
 | .mp id n _=>.sl id n
 | .cagg xs=>.cc none xs
 | .cfun f cs=>.cc (some f) cs
 | .clo f cs _ _ _ _ _=>.cc (some f) cs
def FA:Nat→(Nat→Prop)→Prop
 | 0,K=>K 0
 | n + 1,K=>FA n fun m=>K (m + 1)
def TF (v:AV) (K:AV→Prop):Prop :=
 match v with
 | .any=>K .any
 | .bot=>K .bot
 | .d x=>K (.d x)
 | .lim sz xs=>K (.lim sz xs)
 | .ptr id n o=>FA n fun n=>FA o fun o=>K (.ptr id n o)
 | .sl id n=>FA n fun n=>K (.sl id n)
 | .eptr id n sz i o=>FA n fun n=>FA sz fun sz=>FA o fun o=>K (.eptr id n sz i o)
 | .tup xs=>K (.tup xs)
 | .own sz e xs=>K (.own sz e xs)
 | .optr cs=>K (.optr cs)
 | .under t w x=>match x with
   | .any=>K (.under t w .any)
   | .d x=>K (.under t w (.d x))
   | .ptr id n o=>FA n fun n=>FA o fun o=>K (.under t w (.ptr id n o))
   | .sl id n=>FA n fun n=>K (.under t w (.sl id n))
   | .eptr id n sz i o=>FA n fun n=>FA sz fun sz=>FA o fun o=>K (.under t w (.eptr id n sz i o))
   | x=>K (.under t w x)
 | .cc k xs=>K (.cc k xs)
def Xf (b:Ct) (K:Ct→Prop):Prop :=
 match b with
 | .none=>K .none
 | .var cs=>K (.var cs)
 | .row sz e xs=>FA sz fun sz=>K (.row sz e xs)
 | .fvar cs=>K (.fvar cs)
 | .frow sz xs=>FA sz fun sz=>K (.frow sz xs)
 | .map es=>K (.map es)
def Cy {α:Type}:List α→(List α→Prop)→Prop
 | [],K=>K []
 | x :: r,K=>Cy r fun r=>K (x :: r)
def splice {α:Type}:List α→Nat→List α→List α
 | cs,0,ys=>ys++cs.drop ys.length
 | [],_ + 1,_=>[]
 | c :: cs,n + 1,ys=>c :: splice cs n ys
def Ot:List D→(List D→Prop)→Prop
 | [],K=>K []
 | x :: r,K=>Ot r fun r=>match x with
   | .nil s=>K (.list s [] :: r)
   | x=>K (x :: r)
def Te (x:D) (K:D→Prop):Prop :=
 match x with
 | .nil s=>K (.list s [])
 | .agg xs=>Ot xs fun l=>K (.agg l)
 | x=>K x
def VX (r:RV) (K:D→Bx→Prop):Prop :=
 match r with
 | .d x=>K x []
 | .lim sz xs=>K (.list sz xs) []
 | .row id n sz _ xs=>K (.list sz xs) [(id,.frow sz xs,n)]
 | _=>False
def dI (r:RV) (K:D→Bx→Prop):Prop:=VX r fun x b=>Te x fun x=>K x b
def Ev (σ:Nat→Nat→RV):List C→(List D→Bx→Prop)→Prop
 | [],K=>K [] []
 | .d x :: r,K=>Ev σ r fun l b=>K (x :: l) b
 | .sl id n :: r,K=>VX (σ id n) fun x b=>Ev σ r fun l b'=>K (x :: l) (b++b')
 | .own _ _ _ :: _,_=>False
def Xq:List D→(List C→Prop)→Prop
 | [],K=>K []
 | x :: r,K=>Xq r fun r=>K (.d x :: r)
def zD:Value→Option D
 | .int k n=>some (.int k n)
 | .bool b=>some (.bool b)
 | .string s=>some (.str s)
 | .slice none 0 0=>some (.nil 0)
 | _=>none
def fw:List Value→Option (List D)
 | []=>some []
 | v :: r=>match zD v,fw r with
   | some x,some l=>some (x :: l)
   | _,_=>none
def AN (P:Program) (t:TypeId):Nat:=match P.info? t with | some i=>i.size | none=>0
def MT (P:Program) (t:TypeId):Nat:=match P.info? t with | some i=>i.bytes | none=>0
def S9 (P:Program):Nat→TypeId→List Nat
 | 0,_=>[]
 | n + 1,t=>match P.underlying t with
   | some (.slice e)=>[AN P e]
   | some (.struct fs)=>fs.toList.flatMap fun f=>S9 P n f.type
   | some (.array k e)=>(List.replicate k e).flatMap fun e=>S9 P n e
   | _=>[0]
def JZ:List D→List Nat→List D
 | .nil _ :: r,s :: q=>.nil s :: JZ r q
 | x :: r,_ :: q=>x :: JZ r q
 | l,_=>l
def zeroCells (P:Program) (t:TypeId):Option (List D) :=
 match P.info? t with
 | some i=>match i.zero with
   | some z=>match fw z.cells.toList with
     | some l=>some (JZ l (S9 P 12 t))
     | none=>none
   | none=>none
 | none=>none
def L6 (P:Program) (t:TypeId):Option Bool :=
 match P.underlying t with
 | some (.struct _) | some (.array _ _)=>some true
 | some _=>some false
 | none=>none
def Z5 (P:Program) (t:TypeId) (cs:List D) (K:D→Prop):Prop :=
 match L6 P t with
 | some true=>match P.info? t with
   | some i=>Cy (cs.take i.size) fun l=>if l.length = i.size then K (.agg l) else False
   | none=>False
 | some false=>match cs with
   | y :: _=>K y
   | []=>False
 | none=>False
def cS (P:Program) (σ:Nat→Nat→RV) (t:TypeId) (cs:List C) (K:GD→Prop):Prop :=
 match L6 P t with
 | some true=>match P.info? t with
   | some i=>Cy (cs.take i.size) fun l=>if l.length = i.size then Ev σ l fun l b=>K ⟨.d (.agg l),b,[]⟩ else False
   | none=>False
 | some false=>match cs with
   | .d y :: _=>K ⟨.d y,[],[]⟩
   | .sl id n :: _=>K ⟨.sl id n,[],[]⟩
   | _=>False
 | none=>False
def SY (op:BinOp) (k:IntKind) (a b:Int) (K:D→Prop):Prop :=
 match op with
 | .add=>K (.int k (k.wrap (a + b)))
 | .sub=>K (.int k (k.wrap (a - b)))
 | .mul=>K (.int k (k.wrap (a * b)))
 | .quo=>JL (b≠0) (K (.int k (k.wrap (a.tdiv b))))
 | .rem=>JL (b≠0) (K (.int k (a.tmod b)))
 | .and=>K (.int k (k.wrap (BitVec.ofInt k.bits a &&& BitVec.ofInt k.bits b).toNat))
 | .or=>K (.int k (k.wrap (BitVec.ofInt k.bits a ||| BitVec.ofInt k.bits b).toNat))
 | .xor=>K (.int k (k.wrap (BitVec.ofInt k.bits a ^^^ BitVec.ofInt k.bits b).toNat))
 | .andNot=>K (.int k (k.wrap (BitVec.ofInt k.bits a &&& ~~~ BitVec.ofInt k.bits b).toNat))
 | .eql=>K (.bool (a==b))
 | .neq=>K (.bool (a != b))
 | .lss=>K (.bool (decide (a < b)))
 | .leq=>K (.bool (decide (a≤b)))
 | .gtr=>K (.bool (decide (a > b)))
 | .geq=>K (.bool (decide (a ≥ b)))
 | _=>False
def Se (op:BinOp) (k:IntKind) (a b:Int) (K:D→Prop):Prop :=
 match op with
 | .shl=>JL (0≤b) (K (.int k (k.wrap (a * 2 ^ (min b.toNat k.bits)))))
 | .shr=>JL (0≤b) (K (.int k (a.fdiv (2 ^ (min b.toNat k.bits)))))
 | _=>False
def fb (P:Program) (t:TypeId) (fs:List Field) (n m:Nat):Bool :=
 !P.stoodInHeld t && fs.all fun f=>!(f.name == "_") && ((P.info? f.type).isSome && (decide (f.offset + AN P f.type≤n) && decide (f.offset + AN P f.type≤m)))
def XL (P:Program):Nat→TypeId→List D→List D→(Bool→Prop)→Prop
 | 0,_,_,_,_=>False
 | n + 1,t,xs,ys,K=>match P.underlying t with
   | some (.int _)=>match xs,ys with
     | .int k a :: _,.int k' b :: _=>if k = k' then K (a==b) else False
     | _,_=>False
   | some .bool=>match xs,ys with
     | .bool a :: _,.bool b :: _=>K (a==b)
     | _,_=>False
   | some .string=>match xs,ys with
     | .str a :: _,.str b :: _=>K (a.toList==b.toList)
     | _,_=>False
   | some (.struct fs)=>JL (fb P t fs.toList xs.length ys.length = true)
     (List.rec (motive:=fun _=>(Bool→Prop)→Prop) (fun K=>K true)
      (fun f _ ih K=>XL P n f.type ((xs.drop f.offset).take (AN P f.type)) ((ys.drop f.offset).take (AN P f.type)) fun a=>ih fun b=>K (a && b)) fs.toList K)
   | _=>False
def Za (P:Program) (t:TypeId):Bool:=match P.underlying t with | some .bool=>true | _=>false
def Y5 (op:BinOp) (a b:ByteArray) (K:D→Prop):Prop :=
 match op with
 | .add=>JL (a.size + b.size≤9223372036854775807) (K (.str (a++b)))
 | .eql=>K (.bool (a.toList==b.toList))
 | .neq=>K (.bool (!(a.toList==b.toList)))
 | .lss=>K (.bool (Op.bytesLess a.toList b.toList))
 | .leq=>K (.bool (Op.bytesLess a.toList b.toList || a.toList==b.toList))
 | .gtr=>K (.bool (!(Op.bytesLess a.toList b.toList || a.toList==b.toList)))
 | .geq=>K (.bool (!(Op.bytesLess a.toList b.toList)))
 | _=>False
def Yd (P:Program) (t:TypeId) (op:BinOp) (x y:D) (K:D→Prop):Prop :=
 match x,y with
 | .int k a,.int k' b=>match op with
   | .shl=>Se .shl k a b K
   | .shr=>Se .shr k a b K
   | op=>if k = k' then SY op k a b K else False
 | .str a,.str b=>Y5 op a b K
 | .bool a,.bool b=>match Za P t with
   | true=>match op with
     | .eql=>K (.bool (a==b))
     | .neq=>K (.bool (!(a==b)))
     | _=>False
   | false=>False
 | .agg xs,.agg ys=>JL (P.eqGuardType P.depth t = false∧L6 P t = some true) (match op with
   | .eql=>XL P 12 t xs ys fun b=>K (.bool b)
   | .neq=>XL P 12 t xs ys fun b=>K (.bool !b)
   | _=>False)
 | _,_=>False
def e5 (op:UnOp) (x:D) (K:D→Prop):Prop :=
 match op,x with
 | .not,.bool b=>K (.bool !b)
 | .neg,.int k n=>K (.int k (k.wrap (0 - n)))
 | .xor,.int k n=>K (.int k (k.wrap (BitVec.ofInt k.bits (if k.signed then -1 else k.max) ^^^ BitVec.ofInt k.bits n).toNat))
 | _,_=>False
def Og (σ:Nat→Nat→RV) (r:RV) (K:AV→Bx→Prop):Prop :=
 match r with
 | .any=>K .any []
 | .d x=>Te x fun x=>K (.d x) []
 | .lim sz xs=>K (.d (.list sz xs)) []
 | .vptr id n o cs=>Ev σ cs fun l b=>Ot l fun l=>Cy (l.drop o) fun l'=>K (.d (.ptr l')) (b++[(id,.fvar l,n)])
 | .row id n sz _ xs=>K (.d (.list sz xs)) [(id,.frow sz xs,n)]
 | .eptr id n sz _ xs i o=>At xs i fun x=>Cy (x.cells.drop o) fun l=>K (.d (.ptr l)) [(id,.frow sz xs,n)]
 | _=>False
def OU:Operand→Bool
 | .const (.slice none 0 0)=>true
 | _=>false
def VP (P:Program) (t:TypeId) (K:AV→Prop):Prop :=
 match P.underlying t with
 | some (.slice e)=>K (.d (.list (AN P e) []))
 | _=>False
def Hc (P:Program) (σ:Nat→Nat→RV) (ρ:Operand→RV):List Operand→List TypeId→(List AV→Bx→Prop)→Prop
 | [],_,K=>K [] []
 | x :: r,ts,K=>match OU x with
   | true=>match ts with
     | t :: ts=>VP P t fun v=>Hc P σ ρ r ts fun vs bs=>K (v :: vs) bs
     | []=>False
   | false=>Og σ (ρ x) fun v b=>Hc P σ ρ r ts.tail fun vs bs=>K (v :: vs) (b++bs)
def Q3 (σ:Nat→Nat→RV) (r:RV) (K:AV→Bx→Option (Nat × Nat)→Prop):Prop :=
 match r with
 | .row id n sz e xs=>K (.own sz e xs) [] (some (id,n))
 | .vptr id n 0 cs=>Ev σ cs fun l b=>Ot l fun l=>K (.optr l) b (some (id,n))
 | r=>Og σ r fun v b=>K v b none
def FD (P:Program) (σ:Nat→Nat→RV) (ρ:Operand→RV):List Operand→List TypeId→(List AV→Bx→List (Option (Nat × Nat))→Prop)→Prop
 | [],_,K=>K [] [] []
 | x :: r,ts,K=>match OU x with
   | true=>match ts with
     | t :: ts=>VP P t fun v=>FD P σ ρ r ts fun vs bs us=>K (v :: vs) bs (none :: us)
     | []=>False
   | false=>Q3 σ (ρ x) fun v b u=>FD P σ ρ r ts.tail fun vs bs us=>K (v :: vs) (b++bs) (u :: us)
def UU:List D→(List AV→Prop)→Prop
 | [],K=>K []
 | x :: r,K=>UU r fun r=>K (.d x :: r)
def C.bare:C→Bool
 | .d (.agg xs)=>xs.all D.bare
 | .d x=>x.bare
 | .own _ _ _=>true
 | .sl _ _=>false
def AV.bare:AV→Bool
 | .d (.agg xs)=>xs.all D.bare
 | .d x=>x.bare
 | .tup xs=>xs.all C.bare
 | .own _ _ _=>true
 | _=>false
def Yg (r:AV) (lent:Bx) (K:Bx→Prop):Prop :=
 match lent with
 | []=>K []
 | l=>match r.bare with
   | true=>K []
   | false=>K l
def HB (id:Nat):Bx→Bool
 | []=>true
 | x :: r=>decide (x.1≠id) && HB id r
def PL:List C→List (Nat × Nat)→(List C→Bx→Prop)→Prop
 | [],[],K=>K [] []
 | .d x :: r,hs,K=>PL r hs fun l b=>K (.d x :: l) b
 | .own sz e xs :: r,(h,n) :: hs,K=>PL r hs fun l b=>if HB h b = true then K (.sl h n :: l) ((h,.row sz e xs,n) :: b) else False
 | _,_,_=>False
def SB:List C→Bool
 | []=>false
 | .own _ _ _ :: _=>true
 | _ :: r=>SB r
def ba (d dv:Nat) (r:AV) (b:Bx) (K:GD→Prop):Prop :=
 match r with
 | .own sz e xs=>if HB d b = true then K ⟨.sl d (dv + 1),b++[(d,.row sz e xs,dv + 1)],[]⟩ else False
 | .optr cs=>if HB d b = true then Xq cs fun l=>K ⟨.ptr d (dv + 1) 0,b++[(d,.var l,dv + 1)],[]⟩ else False
 | .tup xs=>match SB xs with
   | false=>K ⟨.tup xs,b,[]⟩
   | true=>dE fun hs=>PL xs hs fun l hb=>if hb.all (fun h=>HB h.1 b) = true then K ⟨.tup l,b++hb,hs⟩ else False
 | .under _ _ _ | .ptr _ _ _ | .sl _ _ | .eptr _ _ _ _ _ | .cc _ _=>False
 | r=>K ⟨r,b,[]⟩
def Lx:List (Option (Nat × Nat))→List AV→(Bx→Prop)→Prop
 | [],[],K=>K []
 | none :: us,_ :: os,K=>Lx us os K
 | some (id,n) :: us,.own sz e ys :: os,K=>Lx us os fun b=>if HB id b = true then K ((id,.row sz e ys,n) :: b) else False
 | some (id,n) :: us,.optr cs :: os,K=>Xq cs fun l=>Lx us os fun b=>if HB id b = true then K ((id,.var l,n) :: b) else False
 | some (id,n) :: us,.any :: os,K=>Lx us os fun b=>if HB id b = true then K ((id,.none,n + 1) :: b) else False
 | _,_,_=>False
def MG (r:RV) (K:Nat→List D→Prop):Prop :=
 match r with
 | .d (.list sz xs)=>K sz xs
 | .d (.nil sz)=>K sz []
 | .lim sz xs=>K sz xs
 | .row _ _ sz _ xs=>K sz xs
 | _=>False
def KO (ρ:Operand→RV):List (Nat × Operand)→(List (Nat × D)→Bx→Prop)→Prop
 | [],K=>K [] []
 | (i,x) :: r,K=>VX (ρ x) fun v b=>KO ρ r fun vs bs=>K ((i,v) :: vs) (b++bs)
def Md (ρ:Operand→RV):List (Nat × Operand)→(List (Nat × D)→Bx→Prop)→Prop
 | [],K=>K [] []
 | (i,x) :: r,K=>dI (ρ x) fun v b=>Md ρ r fun vs bs=>K ((i,v) :: vs) (b++bs)
def Ud (place:Nat→Option (Nat × Nat)) (cells:List D):List (Nat × D)→Option (List D)
 | []=>some cells
 | (i,v) :: rest=>match place i with
   | none=>none
   | some (off,size)=>if v.cells.length = size∧off + v.cells.length≤cells.length then Ud place (splice cells off v.cells) rest else none
def R7 (ρ:Operand→RV):List (Nat × Operand)→Bool
 | []=>false
 | (_,x) :: r=>match ρ x with
   | .row _ _ _ _ _=>true
   | _=>R7 ρ r
def cellsOf (r:RV) (K:List C→Prop):Prop :=
 match r with
 | .row id n _ _ _=>K [.sl id n]
 | .d v=>Xq v.cells K
 | .lim sz xs=>K [.d (.list sz xs)]
 | _=>False
def LT (ρ:Operand→RV):List (Nat × Operand)→(List (Nat × List C)→Prop)→Prop
 | [],K=>K []
 | (i,x) :: r,K=>cellsOf (ρ x) fun c=>LT ρ r fun ps=>K ((i,c) :: ps)
def Wa (place:Nat→Option (Nat × Nat)) (cells:List C):List (Nat × List C)→Option (List C)
 | []=>some cells
 | (i,v) :: rest=>match place i with
   | none=>none
   | some (off,size)=>if v.length = size∧off + v.length≤cells.length then Wa place (splice cells off v) rest else none
def Pz:Nat→List (Nat × D)→Option (List D)
 | _,[]=>some []
 | n,(i,v) :: r=>if i = n then (Pz (n + 1) r).map (v :: ·) else none
def Ib (σ:Nat→Nat→RV) (ρ:Operand→RV):List Operand→(List D→Bx→Prop)→Prop
 | [],K=>K [] []
 | x :: r,K=>Og σ (ρ x) fun v b=>match v with
   | .d y=>if y.one = true then Ib σ ρ r fun l bs=>K (y :: l) (b++bs) else False
   | _=>False
def Zf (r:RV):Option (Nat × Nat) :=
 match r with
 | .vptr id n 0 [.sl _ _]=>some (id,n)
 | .vptr id n 0 [.d (.nil _)]=>some (id,n)
 | _=>none
def Rm (ρ:Operand→RV):List Operand→Bool
 | []=>false
 | x :: r=>match Zf (ρ x) with
   | some _=>true
   | none=>Rm ρ r
def Il (σ:Nat→Nat→RV) (ρ:Operand→RV):List Operand→(List C→Bx→Prop)→Prop
 | [],K=>K [] []
 | x :: r,K=>match Zf (ρ x) with
   | some (id,n)=>Il σ ρ r fun l bs=>K (.sl id n :: l) bs
   | none=>Og σ (ρ x) fun v b=>match v with
     | .d y=>if y.one = true then Il σ ρ r fun l bs=>K (.d y :: l) (b++bs) else False
     | _=>False
def Pp:List C→List AV
 | []=>[]
 | .d x :: r=>.d x :: Pp r
 | _ :: r=>.any :: Pp r
def Kr (P:Program) (t:TypeId):Bool:=match P.info? t with | some i=>(match i.zero with | some z=>decide (z.cells.size = i.size) | none=>false) | none=>false
def Wm (P:Program) (t:TypeId) (K:D→Prop):Prop :=
 match zeroCells P t with
 | some l=>match L6 P t with
   | some true=>Ot l fun l=>K (.agg l)
   | some false=>match l with
     | [x]=>Te x K
     | _=>False
   | none=>False
 | none=>False
def Y0 (ρ:Operand→RV) (x:Option Operand) (dflt:Int) (K:Int→Prop):Prop :=
 match x with
 | none=>K dflt
 | some x=>match ρ x with
   | .d (.int _ i)=>K i
   | _=>False
def Mw {α:Type} (xs:List α) (l h:Int):List α:=(xs.drop l.toNat).take (h.toNat - l.toNat)
def KF (ρ:Operand→RV) (sz:Nat) (xs:List D) (lo hi mx:Option Operand) (b:Bx) (K:GD→Prop):Prop :=
 Y0 ρ lo 0 fun l=>Y0 ρ hi xs.length fun h=>match mx with
  | none=>JL (0≤l∧l≤h∧h≤xs.length) (K ⟨.d (.list sz (Mw xs l h)),b,[]⟩)
  | some m=>if hi.isNone = true then False else match ρ m with
    | .d (.int _ m)=>JL (0≤l∧l≤h∧h≤xs.length∧m = h) (K ⟨.lim sz (Mw xs l h),b,[]⟩)
    | _=>False
def FW (s:ByteArray) (i:Int):Int:=((s.data.toList.getD i.toNat 0).toNat:Int)
def Ko (s:ByteArray):List Int:=s.data.toList.map fun b=>(b.toNat:Int)
def Hg:D→D→Bool
 | .int k _,.int k' _=>decide (k = k')
 | .str _,.str _=>true
 | _,_=>false
def I7:D→D→Bool
 | .int _ a,.int _ b=>a==b
 | .str a,.str b=>a==b
 | _,_=>false
def OG (k:D):List (D × D)→Option Nat
 | []=>none
 | p :: r=>bif I7 k p.1 then some 0 else (OG k r).map (· + 1)
def N3 (k:D):List (D × D)→Option D
 | []=>none
 | p :: r=>bif I7 k p.1 then some p.2 else N3 k r
def Uo (k v:D):List (D × D)→List (D × D)
 | []=>[(k,v)]
 | p :: r=>bif I7 k p.1 then (k,v) :: r else p :: Uo k v r
def Vg:D→Option TypeDesc
 | .int j _=>some (.int j)
 | .str _=>some .string
 | _=>none
def be (P:Program) (t:TypeId):Option D:=match P.info? t with
 | some i=>match i.zero with
   | some z=>zD z
   | none=>none
 | none=>none
structure QX (r:Option D) (z:D) (K:D→Bool→Prop):Prop where
 go:∃ v b,r.getD z = v∧r.isSome = b∧K v b
def ZO (P:Program) (kt et:TypeId) (x ix:RV) (ok:Bool) (K:GD→Prop):Prop :=
 match x with
 | .mp _ _ es=>match ix with
   | .d q=>match Vg q with
     | some kd=>JL (P.underlying kt = some kd∧∀ p∈es,Hg q p.1 = true) (match be P et with
       | some z=>QX (N3 q es) z fun v b=>match ok with
         | true=>K ⟨.tup [.d v,.d (.bool b)],[],[]⟩
         | false=>K ⟨.d v,[],[]⟩
       | none=>False)
     | none=>False
   | _=>False
 | _=>False
def cV (P:Program) (kt:TypeId) (m k x:RV) (K:GD→Prop):Prop :=
 match m with
 | .mp id n es=>match k with
   | .d q=>match x with
     | .d y=>match Vg q with
       | some kd=>JL (y.bare = true∧P.underlying kt = some kd∧∀ p∈es,Hg q p.1 = true) (K ⟨.any,[(id,.map (Uo q y es),n)],[]⟩)
       | none=>False
     | _=>False
   | _=>False
 | _=>False
def yA (P:Program) (σ:Nat→Nat→RV) (ρ:Option (Nat × Bool)→Operand→RV) (g:Option (Nat × Bool)) (o:Oper) (d dv:Nat) (K:GD→Prop):Prop :=
 match o.op with
 | .move x=>K ⟨ar (ρ g x),[],[]⟩
 | .assign x=>match OU x with
   | true=>match P.underlying o.type with
     | some (.slice e)=>if 0 < AN P e then K ⟨.sl d (dv + 1),[(d,.row (AN P e) e [],dv + 1)],[]⟩ else False
     | _=>False
   | false=>K ⟨ar (ρ g x),[],[]⟩
 | .pick (.tmp t) a b=>match ρ g (.tmp t) with
   | .bot=>K ⟨.bot,[],[]⟩
   | .d (.bool c)=>match ρ (some (t,true)) a with
     | .bot=>match ρ (some (t,false)) b with
       | .d (.bool y)=>K ⟨.d (.bool y),[],[]⟩
       | _=>False
     | .d (.bool x)=>match ρ (some (t,false)) b with
       | .bot=>K ⟨.d (.bool x),[],[]⟩
       | .d (.bool y)=>K ⟨.d (.bool (bif c then x else y)),[],[]⟩
       | _=>False
     | _=>False
   | _=>False
 | .box _ x=>match ρ g x with
   | .row id n _ _ _=>K ⟨.ptr d (dv + 1) 0,[(d,.var [.sl id n],dv + 1)],[]⟩
   | .cagg l=>K ⟨.ptr d (dv + 1) 0,[(d,.var l,dv + 1)],[]⟩
   | r=>VX r fun v b=>Xq v.cells fun l=>K ⟨.ptr d (dv + 1) 0,b++[(d,.var l,dv + 1)],[]⟩
 | .alloc t=>match zeroCells P t with
   | some l=>Xq l fun l=>K ⟨.ptr d (dv + 1) 0,[(d,.var l,dv + 1)],[]⟩
   | none=>False
 | .build t parts=>match P.underlying t with
   | some (.struct fields)=>match zeroCells P t with
     | some z=>if fields.toList.all (fun f=>(P.info? f.type).isSome) then
       match R7 (ρ g) parts.toList with
       | false=>KO (ρ g) parts.toList fun ps b =>
         match Ud (fun i=>match fields[i]? with | some f=>some (f.offset,AN P f.type) | none=>none) z ps with
         | some l=>Cy l fun l=>K ⟨.d (.agg l),b,[]⟩
         | none=>False
       | true=>Ua (KO (ρ g) parts.toList fun ps b =>
         match Ud (fun i=>match fields[i]? with | some f=>some (f.offset,AN P f.type) | none=>none) z ps with
         | some l=>Cy l fun l=>K ⟨.d (.agg l),b,[]⟩
         | none=>False)
         (Xq z fun zc=>LT (ρ g) parts.toList fun ps=>match Wa (fun i=>match fields[i]? with | some f=>some (f.offset,AN P f.type) | none=>none) zc ps with
          | some l=>Cy l fun l=>K ⟨.cc none l,[],[]⟩
          | none=>False)
       else False
     | none=>False
   | _=>False
 | .buildSlice t n parts=>match P.underlying t with
   | some (.slice e)=>Md (ρ g) parts.toList fun ps b=>match Pz 0 ps with
     | some l=>Cy l fun l =>
       if l.length = n∧0 < AN P e∧Kr P e = true∧n * AN P e≤16777216∧l.all (fun x=>x.cells.length==AN P e) then K ⟨.sl d (dv + 1),b++[(d,.row (AN P e) e l,dv + 1)],[]⟩ else False
     | none=>False
   | _=>False
 | .makeSlice t l c=>match P.underlying t with
   | some (.slice e)=>match ρ g l with
     | .d (.int _ l)=>match ρ g c with
       | .d (.int _ c)=>if 0 < AN P e∧Kr P e = true then Wm P e fun z =>
        JL (0≤l∧l≤c∧c≤maxLen∧(MT P e:Int) * c≤281474976710656) (K ⟨.sl d (dv + 1),[(d,.row (AN P e) e (List.replicate l.toNat z),dv + 1)],[]⟩) else False
       | _=>False
     | _=>False
   | _=>False
 | .makeFunc (.func f) first caps=>match first.toList with
   | []=>match Rm (ρ g) caps.toList with
     | false=>Ib σ (ρ g) caps.toList fun l b=>K ⟨.d (.fn f l),b,[]⟩
     | true=>Ua (Ib σ (ρ g) caps.toList fun l b=>K ⟨.d (.fn f l),b,[]⟩) (Il σ (ρ g) caps.toList fun l b=>K ⟨.cc (some f) l,b,[]⟩)
   | _=>False
 | .load t a=>match ρ g a with
   | .bot=>K ⟨.bot,[],[]⟩
   | .vptr _ _ o cs=>cS P σ t (cs.drop o) K
   | .d (.ptr cs)=>Z5 P t cs fun x=>K ⟨.d x,[],[]⟩
   | .eptr _ _ _ _ xs i o=>At xs i fun x=>Z5 P t (x.cells.drop o) fun x=>K ⟨.d x,[],[]⟩
   | _=>False
 | .store t a x=>if (P.info? t).isSome = true then match ρ g a with
   | .vptr id n o cs=>match L6 P t with
     | some true=>match ρ g x with
       | .cagg l=>if l.length = AN P t∧o + l.length≤cs.length then Cy (splice cs o l) fun l=>K ⟨.any,[(id,.var l,n)],[]⟩ else False
       | r=>VX r fun v b =>
         if v.cells.length = AN P t∧o + v.cells.length≤cs.length then Xq v.cells fun l=>Cy (splice cs o l) fun l=>K ⟨.any,b++[(id,.var l,n)],[]⟩ else False
     | some false=>if AN P t = 1∧o < cs.length then match ρ g x with
      | .row id' n' _ _ _=>Cy (splice cs o [.sl id' n']) fun l=>K ⟨.any,[(id,.var l,n)],[]⟩
      | r=>VX r fun v b=>if v.one = true then Cy (splice cs o [.d v]) fun l=>K ⟨.any,b++[(id,.var l,n)],[]⟩ else False
      else False
     | none=>False
   | .eptr id n sz e xs i o=>dI (ρ g x) fun v b=>At xs i fun y =>
     if v.cells.length = AN P t∧o + v.cells.length≤y.cells.length∧HB id b = true then
      match y with
      | .agg cs=>Cy (splice cs o v.cells) fun l=>K ⟨.any,b++[(id,.row sz e (xs.set i (.agg l)),n)],[]⟩
      | _=>if v.one then K ⟨.any,b++[(id,.row sz e (xs.set i v),n)],[]⟩ else False
     else False
   | _=>False
   else False
 | .nilCheck x=>match ρ g x with
   | .vptr id n o _=>K ⟨.ptr id n o,[],[]⟩
   | .d (.ptr cs)=>K ⟨.d (.ptr cs),[],[]⟩
   | .d (.fn f cs)=>K ⟨.d (.fn f cs),[],[]⟩
   | .eptr id n sz _ _ i o=>K ⟨.eptr id n sz i o,[],[]⟩
   | _=>False
 | .binOp op t x y _=>match ρ g x with
   | .bot=>K ⟨.bot,[],[]⟩
   | .d a=>match ρ g y with
     | .bot=>K ⟨.bot,[],[]⟩
     | .d b=>Yd P t op a b fun x=>K ⟨.d x,[],[]⟩
     | _=>False
   | _=>False
 | .unOp op _ x=>match ρ g x with
   | .bot=>K ⟨.bot,[],[]⟩
   | .d a=>e5 op a fun x=>K ⟨.d x,[],[]⟩
   | _=>False
 | .convert s t x=>match P.underlying s with
   | some _=>match P.underlying t with
     | some (.int k)=>match ρ g x with
       | .bot=>K ⟨.bot,[],[]⟩
       | .d (.int _ n)=>K ⟨.d (.int k (k.wrap n)),[],[]⟩
       | _=>False
     | some .string=>match ρ g x with
       | .bot=>K ⟨.bot,[],[]⟩
       | .d (.str s)=>K ⟨.d (.str s),[],[]⟩
       | _=>False
     | some (.slice e)=>match P.underlying e with
       | some (.int .u8)=>match ρ g x with
         | .bot=>K ⟨.bot,[],[]⟩
         | .d (.str s)=>K ⟨.d (.list 1 ((Ko s).map (D.int .u8))),[],[]⟩
         | _=>False
       | _=>False
     | _=>False
   | none=>False
 | .fieldAddr s x f=>match P.underlying s with
   | some (.struct fields)=>match fields[f]? with
     | some fd=>if 0 < AN P fd.type then match ρ g x with
      | .bot=>K ⟨.bot,[],[]⟩
      | .vptr id n o _=>K ⟨.ptr id n (o + fd.offset),[],[]⟩
      | .d (.ptr cs)=>Cy (cs.drop fd.offset) fun l=>K ⟨.d (.ptr l),[],[]⟩
      | .eptr id n sz _ _ i o=>K ⟨.eptr id n sz i (o + fd.offset),[],[]⟩
      | _=>False
      else False
     | none=>False
   | _=>False
 | .field s x f=>match P.underlying s with
   | some (.struct fields)=>match fields[f]? with
     | some fd=>match ρ g x with
      | .bot=>K ⟨.bot,[],[]⟩
      | .d (.agg cs)=>Z5 P fd.type (cs.drop fd.offset) fun x=>K ⟨.d x,[],[]⟩
      | _=>False
     | none=>False
   | _=>False
 | .indexAddr t x ix=>match P.underlying t with
   | some (.slice e)=>match ρ g ix with
     | .d (.int _ i)=>match ρ g x with
       | .d (.list sz xs)=>if sz = AN P e∧0 < sz then At xs i fun x=>Cy x.cells fun l=>K ⟨.d (.ptr l),[],[]⟩ else False
       | .lim sz xs=>if sz = AN P e∧0 < sz then At xs i fun x=>Cy x.cells fun l=>K ⟨.d (.ptr l),[],[]⟩ else False
       | .row id n sz _ xs=>if sz = AN P e then JL (0≤i∧i.toNat < xs.length) (K ⟨.eptr id n sz i.toNat 0,[],[]⟩) else False
       | _=>False
     | _=>False
   | some (.array n e)=>match ρ g ix with
     | .d (.int _ i)=>match ρ g x with
       | .d (.ptr cs)=>if AN P e = 1 then JL (i < n) (At cs i fun y=>K ⟨.d (.ptr [y]),[],[]⟩) else False
       | _=>False
     | _=>False
   | _=>False
 | .index t x ix=>match P.underlying t with
   | some .string=>match ρ g ix with
     | .d (.int _ i)=>match ρ g x with
       | .d (.str s)=>JL (0≤i∧i.toNat < s.size) (K ⟨.d (.int .u8 (FW s i)),[],[]⟩)
       | _=>False
     | _=>False
   | _=>False
 | .slice t x lo hi mx=>match P.underlying t with
   | some .string=>match mx with
     | none=>match ρ g x with
       | .d (.str s)=>Y0 (ρ g) lo 0 fun l=>Y0 (ρ g) hi s.size fun h=>JL (0≤l∧l≤h∧h≤s.size) (K ⟨.d (.str (s.extract l.toNat h.toNat)),[],[]⟩)
       | _=>False
     | some _=>False
   | some (.slice e)=>match ρ g x with
     | .d (.list sz xs)=>if sz = AN P e∧0 < sz then KF (ρ g) sz xs lo hi mx [] K else False
     | .d (.nil sz)=>if sz = AN P e∧0 < sz then KF (ρ g) sz [] lo hi mx [] K else False
     | .lim sz xs=>if sz = AN P e∧0 < sz then KF (ρ g) sz xs lo hi mx [] K else False
     | .row id n sz e' xs=>if sz = AN P e∧0 < sz then Ua (KF (ρ g) sz xs lo hi mx [(id,.frow sz xs,n)] K)
      (match lo with
       | none=>match mx with
         | none=>Y0 (ρ g) hi xs.length fun h=>JL (0≤h∧h≤xs.length) (K ⟨.sl id (n + 1),[(id,.row sz e' (xs.take h.toNat),n + 1)],[]⟩)
         | some _=>False
       | some _=>False)
      else False
     | _=>False
   | _=>False
 | .call c=>match c.callee with
   | .value f=>match ρ g f with
     | .d (.fn f caps)=>UU caps fun cv=>Hc P σ (ρ g) c.args.toList c.argTypes.toList fun vs bs=>FD P σ (ρ g) c.args.toList c.argTypes.toList fun ms mb us =>
      Mf P f (vs++cv) (fun r=>Yg r bs fun b=>ba d dv r b K)
       (ms++cv) (fun outs r=>Lx (us++cv.map fun _=>none) outs fun ub=>if ub.all (fun x=>HB x.1 mb) = true then ba d dv r (mb++ub) K else False)
     | .clo f cs k id n rid rn=>match σ rid rn with
       | .row _ _ sz e xs=>Hc P σ (ρ g) c.args.toList c.argTypes.toList fun vs bs=>match bs with
         | []=>Cy (Pp cs) fun cv=>Z4 P f (vs++cv) (vs.length + k) sz e xs fun ys=>if id = rid then False else K ⟨.any,[(rid,.row sz e ys,rn + 1),(id,.var [.sl rid (rn + 1)],n)],[]⟩
         | _=>False
       | _=>False
     | _=>False
   | .builtin .len=>match c.args.toList,c.argTypes.toList with
     | [x],[t]=>match P.underlying t with
       | some .string=>match ρ g x with
         | .bot=>K ⟨.bot,[],[]⟩
         | .d (.str s)=>K ⟨.d (.int .i64 s.size),[],[]⟩
         | _=>False
       | some (.slice _)=>match ρ g x with
         | .bot=>K ⟨.bot,[],[]⟩
         | r=>MG r fun _ xs=>K ⟨.d (.int .i64 xs.length),[],[]⟩
       | _=>False
     | _,_=>False
   | .builtin .min=>match c.args.toList with
     | [x,y]=>match ρ g x with
       | .d (.int k a)=>match ρ g y with
         | .d (.int _ b)=>K ⟨.d (.int k (if b < a then b else a)),[],[]⟩
         | _=>False
       | _=>False
     | _=>False
   | .builtin .max=>match c.args.toList with
     | [x,y]=>match ρ g x with
       | .d (.int k a)=>match ρ g y with
         | .d (.int _ b)=>K ⟨.d (.int k (if b > a then b else a)),[],[]⟩
         | _=>False
       | _=>False
     | _=>False
   | .builtin .append=>match c.args.toList,c.argTypes.toList with
     | [x,y],[t,u]=>match P.underlying t with
       | some (.slice e)=>if t = u∧0 < AN P e∧Kr P e = true then MG (ρ g y) fun sz' ys =>
         let fits (n:Nat):Prop:=n + ys.length≤maxLen∧(n + ys.length) * MT P e≤140737488355328∧(ys = []∨sz' = AN P e)
         match ρ g x with
         | .row id n sz e' xs=>if e = e'∧sz = AN P e then JL (fits xs.length) (K ⟨.sl id (n + 1),[(id,.row sz e (xs++ys),n + 1)],[]⟩) else False
         | .d (.nil _)=>JL (fits 0) (K ⟨.sl d (dv + 1),[(d,.row (AN P e) e ys,dv + 1)],[]⟩)
         | .lim sz xs=>if sz = AN P e then JL (fits xs.length∧ys≠[]) (K ⟨.sl d (dv + 1),[(d,.row sz e (xs++ys),dv + 1)],[]⟩) else False
         | _=>False
         else False
       | _=>False
     | _,_=>False
   | _=>False
 | .extract t i=>match ρ g t with
   | .tup xs=>match xs[i]? with
     | some (.d x)=>K ⟨.d x,[],[]⟩
     | some (.sl id n)=>K ⟨.sl id n,[],[]⟩
     | _=>False
   | _=>False
 | .makeMap t none=>match P.underlying t with
   | some (.map _ _)=>K ⟨.sl d (dv + 1),[(d,.map [],dv + 1)],[]⟩
   | _=>False
 | .lookup t x ix ok=>match P.underlying t with
   | some (.map kt et)=>ZO P kt et (ρ g x) (ρ g ix) ok K
   | _=>False
 | .mapUpdate t m k x=>match P.underlying t with
   | some (.map kt _)=>cV P kt (ρ g m) (ρ g k) (ρ g x) K
   | _=>False
 | _=>False
def KA:Op→Bool
 | .move _ | .pick _ _ _ | .load _ _ | .unOp _ _ _ | .convert _ _ _ | .fieldAddr _ _ _ | .field _ _ _=>true
 | .binOp op _ _ _ _=>match op with | .quo | .rem | .shl | .shr | .add=>false | _=>true
 | .call c=>match c.callee with | .builtin .len=>true | _=>false
 | _=>false
def SK:List Oper→Nat→Option Nat
 | [],_=>none
 | o :: _,0=>o.dst
 | _ :: r,n + 1=>SK r n
def OW:AS→Nat→AV→(AS→Prop)→Prop
 | [],_,_,K=>K []
 | s :: r,0,v,K=>match s with | ⟨_,b,n⟩=>K (⟨v,b,n⟩ :: r)
 | s :: r,k + 1,v,K=>OW r k v fun r'=>K (s :: r')
def TE:AS→Nat→Ct→Nat→(AS→Prop)→Prop
 | [],_,_,_,K=>K []
 | s :: r,0,b,m,K=>match s with | ⟨v,_,_⟩=>K (⟨v,b,m⟩ :: r)
 | s :: r,k + 1,b,m,K=>TE r k b m fun r'=>K (s :: r')
def OH:Bx→AS→(AS→Prop)→Prop
 | [],S,K=>K S
 | (id,b,n) :: r,S,K=>FA n fun n=>Xf b fun b=>TE S id b n fun S=>OH r S K
def aZ (dst:Option Nat) (e:GD) (S:AS) (K:AS→Prop):Prop :=
 match e with
 | ⟨v,bx,_⟩=>match dst with
   | some d=>TF v fun v=>OH bx S fun S=>OW S d v K
   | none=>OH bx S K
def Bo:Bx→AS→AS
 | [],S=>S
 | (id,b,n) :: r,S=>Bo r (AR S id b n)
def Wh (dst:Option Nat) (e:GD) (S:AS):AS :=
 match dst with
 | some d=>Eh (Bo e.bx S) d e.av
 | none=>Bo e.bx S
def σOf (S:AS) (id n:Nat):RV:=res S (.sl id n)
def ρOf (S:AS) (g:Option (Nat × Bool)) (x:Operand):RV:=res S (eU g (ev S x))
def SA:AS→Nat→(Nat→Prop)→Prop
 | [],_,_=>False
 | s :: _,0,K=>match s with | ⟨_,_,n⟩=>K n
 | _ :: r,k + 1,K=>SA r k K
def dK (x:Option Nat) (K:Nat→Prop):Prop :=
 match x with
 | some d=>K d
 | none=>K 0
def FH (S:AS):List (Nat × Nat)→Bool
 | []=>true
 | (h,n) :: r=>decide (h < S.length) && decide ((As S h).ver < n) && FH S r
def Dw:Option Nat→List Nat
 | some d=>[d]
 | none=>[]
def Sk:List Operand→List Nat
 | []=>[]
 | .tmp t :: r=>t :: Sk r
 | _ :: r=>Sk r
def U9 (all:List Oper):Nat→Oper→List Nat
 | 0,_=>[]
 | n + 1,o=>match o.guard with
   | some (j,_)=>Dw (SK all j)++match all[j]? with
     | some m=>U9 all n m
     | none=>[]
   | none=>[]
def Ea (all:List Oper) (o:Oper):List Nat:=U9 all 5 o++Sk o.op.operands.toList
def VE (S:AS) (t:Nat) (mk:Bool→AV) (b:Bool) (K:AS→Option Bool→Prop):Prop :=
 Th b (OW S t (mk true) fun S=>K S (some true)) (OW S t (mk false) fun S=>K S (some false))
def az (lk:List Nat):Nat→Nat→AS→(AS→Option Bool→Prop)→Prop
 | 0,_,_,_=>False
 | n + 1,t,S,K=>if lk.contains t = true then match (As S t).av with
   | .d (.bool b)=>VE S t (fun b=>.d (.bool b)) b K
   | .under t' w' (.d (.bool b))=>az lk n t' S fun S r=>match r with
     | some c=>match w' with
       | true=>match c with
         | true=>VE S t (fun b=>.under t' w' (.d (.bool b))) b K
         | false=>K S none
       | false=>match c with
         | true=>K S none
         | false=>VE S t (fun b=>.under t' w' (.d (.bool b))) b K
     | none=>K S none
   | .under _ _ .bot=>K S none
   | _=>False
   else False
def TQ (want:Bool) (r:Option Bool) (go skip:Prop):Prop :=
 match r with
 | none=>skip
 | some b=>match want with
   | true=>match b with
     | true=>go
     | false=>skip
   | false=>match b with
     | true=>skip
     | false=>go
def Kt (S:AS) (o:Oper):Bool :=
 match o.op with
 | .move x=>match ev S x with
   | .ptr _ _ _=>true
   | _=>false
 | _=>false
def yS (P:Program) (S:AS) (g:Option (Nat × Bool)) (o:Oper) (d dv:Nat) (K:GD→Prop):Prop :=
 match o.op with
 | .move x=>match ev S x with
   | .ptr id n k=>K ⟨.ptr id n k,[],[]⟩
   | _=>yA P (σOf S) (ρOf S) g o d dv K
 | _=>yA P (σOf S) (ρOf S) g o d dv K
def am (P:Program) (all:List Oper) (done:List Nat) (o:Oper) (S:AS) (K:AS→GD→Prop):Prop :=
 match o.guard with
 | none=>dK o.dst fun d=>SA S d fun n=>yS P S none o d n fun e=>if FH S e.homes = true then K S e else False
 | some (j,want)=>match SK all j with
   | none=>False
   | some t=>if done.contains t = true then
     match KA o.op with
     | true=>dK o.dst fun d=>SA S d fun n=>yS P S (some (t,want)) o d n fun e=>match e with
       | ⟨v,[],[]⟩=>K S ⟨.under t want v,[],[]⟩
       | _=>False
     | false=>az (Ea all o) 5 t S fun S r=>TQ want r
      (dK o.dst fun d=>SA S d fun n=>yS P S (some (t,want)) o d n fun e=>if FH S e.homes = true then K S e else False)
      (K S ⟨.under t want .bot,[],[]⟩)
     else False
def Rn (P:Program) (o:Oper):Option (Bool × Operand) :=
 match o.op with
 | .binOp op t x y _=>match OU y,o.guard,P.underlying t with
   | true,none,some (.slice _)=>match op with
     | .eql=>some (true,x)
     | .neq=>some (false,x)
     | _=>none
   | _,_,_=>none
 | _=>none
def My:List Nat→(List Nat→Prop)→Prop
 | [],K=>K []
 | x :: r,K=>My r fun r=>K (x :: r)
def e7 (P:Program) (all:List Oper) (done:List Nat) (l:List Oper):AS→(AS→Prop)→Prop :=
 List.rec (motive:=fun _=>List Nat→AS→(AS→Prop)→Prop) (fun _ S K=>K S)
  (fun o _ ih done S K=>if (Dw o.dst).all (fun d=>!done.contains d) = true then
   match Rn P o with
   | some (pos,x)=>MG (ρOf S none x) fun _ xs=>dO xs fun b=>aZ o.dst ⟨.d (.bool (b==pos)),[],[]⟩ S fun S=>My (Dw o.dst++done) fun done=>ih done S K
   | none=>am P all done o S fun S e=>aZ o.dst e S fun S=>My (Dw o.dst++done) fun done=>ih done S K
   else False) l done
def LY:List C→List Nat
 | []=>[]
 | .sl id _ :: r=>id :: LY r
 | _ :: r=>LY r
def LK:AV→List Nat
 | .ptr id _ _=>[id]
 | .sl id _=>[id]
 | .eptr id _ _ _ _=>[id]
 | .under _ _ x=>LK x
 | .cc _ xs=>LY xs
 | _=>[]
def bn (S:AS) (id:Nat):List Nat:=id :: match (As S id).box with
 | .var cs=>LY cs
 | _=>[]
def Xo:Op→Bool
 | .assign _ | .box _ _ | .alloc _ | .buildSlice _ _ _ | .makeSlice _ _ _ | .makeMap _ _=>true
 | .call c=>match c.callee with | .value _ | .builtin .append=>true | _=>false
 | _=>false
def Xj (S:AS) (ts:List Nat) (o:Oper):List Nat :=
 (if Xo o.op = true then [o.dst.getD 0] else [])++match Kt S o with
  | true=>[]
  | false=>ts.flatMap fun t=>(LK (As S t).av).flatMap (bn S)
def T9 (x y:List Nat):Bool:=x.all fun i=>!y.contains i
def Vl (o:Oper) (i:Nat):Bool:=o.after.toList.any fun e=>e.on==i && Region.binds .any e
def ZP (all:List Oper):Nat→Oper→Nat→Bool
 | 0,o,i=>Vl o i
 | n + 1,o,i=>Vl o i || o.after.toList.any fun e=>Region.binds .any e && (match all[e.on]? with | some m=>ZP all n m i | none=>false)
def PH (all:List Oper) (o:Oper) (i:Nat):Bool:=ZP all 4 o i
def dS (all:List Oper) (o:Oper) (R W:List Nat) (log:List (Nat × List Nat × List Nat)):Bool :=
 log.all fun x=>(T9 x.2.2 (R++W) && T9 x.2.1 W) || PH all o x.1
def ed (P:Program) (all:List Oper) (k:Nat) (log:List (Nat × List Nat × List Nat)) (done:List Nat) (l:List Oper):AS→(AS→Prop)→Prop :=
 List.rec (motive:=fun _=>Nat→List (Nat × List Nat × List Nat)→List Nat→AS→(AS→Prop)→Prop) (fun _ _ _ S K=>K S)
  (fun o _ ih k log done S K=>if (Dw o.dst).all (fun d=>!done.contains d) = true then
   am P all done o S fun S e=>My (Xj S (Ea all o) o++e.homes.map (·.1)) fun R=>My (e.bx.map (·.1)) fun W=>if dS all o R W log = true then
    aZ o.dst e S fun S'=>My (Dw o.dst++done) fun done=>ih (k + 1) ((k,R,W) :: log) done S' K else False
  else False) l k log done
def YU (all:List Oper):Nat→List Oper→Bool
 | _,[]=>true
 | k,o :: r=>((o.after.toList.all fun e=>!Region.binds .any e || decide (e.on < k)) && (match o.guard with | some (j,_)=>decide (j < k) | none=>true)) &&
  (all.take k).zipIdx.all (fun x=>(T9 (Dw x.1.dst) (Ea all o) && T9 (Ea all x.1) (Dw o.dst)) || PH all o x.2) && YU all (k + 1) r
def plain:AS→(AS→Prop)→Prop
 | [],K=>K []
 | s :: r,K=>plain r fun r'=>match s with
   | ⟨.under _ _ _,b,n⟩=>K (⟨.any,b,n⟩ :: r')
   | s=>K (s :: r')
def bi (x y:D) (K:Prop):Prop :=
 match x with
 | .nil s=>(D.nil s = y∨D.list s [] = y)∧K
 | x=>x = y∧K
def Hp (v v':Nat→Nat):List C→List C→Prop→Prop
 | [],[],K=>K
 | .d x :: r,.d y :: q,K=>bi x y (Hp v v' r q K)
 | .sl id n :: r,.sl id' n' :: q,K=>if id = id'∧n = v id∧n' = v' id then Hp v v' r q K else False
 | _,_,_=>False
def M8 (v v':Nat→Nat) (a a':AV) (K:Prop):Prop :=
 match a' with
 | .any=>K
 | .d x'=>match a with
   | .d x=>bi x x' K
   | .lim sz xs=>D.list sz xs = x'∧K
   | _=>False
 | .lim sz xs=>a = .lim sz xs∧K
 | .ptr id n o=>match a with
   | .ptr id' n' o'=>if id' = id∧n' = v id∧n = v' id then o' = o∧K else False
   | _=>False
 | .sl id n=>match a with
   | .sl id' n'=>if id' = id∧n' = v id∧n = v' id then K else False
   | _=>False
 | .cc k xs'=>match a with
   | .cc k' xs=>if k = k' then Hp v v' xs xs' K else False
   | _=>False
 | _=>False
def ZL (v v':Nat→Nat) (b b':Ct) (K:Prop):Prop :=
 match b' with
 | .none=>K
 | .frow sz xs=>(b = .frow sz xs∨∃ e,b = .row sz e xs)∧K
 | .fvar cs=>b = .fvar cs∧K
 | .map es=>b = .map es∧K
 | .row sz e xs=>b = .row sz e xs∧K
 | .var cs'=>match b with
   | .var cs=>Hp v v' cs cs' K
   | _=>False
def Z6 (b':Ct) (n n':Nat) (K:Prop):Prop :=
 match b' with
 | .none=>K
 | _=>if n' = 0→n = 0 then K else False
def Yn (v v':Nat→Nat):AS→AS→Prop
 | [],[]=>True
 | ⟨av,b,n⟩ :: r,⟨av',b',n'⟩ :: r'=>M8 v v' av av' (Z6 b' n n' (ZL v v' b b' (Yn v v' r r')))
 | _,_=>False
def Yf:List Nat→AS→(AS→Prop)→Prop
 | [],S,K=>K S
 | t :: r,S,K=>VX (ρOf S none (.tmp t)) fun x b=>OH b S fun S=>OW S t (.d x) fun S=>Yf r S K
def WH:Nat→AS→AS→List Nat
 | t,⟨av,_,_⟩ :: r,⟨av',_,_⟩ :: r'=>match av' with
   | .d _=>match av with
     | .sl _ _=>t :: WH (t + 1) r r'
     | _=>WH (t + 1) r r'
   | _=>WH (t + 1) r r'
 | _,_,_=>[]
def Le (S S':AS):Prop:=Yf (WH 0 S S') S fun S=>Yn (fun i=>(As S i).ver) (fun i=>(As S' i).ver) S S'
def UE:List (Nat × Nat × Nat × TypeId)→AS→(AS→Prop)→Prop
 | [],S,K=>K S
 | (v,j,h,e) :: r,S,K=>match As S v with
   | ⟨_,.var cs,n⟩=>match cs[j]? with
     | some (.d (.nil s))=>if 0 < s∧v≠h then SA S h fun m=>Cy (splice cs j [.sl h (m + 1)]) fun l=>OH [(h,.row s e [],m + 1),(v,.var l,n)] S fun S=>UE r S K else False
     | _=>False
   | _=>False
def F9:AS→(AS→Prop)→Prop
 | [],K=>K []
 | s :: r,K=>F9 r fun r'=>match s with | ⟨v,b,n⟩=>TF v fun v=>Xf b fun b=>FA n fun n=>K (⟨v,b,n⟩ :: r')
structure fQ (p:Prop):Prop where
 go:p
structure Rx (S:AS) (W:((Exit→AS→Prop)→AS→Prop)) (Q:Exit→AS→Prop):Prop where
 go:∃ (ads:List (Nat × Nat × Nat × TypeId)) (frs:List Nat) (ι:Type) (Inv:ι→AS) (μ:ι→Nat) (i:ι),UE ads S (fun S=>Yf frs S fun S=>Le S (Inv i)) ∧
  ∀ i,F9 (Inv i) (W (fun e S=>match e with | .normal=>∃ j,Le S (Inv j)∧μ j < μ i | e=>Q e S))
theorem loop {S:AS} {W:((Exit→AS→Prop)→AS→Prop)} {Q:Exit→AS→Prop} (ι:Type) (Inv:ι→AS) (μ:ι→Nat) (i:ι) (h:Le S (Inv i))
 (k:∀ i,F9 (Inv i) (W (fun e S=>match e with | .normal=>∃ j,Le S (Inv j)∧μ j < μ i | e=>Q e S))):Rx S W Q:=⟨⟨[],[],ι,Inv,μ,i,h,k⟩⟩
theorem bc {S:AS} {W:((Exit→AS→Prop)→AS→Prop)} {Q:Exit→AS→Prop} (ads:List (Nat × Nat × Nat × TypeId)) (ι:Type) (Inv:ι→AS) (μ:ι→Nat) (i:ι) (h:UE ads S (fun S=>Le S (Inv i)))
 (k:∀ i,F9 (Inv i) (W (fun e S=>match e with | .normal=>∃ j,Le S (Inv j)∧μ j < μ i | e=>Q e S))):Rx S W Q:=⟨⟨ads,[],ι,Inv,μ,i,h,k⟩⟩
noncomputable def bp (c:Code):Option Nat :=
 Code.rec (motive:=fun _=>Option Nat) none (fun id _ _=>some id) (fun _ _ a b=>match a with | some i=>some i | none=>b) (fun _ _ _ _ _=>none) (fun _ _ a=>a) (fun _ a=>a)
  (fun _ _ _ _ _ _=>none) (fun _=>none) (fun _ a=>a) (fun _=>none) (fun _=>none) none (fun _=>none) c
noncomputable def cb (J:List Nat) (y:Code):Bool :=
 match J with
 | []=>false
 | J=>match bp y with
   | some i=>J.contains i
   | none=>false
structure U7 (S:AS) (wx wy:(Exit→AS→Prop)→AS→Prop) (Q:Exit→AS→Prop):Prop where
 go:∃ (ι:Type) (Inv:ι→AS),wx (fun e S=>match e with | .normal=>∃ i,Le S (Inv i) | e=>Q e S) S∧∀ i,F9 (Inv i) (wy Q)
theorem Er {S:AS} {wx wy:(Exit→AS→Prop)→AS→Prop} {Q:Exit→AS→Prop} (ι:Type) (Inv:ι→AS) (h:wx (fun e S=>match e with | .normal=>∃ i,Le S (Inv i) | e=>Q e S) S) (k:∀ i,F9 (Inv i) (wy Q)):U7 S wx wy Q:=⟨⟨ι,Inv,h,k⟩⟩
def aS (P:Program) (J:List Nat) (c:Code):(Exit→AS→Prop)→AS→Prop :=
 Code.rec (motive:=fun _=>(Exit→AS→Prop)→AS→Prop)
  (fun Q S=>Q .normal S)
  (fun _ ops draw Q S=>match draw with
   | false=>e7 P ops.toList [] ops.toList S fun S=>plain S (Q .normal)
   | true=>JL (YU ops.toList 0 ops.toList = true∧P.follows .mixedOrders = true) (ed P ops.toList 0 [] [] ops.toList S fun S=>plain S (Q .normal)))
  (fun _ y wx wy Q S=>match cb J y with
   | false=>wx (fun e S=>match e with | .normal=>wy Q S | e=>Q e S) S
   | true=>U7 S wx wy Q)
  (fun c _ _ wx wy Q S=>match ρOf S none c with
   | .d (.bool b)=>Th b (wx Q S) (wy Q S)
   | _=>False)
  (fun id _ wc Q S=>wc (fun e S=>match e with | .exit id'=>if id' = id then Q .normal S else Q (.exit id') S | e=>Q e S) S)
  (fun _ wc Q S=>Rx S wc Q)
  (fun _ _ _ _ _ _ _ _=>False)
  (fun id Q S=>Q (.exit id) S)
  (fun _ _ _ _=>False)
  (fun _ Q S=>Q .normal S)
  (fun _ _ _=>False)
  (fun Q S=>Q .ret S)
  (fun _ _ _=>False)
  c
def fK:C→AV
 | .d x=>.d x
 | .own sz e xs=>.own sz e xs
 | .sl _ _=>.any
def Xg:List C→(List D→Prop)→Prop
 | [],K=>K []
 | .d x :: r,K=>Xg r fun l=>K (x :: l)
 | _ :: _,_=>False
def Pj (P:Program) (S:AS) (used:List Nat) (frz:Bx):List ResultVar→(List C→List Nat→Bx→Prop)→Prop
 | [],K=>K [] used frz
 | .tmp t :: r,K=>match ρOf S none (.tmp t) with
   | .row id n sz e xs=>Ua (Pj P S used (frz++[(id,.frow sz xs,n)]) r fun l u b=>K (.d (.list sz xs) :: l) u b)
    (if used.contains id = true then False else JL (∀ x∈xs,∀ y∈x.cells,y.bare = true) (Pj P S (id :: used) frz r fun l u b=>K (.own sz e xs :: l) u b))
   | v=>dI v fun x b=>Pj P S used (frz++b) r fun l u b=>K (.d x :: l) u b
 | .cell t ty :: r,K=>match ρOf S none (.tmp t) with
   | .vptr _ _ o cs=>Xg cs fun l=>Z5 P ty (l.drop o) fun x=>Te x fun x=>Pj P S used frz r fun l u b=>K (.d x :: l) u b
   | _=>False
structure fy (x:AV) (r:AV):Prop where
 go:x = r
def dz (l:List C) (used:List Nat) (frz:Bx) (r:AV):Prop :=
 if used.all (fun i=>HB i frz) = true then match l with
  | [c]=>fy (fK c) r
  | l=>fy (.tup l) r
 else False
def aQ (P:Program) (rs:List ResultVar) (used:List Nat) (frz:Bx) (S:AS) (r:AV):Prop :=
 match rs with
 | [.tmp t]=>match ρOf S none (.tmp t) with
   | .vptr id _ 0 cs=>if used.contains id = true then False else Ev (σOf S) cs fun l b=>Ot l fun l=>if (id :: used).all (fun i=>HB i (frz++b)) = true then fy (.optr l) r else False
   | _=>Pj P S used frz rs fun l u b=>dz l u b r
 | rs=>Pj P S used frz rs fun l u b=>dz l u b r
def EO:Nat→AS
 | 0=>[]
 | n + 1=>bS :: EO n
def Nf (i:Nat):AV→Sl
 | .own sz e xs=>⟨.sl i 0,.row sz e xs,0⟩
 | .optr cs=>⟨.ptr i 0 0,.var (cs.map .d),0⟩
 | a=>⟨a,.none,0⟩
def enter (i:Nat):List AV→AS→AS
 | [],S=>S
 | a :: r,S=>Nf i a :: enter (i + 1) r (S.drop 1)
def dB:List (Nat × AV)→Nat→AV
 | [],_=>.any
 | (t,v) :: r,k=>match Nat.beq t k with
   | true=>v
   | false=>dB r k
def dR:Bx→Nat→AV→Sl
 | [],_,v=>⟨v,.none,0⟩
 | (t,b,n) :: r,k,v=>match Nat.beq t k with
   | true=>⟨v,b,n⟩
   | false=>dR r k v
def eY (N:Nat):Nat→(Nat→Sl)→AS
 | 0,_=>[]
 | n + 1,f=>f (Nat.sub N (Nat.succ n)) :: eY N n f
def B5 (n:Nat) (l:List (Nat × AV)) (b:Bx):AS:=eY n n fun k=>dR b k (dB l k)
def Zq (P:Program) (J:List Nat) (fn:Func) (args:List AV) (r:AV):Prop :=
 match fn.body with
 | some c=>F9 (enter 0 args (EO fn.ntmps)) (aS P J c (fun e S=>match e with
   | .normal | .ret=>aQ P fn.results.toList [] [] S r
   | _=>False))
 | none=>False
def RL (S:AS):Nat→List AV→(List Nat→Bx→Prop)→Prop
 | _,[],K=>K [] []
 | i,.own sz e ys :: r,K=>match As S i with
   | ⟨_,.row sz' e' xs,0⟩=>(sz' = sz∧e' = e∧xs = ys)∧RL S (i + 1) r fun u b=>K (i :: u) b
   | _=>False
 | i,.optr cs :: r,K=>match As S i with
   | ⟨_,.var cs',0⟩=>Ev (σOf S) cs' fun l b=>Ot l fun l=>l = cs∧RL S (i + 1) r fun u b'=>K (i :: u) (b++b')
   | _=>False
 | i,_ :: r,K=>RL S (i + 1) r K
def W9 (P:Program) (J:List Nat) (fn:Func) (args outs:List AV) (r:AV):Prop :=
 match fn.body with
 | some c=>F9 (enter 0 args (EO fn.ntmps)) (aS P J c (fun e S=>match e with
   | .normal | .ret=>RL S 0 outs fun u b=>aQ P fn.results.toList u b S r
   | _=>False))
 | none=>False
def eG (S:AS) (k q sz:Nat) (e:TypeId) (ys:List D):Prop :=
 match As S k with
 | ⟨_,.var [.sl q' n],0⟩=>match As S q with
   | ⟨_,.row sz' e' xs,m⟩=>q' = q∧n = m∧sz' = sz∧e' = e∧xs = ys
   | _=>False
 | _=>False
def cC (P:Program) (J:List Nat) (fn:Func) (args:List AV) (k q sz:Nat) (e:TypeId) (xs ys:List D):Prop :=
 match fn.body with
 | some c=>F9 (AR (AR (Eh (enter 0 args (EO fn.ntmps)) k (.ptr k 0 0)) k (.var [.sl q 0]) 0) q (.row sz e xs) 0) (aS P J c (fun e' S=>match e' with
   | .normal | .ret=>eG S k q sz e ys
   | _=>False))
 | none=>False
def fk (P:Program) (fn:Func) (args:List AV) (r:AV):Prop:=Zq P [] fn args r
def fh (P:Program) (fn:Func) (args outs:List AV) (r:AV):Prop:=W9 P [] fn args outs r
end Go.Abs
