/- M1 -/
import Derived.Orders
import Derived.Below
import Derived.Laws.AppendOwn
import Derived.Laws.Cells
import Derived.Laws.Build
namespace Go
abbrev P3:=@List.getElem?_eq_getElem
abbrev ua:=@List.length_map
abbrev uc:=@Option.some.inj
abbrev ud:=@List.getElem_mem
abbrev ue:=@Option.bind_some
abbrev uf:=@of_decide_eq_true
abbrev ug:=@Nat.zero_le
abbrev uh:=@Nat.le_refl
abbrev ui:=@List.take_succ_eq_append_getElem
abbrev uj:=@List.getD_eq_getElem?_getD
abbrev uk:=@if_pos
abbrev ul:=@List.map_cons
abbrev un:=@decide_eq_true
abbrev uo:=@if_neg
abbrev uq:=@List.getElem?_append_right
abbrev ut:=@List.getElem?_append_left
abbrev uu:=@List.getElem?_map
abbrev uv:=@Int.toNat_natCast
abbrev uw:=@Nat.lt_of_lt_of_le
abbrev ux:=@cond_false
abbrev uy:=@List.mem_of_getElem?
abbrev uz:=@Array.getElem?_setIfInBounds_ne
abbrev uB:=@decide_eq_false
abbrev uH:=@List.map_nil
abbrev uI:=@List.map_append
abbrev uJ:=@List.eq_nil_of_length_eq_zero
abbrev uK:=@Nat.le_trans
abbrev uO:=@List.length_take
abbrev uP:=@List.getElem?_eq_none
abbrev uQ:=@Nat.zero_add
abbrev uS:=@List.take_length
abbrev uU:=@Int.le_refl
abbrev uV:=@List.length_append
abbrev uY:=@cond_true
abbrev uZ:=@Nat.lt_or_ge
abbrev vd:=@List.map_set
abbrev ve:=@Array.length_toList
abbrev vf:=@Array.getElem?_append_left
abbrev vg:=@List.getElem?_take
abbrev vh:=@List.getElem?_drop
abbrev vi:=@Bool.and_eq_true
abbrev vj:=@Nat.eq_of_beq_eq_true
abbrev vk:=@List.getElem?_set
abbrev vm:=@List.getElem?_cons_succ
abbrev vn:=@Array.getD_eq_getD_getElem?
abbrev vr:=@Array.getElem?_toList
abbrev vt:=@of_decide_eq_false
abbrev vu:=@List.length_cons
abbrev vw:=@Nat.pow_le_pow_right
abbrev vz:=@List.mem_of_mem_take
abbrev v7:=@Array.getElem?_eq_getElem
abbrev vA:=@Nat.mul_comm
abbrev vB:=@Array.getElem?_setIfInBounds
abbrev vC:=@Nat.two_pow_pos
abbrev vD:=@Nat.add_mul
abbrev vE:=@Nat.mul_le_mul_right
abbrev vF:=@Nat.add_zero
abbrev vG:=@List.flatMap_cons
abbrev vH:=@Array.getElem?_eq_none
abbrev vI:=@Bool.false_eq_true
abbrev vJ:=@List.getElem?_take_of_lt
abbrev vK:=@List.mem_cons_of_mem
abbrev vL:=@List.mem_of_mem_drop
abbrev vM:=@List.take_of_length_le
abbrev vN:=@Int.emod_lt_of_pos
abbrev vO:=@Int.emod_nonneg
abbrev vP:=@Int.sign_eq_neg_one_of_neg
abbrev vQ:=@Array.toList_setIfInBounds
abbrev vR:=@List.mem_singleton
abbrev vS:=@List.length_drop
abbrev vT:=@Option.getD_some
abbrev vU:=@Nat.le_of_eq
abbrev vV:=@Nat.mul_one
abbrev vW:=@Nat.pow_add
abbrev vX:=@List.ext_getElem?
abbrev vY:=@List.size_toArray
abbrev vZ:=@List.length_filter_le
abbrev wb:=@Nat.mul_assoc
abbrev wd:=@List.eq_of_mem_replicate
abbrev we:=@Nat.min_eq_left
abbrev wg:=@List.mem_append
abbrev wh:=@List.mem_cons_self
abbrev wk:=@Nat.mod_eq_of_lt
abbrev wm:=@Nat.lt_succ_self
abbrev wn:=@List.mem_flatMap
abbrev wo:=@Array.getElem?_append_right
abbrev wq:=@List.getElem_take
abbrev wt:=@Int.toNat_of_nonneg
abbrev wu:=@List.length_nil
abbrev ww:=@List.getElem?_toArray
abbrev wz:=@Option.isSome_none
abbrev w3:=@List.all_eq_true
abbrev w4:=@Nat.gcd_pos_of_pos_left
abbrev w5:=@List.getElem?_cons_zero
abbrev w6:=@List.append_assoc
abbrev w7:=@List.length_set
abbrev w8:=@Option.map_some
abbrev w9:=@List.mem_cons
abbrev wA:=@beq_self_eq_true
abbrev wB:=@Int.natCast_nonneg
abbrev wC:=@Nat.div_lt_iff_lt_mul
abbrev wD:=@Array.getElem?_modify
abbrev wE:=@List.length_replicate
abbrev wF:=@Nat.div_add_mod
abbrev wG:=@List.filter_map
abbrev wH:=@Nat.lt_trichotomy
abbrev wI:=@List.map_map
abbrev wJ:=@List.nodup_append
abbrev wK:=@Nat.mod_lt
abbrev wL:=@Nat.mul_le_mul_left
abbrev wM:=@List.mem_map_of_mem
abbrev wN:=@List.getElem?_range
abbrev wO:=@List.flatMap_append
abbrev wP:=@List.getElem?_replicate
abbrev wQ:=@List.not_mem_nil
abbrev wR:=@Int.sign_eq_one_of_pos
abbrev wS:=@Nat.gcd_comm
abbrev wT:=@List.find?_eq_none
abbrev wU:=@beq_iff_eq
abbrev wV:=@List.append_nil
abbrev wW:=@Nat.not_lt_zero
abbrev wX:=@Nat.mul_le_mul
abbrev wY:=@List.take_left
abbrev wZ:=@List.mapM_cons
abbrev xa:=@List.cons_append
abbrev xb:=@Array.toList_map
abbrev xc:=@List.filter_cons
abbrev xe:=@List.drop_eq_getElem_cons
abbrev xf:=@Array.mapM_eq_mapM_toList
abbrev xg:=@beq_eq_false_iff_ne
abbrev xh:=@List.map_congr_left
abbrev xi:=@Nat.div_le_self
abbrev xj:=@List.count_cons
abbrev xk:=@Int.natAbs_natCast
abbrev xl:=@List.filter_append
abbrev xm:=@Array.empty_append
abbrev xn:=@Nat.le_mul_of_pos_right
abbrev xo:=@Nat.mul_div_cancel_left
end Go
set_option linter.all false
namespace Go.Proofs.YtaojdkijihbaoaaGreatDoor.P
def idx{α:Type}(l:List α)(i:Int):Option α:=if 0<=i then l[i.toNat]? else none
def rm(n m:Nat):Bool:=decide (n+m<=137438953472)
def iter{σ ρ:Type}(body:(σ->Option ρ)->σ->Option ρ):Nat->σ->Option ρ
 | 0,_=>none
 | n+1,s=>body (iter body n) s
def A9:Nat:=36893488147419103232
theorem L2{σ ρ:Type}(body:(σ->Option ρ)->σ->Option ρ)(n:Nat)(s:σ):iter body (n+1) s=body (iter body n) s:=rfl
theorem VU{α ρ:Type}{m:Option α}{G:α->Option ρ}{R:ρ}(h:m.bind G=some R):∃x,m=some x/\G x=some R:=by
 cases m with
 | none=>cases h
 | some x=>exact⟨x,rfl,h⟩
theorem Wj{ρ:Type}{b:Bool}{X:Option ρ}{R:ρ}(h:(bif b then X else none)=some R):b=true/\X=some R:=by
 cases b with
 | true=>exact⟨rfl,h⟩
 | false=>cases h
theorem QU{α:Type}{l:List α}{i:Int}{x:α}(h:idx l i=some x):0<=i/\i.toNat<l.length/\l[i.toNat]?=some x:=by
 unfold idx at h;split at h
 ·rename_i a
  exact⟨a,(List.getElem?_eq_some_iff.1 h).1,h⟩
 ·cases h
theorem qw{σ ρ:Type}{body:(σ->Option ρ)->σ->Option ρ}{n:Nat}{s:σ}{R:ρ}(h:iter body n s=some R) :
 ∃Φ:Nat->σ->Option ρ,(∀k s,Φ k s=some R->∃a,k=a+1/\body (Φ a) s=some R)/\Φ n s=some R:=by
 refine⟨iter body,λk s h=>?_,h⟩
 cases k with
 | zero=>cases h
 | succ k=>exact⟨k,rfl,h⟩
theorem BD{α ρ:Type}{m:Option α}{G:α->Option ρ}{R:ρ}{p:Prop}(h:m.bind G=some R)(k:∀x,m=some x->G x=some R->p):p:=by
 obtain⟨x,a,b⟩:=VU h;exact k x a b
theorem S3{ρ:Type}{b:Bool}{X:Option ρ}{R:ρ}{p:Prop}(h:(bif b then X else none)=some R)(k:b=true->X=some R->p):p:=k (Wj h).1 (Wj h).2
theorem Hq{σ ρ:Type}{body:(σ->Option ρ)->σ->Option ρ}{n:Nat}{s:σ}{R:ρ}{p:Prop}(h:iter body n s=some R)
 (k:∀Φ:Nat->σ->Option ρ,(∀k s,Φ k s=some R->∃a,k=a+1/\body (Φ a) s=some R)->Φ n s=some R->p):p:=by
 obtain⟨Φ,b,c⟩:=qw h;exact k Φ b c
end Go.Proofs.YtaojdkijihbaoaaGreatDoor.P
namespace Go.Abs
def Im:List Int:=[0,1,56,2,57,49,28,3,61,58,42,50,38,29,17,4,62,47,59,36,45,43,51,22,53,39,33,30,24,18,12,5,63,55,48,27,60,41,37,16,46,35,44,21,52,32,23,11,54,26,40,15,34,20,31,10,25,14,19,9,13,8,7,6]
def iA:Nat->Option (List Int)
 | 2=>some Im
 | _=>none
inductive D where
 | bool (b:Bool)
 | int (k:IntKind) (n:Int)
 | str (s:ByteArray)
 | fn (f:FuncId) (caps:List D)
 | ptr (cs:List D)
 | nil (sz:Nat)
 | list (sz:Nat) (xs:List D)
 | agg (xs:List D)
def pb(g:Nat):Option (List D):=match iA g with
 | some l=>some (l.map λn=>D.int .u8 n)
 | none=>none
def D.cells:D->List D
 | .agg xs=>xs
 | x=>[x]
def D.one:D->Bool
 | .agg _=>false
 | _=>true
def D.bare:D->Bool
 | .bool _|.int _ _|.str _|.nil _|.fn _ []=>true
 | _=>false
inductive C where
 | d (x:D)
 | sl (id ver:Nat)
 | own (sz:Nat) (e:TypeId) (xs:List D)
inductive AV where
 | any
 | bot
 | d (x:D)
 | lim (sz:Nat) (xs:List D)
 | ptr (id ver off:Nat)
 | sl (id ver:Nat)
 | eptr (id ver sz i off:Nat)
 | tup (xs:List C)
 | own (sz:Nat) (e:TypeId) (xs:List D)
 | optr (cs:List D)
 | under (t:Nat) (want:Bool) (x:AV)
 | cc (k:Option FuncId) (xs:List C)
inductive BJ where
 | none
 | var (cs:List C)
 | row (sz:Nat) (e:TypeId) (xs:List D)
 | fvar (cs:List D)
 | frow (sz:Nat) (xs:List D)
 | map (es:List (D×D))
structure Sl where
 av:AV
 box:BJ
 ver:Nat
abbrev AS:=List Sl
def Ae:Value->Option Nat
 | .pointer (some a)=>some a.block
 | .slice (some a) _ cap=>if cap=0 then none else some a.block
 | .map (some b)=>some b
 | .agg vs=>match vs.back? with
   | some (.slice (some a) _ cap)=>if cap=0 then none else some a.block
   | _=>none
 | _=>none
def PV:Value->Value
 | .agg vs=>match vs.back? with
   | some u=>u
   | none=>undef
 | v=>v
def Su:Value->Nat
 | .slice _ _ c=>c
 | _=>0
inductive Ay(O:Nat->Prop)(w:World):Value->D->Prop
 | bool (b:Bool):Ay O w (.bool b) (.bool b)
 | int (k:IntKind) (n:Int):Ay O w (.int k n) (.int k n)
 | str (s:ByteArray):Ay O w (.string s) (.str s)
 | fn (f:FuncId) (vs:Array Value) (xs:List D) (hl:vs.size=xs.length) (h1:∀x∈xs,x.one=true)
  (h:∀(i:Nat) v x,vs[i]?=some v->xs[i]?=some x->Ay O w v x):Ay O w (.func (.func f) #[] vs) (.fn f xs)
 | ptr (b off:Nat) (cs:List D) (c:Nat->Value) (hb:cs≠[]->b<w.heap.size) (hO:cs≠[]->¬O b) (h1:∀x∈cs,x.one=true)
  (hcell:∀(j:Nat) y,cs[j]?=some y->w.cell? ⟨b,off+j,none⟩=some (c j))
  (h:∀(j:Nat) y,cs[j]?=some y->Ay O w (c j) y):Ay O w (.pointer (some ⟨b,off,none⟩)) (.ptr cs)
 | agg (vs:Array Value) (xs:List D) (hl:vs.size=xs.length) (h1:∀x∈xs,x.one=true)
  (h:∀(i:Nat) v x,vs[i]?=some v->xs[i]?=some x->Ay O w v x):Ay O w (.agg vs) (.agg xs)
 | nil (a:Option Addr) (sz:Nat):Ay O w (.slice a 0 0) (.nil sz)
 | emp (a:Option Addr) (cap sz:Nat):Ay O w (.slice a 0 cap) (.list sz [])
 | list (b off cap sz:Nat) (xs:List D) (c:Nat->Nat->Value) (hne:xs≠[]) (hb:b<w.heap.size) (hO:¬O b) (hcap:xs.length<=cap) (hsz:∀x∈xs,x.cells.length=sz)
  (h1:∀x∈xs,∀y∈x.cells,y.one=true)
  (hcell:∀(i:Nat) x (j:Nat) y,xs[i]?=some x->x.cells[j]?=some y->w.cell? ⟨b,off+i*sz+j,none⟩=some (c i j))
  (h:∀(i:Nat) x (j:Nat) y,xs[i]?=some x->x.cells[j]?=some y->Ay O w (c i j) y) :
  Ay O w (.slice (some ⟨b,off,none⟩) xs.length cap) (.list sz xs)
def OY(O:Nat->Prop)(w:World):Prop:=∀g cs,pb g=some cs->Ay O w (.pointer (some ⟨g,0,none⟩)) (.ptr cs)
def By(O:Nat->Prop)(w:World)(vs:List Value)(ys:List D):Prop :=
 vs.length=ys.length/\∀(j:Nat) v y,vs[j]?=some v->ys[j]?=some y->Ay O w v y/\y.one=true
def Cj(β:Nat->Value)(ver:Nat->Nat)(O:Nat->Prop)(w:World)(v:Value):C->Prop
 | .d x=>Ay O w v x/\x.one=true
 | .sl id n=>n<=ver id/\(n=ver id->v=β id)
 | .own _ _ _=>False
def tV(k:Option FuncId)(vs:Array Value):Value :=
 match k with
 | none=>.agg vs
 | some f=>.func (.func f) #[] vs
def JX(β:Nat->Value)(ver:Nat->Nat)(O:Nat->Prop)(w:World)(tm:Array Value)(v:Value):AV->Prop
 | .any=>True
 | .bot=>False
 | .d x=>Ay O w v x
 | .lim sz xs=>Ay O w v (.list sz xs)/\Su v=xs.length
 | .ptr id n o=>n<=ver id/\(n=ver id->∃b,β id=.pointer (some ⟨b,0,none⟩)/\v=.pointer (some ⟨b,o,none⟩))
 | .sl id n=>n<=ver id/\(n=ver id->v=β id)
 | .eptr id n sz i o=>n<=ver id/\(n=ver id->∃b m cap,β id=.slice (some ⟨b,0,none⟩) m cap/\v=.pointer (some ⟨b,i*sz+o,none⟩))
 | .tup xs=>∃vs:Array Value,v=.tuple vs/\vs.size=xs.length/\∀(i:Nat) u x,vs[i]?=some u->xs[i]?=some x->match x with
  | .d y=>Ay O w u y
  | c=>Cj β ver O w u c
 | .own _ _ _=>False
 | .optr _=>False
 | .under t want x=>(tm[t]?=some (.bool want)->JX β ver O w tm v x)/\(tm[t]?≠some (.bool want)->v=undef)
 | .cc k xs=>∃vs:Array Value,v=tV k vs/\vs.size=xs.length/\∀(i:Nat) u x,vs[i]?=some u->xs[i]?=some x->Cj β ver O w u x/\u.oneCell'=true
def Bw(w:World)(e:TypeId)(sz:Nat)(v:Value)(n:Nat)(vals:List Value):Prop :=
 w.ownsRow 0 e sz v n vals\/(n=0/\vals=[]/\∃a,v=.slice (some a) 0 0)
def IU(β:Nat->Value)(ver:Nat->Nat)(O:Nat->Prop)(w:World)(id:Nat):BJ->Prop
 | .none=>True
 | .var cs=>∃b vals T,β id=.pointer (some ⟨b,0,none⟩)/\w.heap[b]?=some (.cells vals T (0,0))/\vals.size=cs.length/\∀(j:Nat) v c,vals[j]?=some v->cs[j]?=some c->Cj β ver O w v c
 | .row sz e xs=>0<sz/\(∀x∈xs,x.cells.length=sz)/\∃vals,Bw w e sz (β id) xs.length vals/\By O w vals (xs.flatMap D.cells)
 | .fvar cs=>Ay O w (β id) (.ptr cs)/\∃b,β id=.pointer (some ⟨b,0,none⟩)
 | .frow sz xs=>Ay O w (β id) (.list sz xs)
 | .map es=>∃(b:Nat)(vs:Array MapEntry)(clock:Nat),β id=.map (some b)/\w.heap[b]?=some (.map vs clock)/\vs.size=es.length /\
  ∀(i:Nat)(e:MapEntry)(p:D×D),vs[i]?=some e->es[i]?=some p->Ay O w e.key p.1/\Ay O w e.val p.2/\p.1.bare=true/\p.2.bare=true
def BJ.owned:BJ->Bool
 | .var _|.row _ _ _|.map _=>true
 | _=>false
def OZ(O:Nat->Prop)(w:World)(v:Value):AV->Prop
 | .any=>True
 | .d x=>Ay O w v x
 | .lim sz xs=>Ay O w v (.list sz xs)/\Su v=xs.length
 | _=>False
def Vb(mine:Nat->Prop)(w:World)(v:Value)(sz:Nat)(e:TypeId)(xs:List D):Prop :=
 0<sz/\(∀x∈xs,x.cells.length=sz)/\(∀b,Ae v=some b->mine b)/\∃vals,Bw w e sz v xs.length vals/\By (λ_=>True) w vals (xs.flatMap D.cells)
def eM(O:Nat->Prop)(w:World)(v:Value)(cs:List D):Prop :=
 ∃b vals T,v=.pointer (some ⟨b,0,none⟩)/\w.heap[b]?=some (.cells vals T (0,0))/\By O w vals.toList cs
def Eb(v:Value)(r:AV)(b:Nat):Prop :=
 match r with
 | .own _ _ _|.optr _=>Ae v=some b
 | .tup xs=>∃(vs:Array Value)(i:Nat)(u:Value)(sz:Nat)(e:TypeId)(ys:List D),v=.tuple vs/\vs[i]?=some u/\xs[i]?=some (.own sz e ys)/\Ae u=some b
 | .cc _ _=>Ae v=some b
 | _=>False
def TP(mine O:Nat->Prop)(w:World)(v:Value):List C->Prop
 | [.own sz e xs]=>0<sz/\(∀x∈xs,x.cells.length=sz)/\(∀b,Ae v=some b->mine b)/\∃vals,Bw w e sz v xs.length vals/\By (λb=>O b\/Ae v=some b) w vals (xs.flatMap D.cells)
 | _=>False
def Di(mine O:Nat->Prop)(w:World)(v:Value)(r:AV):Prop :=
 match r with
 | .own sz e xs=>Vb mine w v sz e xs
 | .cc _ l=>TP mine O w v l
 | .optr cs=>(∀b,Ae v=some b->mine b)/\eM (λb=>O b\/Ae v=some b) w v cs
 | .tup xs=>∃vs:Array Value,v=.tuple vs/\vs.size=xs.length/\(∀(i:Nat) u x,vs[i]?=some u->xs[i]?=some x->match x with
  | .d y=>Ay (λb=>O b\/Eb v (.tup xs) b) w u y
  | .own sz e ys=>Vb mine w u sz e ys
  | .sl _ _=>False) /\
  ∀(i j:Nat) u u' sz e ys sz' e' ys' b,vs[i]?=some u->vs[j]?=some u'->xs[i]?=some (.own sz e ys)->xs[j]?=some (.own sz' e' ys')->Ae u=some b->Ae u'=some b->i=j
 | x=>OZ O w v x
def F0(P:Program)(f:FuncId):Bool :=
 match P.funcs[f]? with
 | some fn=>!(fn.name == "runtime.NumGoroutine")&&fn.body.isSome
 | none=>false
def Ax(P:Program)(f:FuncId)(args:List AV)(r:AV):Prop :=
 F0 P f=true/\∀(O:Nat->Prop)(w:World)(vs:Array Value),(∀b,O b->b<w.heap.size)->OY O w->vs.size=args.length ->
  (∀(i:Nat) v x,vs[i]?=some v->args[i]?=some x->OZ O w v x) ->
  Calls P f vs w λe w'=>∃v,e=.returned v/\RowKit.Below w.heap.size w w'/\Di (λb=>w.heap.size<=b) O w' v r
structure A8(B:Nat)(M:Nat->Prop)(w w':World):Prop where
 os:w'.os=w.os
 tape:w'.tape=w.tape
 output:w'.output=w.output
 size:w.heap.size<=w'.heap.size
 block:∀k,k<B->¬M k->w'.heap[k]?=w.heap[k]?
def AV.mut:AV->Bool
 | .own _ _ _|.optr _|.cc _ _=>true
 | _=>false
def kZ(w:World)(O:Nat->Prop)(v:Value)(l:List C)(vs:Array Value)(u:Value)(ds:List D)(sz:Nat)(e:TypeId)(xs:List D):Prop :=
 l=ds.map .d++[.own sz e xs]/\v=.agg (vs.push u)/\vs.size=ds.length/\0<sz/\(∀x∈xs,x.cells.length=sz)/\∃vals,Bw w e sz u xs.length vals/\By O w vals (xs.flatMap D.cells)
def bE(O:Nat->Prop)(w:World)(v:Value):AV->Prop
 | .own sz e xs=>0<sz/\(∀x∈xs,x.cells.length=sz)/\∃vals,Bw w e sz v xs.length vals/\By O w vals (xs.flatMap D.cells)
 | .optr cs=>eM O w v cs
 | .cc k l=>k=none/\∃vs u ds sz e xs,kZ w O v l vs u ds sz e xs/\By O w vs.toList ds
 | x=>OZ O w v x
def HQ(vs:Array Value)(args:List AV)(b:Nat):Prop:=∃(i:Nat)(v:Value)(x:AV),vs[i]?=some v/\args[i]?=some x/\x.mut=true/\Ae v=some b
def Q6(O:Nat->Prop)(w:World)(v:Value)(x:AV):AV->Prop
 | .own sz e ys=>bE O w v (.own sz e ys)/\∃xs,x=.own sz e xs
 | .optr cs=>bE O w v (.optr cs)/\∃cs',x=.optr cs'/\cs.length=cs'.length
 | .cc _ l=>∃vs u ds sz e xs,kZ w O v l vs u ds sz e xs
 | _=>True
def Fz(P:Program)(f:FuncId)(args outs:List AV)(r:AV):Prop :=
 F0 P f=true/\outs.length=args.length/\∀(O:Nat->Prop)(w:World)(vs:Array Value),(∀b,O b->b<w.heap.size)->OY (λb=>O b\/HQ vs args b) w->vs.size=args.length->(∀b,HQ vs args b->¬O b) ->
  (∀(i j:Nat) v v' x y b,vs[i]?=some v->vs[j]?=some v'->args[i]?=some x->args[j]?=some y->x.mut=true->y.mut=true->Ae v=some b->Ae v'=some b->i=j) ->
  (∀(i:Nat) v x,vs[i]?=some v->args[i]?=some x->bE (λb=>O b\/HQ vs args b) w v x) ->
  Calls P f vs w λe w'=>∃v,e=.returned v/\A8 w.heap.size (HQ vs args) w w' /\
   Di (λb=>w.heap.size<=b\/(HQ vs args b/\¬HQ vs outs b)) (λb=>O b\/HQ vs outs b) w' v r /\
   ∀(i:Nat) u x y,vs[i]?=some u->args[i]?=some x->outs[i]?=some y->Q6 (λb=>O b\/HQ vs outs b\/Eb v r b) w' u x y
def gV(P:Program)(f:FuncId)(args:List AV)(r:AV):Prop :=
 ∀(O:Nat->Prop)(w:World)(vs:Array Value),vs.size=args.length->(∀(i:Nat) v x,vs[i]?=some v->args[i]?=some x->OZ O w v x) ->
  ∃v,(callFunc f vs).run P w=.ok (.value v) w/\Di (λb=>w.heap.size<=b) O w v r
def VT(b:Bool)(x y:Prop):Prop:=Bool.rec (motive:=λ_=>Prop) y x b
theorem br{b:Bool}{x y:Prop}(a:b=true->x)(c:b=false->y):Bool.rec (motive:=λ_=>Prop) y x b:=by
 cases b
 ·exact c rfl
 ·exact a rfl
theorem VT.pos{b:Bool}{x y:Prop}(h:VT b x y)(a:b=true):x:=by subst a;exact h
theorem VT.neg{b:Bool}{x y:Prop}(h:VT b x y)(a:b=false):y:=by subst a;exact h
structure JW(p:Prop)(k:Prop):Prop where
 need:p
 then_:k
def lg(P:Program)(f:FuncId)(nils:List Nat)(args:List AV)(r:AV):Prop :=
 F0 P f=true/\∀(O:Nat->Prop)(w:World)(vs:Array Value),(∀b,O b->b<w.heap.size)->OY O w->vs.size=args.length->(∀i∈nils,vs[i]?=some (.slice none 0 0)) ->
  (∀(i:Nat) v x,vs[i]?=some v->args[i]?=some x->OZ O w v x) ->
  Calls P f vs w λe w'=>∃v,e=.returned v/\RowKit.Below w.heap.size w w'/\Di (λb=>w.heap.size<=b) O w' v r
structure Ii(P:Program)(f:FuncId)(nils:List Nat)(args:List AV)(K:AV->Prop)(margs:List AV)(KM:List AV->AV->Prop):Prop where
 go:(∃r,(Ax P f args r\/gV P f args r\/lg P f nils args r)/\K r)\/∃outs r,Fz P f margs outs r/\KM outs r
theorem A4{P:Program}{f:FuncId}{b:List Nat}{args a:List AV}{K:AV->Prop}{d:List AV->AV->Prop}{r:AV}(c:Ax P f args r)(k:K r):Ii P f b args K a d:=⟨.inl ⟨r,.inl c,k⟩⟩
theorem lK{P:Program}{f:FuncId}{b:List Nat}{args a:List AV}{K:AV->Prop}{d:List AV->AV->Prop}{r:AV}(c:gV P f args r)(k:K r):Ii P f b args K a d:=⟨.inl ⟨r,.inr (.inl c),k⟩⟩
theorem rX{P:Program}{f:FuncId}{a:List Nat}{args b:List AV}{K:AV->Prop}{d:List AV->AV->Prop}{r:AV}(c:lg P f a args r)(k:K r):Ii P f a args K b d:=⟨.inl ⟨r,.inr (.inr c),k⟩⟩
theorem HW{P:Program}{f:FuncId}{d:List Nat}{args a b:List AV}{K:AV->Prop}{e:List AV->AV->Prop}{r:AV}(c:Fz P f a b r)(k:e b r):Ii P f d args K a e:=⟨.inr ⟨b,r,c,k⟩⟩
def VK(P:Program)(f:FuncId)(args:List AV)(k sz:Nat)(e:TypeId)(xs ys:List D):Prop :=
 F0 P f=true/\∀(O:Nat->Prop)(w:World)(vs:Array Value)(b:Nat)(u:Value)(T:TypeId),
  (∀c,O c->c<w.heap.size)->OY (λc=>O c\/c=b\/Ae u=some c) w->vs.size=args.length->vs[k]?=some (.pointer (some ⟨b,0,none⟩)) ->
  w.heap[b]?=some (.cells #[u] T (0,0))->¬O b->(∀c,Ae u=some c->¬O c/\c≠b)->0<sz->(∀x∈xs,x.cells.length=sz) ->
  (∃vals,Bw w e sz u xs.length vals/\By (λc=>O c\/c=b\/Ae u=some c) w vals (xs.flatMap D.cells)) ->
  (∀(i:Nat) v x,vs[i]?=some v->args[i]?=some x->OZ (λc=>O c\/c=b\/Ae u=some c) w v x) ->
  Calls P f vs w λe' w'=>∃v u' T',e'=.returned v/\A8 w.heap.size (λc=>c=b\/Ae u=some c) w w' /\
   w'.heap[b]?=some (.cells #[u'] T' (0,0))/\(∀c,Ae u'=some c->Ae u=some c\/w.heap.size<=c)/\(∀x∈ys,x.cells.length=sz) /\
   ∃vals,Bw w' e sz u' ys.length vals/\By (λc=>O c\/c=b\/Ae u'=some c) w' vals (ys.flatMap D.cells)
structure bH(P:Program)(f:FuncId)(args:List AV)(k sz:Nat)(e:TypeId)(xs:List D)(K:List D->Prop):Prop where
 go:∃ys,VK P f args k sz e xs ys/\K ys
theorem VX{P:Program}{f:FuncId}{args:List AV}{k sz:Nat}{e:TypeId}{xs ys:List D}{K:List D->Prop}(c:VK P f args k sz e xs ys)(h:K ys):bH P f args k sz e xs K:=⟨⟨ys,c,h⟩⟩
def Gy(vals:Array Value)(cs:List C)(c:Nat):Prop :=
 ∃(j:Nat)(u:Value)(sz:Nat)(e:TypeId)(xs:List D),vals[j]?=some u/\cs[j]?=some (.own sz e xs)/\Ae u=some c
def sY(O:Nat->Prop)(w:World)(v:Value):C->Prop
 | .d x=>Ay O w v x/\x.one=true
 | .own sz e xs=>0<sz/\(∀x∈xs,x.cells.length=sz)/\∃rv,Bw w e sz v xs.length rv/\By O w rv (xs.flatMap D.cells)
 | .sl _ _=>False
structure lr(O:Nat->Prop)(w:World)(b:Nat)(cs:List C)(vals:Array Value):Prop where
 cells:∃T,w.heap[b]?=some (.cells vals T (0,0))
 size:vals.size=cs.length
 rep:∀(j:Nat) v c,vals[j]?=some v->cs[j]?=some c->sY O w v c
 ne:∀c,Gy vals cs c->c≠b
 inj:∀(i j:Nat) u u' sz e xs sz' e' xs' c,vals[i]?=some u->vals[j]?=some u'->cs[i]?=some (.own sz e xs)->cs[j]?=some (.own sz' e' xs')->Ae u=some c->Ae u'=some c->i=j
def rR(P:Program)(f:FuncId)(args:List AV)(k:Nat)(cs cs':List C)(r:D):Prop :=
 F0 P f=true/\∀(O:Nat->Prop)(w:World)(vs:Array Value)(b:Nat)(vals:Array Value),
  (∀c,O c->c<w.heap.size)->OY (λc=>O c\/c=b\/Gy vals cs c) w->vs.size=args.length->vs[k]?=some (.pointer (some ⟨b,0,none⟩)) ->
  lr (λc=>O c\/c=b\/Gy vals cs c) w b cs vals->(∀c,c=b\/Gy vals cs c->¬O c) ->
  (∀(i:Nat) v x,vs[i]?=some v->args[i]?=some x->OZ (λc=>O c\/c=b\/Gy vals cs c) w v x) ->
  Calls P f vs w λe w'=>∃v vals',e=.returned v/\A8 w.heap.size (λc=>c=b\/Gy vals cs c) w w'/\lr (λc=>O c\/c=b\/Gy vals' cs' c) w' b cs' vals' /\
   (∀c,Gy vals' cs' c->Gy vals cs c\/w.heap.size<=c)/\Ay (λc=>O c\/c=b\/Gy vals' cs' c) w' v r
structure lj(P:Program)(f:FuncId)(args:List AV)(k:Nat)(cs:List C)(K:List C->D->Prop):Prop where
 go:∃cs' r,rR P f args k cs cs' r/\K cs' r
structure At(xs:List D)(i:Int)(K:D->Prop):Prop where
 go:0<=i/\∃x,xs[i.toNat]?=some x/\K x
structure Te(x y:Prop):Prop where
 go:x\/y
structure qh(K:List (Nat×Nat)->Prop):Prop where
 go:∃hs,K hs
structure qi(xs:List D)(K:Bool->Prop):Prop where
 go:∀b:Bool,(xs≠[]->b=false)->K b
def eK:Sl:=⟨.any,.none,0⟩
def Ag:AS->Nat->Sl
 | [],_=>eK
 | s :: _,0=>s
 | _ :: r,n+1=>Ag r n
def FB:AS->Nat->AV->AS
 | [],_,_=>[]
 | s :: r,0,v=>⟨v,s.box,s.ver⟩ :: r
 | s :: r,n+1,v=>s :: FB r n v
def AY:AS->Nat->BJ->Nat->AS
 | [],_,_,_=>[]
 | s :: r,0,b,n=>⟨s.av,b,n⟩ :: r
 | s :: r,k+1,b,n=>s :: AY r k b n
inductive RV where
 | any
 | bot
 | d (x:D)
 | lim (sz:Nat) (xs:List D)
 | vptr (id ver off:Nat) (cs:List C)
 | row (id ver sz:Nat) (e:TypeId) (xs:List D)
 | eptr (id ver sz:Nat) (e:TypeId) (xs:List D) (i off:Nat)
 | tup (xs:List C)
 | mp (id ver:Nat) (es:List (D×D))
 | cagg (xs:List C)
 | cfun (f:FuncId) (xs:List C)
 | clo (f:FuncId) (cs:List C) (k id ver rid rver:Nat)
def gw:List C->Option (Nat×Nat×Nat)
 | []=>none
 | .sl id n :: _=>some (0,id,n)
 | _ :: r=>match gw r with
   | some (k,id,n)=>some (k+1,id,n)
   | none=>none
def eZ:Value->AV
 | .int k n=>.d (.int k n)
 | .bool b=>.d (.bool b)
 | .string s=>.d (.str s)
 | .slice none 0 0=>.d (.nil 0)
 | _=>.any
def ev(S:AS):Operand->AV
 | .tmp t=>(Ag S t).av
 | .const v=>eZ v
 | .func f=>.d (.fn f [])
 | .global g=>match pb g with
   | some cs=>.d (.ptr cs)
   | none=>.any
def rL(g:Option (Nat×Bool)):AV->AV
 | .under t w y=>match g with
   | some (t',w')=>if t=t'/\w=w' then y else .any
   | none=>.any
 | x=>x
def res(S:AS):AV->RV
 | .any=>.any
 | .bot=>.bot
 | .d x=>.d x
 | .lim sz xs=>.lim sz xs
 | .tup xs=>.tup xs
 | .ptr id n o=>match Ag S id with
   | ⟨_,.var cs,m⟩=>if n=m then .vptr id n o cs else .any
   | ⟨_,.fvar cs,m⟩=>if n=m then .d (.ptr (cs.drop o))else .any
   | _=>.any
 | .sl id n=>match Ag S id with
   | ⟨_,.row sz e xs,m⟩=>if n=m then .row id n sz e xs else .any
   | ⟨_,.frow sz xs,m⟩=>if n=m then .d (.list sz xs)else .any
   | ⟨_,.map es,m⟩=>if n=m then .mp id n es else .any
   | _=>.any
 | .eptr id n sz i o=>match Ag S id with
   | ⟨_,.row sz' e xs,m⟩=>if n=m/\sz=sz' then .eptr id n sz e xs i o else .any
   | _=>.any
 | .own _ _ _=>.any
 | .optr _=>.any
 | .under _ _ _=>.any
 | .cc k xs=>match k with
   | none=>.cagg xs
   | some f=>match gw xs with
     | some (j,id,n)=>match Ag S id with
       | ⟨_,.var [.sl rid rn],m⟩=>if n=m then .clo f xs j id n rid rn else .cfun f xs
       | _=>.cfun f xs
     | none=>.cfun f xs
def AV.guards:AV->List Nat
 | .under t _ x=>t :: x.guards
 | _=>[]
def AH(S:AS)(i:Nat):Nat:=(Ag S i).ver
structure Cx where
 base:Nat
 M:Nat->Prop
 O:Nat->Prop
 R:Nat->Prop
 w₀:World
 ini:Nat->Value
 glob:OY (λb=>O b\/base<=b\/M b) w₀
def Cx.mine(x:Cx)(b:Nat):Prop:=x.base<=b\/x.M b
def Cx.less(x:Cx)(R:Nat->Prop):Cx:={ x with R:=R }
def OS(β:Nat->Value)(x:Cx)(S:AS)(b:Nat):Prop:=x.O b\/x.R b\/∃i,(Ag S i).box.owned=true/\Ae (β i)=some b
structure SimB(x:Cx)(G:Nat->Prop)(β:Nat->Value)(S:AS)(a:Act)(w:World):Prop where
 len:a.tmps.size=S.length
 df:a.defers=[]
 below:A8 x.base x.M x.w₀ w
 hbase:x.base<=w.heap.size
 o₀:∀b,x.O b->b<x.base/\¬x.M b
 rs:∀b,x.R b->x.mine b/\b<w.heap.size
 slots:∀(t:Nat) v,a.tmps[t]?=some v->JX β (AH S) (OS β x S) w a.tmps v (Ag S t).av
 boxes:∀i,IU β (AH S) (OS β x S) w i (Ag S i).box
 mine:∀i b,(Ag S i).box.owned=true->Ae (β i)=some b->x.mine b/\¬x.R b
 inj:∀i j b,(Ag S i).box.owned=true->(Ag S j).box.owned=true->Ae (β i)=some b->Ae (β j)=some b->i=j
 gds:∀t,∀u∈(Ag S t).av.guards,G u
 ini:∀i,(Ag S i).ver=0->(Ag S i).box≠.none->β i=x.ini i
structure Hn where
 av:AV
 bx:List (Nat×BJ×Nat)
 homes:List (Nat×Nat)
abbrev Bx:=List (Nat×BJ×Nat)
def back:RV->AV
 | .any=>.any
 | .bot=>.bot
 | .d x=>.d x
 | .lim sz xs=>.lim sz xs
 | .vptr id n o _=>.ptr id n o
 | .row id n _ _ _=>.sl id n
 | .eptr id n sz _ _ i o=>.eptr id n sz i o
 | .tup xs=>.tup xs
 | .mp id n _=>.sl id n
 | .cagg xs=>.cc none xs
 | .cfun f cs=>.cc (some f) cs
 | .clo f cs _ _ _ _ _=>.cc (some f) cs
def Hf:Nat->(Nat->Prop)->Prop
 | 0,K=>K 0
 | n+1,K=>Hf n λm=>K (m+1)
def WV(v:AV)(K:AV->Prop):Prop :=
 match v with
 | .any=>K .any
 | .bot=>K .bot
 | .d x=>K (.d x)
 | .lim sz xs=>K (.lim sz xs)
 | .ptr id n o=>Hf n λn=>Hf o λo=>K (.ptr id n o)
 | .sl id n=>Hf n λn=>K (.sl id n)
 | .eptr id n sz i o=>Hf n λn=>Hf sz λsz=>Hf o λo=>K (.eptr id n sz i o)
 | .tup xs=>K (.tup xs)
 | .own sz e xs=>K (.own sz e xs)
 | .optr cs=>K (.optr cs)
 | .under t w x=>match x with
   | .any=>K (.under t w .any)
   | .d x=>K (.under t w (.d x))
   | .ptr id n o=>Hf n λn=>Hf o λo=>K (.under t w (.ptr id n o))
   | .sl id n=>Hf n λn=>K (.under t w (.sl id n))
   | .eptr id n sz i o=>Hf n λn=>Hf sz λsz=>Hf o λo=>K (.under t w (.eptr id n sz i o))
   | x=>K (.under t w x)
 | .cc k xs=>K (.cc k xs)
def au(b:BJ)(K:BJ->Prop):Prop :=
 match b with
 | .none=>K .none
 | .var cs=>K (.var cs)
 | .row sz e xs=>Hf sz λsz=>K (.row sz e xs)
 | .fvar cs=>K (.fvar cs)
 | .frow sz xs=>Hf sz λsz=>K (.frow sz xs)
 | .map es=>K (.map es)
def CN{α:Type}:List α->(List α->Prop)->Prop
 | [],K=>K []
 | x :: r,K=>CN r λr=>K (x :: r)
def splice{α:Type}:List α->Nat->List α->List α
 | cs,0,ys=>ys++cs.drop ys.length
 | [],_+1,_=>[]
 | c :: cs,n+1,ys=>c :: splice cs n ys
def Ps:List D->(List D->Prop)->Prop
 | [],K=>K []
 | x :: r,K=>Ps r λr=>match x with
   | .nil s=>K (.list s [] :: r)
   | x=>K (x :: r)
def Qs(x:D)(K:D->Prop):Prop :=
 match x with
 | .nil s=>K (.list s [])
 | .agg xs=>Ps xs λl=>K (.agg l)
 | x=>K x
def Zd(r:RV)(K:D->Bx->Prop):Prop :=
 match r with
 | .d x=>K x []
 | .lim sz xs=>K (.list sz xs) []
 | .row id n sz _ xs=>K (.list sz xs) [(id,.frow sz xs,n)]
 | _=>False
def qm(r:RV)(K:D->Bx->Prop):Prop:=Zd r λx b=>Qs x λx=>K x b
def Ea(σ:Nat->Nat->RV):List C->(List D->Bx->Prop)->Prop
 | [],K=>K [] []
 | .d x :: r,K=>Ea σ r λl b=>K (x :: l) b
 | .sl id n :: r,K=>Zd (σ id n) λx b=>Ea σ r λl b'=>K (x :: l) (b++b')
 | .own _ _ _ :: _,_=>False
def bC:List D->(List C->Prop)->Prop
 | [],K=>K []
 | x :: r,K=>bC r λr=>K (.d x :: r)
def zD:Value->Option D
 | .int k n=>some (.int k n)
 | .bool b=>some (.bool b)
 | .string s=>some (.str s)
 | .slice none 0 0=>some (.nil 0)
 | _=>none
def sQ:List Value->Option (List D)
 | []=>some []
 | v :: r=>match zD v,sQ r with
   | some x,some l=>some (x :: l)
   | _,_=>none
def AD(P:Program)(t:TypeId):Nat:=match P.info? t with|some i=>i.size|none=>0
def Lp(P:Program)(t:TypeId):Nat:=match P.info? t with|some i=>i.bytes|none=>0
def Vi(P:Program):Nat->TypeId->List Nat
 | 0,_=>[]
 | n+1,t=>match P.underlying t with
   | some (.slice e)=>[AD P e]
   | some (.struct fs)=>fs.toList.flatMap λf=>Vi P n f.type
   | some (.array k e)=>(List.replicate k e).flatMap λe=>Vi P n e
   | _=>[0]
def LL:List D->List Nat->List D
 | .nil _ :: r,s :: q=>.nil s :: LL r q
 | x :: r,_ :: q=>x :: LL r q
 | l,_=>l
def zeroCells(P:Program)(t:TypeId):Option (List D) :=
 match P.info? t with
 | some i=>match i.zero with
   | some z=>match sQ z.cells.toList with
     | some l=>some (LL l (Vi P 12 t))
     | none=>none
   | none=>none
 | none=>none
def Nt(P:Program)(t:TypeId):Option Bool :=
 match P.underlying t with
 | some (.struct _)|some (.array _ _)=>some true
 | some _=>some false
 | none=>none
def dj(P:Program)(t:TypeId)(cs:List D)(K:D->Prop):Prop :=
 match Nt P t with
 | some true=>match P.info? t with
   | some i=>CN (cs.take i.size) λl=>if l.length=i.size then K (.agg l)else False
   | none=>False
 | some false=>match cs with
   | y :: _=>K y
   | []=>False
 | none=>False
def nilT(P:Program)(t:TypeId)(x:D):D :=
 match x with
 | .nil 0=>match P.underlying t with
   | some (.slice e)=>.nil (AD P e)
   | _=>.nil 0
 | x=>x
def rG:List C->Bool
 | []=>false
 | c :: r=>match c with
   | .sl _ _=>true
   | _=>rG r
def Ru(σ:Nat->Nat->RV):List C->Bool
 | []=>true
 | c :: r=>match c with
   | .d _=>Ru σ r
   | .sl id n=>match σ id n with
     | .row _ _ _ _ _=>Ru σ r
     | _=>false
   | .own _ _ _=>false
def oD(P:Program)(σ:Nat->Nat->RV)(t:TypeId)(cs:List C)(K:Hn->Prop):Prop :=
 match Nt P t with
 | some true=>match P.info? t with
   | some i=>CN (cs.take i.size) λl=>if l.length=i.size then match rG l with
     | false=>Ea σ l λl b=>K ⟨.d (.agg l),b,[]⟩
     | true=>Te (Ea σ l λl b=>K ⟨.d (.agg l),b,[]⟩) (if Ru σ l=true then K ⟨.cc none l,[],[]⟩else False)
     else False
   | none=>False
 | some false=>match cs with
   | .d y :: _=>K ⟨.d y,[],[]⟩
   | .sl id n :: _=>K ⟨.sl id n,[],[]⟩
   | _=>False
 | none=>False
def Xs(op:BinOp)(k:IntKind)(a b:Int)(K:D->Prop):Prop :=
 match op with
 | .add=>K (.int k (k.wrap (a+b)))
 | .sub=>K (.int k (k.wrap (a-b)))
 | .mul=>K (.int k (k.wrap (a*b)))
 | .quo=>JW (b≠0) (K (.int k (k.wrap (a.tdiv b))))
 | .rem=>JW (b≠0) (K (.int k (a.tmod b)))
 | .and=>K (.int k (k.wrap (BitVec.ofInt k.bits a &&& BitVec.ofInt k.bits b).toNat))
 | .or=>K (.int k (k.wrap (BitVec.ofInt k.bits a ||| BitVec.ofInt k.bits b).toNat))
 | .xor=>K (.int k (k.wrap (BitVec.ofInt k.bits a ^^^ BitVec.ofInt k.bits b).toNat))
 | .andNot=>K (.int k (k.wrap (BitVec.ofInt k.bits a &&& ~~~ BitVec.ofInt k.bits b).toNat))
 | .eql=>K (.bool (a==b))
 | .neq=>K (.bool (a != b))
 | .lss=>K (.bool (decide (a<b)))
 | .leq=>K (.bool (decide (a<=b)))
 | .gtr=>K (.bool (decide (a>b)))
 | .geq=>K (.bool (decide (a>=b)))
 | _=>False
def V7(op:BinOp)(k:IntKind)(a b:Int)(K:D->Prop):Prop :=
 match op with
 | .shl=>JW (0<=b) (K (.int k (k.wrap (a*2 ^ (min b.toNat k.bits)))))
 | .shr=>JW (0<=b) (K (.int k (a.fdiv (2 ^ (min b.toNat k.bits)))))
 | _=>False
def sc(P:Program)(t:TypeId)(fs:List Field)(n m:Nat):Bool :=
 !P.stoodInHeld t&&fs.all λf=>!(f.name == "_")&&((P.info? f.type).isSome&&(decide (f.offset+AD P f.type<=n)&&decide (f.offset+AD P f.type<=m)))
def cI(P:Program):Nat->TypeId->List D->List D->(Bool->Prop)->Prop
 | 0,_,_,_,_=>False
 | n+1,t,xs,ys,K=>match P.underlying t with
   | some (.int _)=>match xs,ys with
     | .int k a :: _,.int k' b :: _=>if k=k' then K (a==b)else False
     | _,_=>False
   | some .bool=>match xs,ys with
     | .bool a :: _,.bool b :: _=>K (a==b)
     | _,_=>False
   | some .string=>match xs,ys with
     | .str a :: _,.str b :: _=>K (a.toList==b.toList)
     | _,_=>False
   | some (.struct fs)=>JW (sc P t fs.toList xs.length ys.length=true)
     (List.rec (motive:=λ_=>(Bool->Prop)->Prop) (λK=>K true)
      (λf _ ih K=>cI P n f.type ((xs.drop f.offset).take (AD P f.type)) ((ys.drop f.offset).take (AD P f.type)) λa=>ih λb=>K (a&&b)) fs.toList K)
   | _=>False
def fK(P:Program)(t:TypeId):Bool:=match P.underlying t with|some .bool=>true|_=>false
def gH(op:BinOp)(a b:ByteArray)(K:D->Prop):Prop :=
 match op with
 | .add=>JW (a.size+b.size<=9223372036854775807) (K (.str (a++b)))
 | .eql=>K (.bool (a.toList==b.toList))
 | .neq=>K (.bool (!(a.toList==b.toList)))
 | .lss=>K (.bool (Op.bytesLess a.toList b.toList))
 | .leq=>K (.bool (Op.bytesLess a.toList b.toList||a.toList==b.toList))
 | .gtr=>K (.bool (!(Op.bytesLess a.toList b.toList||a.toList==b.toList)))
 | .geq=>K (.bool (!(Op.bytesLess a.toList b.toList)))
 | _=>False
def bO(P:Program)(t:TypeId)(op:BinOp)(x y:D)(K:D->Prop):Prop :=
 match x,y with
 | .int k a,.int k' b=>match op with
   | .shl=>V7 .shl k a b K
   | .shr=>V7 .shr k a b K
   | op=>if k=k' then Xs op k a b K else False
 | .str a,.str b=>gH op a b K
 | .bool a,.bool b=>match fK P t with
   | true=>match op with
     | .eql=>K (.bool (a==b))
     | .neq=>K (.bool (!(a==b)))
     | _=>False
   | false=>False
 | .agg xs,.agg ys=>JW (P.eqGuardType P.depth t=false/\Nt P t=some true) (match op with
   | .eql=>cI P 12 t xs ys λb=>K (.bool b)
   | .neq=>cI P 12 t xs ys λb=>K (.bool !b)
   | _=>False)
 | _,_=>False
def rJ(op:UnOp)(x:D)(K:D->Prop):Prop :=
 match op,x with
 | .not,.bool b=>K (.bool !b)
 | .neg,.int k n=>K (.int k (k.wrap (0-n)))
 | .xor,.int k n=>K (.int k (k.wrap (BitVec.ofInt k.bits (if k.signed then -1 else k.max) ^^^ BitVec.ofInt k.bits n).toNat))
 | _,_=>False
def Nv(σ:Nat->Nat->RV)(r:RV)(K:AV->Bx->Prop):Prop :=
 match r with
 | .any=>K .any []
 | .d x=>Qs x λx=>K (.d x) []
 | .lim sz xs=>K (.d (.list sz xs)) []
 | .vptr id n o cs=>Ea σ cs λl b=>Ps l λl=>CN (l.drop o) λl'=>K (.d (.ptr l')) (b++[(id,.fvar l,n)])
 | .row id n sz _ xs=>K (.d (.list sz xs)) [(id,.frow sz xs,n)]
 | .eptr id n sz _ xs i o=>At xs i λx=>CN (x.cells.drop o) λl=>K (.d (.ptr l)) [(id,.frow sz xs,n)]
 | .cagg cs=>Ea σ cs λl b=>Ps l λl=>K (.d (.agg l)) b
 | _=>False
def Sd(σ:Nat->Nat->RV):List C->(List C->Nat->Nat->Prop)->Prop
 | [],_=>False
 | c :: r,K=>match c with
   | .d x=>Qs x λx=>Sd σ r λl id n=>K (.d x :: l) id n
   | .sl id n=>match r with
     | []=>match σ id n with
       | .row id n sz e xs=>K [.own sz e xs] id n
       | _=>False
     | _=>False
   | .own _ _ _=>False
def Wo:List C->(Nat->TypeId->List D->Prop)->Prop
 | [],_=>False
 | c :: r,K=>match c with
   | .own sz e xs=>match r with
     | []=>K sz e xs
     | _=>False
   | _=>Wo r K
def NE:Operand->Bool
 | .const (.slice none 0 0)=>true
 | _=>false
def QY:List Operand->Nat->List Nat
 | [],_=>[]
 | x :: r,n=>match NE x with
   | true=>n :: QY r (n+1)
   | false=>QY r (n+1)
def Z7(P:Program)(t:TypeId)(K:AV->Prop):Prop :=
 match P.underlying t with
 | some (.slice e)=>K (.d (.list (AD P e) []))
 | _=>False
def Ij(P:Program)(σ:Nat->Nat->RV)(ρ:Operand->RV):List Operand->List TypeId->(List AV->Bx->Prop)->Prop
 | [],_,K=>K [] []
 | x :: r,ts,K=>match NE x with
   | true=>match ts with
     | t :: ts=>Z7 P t λv=>Ij P σ ρ r ts λvs bs=>K (v :: vs) bs
     | []=>False
   | false=>Nv σ (ρ x) λv b=>Ij P σ ρ r ts.tail λvs bs=>K (v :: vs) (b++bs)
def XW:List C->Bool
 | []=>false
 | c :: r=>match c with
   | .d _=>XW r
   | .sl _ _=>match r with
     | []=>true
     | _=>false
   | .own _ _ _=>false
def Tz(σ:Nat->Nat->RV)(r:RV)(K:AV->Bx->Option (Nat×Nat)->Prop):Prop :=
 match r with
 | .row id n sz e xs=>K (.own sz e xs) [] (some (id,n))
 | .vptr id n 0 cs=>Ea σ cs λl b=>Ps l λl=>K (.optr l) b (some (id,n))
 | .cagg cs=>match XW cs with
   | true=>Sd σ cs λl id n=>K (.cc none l) [] (some (id,n))
   | false=>Nv σ (.cagg cs) λv b=>K v b none
 | r=>Nv σ r λv b=>K v b none
def Hh(P:Program)(σ:Nat->Nat->RV)(ρ:Operand->RV):List Operand->List TypeId->(List AV->Bx->List (Option (Nat×Nat))->Prop)->Prop
 | [],_,K=>K [] [] []
 | x :: r,ts,K=>match NE x with
   | true=>match ts with
     | t :: ts=>Z7 P t λv=>Hh P σ ρ r ts λvs bs us=>K (v :: vs) bs (none :: us)
     | []=>False
   | false=>Tz σ (ρ x) λv b u=>Hh P σ ρ r ts.tail λvs bs us=>K (v :: vs) (b++bs) (u :: us)
def X0:List D->(List AV->Prop)->Prop
 | [],K=>K []
 | x :: r,K=>X0 r λr=>K (.d x :: r)
def C.bare:C->Bool
 | .d (.agg xs)=>xs.all D.bare
 | .d x=>x.bare
 | .own _ _ _=>true
 | .sl _ _=>false
def AV.bare:AV->Bool
 | .d (.agg xs)=>xs.all D.bare
 | .d x=>x.bare
 | .tup xs=>xs.all C.bare
 | .own _ _ _=>true
 | _=>false
def dw(r:AV)(lent:Bx)(K:Bx->Prop):Prop :=
 match lent with
 | []=>K []
 | l=>match r.bare with
   | true=>K []
   | false=>K l
def FH(id:Nat):Bx->Bool
 | []=>true
 | x :: r=>decide (x.1≠id)&&FH id r
def S5:List C->List (Nat×Nat)->(List C->Bx->Prop)->Prop
 | [],[],K=>K [] []
 | .d x :: r,hs,K=>S5 r hs λl b=>K (.d x :: l) b
 | .own sz e xs :: r,(h,n) :: hs,K=>S5 r hs λl b=>if FH h b=true then K (.sl h n :: l) ((h,.row sz e xs,n) :: b)else False
 | _,_,_=>False
def Vp:List C->Bool
 | []=>false
 | .own _ _ _ :: _=>true
 | _ :: r=>Vp r
def jO(d dv:Nat)(r:AV)(b:Bx)(K:Hn->Prop):Prop :=
 match r with
 | .own sz e xs=>if FH d b=true then K ⟨.sl d (dv+1),b++[(d,.row sz e xs,dv+1)],[]⟩else False
 | .optr cs=>if FH d b=true then bC cs λl=>K ⟨.ptr d (dv+1) 0,b++[(d,.var l,dv+1)],[]⟩else False
 | .tup xs=>match Vp xs with
   | false=>K ⟨.tup xs,b,[]⟩
   | true=>qh λhs=>S5 xs hs λl hb=>if hb.all (λh=>FH h.1 b)=true then K ⟨.tup l,b++hb,hs⟩else False
 | .cc _ l=>match l with
   | [.own sz e xs]=>if FH d b=true then K ⟨.sl d (dv+1),b++[(d,.row sz e xs,dv+1)],[]⟩else False
   | _=>False
 | .under _ _ _|.ptr _ _ _|.sl _ _|.eptr _ _ _ _ _=>False
 | r=>K ⟨r,b,[]⟩
def MG:List (Option (Nat×Nat))->List AV->(Bx->Prop)->Prop
 | [],[],K=>K []
 | none :: us,_ :: os,K=>MG us os K
 | some (id,n) :: us,.own sz e ys :: os,K=>MG us os λb=>if FH id b=true then K ((id,.row sz e ys,n) :: b)else False
 | some (id,n) :: us,.optr cs :: os,K=>bC cs λl=>MG us os λb=>if FH id b=true then K ((id,.var l,n) :: b)else False
 | some (id,n) :: us,.any :: os,K=>MG us os λb=>if FH id b=true then K ((id,.none,n+1) :: b)else False
 | some (id,n) :: us,.cc _ l :: os,K=>Wo l λsz e ys=>MG us os λb=>if FH id b=true then K ((id,.row sz e ys,n) :: b)else False
 | _,_,_=>False
def MD(ρ:Operand->RV):List Operand->Nat->Option (Nat×Nat×Nat×List C)
 | [],_=>none
 | x :: r,k=>match ρ x with
   | .vptr id n 0 cs=>match rG cs with
     | true=>some (k,id,n,cs)
     | false=>MD ρ r (k+1)
   | _=>MD ρ r (k+1)
def N9(ρ:Operand->RV)(k:Nat):List Operand->Nat->(List AV->Prop)->Prop
 | [],_,K=>K []
 | x :: r,i,K=>match Nat.beq i k with
   | true=>N9 ρ k r (i+1) λl=>K (.any :: l)
   | false=>match ρ x with
     | .d y=>Qs y λy=>N9 ρ k r (i+1) λl=>K (.d y :: l)
     | _=>False
def IV(σ:Nat->Nat->RV):List C->(List C->Prop)->Prop
 | [],K=>K []
 | c :: r,K=>match c with
   | .d x=>Qs x λx=>IV σ r λl=>K (.d x :: l)
   | .sl id n=>match σ id n with
     | .row _ _ sz e xs=>IV σ r λl=>K (.own sz e xs :: l)
     | _=>False
   | .own _ _ _=>False
def Sz:List C->List C->(List C->Bx->Prop)->Prop
 | [],[],K=>K [] []
 | .d _ :: r,.d x :: r',K=>Sz r r' λl b=>K (.d x :: l) b
 | .sl id n :: r,.own sz e ys :: r',K=>Sz r r' λl b=>if FH id b=true then K (.sl id (n+1) :: l) ((id,.row sz e ys,n+1) :: b)else False
 | _,_,_=>False
def OK(r:RV)(K:Nat->List D->Prop):Prop :=
 match r with
 | .d (.list sz xs)=>K sz xs
 | .d (.nil sz)=>K sz []
 | .lim sz xs=>K sz xs
 | .row _ _ sz _ xs=>K sz xs
 | _=>False
def M4(ρ:Operand->RV):List (Nat×Operand)->(List (Nat×D)->Bx->Prop)->Prop
 | [],K=>K [] []
 | (i,x) :: r,K=>Zd (ρ x) λv b=>M4 ρ r λvs bs=>K ((i,v) :: vs) (b++bs)
def NJ(ρ:Operand->RV):List (Nat×Operand)->(List (Nat×D)->Bx->Prop)->Prop
 | [],K=>K [] []
 | (i,x) :: r,K=>qm (ρ x) λv b=>NJ ρ r λvs bs=>K ((i,v) :: vs) (b++bs)
def XH(place:Nat->Option (Nat×Nat))(cells:List D):List (Nat×D)->Option (List D)
 | []=>some cells
 | (i,v) :: rest=>match place i with
   | none=>none
   | some (off,size)=>if v.cells.length=size/\off+v.cells.length<=cells.length then XH place (splice cells off v.cells) rest else none
def US(ρ:Operand->RV):List (Nat×Operand)->Bool
 | []=>false
 | (_,x) :: r=>match ρ x with
   | .row _ _ _ _ _=>true
   | _=>US ρ r
def cellsOf(r:RV)(K:List C->Prop):Prop :=
 match r with
 | .row id n _ _ _=>K [.sl id n]
 | .d v=>bC v.cells K
 | .lim sz xs=>K [.d (.list sz xs)]
 | _=>False
def NI(ρ:Operand->RV):List (Nat×Operand)->(List (Nat×List C)->Prop)->Prop
 | [],K=>K []
 | (i,x) :: r,K=>cellsOf (ρ x) λc=>NI ρ r λps=>K ((i,c) :: ps)
def Zu(place:Nat->Option (Nat×Nat))(cells:List C):List (Nat×List C)->Option (List C)
 | []=>some cells
 | (i,v) :: rest=>match place i with
   | none=>none
   | some (off,size)=>if v.length=size/\off+v.length<=cells.length then Zu place (splice cells off v) rest else none
def RF:Nat->List (Nat×D)->Option (List D)
 | _,[]=>some []
 | n,(i,v) :: r=>if i=n then(RF (n+1) r).map (v :: ·)else none
def J2(σ:Nat->Nat->RV)(ρ:Operand->RV):List Operand->(List D->Bx->Prop)->Prop
 | [],K=>K [] []
 | x :: r,K=>Nv σ (ρ x) λv b=>match v with
   | .d y=>if y.one=true then J2 σ ρ r λl bs=>K (y :: l) (b++bs)else False
   | _=>False
def fW(r:RV):Option (Nat×Nat) :=
 match r with
 | .vptr id n 0 [.sl _ _]=>some (id,n)
 | .vptr id n 0 [.d (.nil _)]=>some (id,n)
 | _=>none
def UG(ρ:Operand->RV):List Operand->Bool
 | []=>false
 | x :: r=>match fW (ρ x)with
   | some _=>true
   | none=>UG ρ r
def J1(σ:Nat->Nat->RV)(ρ:Operand->RV):List Operand->(List C->Bx->Prop)->Prop
 | [],K=>K [] []
 | x :: r,K=>match fW (ρ x)with
   | some (id,n)=>J1 σ ρ r λl bs=>K (.sl id n :: l) bs
   | none=>Nv σ (ρ x) λv b=>match v with
     | .d y=>if y.one=true then J1 σ ρ r λl bs=>K (.d y :: l) (b++bs)else False
     | _=>False
def Q8:List C->List AV
 | []=>[]
 | .d x :: r=>.d x :: Q8 r
 | _ :: r=>.any :: Q8 r
def LQ(P:Program)(t:TypeId):Bool:=match P.info? t with|some i=>(match i.zero with|some z=>decide (z.cells.size=i.size)|none=>false)|none=>false
def ZL(P:Program)(t:TypeId)(K:D->Prop):Prop :=
 match zeroCells P t with
 | some l=>match Nt P t with
   | some true=>Ps l λl=>K (.agg l)
   | some false=>match l with
     | [x]=>Qs x K
     | _=>False
   | none=>False
 | none=>False
def eJ(ρ:Operand->RV)(x:Option Operand)(dflt:Int)(K:Int->Prop):Prop :=
 match x with
 | none=>K dflt
 | some x=>match ρ x with
   | .d (.int _ i)=>K i
   | _=>False
def M1{α:Type}(xs:List α)(l h:Int):List α:=(xs.drop l.toNat).take (h.toNat-l.toNat)
def M9(ρ:Operand->RV)(sz:Nat)(xs:List D)(lo hi mx:Option Operand)(b:Bx)(K:Hn->Prop):Prop :=
 eJ ρ lo 0 λl=>eJ ρ hi xs.length λh=>match mx with
  | none=>JW (0<=l/\l<=h/\h<=xs.length) (K ⟨.d (.list sz (M1 xs l h)),b,[]⟩)
  | some m=>if hi.isNone=true then False else match ρ m with
    | .d (.int _ m)=>JW (0<=l/\l<=h/\h<=xs.length/\m=h) (K ⟨.lim sz (M1 xs l h),b,[]⟩)
    | _=>False
def Gw(s:ByteArray)(i:Int):Int:=((s.data.toList.getD i.toNat 0).toNat:Int)
def Ou(s:ByteArray):List Int:=s.data.toList.map λb=>(b.toNat:Int)
def ID:D->D->Bool
 | .int k _,.int k' _=>decide (k=k')
 | .str _,.str _=>true
 | _,_=>false
def JG:D->D->Bool
 | .int _ a,.int _ b=>a==b
 | .str a,.str b=>a==b
 | _,_=>false
def QT(k:D):List (D×D)->Option Nat
 | []=>none
 | p :: r=>bif JG k p.1 then some 0 else(QT k r).map (·+1)
def Pi(k:D):List (D×D)->Option D
 | []=>none
 | p :: r=>bif JG k p.1 then some p.2 else Pi k r
def Y8(k v:D):List (D×D)->List (D×D)
 | []=>[(k,v)]
 | p :: r=>bif JG k p.1 then(k,v) :: r else p :: Y8 k v r
def YL:D->Option TypeDesc
 | .int j _=>some (.int j)
 | .str _=>some .string
 | _=>none
def o9(P:Program)(t:TypeId):Option D:=match P.info? t with
 | some i=>match i.zero with
   | some z=>zD z
   | none=>none
 | none=>none
structure TO(r:Option D)(z:D)(K:D->Bool->Prop):Prop where
 go:∃v b,r.getD z=v/\r.isSome=b/\K v b
def iJ(P:Program)(kt et:TypeId)(x ix:RV)(ok:Bool)(K:Hn->Prop):Prop :=
 match x with
 | .mp _ _ es=>match ix with
   | .d q=>match YL q with
     | some kd=>JW (P.underlying kt=some kd/\∀p∈es,ID q p.1=true) (match o9 P et with
       | some z=>TO (Pi q es) z λv b=>match ok with
         | true=>K ⟨.tup [.d v,.d (.bool b)],[],[]⟩
         | false=>K ⟨.d v,[],[]⟩
       | none=>False)
     | none=>False
   | _=>False
 | _=>False
def qa(P:Program)(kt:TypeId)(m k x:RV)(K:Hn->Prop):Prop :=
 match m with
 | .mp id n es=>match k with
   | .d q=>match x with
     | .d y=>match YL q with
       | some kd=>JW (y.bare=true/\P.underlying kt=some kd/\∀p∈es,ID q p.1=true) (K ⟨.any,[(id,.map (Y8 q y es),n)],[]⟩)
       | none=>False
     | _=>False
   | _=>False
 | _=>False
def TZ(P:Program)(σ:Nat->Nat->RV)(ρ:Operand->RV)(c:Call)(f:FuncId)(caps:List D)(d dv:Nat)(K:Hn->Prop):Prop :=
 X0 caps λcv=>Ij P σ ρ c.args.toList c.argTypes.toList λvs bs=>Hh P σ ρ c.args.toList c.argTypes.toList λms mb us =>
  Ii P f (QY c.args.toList 0) (vs++cv) (λr=>dw r bs λb=>jO d dv r b K)
   (ms++cv) (λouts r=>MG (us++cv.map λ_=>none) outs λub=>if ub.all (λx=>FH x.1 mb)=true then jO d dv r (mb++ub) K else False)
def yA(P:Program)(σ:Nat->Nat->RV)(ρ:Option (Nat×Bool)->Operand->RV)(g:Option (Nat×Bool))(o:Oper)(d dv:Nat)(K:Hn->Prop):Prop :=
 match o.op with
 | .move x=>K ⟨back (ρ g x),[],[]⟩
 | .assign x=>match NE x with
   | true=>match P.underlying o.type with
     | some (.slice e)=>if 0<AD P e then K ⟨.sl d (dv+1),[(d,.row (AD P e) e [],dv+1)],[]⟩else False
     | _=>False
   | false=>K ⟨back (ρ g x),[],[]⟩
 | .pick (.tmp t) a b=>match ρ g (.tmp t)with
   | .bot=>K ⟨.bot,[],[]⟩
   | .d (.bool c)=>match ρ (some (t,true)) a with
     | .bot=>match ρ (some (t,false)) b with
       | .d (.bool y)=>K ⟨.d (.bool y),[],[]⟩
       | _=>False
     | .d (.bool x)=>match ρ (some (t,false)) b with
       | .bot=>K ⟨.d (.bool x),[],[]⟩
       | .d (.bool y)=>K ⟨.d (.bool (bif c then x else y)),[],[]⟩
       | _=>False
     | _=>False
   | _=>False
 | .box _ x=>match ρ g x with
   | .row id n _ _ _=>K ⟨.ptr d (dv+1) 0,[(d,.var [.sl id n],dv+1)],[]⟩
   | .cagg l=>K ⟨.ptr d (dv+1) 0,[(d,.var l,dv+1)],[]⟩
   | r=>Zd r λv b=>bC v.cells λl=>K ⟨.ptr d (dv+1) 0,b++[(d,.var l,dv+1)],[]⟩
 | .alloc t=>match zeroCells P t with
   | some l=>bC l λl=>K ⟨.ptr d (dv+1) 0,[(d,.var l,dv+1)],[]⟩
   | none=>False
 | .build t parts=>match P.underlying t with
   | some (.struct fields)=>match zeroCells P t with
     | some z=>if fields.toList.all (λf=>(P.info? f.type).isSome)then
       match US (ρ g) parts.toList with
       | false=>M4 (ρ g) parts.toList λps b =>
         match XH (λi=>match fields[i]? with|some f=>some (f.offset,AD P f.type)|none=>none) z ps with
         | some l=>CN l λl=>K ⟨.d (.agg l),b,[]⟩
         | none=>False
       | true=>Te (M4 (ρ g) parts.toList λps b =>
         match XH (λi=>match fields[i]? with|some f=>some (f.offset,AD P f.type)|none=>none) z ps with
         | some l=>CN l λl=>K ⟨.d (.agg l),b,[]⟩
         | none=>False)
         (bC z λzc=>NI (ρ g) parts.toList λps=>match Zu (λi=>match fields[i]? with|some f=>some (f.offset,AD P f.type)|none=>none) zc ps with
          | some l=>CN l λl=>K ⟨.cc none l,[],[]⟩
          | none=>False)
       else False
     | none=>False
   | _=>False
 | .buildSlice t n parts=>match P.underlying t with
   | some (.slice e)=>NJ (ρ g) parts.toList λps b=>match RF 0 ps with
     | some l=>CN l λl =>
       if l.length=n/\0<AD P e/\LQ P e=true/\n*AD P e<=16777216/\l.all (λx=>x.cells.length==AD P e)then K ⟨.sl d (dv+1),b++[(d,.row (AD P e) e l,dv+1)],[]⟩else False
     | none=>False
   | _=>False
 | .makeSlice t l c=>match P.underlying t with
   | some (.slice e)=>match ρ g l with
     | .d (.int _ l)=>match ρ g c with
       | .d (.int _ c)=>if 0<AD P e/\LQ P e=true then ZL P e λz =>
        JW (0<=l/\l<=c/\c<=maxLen/\(Lp P e:Int)*c<=281474976710656) (K ⟨.sl d (dv+1),[(d,.row (AD P e) e (List.replicate l.toNat z),dv+1)],[]⟩)else False
       | _=>False
     | _=>False
   | _=>False
 | .makeFunc (.func f) first caps=>match first.toList with
   | []=>match UG (ρ g) caps.toList with
     | false=>J2 σ (ρ g) caps.toList λl b=>K ⟨.d (.fn f l),b,[]⟩
     | true=>Te (J2 σ (ρ g) caps.toList λl b=>K ⟨.d (.fn f l),b,[]⟩) (J1 σ (ρ g) caps.toList λl b=>K ⟨.cc (some f) l,b,[]⟩)
   | _=>False
 | .load t a=>match ρ g a with
   | .bot=>K ⟨.bot,[],[]⟩
   | .vptr _ _ o cs=>oD P σ t (cs.drop o) K
   | .d (.ptr cs)=>dj P t cs λx=>K ⟨.d x,[],[]⟩
   | .eptr _ _ _ _ xs i o=>At xs i λx=>dj P t (x.cells.drop o) λx=>K ⟨.d x,[],[]⟩
   | _=>False
 | .store t a x=>if(P.info? t).isSome=true then match ρ g a with
   | .vptr id n o cs=>match Nt P t with
     | some true=>match ρ g x with
       | .cagg l=>if l.length=AD P t/\o+l.length<=cs.length then CN (splice cs o l) λl=>K ⟨.any,[(id,.var l,n)],[]⟩else False
       | r=>Zd r λv b =>
         if v.cells.length=AD P t/\o+v.cells.length<=cs.length then bC v.cells λl=>CN (splice cs o l) λl=>K ⟨.any,b++[(id,.var l,n)],[]⟩else False
     | some false=>if AD P t=1/\o<cs.length then match ρ g x with
      | .row id' n' _ _ _=>CN (splice cs o [.sl id' n']) λl=>K ⟨.any,[(id,.var l,n)],[]⟩
      | r=>Zd r λv b=>if v.one=true then CN (splice cs o [.d (nilT P t v)]) λl=>K ⟨.any,b++[(id,.var l,n)],[]⟩else False
      else False
     | none=>False
   | .eptr id n sz e xs i o=>qm (ρ g x) λv b=>At xs i λy =>
     if v.cells.length=AD P t/\o+v.cells.length<=y.cells.length/\FH id b=true then
      match y with
      | .agg cs=>CN (splice cs o v.cells) λl=>K ⟨.any,b++[(id,.row sz e (xs.set i (.agg l)),n)],[]⟩
      | _=>if v.one then K ⟨.any,b++[(id,.row sz e (xs.set i v),n)],[]⟩else False
     else False
   | _=>False
   else False
 | .nilCheck x=>match ρ g x with
   | .vptr id n o _=>K ⟨.ptr id n o,[],[]⟩
   | .d (.ptr cs)=>K ⟨.d (.ptr cs),[],[]⟩
   | .d (.fn f cs)=>K ⟨.d (.fn f cs),[],[]⟩
   | .eptr id n sz _ _ i o=>K ⟨.eptr id n sz i o,[],[]⟩
   | _=>False
 | .binOp op t x y _=>match ρ g x with
   | .bot=>K ⟨.bot,[],[]⟩
   | .d a=>match ρ g y with
     | .bot=>K ⟨.bot,[],[]⟩
     | .d b=>bO P t op a b λx=>K ⟨.d x,[],[]⟩
     | _=>False
   | _=>False
 | .unOp op _ x=>match ρ g x with
   | .bot=>K ⟨.bot,[],[]⟩
   | .d a=>rJ op a λx=>K ⟨.d x,[],[]⟩
   | _=>False
 | .convert s t x=>match P.underlying s with
   | some _=>match P.underlying t with
     | some (.int k)=>match ρ g x with
       | .bot=>K ⟨.bot,[],[]⟩
       | .d (.int _ n)=>K ⟨.d (.int k (k.wrap n)),[],[]⟩
       | _=>False
     | some .string=>match ρ g x with
       | .bot=>K ⟨.bot,[],[]⟩
       | .d (.str s)=>K ⟨.d (.str s),[],[]⟩
       | _=>False
     | some (.slice e)=>match P.underlying e with
       | some (.int .u8)=>match ρ g x with
         | .bot=>K ⟨.bot,[],[]⟩
         | .d (.str s)=>K ⟨.d (.list 1 ((Ou s).map (D.int .u8))),[],[]⟩
         | _=>False
       | _=>False
     | _=>False
   | none=>False
 | .fieldAddr s x f=>match P.underlying s with
   | some (.struct fields)=>match fields[f]? with
     | some fd=>if 0<AD P fd.type then match ρ g x with
      | .bot=>K ⟨.bot,[],[]⟩
      | .vptr id n o _=>K ⟨.ptr id n (o+fd.offset),[],[]⟩
      | .d (.ptr cs)=>CN (cs.drop fd.offset) λl=>K ⟨.d (.ptr l),[],[]⟩
      | .eptr id n sz _ _ i o=>K ⟨.eptr id n sz i (o+fd.offset),[],[]⟩
      | _=>False
      else False
     | none=>False
   | _=>False
 | .field s x f=>match P.underlying s with
   | some (.struct fields)=>match fields[f]? with
     | some fd=>match ρ g x with
      | .bot=>K ⟨.bot,[],[]⟩
      | .d (.agg cs)=>dj P fd.type (cs.drop fd.offset) λx=>K ⟨.d x,[],[]⟩
      | _=>False
     | none=>False
   | _=>False
 | .indexAddr t x ix=>match P.underlying t with
   | some (.slice e)=>match ρ g ix with
     | .d (.int _ i)=>match ρ g x with
       | .d (.list sz xs)=>if sz=AD P e/\0<sz then At xs i λx=>CN x.cells λl=>K ⟨.d (.ptr l),[],[]⟩else False
       | .lim sz xs=>if sz=AD P e/\0<sz then At xs i λx=>CN x.cells λl=>K ⟨.d (.ptr l),[],[]⟩else False
       | .row id n sz _ xs=>if sz=AD P e then JW (0<=i/\i.toNat<xs.length) (K ⟨.eptr id n sz i.toNat 0,[],[]⟩)else False
       | _=>False
     | _=>False
   | some (.array n e)=>match ρ g ix with
     | .d (.int _ i)=>match ρ g x with
       | .d (.ptr cs)=>if AD P e=1 then JW (i<n) (At cs i λy=>K ⟨.d (.ptr [y]),[],[]⟩)else False
       | .vptr id m o _=>if 0<AD P e then JW (0<=i/\i<n) (K ⟨.ptr id m (o+i.toNat*AD P e),[],[]⟩)else False
       | _=>False
     | _=>False
   | _=>False
 | .index t x ix=>match P.underlying t with
   | some (.array n e)=>match ρ g ix with
     | .d (.int _ i)=>match ρ g x with
       | .d (.agg cs)=>if 0<AD P e then JW (0<=i/\i<n) (dj P e (cs.drop (i.toNat*AD P e)) λx=>K ⟨.d x,[],[]⟩)else False
       | _=>False
     | _=>False
   | some .string=>match ρ g ix with
     | .d (.int _ i)=>match ρ g x with
       | .d (.str s)=>JW (0<=i/\i.toNat<s.size) (K ⟨.d (.int .u8 (Gw s i)),[],[]⟩)
       | _=>False
     | _=>False
   | _=>False
 | .slice t x lo hi mx=>match P.underlying t with
   | some .string=>match mx with
     | none=>match ρ g x with
       | .d (.str s)=>eJ (ρ g) lo 0 λl=>eJ (ρ g) hi s.size λh=>JW (0<=l/\l<=h/\h<=s.size) (K ⟨.d (.str (s.extract l.toNat h.toNat)),[],[]⟩)
       | _=>False
     | some _=>False
   | some (.slice e)=>match ρ g x with
     | .d (.list sz xs)=>if sz=AD P e/\0<sz then M9 (ρ g) sz xs lo hi mx [] K else False
     | .d (.nil sz)=>if sz=AD P e/\0<sz then M9 (ρ g) sz [] lo hi mx [] K else False
     | .lim sz xs=>if sz=AD P e/\0<sz then M9 (ρ g) sz xs lo hi mx [] K else False
     | .row id n sz e' xs=>if sz=AD P e/\0<sz then Te (M9 (ρ g) sz xs lo hi mx [(id,.frow sz xs,n)] K)
      (match lo with
       | none=>match mx with
         | none=>eJ (ρ g) hi xs.length λh=>JW (0<=h/\h<=xs.length) (K ⟨.sl id (n+1),[(id,.row sz e' (xs.take h.toNat),n+1)],[]⟩)
         | some _=>False
       | some _=>False)
      else False
     | _=>False
   | _=>False
 | .call c=>match c.callee with
   | .value f=>match ρ g f with
     | .d (.fn f caps)=>match MD (ρ g) c.args.toList 0 with
       | none=>TZ P σ (ρ g) c f caps d dv K
       | some (k,id,n,cl)=>Te (match caps with
         | []=>N9 (ρ g) k c.args.toList 0 λvs=>IV σ cl λcs=>lj P f vs k cs λcs' r=>Sz cl cs' λl ub=>if FH id ub=true then K ⟨.d r,ub++[(id,.var l,n)],[]⟩else False
         | _=>False) (TZ P σ (ρ g) c f caps d dv K)
     | .clo f cs k id n rid rn=>match σ rid rn with
       | .row _ _ sz e xs=>Ij P σ (ρ g) c.args.toList c.argTypes.toList λvs bs=>match bs with
         | []=>CN (Q8 cs) λcv=>bH P f (vs++cv) (vs.length+k) sz e xs λys=>if id=rid then False else K ⟨.any,[(rid,.row sz e ys,rn+1),(id,.var [.sl rid (rn+1)],n)],[]⟩
         | _=>False
       | _=>False
     | _=>False
   | .builtin .len=>match c.args.toList,c.argTypes.toList with
     | [x],[t]=>match P.underlying t with
       | some .string=>match ρ g x with
         | .bot=>K ⟨.bot,[],[]⟩
         | .d (.str s)=>K ⟨.d (.int .i64 s.size),[],[]⟩
         | _=>False
       | some (.slice _)=>match ρ g x with
         | .bot=>K ⟨.bot,[],[]⟩
         | r=>OK r λ_ xs=>K ⟨.d (.int .i64 xs.length),[],[]⟩
       | _=>False
     | _,_=>False
   | .builtin .min=>match c.args.toList with
     | [x,y]=>match ρ g x with
       | .d (.int k a)=>match ρ g y with
         | .d (.int _ b)=>K ⟨.d (.int k (if b<a then b else a)),[],[]⟩
         | _=>False
       | _=>False
     | _=>False
   | .builtin .max=>match c.args.toList with
     | [x,y]=>match ρ g x with
       | .d (.int k a)=>match ρ g y with
         | .d (.int _ b)=>K ⟨.d (.int k (if b>a then b else a)),[],[]⟩
         | _=>False
       | _=>False
     | _=>False
   | .builtin .append=>match c.args.toList,c.argTypes.toList with
     | [x,y],[t,u]=>match P.underlying t with
       | some (.slice e)=>if t=u/\0<AD P e/\LQ P e=true then OK (ρ g y) λsz' ys =>
         let fits (n:Nat):Prop:=n+ys.length<=maxLen/\(n+ys.length)*Lp P e<=140737488355328/\(ys=[]\/sz'=AD P e)
         match ρ g x with
         | .row id n sz e' xs=>if e=e'/\sz=AD P e then JW (fits xs.length) (K ⟨.sl id (n+1),[(id,.row sz e (xs++ys),n+1)],[]⟩)else False
         | .d (.nil _)=>JW (fits 0) (K ⟨.sl d (dv+1),[(d,.row (AD P e) e ys,dv+1)],[]⟩)
         | .lim sz xs=>if sz=AD P e then JW (fits xs.length/\ys≠[]) (K ⟨.sl d (dv+1),[(d,.row sz e (xs++ys),dv+1)],[]⟩)else False
         | _=>False
         else False
       | _=>False
     | _,_=>False
   | _=>False
 | .extract t i=>match ρ g t with
   | .tup xs=>match xs[i]? with
     | some (.d x)=>K ⟨.d x,[],[]⟩
     | some (.sl id n)=>K ⟨.sl id n,[],[]⟩
     | _=>False
   | _=>False
 | .makeMap t none=>match P.underlying t with
   | some (.map _ _)=>K ⟨.sl d (dv+1),[(d,.map [],dv+1)],[]⟩
   | _=>False
 | .lookup t x ix ok=>match P.underlying t with
   | some (.map kt et)=>iJ P kt et (ρ g x) (ρ g ix) ok K
   | _=>False
 | .mapUpdate t m k x=>match P.underlying t with
   | some (.map kt _)=>qa P kt (ρ g m) (ρ g k) (ρ g x) K
   | _=>False
 | _=>False
def Mo:Op->Bool
 | .move _|.pick _ _ _|.load _ _|.unOp _ _ _|.convert _ _ _|.fieldAddr _ _ _|.field _ _ _=>true
 | .binOp op _ _ _ _=>match op with|.quo|.rem|.shl|.shr|.add=>false|_=>true
 | .call c=>match c.callee with|.builtin .len=>true|_=>false
 | _=>false
def Wd:List Oper->Nat->Option Nat
 | [],_=>none
 | o :: _,0=>o.dst
 | _ :: r,n+1=>Wd r n
def Rw:AS->Nat->AV->(AS->Prop)->Prop
 | [],_,_,K=>K []
 | s :: r,0,v,K=>match s with|⟨_,b,n⟩=>K (⟨v,b,n⟩ :: r)
 | s :: r,k+1,v,K=>Rw r k v λr'=>K (s :: r')
def Xd:AS->Nat->BJ->Nat->(AS->Prop)->Prop
 | [],_,_,_,K=>K []
 | s :: r,0,b,m,K=>match s with|⟨v,_,_⟩=>K (⟨v,b,m⟩ :: r)
 | s :: r,k+1,b,m,K=>Xd r k b m λr'=>K (s :: r')
def PD:Bx->AS->(AS->Prop)->Prop
 | [],S,K=>K S
 | (id,b,n) :: r,S,K=>Hf n λn=>au b λb=>Xd S id b n λS=>PD r S K
def jr(dst:Option Nat)(e:Hn)(S:AS)(K:AS->Prop):Prop :=
 match e with
 | ⟨v,bx,_⟩=>match dst with
   | some d=>WV v λv=>PD bx S λS=>Rw S d v K
   | none=>PD bx S K
def Bh:Bx->AS->AS
 | [],S=>S
 | (id,b,n) :: r,S=>Bh r (AY S id b n)
def Zc(dst:Option Nat)(e:Hn)(S:AS):AS :=
 match dst with
 | some d=>FB (Bh e.bx S) d e.av
 | none=>Bh e.bx S
def σOf(S:AS)(id n:Nat):RV:=res S (.sl id n)
def ρOf(S:AS)(g:Option (Nat×Bool))(x:Operand):RV:=res S (rL g (ev S x))
def VG:AS->Nat->(Nat->Prop)->Prop
 | [],_,_=>False
 | s :: _,0,K=>match s with|⟨_,_,n⟩=>K n
 | _ :: r,k+1,K=>VG r k K
def dK(x:Option Nat)(K:Nat->Prop):Prop :=
 match x with
 | some d=>K d
 | none=>K 0
def Hg(S:AS):List (Nat×Nat)->Bool
 | []=>true
 | (h,n) :: r=>decide (h<S.length)&&decide ((Ag S h).ver<n)&&Hg S r
def Ew:Option Nat->List Nat
 | some d=>[d]
 | none=>[]
def Vt:List Operand->List Nat
 | []=>[]
 | .tmp t :: r=>t :: Vt r
 | _ :: r=>Vt r
def XS(all:List Oper):Nat->Oper->List Nat
 | 0,_=>[]
 | n+1,o=>match o.guard with
   | some (j,_)=>Ew (Wd all j)++match all[j]? with
     | some m=>XS all n m
     | none=>[]
   | none=>[]
def EQ(all:List Oper)(o:Oper):List Nat:=XS all 5 o++Vt o.op.operands.toList
def Zg(S:AS)(t:Nat)(mk:Bool->AV)(b:Bool)(K:AS->Option Bool->Prop):Prop :=
 VT b (Rw S t (mk true) λS=>K S (some true)) (Rw S t (mk false) λS=>K S (some false))
def j6(lk:List Nat):Nat->Nat->AS->(AS->Option Bool->Prop)->Prop
 | 0,_,_,_=>False
 | n+1,t,S,K=>if lk.contains t=true then match (Ag S t).av with
   | .d (.bool b)=>Zg S t (λb=>.d (.bool b)) b K
   | .under t' w' (.d (.bool b))=>j6 lk n t' S λS r=>match r with
     | some c=>match w' with
       | true=>match c with
         | true=>Zg S t (λb=>.under t' w' (.d (.bool b))) b K
         | false=>K S none
       | false=>match c with
         | true=>K S none
         | false=>Zg S t (λb=>.under t' w' (.d (.bool b))) b K
     | none=>K S none
   | .under _ _ .bot=>K S none
   | _=>False
   else False
def Xt(want:Bool)(r:Option Bool)(go skip:Prop):Prop :=
 match r with
 | none=>skip
 | some b=>match want with
   | true=>match b with
     | true=>go
     | false=>skip
   | false=>match b with
     | true=>skip
     | false=>go
def mA:AV->Bool
 | .ptr _ _ _|.sl _ _=>true
 | _=>false
def LU(S:AS)(o:Oper):Bool :=
 match o.op with
 | .move x=>mA (ev S x)
 | _=>false
def yS(P:Program)(S:AS)(g:Option (Nat×Bool))(o:Oper)(d dv:Nat)(K:Hn->Prop):Prop :=
 match o.op with
 | .move x=>match ev S x with
   | .ptr id n k=>K ⟨.ptr id n k,[],[]⟩
   | .sl id n=>K ⟨.sl id n,[],[]⟩
   | _=>yA P (σOf S) (ρOf S) g o d dv K
 | _=>yA P (σOf S) (ρOf S) g o d dv K
def kq(P:Program)(all:List Oper)(done:List Nat)(o:Oper)(S:AS)(K:AS->Hn->Prop):Prop :=
 match o.guard with
 | none=>dK o.dst λd=>VG S d λn=>yS P S none o d n λe=>if Hg S e.homes=true then K S e else False
 | some (j,want)=>match Wd all j with
   | none=>False
   | some t=>if done.contains t=true then
     match Mo o.op with
     | true=>dK o.dst λd=>VG S d λn=>yS P S (some (t,want)) o d n λe=>match e with
       | ⟨v,[],[]⟩=>K S ⟨.under t want v,[],[]⟩
       | _=>False
     | false=>j6 (EQ all o) 5 t S λS r=>Xt want r
      (dK o.dst λd=>VG S d λn=>yS P S (some (t,want)) o d n λe=>if Hg S e.homes=true then K S e else False)
      (K S ⟨.under t want .bot,[],[]⟩)
     else False
def UD(P:Program)(o:Oper):Option (Bool×Operand) :=
 match o.op with
 | .binOp op t x y _=>match NE y,o.guard,P.underlying t with
   | true,none,some (.slice _)=>match op with
     | .eql=>some (true,x)
     | .neq=>some (false,x)
     | _=>none
   | _,_,_=>none
 | _=>none
def Oy:List Nat->(List Nat->Prop)->Prop
 | [],K=>K []
 | x :: r,K=>Oy r λr=>K (x :: r)
def rz(P:Program)(all:List Oper)(done:List Nat)(l:List Oper):AS->(AS->Prop)->Prop :=
 List.rec (motive:=λ_=>List Nat->AS->(AS->Prop)->Prop) (λ_ S K=>K S)
  (λo _ ih done S K=>if(Ew o.dst).all (λd=>!done.contains d)=true then
   match UD P o with
   | some (pos,x)=>OK (ρOf S none x) λ_ xs=>qi xs λb=>jr o.dst ⟨.d (.bool (b==pos)),[],[]⟩ S λS=>Oy (Ew o.dst++done) λdone=>ih done S K
   | none=>kq P all done o S λS e=>jr o.dst e S λS=>Oy (Ew o.dst++done) λdone=>ih done S K
   else False) l done
def Nx:List C->List Nat
 | []=>[]
 | .sl id _ :: r=>id :: Nx r
 | _ :: r=>Nx r
def Lf:AV->List Nat
 | .ptr id _ _=>[id]
 | .sl id _=>[id]
 | .eptr id _ _ _ _=>[id]
 | .under _ _ x=>Lf x
 | .cc _ xs=>Nx xs
 | _=>[]
def iT(S:AS)(id:Nat):List Nat:=id :: match (Ag S id).box with
 | .var cs=>Nx cs
 | _=>[]
def dB:Op->Bool
 | .assign _|.box _ _|.alloc _|.buildSlice _ _ _|.makeSlice _ _ _|.makeMap _ _=>true
 | .call c=>match c.callee with|.value _|.builtin .append=>true|_=>false
 | _=>false
def YG(S:AS)(ts:List Nat)(o:Oper):List Nat :=
 (if dB o.op=true then[o.dst.getD 0]else[])++match LU S o with
  | true=>[]
  | false=>ts.flatMap λt=>(Lf (Ag S t).av).flatMap (iT S)
def WJ(x y:List Nat):Bool:=x.all λi=>!y.contains i
def YI(o:Oper)(i:Nat):Bool:=o.after.toList.any λe=>e.on==i&&Region.binds .any e
def ir(all:List Oper):Nat->Oper->Nat->Bool
 | 0,o,i=>YI o i
 | n+1,o,i=>YI o i||o.after.toList.any λe=>Region.binds .any e&&(match all[e.on]? with|some m=>ir all n m i|none=>false)
def Sx(all:List Oper)(o:Oper)(i:Nat):Bool:=ir all 4 o i
def q9(all:List Oper)(o:Oper)(R W:List Nat)(log:List (Nat×List Nat×List Nat)):Bool :=
 log.all λx=>(WJ x.2.2 (R++W)&&WJ x.2.1 W)||Sx all o x.1
def r7(P:Program)(all:List Oper)(k:Nat)(log:List (Nat×List Nat×List Nat))(done:List Nat)(l:List Oper):AS->(AS->Prop)->Prop :=
 List.rec (motive:=λ_=>Nat->List (Nat×List Nat×List Nat)->List Nat->AS->(AS->Prop)->Prop) (λ_ _ _ S K=>K S)
  (λo _ ih k log done S K=>if(Ew o.dst).all (λd=>!done.contains d)=true then
   kq P all done o S λS e=>Oy (YG S (EQ all o) o++e.homes.map (·.1)) λR=>Oy (e.bx.map (·.1)) λW=>if q9 all o R W log=true then
    jr o.dst e S λS'=>Oy (Ew o.dst++done) λdone=>ih (k+1) ((k,R,W) :: log) done S' K else False
  else False) l k log done
def gh(all:List Oper):Nat->List Oper->Bool
 | _,[]=>true
 | k,o :: r=>((o.after.toList.all λe=>!Region.binds .any e||decide (e.on<k))&&(match o.guard with|some (j,_)=>decide (j<k)|none=>true)) &&
  (all.take k).zipIdx.all (λx=>(WJ (Ew x.1.dst) (EQ all o)&&WJ (EQ all x.1) (Ew o.dst))||Sx all o x.2)&&gh all (k+1) r
def plain:AS->(AS->Prop)->Prop
 | [],K=>K []
 | s :: r,K=>plain r λr'=>match s with
   | ⟨.under _ _ _,b,n⟩=>K (⟨.any,b,n⟩ :: r')
   | s=>K (s :: r')
def me(x y:D)(K:Prop):Prop :=
 match x with
 | .nil s=>(D.nil s=y\/D.list s []=y)/\K
 | x=>x=y/\K
def IE(v v':Nat->Nat):List C->List C->Prop->Prop
 | [],[],K=>K
 | .d x :: r,.d y :: q,K=>me x y (IE v v' r q K)
 | .sl id n :: r,.sl id' n' :: q,K=>if id=id'/\n=v id/\n'=v' id then IE v v' r q K else False
 | _,_,_=>False
def OJ(v v':Nat->Nat)(a a':AV)(K:Prop):Prop :=
 match a' with
 | .any=>K
 | .d x'=>match a with
   | .d x=>me x x' K
   | .lim sz xs=>D.list sz xs=x'/\K
   | _=>False
 | .lim sz xs=>a=.lim sz xs/\K
 | .ptr id n o=>match a with
   | .ptr id' n' o'=>if id'=id/\n'=v id/\n=v' id then o'=o/\K else False
   | _=>False
 | .sl id n=>match a with
   | .sl id' n'=>if id'=id/\n'=v id/\n=v' id then K else False
   | _=>False
 | .cc k xs'=>match a with
   | .cc k' xs=>if k=k' then IE v v' xs xs' K else False
   | _=>False
 | _=>False
def iE(v v':Nat->Nat)(b b':BJ)(K:Prop):Prop :=
 match b' with
 | .none=>K
 | .frow sz xs=>(b=.frow sz xs\/∃e,b=.row sz e xs)/\K
 | .fvar cs=>b=.fvar cs/\K
 | .map es=>b=.map es/\K
 | .row sz e xs=>b=.row sz e xs/\K
 | .var cs'=>match b with
   | .var cs=>IE v v' cs cs' K
   | _=>False
def iF(b':BJ)(n n':Nat)(K:Prop):Prop :=
 match b' with
 | .none=>K
 | _=>if n'=0->n=0 then K else False
def dl(v v':Nat->Nat):AS->AS->Prop
 | [],[]=>True
 | ⟨av,b,n⟩ :: r,⟨av',b',n'⟩ :: r'=>OJ v v' av av' (iF b' n n' (iE v v' b b' (dl v v' r r')))
 | _,_=>False
def cw:List Nat->AS->(AS->Prop)->Prop
 | [],S,K=>K S
 | t :: r,S,K=>Zd (ρOf S none (.tmp t)) λx b=>PD b S λS=>Rw S t (.d x) λS=>cw r S K
def bq:Nat->AS->AS->List Nat
 | t,⟨av,_,_⟩ :: r,⟨av',_,_⟩ :: r'=>match av' with
   | .d _=>match av with
     | .sl _ _=>t :: bq (t+1) r r'
     | _=>bq (t+1) r r'
   | _=>bq (t+1) r r'
 | _,_,_=>[]
def ml:List C->List C->Bool
 | c :: r,c' :: q=>match c with
   | .sl _ _=>match c' with
     | .d _=>true
     | _=>ml r q
   | _=>ml r q
 | _,_=>false
def Y5:Nat->AS->AS->List Nat
 | t,⟨_,b,_⟩ :: r,⟨_,b',_⟩ :: r'=>match b' with
   | .var cs'=>match b with
     | .var cs=>match ml cs cs' with
       | true=>t :: Y5 (t+1) r r'
       | false=>Y5 (t+1) r r'
     | _=>Y5 (t+1) r r'
   | _=>Y5 (t+1) r r'
 | _,_,_=>[]
def iz:List Nat->AS->(AS->Prop)->Prop
 | [],S,K=>K S
 | t :: r,S,K=>match Ag S t with
   | ⟨_,.var cs,n⟩=>Ea (σOf S) cs λl b=>bC l λl=>PD (b++[(t,.var l,n)]) S λS=>iz r S K
   | _=>False
def Le(S S':AS):Prop:=cw (bq 0 S S') S λS=>iz (Y5 0 S S') S λS=>dl (λi=>(Ag S i).ver) (λi=>(Ag S' i).ver) S S'
def Xp:List (Nat×Nat×Nat×TypeId)->AS->(AS->Prop)->Prop
 | [],S,K=>K S
 | (v,j,h,e) :: r,S,K=>match Ag S v with
   | ⟨_,.var cs,n⟩=>match cs[j]? with
     | some (.d (.nil s))=>if 0<s/\v≠h then VG S h λm=>CN (splice cs j [.sl h (m+1)]) λl=>PD [(h,.row s e [],m+1),(v,.var l,n)] S λS=>Xp r S K else False
     | _=>False
   | _=>False
def EF:AS->(AS->Prop)->Prop
 | [],K=>K []
 | s :: r,K=>EF r λr'=>match s with|⟨v,b,n⟩=>WV v λv=>au b λb=>Hf n λn=>K (⟨v,b,n⟩ :: r')
structure tU(p:Prop):Prop where
 go:p
structure Q4(S:AS)(W:(Exit->AS->Prop)->AS->Prop)(Q:Exit->AS->Prop):Prop where
 go:∃(ads:List (Nat×Nat×Nat×TypeId))(frs:List Nat)(ι:Type)(Inv:ι->AS)(μ:ι->Nat)(i:ι),Xp ads S (λS=>cw frs S λS=>Le S (Inv i)) /\
  ∀i,EF (Inv i) (W (λe S=>match e with|.normal=>∃j,Le S (Inv j)/\μ j<μ i|e=>Q e S))
theorem loop{S:AS}{W:(Exit->AS->Prop)->AS->Prop}{Q:Exit->AS->Prop}(ι:Type)(Inv:ι->AS)(μ:ι->Nat)(i:ι)(h:Le S (Inv i))
 (k:∀i,EF (Inv i) (W (λe S=>match e with|.normal=>∃j,Le S (Inv j)/\μ j<μ i|e=>Q e S))):Q4 S W Q:=⟨⟨[],[],ι,Inv,μ,i,h,k⟩⟩
theorem dA{S:AS}{W:(Exit->AS->Prop)->AS->Prop}{Q:Exit->AS->Prop}(a:List (Nat×Nat×Nat×TypeId))(ι:Type)(Inv:ι->AS)(μ:ι->Nat)(i:ι)(h:Xp a S (λS=>Le S (Inv i)))
 (k:∀i,EF (Inv i) (W (λe S=>match e with|.normal=>∃j,Le S (Inv j)/\μ j<μ i|e=>Q e S))):Q4 S W Q:=⟨⟨a,[],ι,Inv,μ,i,h,k⟩⟩
noncomputable def mj(c:Code):Option Nat :=
 Code.rec (motive:=λ_=>Option Nat) none (λid _ _=>some id) (λ_ _ a b=>match a with|some i=>some i|none=>b) (λ_ _ _ _ _=>none) (λ_ _ a=>a) (λ_ a=>a)
  (λ_ _ _ _ _ _=>none) (λ_=>none) (λ_ a=>a) (λ_=>none) (λ_=>none) none (λ_=>none) c
noncomputable def aJ(J:List Nat)(y:Code):Bool :=
 match J with
 | []=>false
 | J=>match mj y with
   | some i=>J.contains i
   | none=>false
structure Q3(S:AS)(wx wy:(Exit->AS->Prop)->AS->Prop)(Q:Exit->AS->Prop):Prop where
 go:∃(ι:Type)(Inv:ι->AS),wx (λe S=>match e with|.normal=>∃i,Le S (Inv i)|e=>Q e S) S/\∀i,EF (Inv i) (wy Q)
theorem Gj{S:AS}{a b:(Exit->AS->Prop)->AS->Prop}{Q:Exit->AS->Prop}(ι:Type)(Inv:ι->AS)(h:a (λe S=>match e with|.normal=>∃i,Le S (Inv i)|e=>Q e S) S)(k:∀i,EF (Inv i) (b Q)):Q3 S a b Q:=⟨⟨ι,Inv,h,k⟩⟩
noncomputable def aA(J:List Nat)(id:Nat):Bool :=
 match J with
 | []=>false
 | J=>J.contains (1000000+id)
structure Q2(P:Program)(S:AS)(x:Code)(Q:Exit->AS->Prop):Prop where
 go:∃(S₁:AS)(ι:Type)(Inv:ι->AS),Le S S₁/\(∀(X:Cx)(β:Nat->Value)(a:Act)(w:World),SimB X (λ_=>False) β S₁ a w->x.wp P (λe a' w'=>e=.normal/\∃i β',SimB X (λ_=>False) β' (Inv i) a' w') a w)/\∀i,EF (Inv i) (Q .normal)
theorem mz{P:Program}{S:AS}{x:Code}{Q:Exit->AS->Prop}(b:AS)(ι:Type)(Inv:ι->AS)(h:Le S b)
 (hx:∀(X:Cx)(β:Nat->Value)(a:Act)(w:World),SimB X (λ_=>False) β b a w->x.wp P (λe c w'=>e=.normal/\∃i d,SimB X (λ_=>False) d (Inv i) c w') a w) (k:∀i,EF (Inv i) (Q .normal)):Q2 P S x Q:=⟨⟨b,ι,Inv,h,hx,k⟩⟩
def ZJ(P:Program)(J:List Nat)(c:Code):(Exit->AS->Prop)->AS->Prop :=
 Code.rec (motive:=λ_=>(Exit->AS->Prop)->AS->Prop)
  (λQ S=>Q .normal S)
  (λid ops draw Q S=>match aA J (1000000+id)with
   | true=>Q2 P S (.region id ops draw) Q
   | false=>match draw with
     | false=>rz P ops.toList [] ops.toList S λS=>plain S (Q .normal)
     | true=>JW (gh ops.toList 0 ops.toList=true/\P.follows .mixedOrders=true) (r7 P ops.toList 0 [] [] ops.toList S λS=>plain S (Q .normal)))
  (λ_ y wx wy Q S=>match aJ J y with
   | false=>wx (λe S=>match e with|.normal=>wy Q S|e=>Q e S) S
   | true=>Q3 S wx wy Q)
  (λc _ _ wx wy Q S=>match ρOf S none c with
   | .d (.bool b)=>VT b (wx Q S) (wy Q S)
   | _=>False)
  (λid c wc Q S=>match aA J id with
   | true=>Q2 P S (.block id c) Q
   | false=>wc (λe S=>match e with|.exit id'=>if id'=id then Q .normal S else Q (.exit id') S|e=>Q e S) S)
  (λ_ wc Q S=>Q4 S wc Q)
  (λ_ _ _ _ _ _ _ _=>False)
  (λid Q S=>Q (.exit id) S)
  (λ_ _ _ _=>False)
  (λ_ Q S=>Q .normal S)
  (λ_ _ _=>False)
  (λQ S=>Q .ret S)
  (λ_ _ _=>False)
  c
def lJ:C->AV
 | .d x=>.d x
 | .own sz e xs=>.own sz e xs
 | .sl _ _=>.any
def ZZ:List C->(List D->Prop)->Prop
 | [],K=>K []
 | .d x :: r,K=>ZZ r λl=>K (x :: l)
 | _ :: _,_=>False
def Rr(P:Program)(S:AS)(used:List Nat)(frz:Bx):List ResultVar->(List C->List Nat->Bx->Prop)->Prop
 | [],K=>K [] used frz
 | .tmp t :: r,K=>match ρOf S none (.tmp t)with
   | .row id n sz e xs=>Te (Rr P S used (frz++[(id,.frow sz xs,n)]) r λl u b=>K (.d (.list sz xs) :: l) u b)
    (if used.contains id=true then False else JW (∀x∈xs,∀y∈x.cells,y.bare=true) (Rr P S (id :: used) frz r λl u b=>K (.own sz e xs :: l) u b))
   | v=>qm v λx b=>Rr P S used (frz++b) r λl u b=>K (.d x :: l) u b
 | .cell t ty :: r,K=>match ρOf S none (.tmp t)with
   | .vptr _ _ o cs=>ZZ cs λl=>dj P ty (l.drop o) λx=>Qs x λx=>Rr P S used frz r λl u b=>K (.d x :: l) u b
   | _=>False
structure rN(x:AV)(r:AV):Prop where
 go:x=r
def pH(l:List C)(used:List Nat)(frz:Bx)(r:AV):Prop :=
 if used.all (λi=>FH i frz)=true then match l with
  | [c]=>rN (lJ c) r
  | l=>rN (.tup l) r
 else False
def gk(P:Program)(rs:List ResultVar)(used:List Nat)(frz:Bx)(S:AS)(r:AV):Prop :=
 match r with
 | .cc _ _=>match rs with
   | [.tmp t]=>match ρOf S none (.tmp t)with
     | .row id _ sz e xs=>if used.contains id=true then False else if(id :: used).all (λi=>FH i frz)=true then rN (.cc none [.own sz e xs]) r else False
     | _=>False
   | _=>False
 | r=>match rs with
   | [.tmp t]=>match ρOf S none (.tmp t)with
     | .vptr id _ 0 cs=>if used.contains id=true then False else Ea (σOf S) cs λl b=>Ps l λl=>if(id :: used).all (λi=>FH i (frz++b))=true then rN (.optr l) r else False
     | _=>Rr P S used frz rs λl u b=>pH l u b r
   | rs=>Rr P S used frz rs λl u b=>pH l u b r
def FG:Nat->AS
 | 0=>[]
 | n+1=>eK :: FG n
def du(i:Nat):List C->List C
 | []=>[]
 | c :: r=>match c with
   | .own _ _ _=>.sl i 0 :: du i r
   | c=>c :: du i r
def pJ:List C->BJ
 | []=>.none
 | c :: r=>match c with
   | .own sz e xs=>.row sz e xs
   | _=>pJ r
def Mi(i:Nat):AV->Sl
 | .own sz e xs=>⟨.sl i 0,.row sz e xs,0⟩
 | .optr cs=>⟨.ptr i 0 0,.var (cs.map .d),0⟩
 | .cc k l=>⟨.cc k (du i l),pJ l,0⟩
 | a=>⟨a,.none,0⟩
def enter(i:Nat):List AV->AS->AS
 | [],S=>S
 | a :: r,S=>Mi i a :: enter (i+1) r (S.drop 1)
def DN:List (Nat×AV)->Nat->AV
 | [],_=>.any
 | (t,v) :: r,k=>match Nat.beq t k with
   | true=>v
   | false=>DN r k
def C1:Bx->Nat->AV->Sl
 | [],_,v=>⟨v,.none,0⟩
 | (t,b,n) :: r,k,v=>match Nat.beq t k with
   | true=>⟨v,b,n⟩
   | false=>C1 r k v
def ef(N:Nat):Nat->(Nat->Sl)->AS
 | 0,_=>[]
 | n+1,f=>f (Nat.sub N (Nat.succ n)) :: ef N n f
def Dk(n:Nat)(l:List (Nat×AV))(b:Bx):AS:=ef n n λk=>C1 b k (DN l k)
def bF(P:Program)(J:List Nat)(fn:Func)(args:List AV)(r:AV):Prop :=
 match fn.body with
 | some c=>EF (enter 0 args (FG fn.ntmps)) (ZJ P J c (λe S=>match e with
   | .normal|.ret=>gk P fn.results.toList [] [] S r
   | _=>False))
 | none=>False
def QV(S:AS):Nat->List AV->(List Nat->Bx->Prop)->Prop
 | _,[],K=>K [] []
 | i,.own sz e ys :: r,K=>match Ag S i with
   | ⟨_,.row sz' e' xs,0⟩=>(sz'=sz/\e'=e/\xs=ys)/\QV S (i+1) r λu b=>K (i :: u) b
   | _=>False
 | i,.optr cs :: r,K=>match Ag S i with
   | ⟨_,.var cs',0⟩=>Ea (σOf S) cs' λl b=>Ps l λl=>l=cs/\QV S (i+1) r λu b'=>K (i :: u) (b++b')
   | _=>False
 | i,.cc _ l :: r,K=>Wo l λsz e ys=>match Ag S i with
   | ⟨_,.row sz' e' xs,0⟩=>(sz'=sz/\e'=e/\xs=ys)/\QV S (i+1) r λu b=>K (i :: u) b
   | _=>False
 | i,_ :: r,K=>QV S (i+1) r K
def Xo(P:Program)(J:List Nat)(fn:Func)(args outs:List AV)(r:AV):Prop :=
 match fn.body with
 | some c=>EF (enter 0 args (FG fn.ntmps)) (ZJ P J c (λe S=>match e with
   | .normal|.ret=>QV S 0 outs λu b=>gk P fn.results.toList u b S r
   | _=>False))
 | none=>False
def qV(S:AS)(k q sz:Nat)(e:TypeId)(ys:List D):Prop :=
 match Ag S k with
 | ⟨_,.var [.sl q' n],0⟩=>match Ag S q with
   | ⟨_,.row sz' e' xs,m⟩=>q'=q/\n=m/\sz'=sz/\e'=e/\xs=ys
   | _=>False
 | _=>False
def lu(P:Program)(J:List Nat)(fn:Func)(args:List AV)(k q sz:Nat)(e:TypeId)(xs ys:List D):Prop :=
 match fn.body with
 | some c=>EF (AY (AY (FB (enter 0 args (FG fn.ntmps)) k (.ptr k 0 0)) k (.var [.sl q 0]) 0) q (.row sz e xs) 0) (ZJ P J c (λe' S=>match e' with
   | .normal|.ret=>qV S k q sz e ys
   | _=>False))
 | none=>False
def qI(P:Program)(fn:Func)(args:List AV)(r:AV):Prop:=bF P [] fn args r
def ql(P:Program)(fn:Func)(args outs:List AV)(r:AV):Prop:=Xo P [] fn args outs r
open Go.RowKit (Below)
theorem A8.refl(B:Nat)(M:Nat->Prop)(w:World):A8 B M w w:=⟨rfl,rfl,rfl,uh _,λ_ _ _=>rfl⟩
theorem A8.trans{B:Nat}{M:Nat->Prop}{a b c:World}(h:A8 B M a b)(k:A8 B M b c):A8 B M a c :=
 ⟨k.os.trans h.os,k.tape.trans h.tape,k.output.trans h.output,uK h.size k.size,λi d e=>(k.block i d e).trans (h.block i d e)⟩
theorem A8.of{B:Nat}{M:Nat->Prop}{a b:World}(h:Below B a b):A8 B M a b:=⟨h.os,h.tape,h.output,h.size,λi c _=>h.block i c⟩
theorem A8.below{B:Nat}{M:Nat->Prop}{a b:World}(h:A8 B M a b)(c:∀k,¬M k):Below B a b:=⟨h.os,h.tape,h.output,h.size,λi d=>h.block i d (c i)⟩
theorem A8.weaken{B c:Nat}{M d:Nat->Prop}{a b:World}(h:A8 B M a b)(g:c<=B)(e:∀k,k<c->¬d k->¬M k):A8 c d a b :=
 ⟨h.os,h.tape,h.output,h.size,λi f hk=>h.block i (by omega) (e i f hk)⟩
theorem A8.setRow(B:Nat){M:Nat->Prop}(w:World){b:Nat}(c:Array Value)(a:B<=b\/M b):A8 B M w (w.setRow b c) :=
 ⟨rfl,rfl,rfl,by simp,λk hk d=>setRow_other w b k c λe=>by subst e;rcases a with h|h;omega;exact d h⟩
section mono
variable {O O':Nat->Prop} {w w':World}
structure BA(O O':Nat->Prop)(w w':World):Prop where
 size:w.heap.size<=w'.heap.size
 own:∀b,b<w.heap.size->O' b->O b
 same:∀b,b<w.heap.size->¬O b->w'.heap[b]?=w.heap[b]?
theorem BA.cell(k:BA O O' w w'){b o:Nat}(a:b<w.heap.size)(c:¬O b):w'.cell? ⟨b,o,none⟩=w.cell? ⟨b,o,none⟩ :=
 World.cell?_of_block (k.same b a c)
theorem Ay.mono(k:BA O O' w w'){v:Value}{x:D}(h:Ay O w v x):Ay O' w' v x:=by
 induction h with
 | bool b=>exact .bool b
 | int kd n=>exact .int kd n
 | str s=>exact .str s
 | fn f vs xs r l h ih=>exact .fn f vs xs r l ih
 | ptr b off cs c m o l d h ih =>
   have g:∀(j:Nat) y,cs[j]?=some y->cs≠[]:=by intro j y hy e;subst e;simp at hy
   exact .ptr b off cs c (λq=>uw (m q) k.size) (λq t=>o q (k.own b (m q) t)) l
    (λj y hy=>by rw[<-d j y hy];exact k.cell (m (g j y hy)) (o (g j y hy))) ih
 | agg vs xs r l h ih=>exact .agg vs xs r l ih
 | nil a sz=>exact .nil a sz
 | emp a cap sz=>exact .emp a cap sz
 | list b off cap sz xs c g m o p u l d h ih =>
   exact .list b off cap sz xs c g (uw m k.size) (λt=>o (k.own b m t)) p u l
    (λi x j y hx hy=>by rw[<-d i x j y hx hy];exact k.cell m o) ih
theorem By.mono(k:BA O O' w w'){vs:List Value}{ys:List D}(h:By O w vs ys):By O' w' vs ys :=
 ⟨h.1,λj v y a hy=>⟨(h.2 j v y a hy).1.mono k,(h.2 j v y a hy).2⟩⟩
theorem OZ.mono(k:BA O O' w w'){v:Value}{x:AV}(h:OZ O w v x):OZ O' w' v x:=by
 cases x<;>simp only[OZ]at h ⊢
 case d x=>exact h.mono k
 case lim sz xs=>exact⟨h.1.mono k,h.2⟩
theorem Cj.mono(k:BA O O' w w'){β b:Nat->Value}{n a:Nat->Nat}(f:∀i,n i<a i\/(a i=n i/\b i=β i)){v:Value}{c:C}(h:Cj β n O w v c):Cj b a O' w' v c:=by
 cases c with
 | d x=>exact⟨h.1.mono k,h.2⟩
 | sl id m =>
   simp only[Cj]at h ⊢;grind
 | own sz e xs=>exact h
theorem JX.mono(k:BA O O' w w'){β s:Nat->Value}{n j:Nat->Nat}{tm c:Array Value}{v:Value}
 (f:∀i,n i<j i\/(j i=n i/\s i=β i)):∀{x:AV},(∀u∈x.guards,c[u]?=tm[u]?)->JX β n O w tm v x->JX s j O' w' c v x:=by
 intro x
 induction x with
 | any=>intro _ h;exact h
 | bot=>intro _ h;exact h
 | d x=>intro _ h;exact Ay.mono k h
 | lim sz xs=>intro _ h;exact⟨Ay.mono k h.1,h.2⟩
 | ptr id m o =>
   intro _ h;simp only[JX]at h ⊢;rcases f id with a|⟨a,g⟩
   ·exact⟨by omega,λe=>by omega⟩
   ·rw[a,g];exact h
 | sl id m =>
   intro _ h;simp only[JX]at h ⊢;rcases f id with a|⟨a,g⟩
   ·exact⟨by omega,λe=>by omega⟩
   ·rw[a,g];exact h
 | eptr id m sz i o =>
   intro _ h;simp only[JX]at h ⊢;rcases f id with a|⟨a,g⟩
   ·exact⟨by omega,λe=>by omega⟩
   ·rw[a,g];exact h
 | tup xs =>
   intro _ h;obtain⟨vs,l,p,h⟩:=h;refine⟨vs,l,p,λi u x b hx=>?_⟩;have:=h i u x b hx
   cases x with
   | d y=>exact Ay.mono k this
   | sl id m=>exact Cj.mono k f this
   | own sz e xs=>exact this
 | own sz e xs=>intro _ h;exact h
 | optr cs=>intro _ h;exact h
 | cc A xs =>
   intro _ h;obtain⟨vs,l,p,h⟩:=h;exact⟨vs,l,p,λi u x b hx=>⟨Cj.mono k f (h i u x b hx).1,(h i u x b hx).2⟩⟩
 | under t z x ih =>
   intro q h;refine⟨λr=>ih (λu b=>q u (by simp[AV.guards,b])) (h.1 ?_),λr=>h.2 ?_⟩
   ·rw[<-q t (by simp[AV.guards])];exact r
   ·rw[<-q t (by simp[AV.guards])];exact r
end mono
theorem CQ:∀(S:AS)(d:Nat)(v:AV)(i:Nat),Ag (FB S d v) i=if i=d/\d<S.length then⟨v,(Ag S d).box,(Ag S d).ver⟩else Ag S i
 | [],d,v,i=>by simp[FB,Ag]
 | s :: r,0,v,0=>by simp[FB,Ag]
 | s :: r,0,v,i+1=>by simp[FB,Ag]
 | s :: r,d+1,v,0=>by simp[FB,Ag]
 | s :: r,d+1,v,i+1=>by simp[FB,Ag,CQ r d v i]
theorem Ci:∀(S:AS)(d:Nat)(b:BJ)(n i:Nat),Ag (AY S d b n) i=if i=d/\d<S.length then⟨(Ag S d).av,b,n⟩else Ag S i
 | [],d,b,n,i=>by simp[AY,Ag]
 | s :: r,0,b,n,0=>by simp[AY,Ag]
 | s :: r,0,b,n,i+1=>by simp[AY,Ag]
 | s :: r,d+1,b,n,0=>by simp[AY,Ag]
 | s :: r,d+1,b,n,i+1=>by simp[AY,Ag,Ci r d b n i]
theorem IF:∀(S:AS)(d:Nat)(v:AV),(FB S d v).length=S.length
 | [],_,_=>rfl
 | _ :: _,0,_=>rfl
 | _ :: r,d+1,v=>by simp[FB,IF r d v]
theorem CX:∀(S:AS)(d:Nat)(b:BJ)(n:Nat),(AY S d b n).length=S.length
 | [],_,_,_=>rfl
 | _ :: _,0,_,_=>rfl
 | _ :: r,d+1,b,n=>by simp[AY,CX r d b n]
theorem Nf:∀(S:AS)(i:Nat),S.length<=i->Ag S i=eK
 | [],_,_=>rfl
 | _ :: r,0,h=>by grind
 | _ :: r,i+1,h=>by simp only[Ag];exact Nf r i (by grind)
theorem BA.refl(O:Nat->Prop)(w:World):BA O O w w:=⟨uh _,λ_ _ h=>h,λ_ _ _=>rfl⟩
theorem BA.world{O:Nat->Prop}{w w':World}(h:Below w.heap.size w w'):BA O O w w':=⟨h.size,λ_ _ h=>h,λb a _=>h.block b a⟩
theorem BA.of_sub{O O':Nat->Prop}{w:World}(h:∀b,O' b->O b):BA O O' w w:=⟨uh _,λb _ a=>h b a,λ_ _ _=>rfl⟩
theorem SimB.glob{x:Cx}{G:Nat->Prop}{β:Nat->Value}{S:AS}{a:Act}{w:World}(h:SimB x G β S a w):OY (OS β x S) w:=by
 intro g cs c;refine(x.glob g cs c).mono ⟨h.below.size,λb d ho=>?_,λb d ho=>h.below.block b (by omega) (λe=>ho (.inr (.inr e)))⟩;rcases ho with ho|ho|⟨i,f,j⟩
 ·grind
 ·exact .inr (h.rs b ho).1
 ·exact .inr (h.mine i b f j).1
theorem XM{O M:Nat->Prop}{w:World}(h:OY (λb=>O b\/M b) w):OY (λb=>O b\/w.heap.size<=b\/M b) w:=by
 intro g cs a;refine(h g cs a).mono ⟨uh _,λb c ho=>?_,λ_ _ _=>rfl⟩;grind
theorem A6{α:Type}{l:List α}{i:Nat}{x:α}(h:l[i]?=some x):i<l.length:=by grind
theorem Dz{α:Type}{l:Array α}{i:Nat}{x:α}(h:l[i]?=some x):i<l.size:=by grind
section sim
variable {x:Cx} {G:Nat->Prop} {β:Nat->Value} {S:AS} {a:Act} {w:World}
theorem Bw.mono{w w':World}{e:TypeId}{sz n:Nat}{v:Value}{vals:List Value}(h:Bw w e sz v n vals)
 (hk:∀b,b<w.heap.size->Ae v=some b->w'.heap[b]?=w.heap[b]?):Bw w' e sz v n vals:=by
 rcases h with⟨c,h⟩|h
 ·rcases h with h|⟨g,cap,cur,d,l,j,m,o,p,q⟩
  ·exact .inl ⟨c,.inl h⟩
  ·by_cases k:cap=0
   ·subst k;have f:n=0:=by omega
    subst f;exact .inr ⟨rfl,by simpa using c,_,d⟩
   ·have i:=Dz j;exact .inl ⟨c,.inr ⟨g,cap,cur,d,l,by rw[hk g i (by rw[d];simp[Ae,k])];exact j,m,o,p,q⟩⟩
 ·exact .inr h
theorem Bw.lt{w:World}{e:TypeId}{sz n:Nat}{v:Value}{vals:List Value}(h:Bw w e sz v n vals){b:Nat}(c:Ae v=some b):b<w.heap.size:=by
 rcases h with⟨_,⟨d,_⟩|⟨g,cap,cur,d,_,f,_⟩⟩|⟨_,_,i,d⟩
 ·rw[d]at c;simp[Ae]at c
 ·rw[d]at c;simp[Ae]at c;grind
 ·rw[d]at c;simp[Ae]at c
theorem IU.lt{β:Nat->Value}{n:Nat->Nat}{O:Nat->Prop}{w:World}{id:Nat}{B:BJ}(h:IU β n O w id B)(ho:B.owned=true){b:Nat}(c:Ae (β id)=some b):b<w.heap.size:=by
 cases B<;>simp[BJ.owned]at ho
 case var cs =>
  obtain⟨i,vals,T,d,f,_⟩:=h;rw[d]at c;simp[Ae]at c;subst c;exact Dz f
 case row sz e xs =>
  obtain⟨_,_,vals,hr,_⟩:=h;exact hr.lt c
 case map es =>
  obtain⟨i,vs,g,d,f,_⟩:=h;rw[d]at c;simp[Ae]at c;subst c;exact Dz f
theorem SimB.blk(h:SimB x G β S a w){i b:Nat}(ho:(Ag S i).box.owned=true)(c:Ae (β i)=some b):b<w.heap.size:=(h.boxes i).lt ho c
theorem SimB.os_lt(h:SimB x G β S a w){b:Nat}(c:OS β x S b):b<w.heap.size:=by
 rcases c with c|c|⟨i,d,e⟩
 ·exact uw (h.o₀ b c).1 h.hbase
 ·exact(h.rs b c).2
 ·exact h.blk d e
theorem IU.mono{O O':Nat->Prop}{w w':World}(k:BA O O' w w'){β t:Nat->Value}{n u:Nat->Nat}{id:Nat}{B:BJ}(y:∀i,n i<u i\/(u i=n i/\t i=β i))(o:t id=β id)
 (hk:∀b,b<w.heap.size->B.owned=true->Ae (β id)=some b->w'.heap[b]?=w.heap[b]?) (h:IU β n O w id B):IU t u O' w' id B:=by
 cases B with
 | none=>exact h
 | var cs =>
   obtain⟨b,vals,T,d,f,q,r⟩:=h;have g:=Dz f;exact⟨b,vals,T,by rw[o];exact d,by rw[hk b g rfl (by rw[d];rfl)];exact f,q,λj v c l s=>(r j v c l s).mono k y⟩
 | row sz e xs =>
   obtain⟨d,z,vals,f,q⟩:=h;exact⟨d,z,vals,by rw[o];exact f.mono λb A l=>hk b A rfl l,q.mono k⟩
 | fvar cs=>exact⟨by rw[o];exact Ay.mono k h.1,by rw[o];exact h.2⟩
 | frow sz xs=>simp only[IU];rw[o];exact Ay.mono k h
 | map es =>
   obtain⟨b,vs,m,d,f,q,r⟩:=h;have g:=Dz f;exact⟨b,vs,m,by rw[o];exact d,by rw[hk b g rfl (by rw[d];rfl)];exact f,q,λi e p l s=>⟨(r i e p l s).1.mono k,(r i e p l s).2.1.mono k,(r i e p l s).2.2⟩⟩
theorem SimB.worldR(h:SimB x G β S a w){w':World}(c:A8 w.heap.size x.R w w'):SimB x G β S a w':=by
 have hk:BA (OS β x S) (OS β x S) w w':=⟨c.size,λ_ _ h=>h,λb d e=>c.block b d λhr=>e (.inr (.inl hr))⟩;refine⟨h.len,h.df,h.below.trans (c.weaken h.hbase λk hk j hr=>?_),uK h.hbase c.size,h.o₀,λb d=>⟨(h.rs b d).1,uw (h.rs b d).2 c.size⟩,?_,?_,h.mine,h.inj,h.gds,h.ini⟩
 ·rcases(h.rs k hr).1 with g|g
  all_goals grind
 ·exact λt v f=>(h.slots t v f).mono hk (λ_=>.inr ⟨rfl,rfl⟩) (λ_ _=>rfl)
 ·exact λi=>(h.boxes i).mono hk (λ_=>.inr ⟨rfl,rfl⟩) rfl (λb d ho f=>c.block b d (h.mine i b ho f).2)
theorem SimB.world(h:SimB x G β S a w){w':World}(b:Below w.heap.size w w'):SimB x G β S a w':=h.worldR (.of b)
theorem bD(d:Nat)(v:AV):OS β x (FB S d v)=OS β x S:=by
 funext b;simp only[OS,CQ];grind
theorem R4(d:Nat)(v:AV):AH (FB S d v)=AH S:=by
 funext i;simp only[AH,CQ];grind
theorem Pd(d:Nat)(v:AV)(i:Nat):(Ag (FB S d v) i).box=(Ag S i).box:=by
 rw[CQ];grind
theorem SimB.put(h:SimB x G β S a w){d:Nat}{v:Value}{y:AV}(hd:¬G d)(hr:JX β (AH S) (OS β x S) w a.tmps v y)(g:∀u∈y.guards,G u) :
 SimB x G β (FB S d y) (a.put (some d) v) w where
 len:=by simp[Act.put,IF,h.len]
 df:=h.df
 below:=h.below
 hbase:=h.hbase
 o₀:=h.o₀
 rs:=h.rs
 slots:=by
  intro t u c;rw[bD,R4,CQ]
  have keep:∀(y:AV),(∀u∈y.guards,G u)->∀z∈y.guards,(a.put (some d) v).tmps[z]?=a.tmps[z]?:=by
   intro y hy z k;have:d≠z:=λe=>hd (e▸hy z k);simp[Act.put,uz this]
  simp only[Act.put,vB]at c;split at c
  ·rename_i e
   subst e;split at c
   ·rename_i f
    cases c
    rw[uk ⟨rfl,by rw[<-h.len];exact f⟩];exact hr.mono (BA.refl _ _) (λ_=>.inr ⟨rfl,rfl⟩) (keep y g)
   ·cases c
  ·rename_i e
   rw[uo (λl=>e l.1.symm)];exact(h.slots t u c).mono (BA.refl _ _) (λ_=>.inr ⟨rfl,rfl⟩) (keep _ (h.gds t))
 boxes:=by intro i;rw[bD,R4,Pd];exact h.boxes i
 mine:=by intro i b;rw[Pd];exact h.mine i b
 inj:=by intro i j b;rw[Pd,Pd];exact h.inj i j b
 gds:=by
  intro t u c;rw[CQ]at c;split at c
  ·grind
  ·exact h.gds t u c
 ini:=by
  intro i;rw[Pd,show(Ag (FB S d y) i).ver=(Ag S i).ver from congrFun (R4 d y) i];exact h.ini i
def Lg(β:Nat->Value)(id:Nat)(v:Value)(i:Nat):Value:=if i=id then v else β i
theorem JS{id:Nat}(hid:id<S.length)(B:BJ)(n i:Nat):Ag (AY S id B n) i=if i=id then⟨(Ag S id).av,B,n⟩else Ag S i:=by
 rw[Ci];simp[hid]
theorem SimB.rebox(h:SimB x G β S a w){id:Nat}{B:BJ}{v:Value}{n:Nat}{w':World}{R':Nat->Prop}(J:∀b,R' b->x.R b)(hid:id<S.length)
 (C:(Ag S id).ver<n\/(n=(Ag S id).ver/\v=β id/\(Ag S id).box≠.none)) (N:w.heap.size<=w'.heap.size) (l:A8 x.base x.M w w')
 (g:∀b,b<w.heap.size->((Ag S id).box.owned=true->Ae (β id)≠some b)->w'.heap[b]?=w.heap[b]?)
 (k:B.owned=true->∀b,Ae v=some b->((Ae (β id)=some b/\(Ag S id).box.owned=true)\/w.heap.size<=b\/x.R b)/\¬R' b)
 (Q:BA (OS β x S) (OS (Lg β id v) (x.less R') (AY S id B n)) w w'->(∀i,AH S i<AH (AY S id B n) i\/(AH (AY S id B n) i=AH S i/\Lg β id v i=β i)) ->
  IU (Lg β id v) (AH (AY S id B n)) (OS (Lg β id v) (x.less R') (AY S id B n)) w' id B) :
 SimB (x.less R') G (Lg β id v) (AY S id B n) a w':=by
 have e:=JS (S:=S) hid B n
 have R:∀b,b<w.heap.size->OS (Lg β id v) (x.less R') (AY S id B n) b->OS β x S b:=by
  intro b l D;rcases D with D|D|⟨i,m,q⟩
  ·exact .inl D
  ·exact .inr (.inl (J b D))
  ·rw[e]at m;by_cases c:i=id
   ·subst c;simp[Lg]at m q;rcases(k m b q).1 with⟨f,E⟩|f|f
    ·exact .inr (.inr ⟨i,E,f⟩)
    ·omega
    ·exact .inr (.inl f)
   ·simp[Lg,c]at m q;exact .inr (.inr ⟨i,m,q⟩)
 have hk:BA (OS β x S) (OS (Lg β id v) (x.less R') (AY S id B n)) w w' :=
  ⟨N,R,λb l O=>g b l λho r=>O (.inr (.inr ⟨id,ho,r⟩))⟩
 have F:∀i,AH S i<AH (AY S id B n) i\/(AH (AY S id B n) i=AH S i/\Lg β id v i=β i):=by
  intro i;simp only[AH,e,Lg];grind
 refine⟨by rw[CX];exact h.len,h.df,h.below.trans l,uK h.hbase N,h.o₀,λb l=>⟨(h.rs b (J b l)).1,uw (h.rs b (J b l)).2 N⟩,?_,?_,?_,?_,?_,?_⟩
 ·intro t u K;have s:(Ag (AY S id B n) t).av=(Ag S t).av:=by grind
  rw[s];exact(h.slots t u K).mono hk F (λ_ _=>rfl)
 ·intro i;rw[e];by_cases c:i=id
  ·grind
  ·simp only[c,if_false];refine(h.boxes i).mono hk F (by simp[Lg,c]) λb l ho r=>g b l λP H=>c (h.inj i id b ho P r H)
 ·intro i b c d;rw[e]at c;by_cases A:i=id
  ·subst A;simp[Lg]at c d;obtain⟨m,q⟩:=k c b d;refine⟨?_,q⟩;rcases m with⟨f,E⟩|f|f
   ·exact(h.mine i b E f).1
   ·exact .inl (uK h.hbase f)
   ·exact(h.rs b f).1
  ·simp[Lg,A]at c d;exact⟨(h.mine i b c d).1,λhr=>(h.mine i b c d).2 (J b hr)⟩
 ·intro i j b c I d o;rw[e]at c I
  have key:∀j,j≠id->(Ag S j).box.owned=true->Ae (β j)=some b->B.owned=true->Ae v=some b->j=id:=by
   intro j T y z U V;rcases(k U b V).1 with⟨f,E⟩|f|f
   ·exact h.inj j id b y E z f
   ·have:=h.blk y z;omega
   ·exact absurd f (h.mine j b y z).2
  by_cases A:i=id
  ·by_cases L:j=id
   ·grind
   ·subst A;simp[Lg,L]at c I d o;grind
  ·by_cases L:j=id
   ·subst L;simp[Lg,A]at c I d o;grind
   ·simp[Lg,A,L]at c I d o;exact h.inj i j b c I d o
 ·intro t u K;have s:(Ag (AY S id B n) t).av=(Ag S t).av:=by grind
  rw[s]at K;exact h.gds t u K
 ·intro i M p;rw[e]at M p;by_cases c:i=id
  ·subst c;simp only[if_true]at M p;rcases C with m|⟨m,q,f⟩
   ·omega
   ·simp only[Lg,if_true];rw[q];exact h.ini i (by grind) f
  ·simp only[c,if_false]at M p;simp only[Lg,c,if_false];exact h.ini i M p
theorem Gu(β:Nat->Value)(id:Nat):Lg β id (β id)=β:=by funext i;simp only[Lg];split<;>simp_all
theorem SimB.multi(h:SimB x G β S a w)(E:Nat->Option (BJ×Nat×Value)){S':AS}{m:Nat->Value}{w':World}(M:∀i,Ag S' i=match E i with|some (B,n,_)=>⟨(Ag S i).av,B,n⟩|none=>Ag S i)
 (N:∀i,m i=match E i with|some (_,_,v)=>v|none=>β i) (O:S'.length=S.length) (Z:w.heap.size<=w'.heap.size) (e:A8 x.base x.M w w')
 (P:∀i B n v,E i=some (B,n,v)->(Ag S i).ver<n\/(n=(Ag S i).ver/\v=β i/\(Ag S i).box≠.none))
 (g:∀b,b<w.heap.size->(∀i B n v,E i=some (B,n,v)->(Ag S i).box.owned=true->Ae (β i)≠some b)->w'.heap[b]?=w.heap[b]?)
 (l:∀i B n v b,E i=some (B,n,v)->B.owned=true->Ae v=some b->(∃j y C z,E j=some (y,C,z)/\(Ag S j).box.owned=true/\Ae (β j)=some b)\/w.heap.size<=b)
 (hinj:∀i j B n v y C z b,E i=some (B,n,v)->E j=some (y,C,z)->B.owned=true->y.owned=true->Ae v=some b->Ae z=some b->i=j)
 (hbox:BA (OS β x S) (OS m x S') w w'->(∀i,AH S i<AH S' i\/(AH S' i=AH S i/\m i=β i))->∀i B n v,E i=some (B,n,v)->IU m (AH S') (OS m x S') w' i B) :
 SimB x G m S' a w':=by
 have hO:∀b,b<w.heap.size->OS m x S' b->OS β x S b:=by
  intro b e Q;rcases Q with Q|Q|⟨i,D,F⟩
  ·exact .inl Q
  ·exact .inr (.inl Q)
  ·rw[M]at D;rw[N]at F
   cases d:E i with
   | none=>rw[d]at D F;exact .inr (.inr ⟨i,D,F⟩)
   | some q =>
     obtain⟨B,n,v⟩:=q;rw[d]at D F;rcases l i B n v b d D F with⟨j,y,C,z,_,R,T⟩|U
     ·exact .inr (.inr ⟨j,R,T⟩)
     ·omega
 have hk:BA (OS β x S) (OS m x S') w w':=⟨Z,hO,λb e hno=>g b e λi B n v _ ho H=>hno (.inr (.inr ⟨i,ho,H⟩))⟩
 have V:∀i,AH S i<AH S' i\/(AH S' i=AH S i/\m i=β i):=by
  intro i;simp only[AH,M,N];grind
 have W:∀t,(Ag S' t).av=(Ag S t).av:=by grind
 have A:∀i b,E i=none->(Ag S i).box.owned=true->Ae (β i)=some b->∀j B n v,E j=some (B,n,v)->(Ag S j).box.owned=true->Ae (β j)≠some b:=by
  intro i b d ho e j B n v L f o;have:=h.inj i j b ho f e o;grind
 refine⟨by rw[O];exact h.len,h.df,h.below.trans e,uK h.hbase Z,h.o₀,λb e=>⟨(h.rs b e).1,uw (h.rs b e).2 Z⟩,?_,?_,?_,?_,?_,?_⟩
 ·intro t u X;rw[W];exact(h.slots t u X).mono hk V (λ_ _=>rfl)
 ·intro i
  cases d:E i with
  | some q=>grind
  | none =>
    have:Ag S' i=Ag S i:=by grind
    rw[this];exact(h.boxes i).mono hk V (by grind) λb e ho H=>g b e λj B n v L f=>A i b d ho H j B n v L f
 ·intro i b r c;rw[M]at r;rw[N]at c
  cases d:E i with
  | none=>rw[d]at r c;exact h.mine i b r c
  | some q =>
    obtain⟨B,n,v⟩:=q;rw[d]at r c;rcases l i B n v b d r c with⟨j,y,C,z,_,R,T⟩|U
    ·exact h.mine j b R T
    ·exact⟨.inl (uK h.hbase U),λhr=>by have:=(h.rs b hr).2;omega⟩
 ·intro i j b r L c I;rw[M]at r L;rw[N]at c I
  have mixed:∀i j B n v,E i=some (B,n,v)->E j=none->B.owned=true->Ae v=some b->(Ag S j).box.owned=true->Ae (β j)=some b->False:=by
   intro i j B n v J K ho e f o;rcases l i B n v b J ho e with⟨k,y,C,z,hk',R,T⟩|U
   ·exact A j b K f o k y C z hk' R T
   ·have:=h.blk f o;omega
  cases J:E i with
  | none =>
    rw[J]at r c
    cases K:E j with
    | none=>rw[K]at L I;exact h.inj i j b r L c I
    | some q=>grind
  | some p =>
    obtain⟨B,n,v⟩:=p;grind
 ·intro t u X;rw[W]at X;exact h.gds t u X
 ·intro i Y s;rw[M]at Y s;rw[N]
  cases d:E i with
  | none=>rw[d]at Y s;exact h.ini i Y s
  | some q =>
    obtain⟨B,n,v⟩:=q;rw[d]at Y s;rcases P i B n v d with D|⟨D,F,U⟩
    ·grind
    ·simp only;rw[F];exact h.ini i (by grind) U
end sim
theorem Pk:∀(n:Nat)(K:Nat->Prop),Hf n K=K n
 | 0,_=>rfl
 | n+1,K=>by rw[Hf,Pk n]
theorem BW{α:Type}:∀(l:List α)(K:List α->Prop),CN l K=K l
 | [],_=>rfl
 | x :: r,K=>by rw[CN,BW r]
theorem Qd:∀(l:List D)(K:List C->Prop),bC l K=K (l.map .d)
 | [],_=>rfl
 | x :: r,K=>by rw[bC,Qd r];rfl
def norm1:D->D
 | .nil s=>.list s []
 | x=>x
def norm:D->D
 | .nil s=>.list s []
 | .agg xs=>.agg (xs.map norm1)
 | x=>x
theorem UF:∀(l:List D)(K:List D->Prop),Ps l K=K (l.map norm1)
 | [],_=>rfl
 | x :: r,K=>by
   rw[Ps,UF r]
   cases x<;>rfl
theorem NH(x:D)(K:D->Prop):Qs x K=K (norm x):=by
 cases x<;>simp only[Qs,UF,norm]
theorem RN(x:D)(h:x.one=true):(norm1 x).one=true:=by cases x<;>first|rfl|exact h
section
variable {P:Program} {x:Cx} {G:Nat->Prop} {β:Nat->Value} {S:AS} {a:Act} {w:World}
theorem Ay.norm1{O:Nat->Prop}{v:Value}{y:D}(h:Ay O w v y):Ay O w v (norm1 y):=by
 cases y<;>try exact h
 case nil s=>cases h;exact .emp _ _ _
theorem Ay.norm{O:Nat->Prop}{v:Value}{y:D}(h:Ay O w v y):Ay O w v (norm y):=by
 cases y<;>try exact h
 case nil s=>cases h;exact .emp _ _ _
 case agg xs =>
  cases h with
  | agg vs _ c d h =>
    refine .agg vs _ (by simpa using c) (λy hy=>?_) (λi v y e hy=>?_)
    ·obtain⟨z,b,rfl⟩:=List.mem_map.1 hy;exact RN z (d z b)
    ·simp only[uu]at hy
     cases b:xs[i]? with
     | none=>simp[b]at hy
     | some z=>simp[b]at hy;subst hy;exact(h i v z e b).norm1
theorem By.norm{O:Nat->Prop}{vs:List Value}{ys:List D}(h:By O w vs ys):By O w vs (ys.map norm1):=by
 refine⟨by simp[h.1],λj v y b hy=>?_⟩;simp only[uu]at hy
 cases hz:ys[j]? with
 | none=>simp[hz]at hy
 | some z=>simp[hz]at hy;subst hy;exact⟨(h.2 j v z b hz).1.norm1,RN z (h.2 j v z b hz).2⟩
def Pa(β:Nat->Value)(O:Nat->Prop)(S:AS)(w:World)(v:Value):RV->Prop
 | .any=>True
 | .bot=>False
 | .d x=>Ay O w v x
 | .lim sz xs=>Ay O w v (.list sz xs)/\Su v=xs.length
 | .vptr id n o cs=>(Ag S id).box=.var cs/\(Ag S id).ver=n/\∃b,β id=.pointer (some ⟨b,0,none⟩)/\v=.pointer (some ⟨b,o,none⟩)
 | .row id n sz e xs=>(Ag S id).box=.row sz e xs/\(Ag S id).ver=n/\v=β id
 | .eptr id n sz e xs i o=>(Ag S id).box=.row sz e xs/\(Ag S id).ver=n/\∃b m cap,β id=.slice (some ⟨b,0,none⟩) m cap/\v=.pointer (some ⟨b,i*sz+o,none⟩)
 | .tup xs=>∃vs:Array Value,v=.tuple vs/\vs.size=xs.length/\∀(i:Nat) u x,vs[i]?=some u->xs[i]?=some x->match x with
  | .d y=>Ay O w u y
  | c=>Cj β (AH S) O w u c
 | .mp id n es=>(Ag S id).box=.map es/\(Ag S id).ver=n/\v=β id
 | .cagg xs=>∃vs:Array Value,v=.agg vs/\vs.size=xs.length/\∀(i:Nat) u x,vs[i]?=some u->xs[i]?=some x->Cj β (AH S) O w u x/\u.oneCell'=true
 | .cfun f xs=>∃vs:Array Value,v=.func (.func f) #[] vs/\vs.size=xs.length/\∀(i:Nat) u x,vs[i]?=some u->xs[i]?=some x->Cj β (AH S) O w u x/\u.oneCell'=true
 | .clo f xs k id n rid rn=>(∃vs:Array Value,v=.func (.func f) #[] vs/\vs.size=xs.length/\∀(i:Nat) u x,vs[i]?=some u->xs[i]?=some x->Cj β (AH S) O w u x/\u.oneCell'=true) /\
  gw xs=some (k,id,n)/\(Ag S id).box=.var [.sl rid rn]/\(Ag S id).ver=n
theorem ND{id:Nat}{B:BJ}(h:(Ag S id).box=B)(c:B≠.none):id<S.length:=by
 rcases uZ id S.length with b|b
 ·exact b
 ·rw[Nf S id b]at h;exact absurd h.symm c
theorem Ay.drop{O:Nat->Prop}{b off:Nat}{cs:List D}(h:Ay O w (.pointer (some ⟨b,off,none⟩)) (.ptr cs))(n:Nat):Ay O w (.pointer (some ⟨b,off+n,none⟩)) (.ptr (cs.drop n)):=by
 cases h with
 | ptr _ _ _ c g i k d hr =>
   have f:cs.drop n≠[]->cs≠[]:=by intro h e;subst e;simp at h
   refine .ptr b (off+n) _ (λj=>c (n+j)) (λh=>g (f h)) (λh=>i (f h)) (λy hy=>k y (vL hy)) (λj y hy=>?_) (λj y hy=>?_)
   ·simp only[vh]at hy;have:=d (n+j) y hy
    rwa [<-Nat.add_assoc]at this
   ·simp only[vh]at hy;exact hr (n+j) y hy
theorem ZB(h:SimB x G β S a w){v:Value}{y:AV}(hx:JX β (AH S) (OS β x S) w a.tmps v y):Pa β (OS β x S) S w v (res S y):=by
 cases y with
 | any=>trivial
 | bot=>exact hx
 | d x=>exact hx
 | lim sz xs=>exact hx
 | ptr id n o =>
   simp only[JX,AH]at hx;have g:=h.boxes id;simp only[res];generalize c:Ag S id=s at hx g;obtain⟨l,B,m⟩:=s
   cases B with
   | none=>trivial
   | row sz e xs=>trivial
   | frow sz xs=>trivial
   | map es=>trivial
   | var cs =>
     simp only at hx ⊢;split
     ·rename_i e
      exact⟨by rw[c],by rw[c];exact e.symm,hx.2 e⟩
     ·trivial
   | fvar cs =>
     simp only at hx ⊢;split
     ·rename_i e
      obtain⟨b,u,z⟩:=hx.2 e;obtain⟨q,_⟩:=g;rw[u]at q;have:=q.drop o;rw[uQ]at this;show Ay _ _ _ _;rw[z];exact this
     ·trivial
 | sl id n =>
   simp only[JX,AH]at hx;have g:=h.boxes id;simp only[res];generalize c:Ag S id=s at hx g;obtain⟨l,B,m⟩:=s
   cases B with
   | none=>trivial
   | var cs=>trivial
   | fvar cs=>trivial
   | map es =>
     simp only at hx ⊢;split
     ·rename_i e
      exact⟨by rw[c],by rw[c];exact e.symm,hx.2 e⟩
     ·trivial
   | row sz e xs =>
     simp only at hx ⊢;split
     ·rename_i e
      exact⟨by rw[c],by rw[c];exact e.symm,hx.2 e⟩
     ·trivial
   | frow sz xs =>
     simp only at hx ⊢;split
     ·rename_i e
      show Ay _ _ _ _;rw[hx.2 e];exact g
     ·trivial
 | eptr id n sz i o =>
   simp only[JX,AH]at hx;simp only[res];generalize c:Ag S id=s at hx;obtain⟨l,B,m⟩:=s
   cases B with
   | none=>trivial
   | var cs=>trivial
   | fvar cs=>trivial
   | frow sz xs=>trivial
   | map es=>trivial
   | row A e xs =>
     simp only at hx ⊢;split
     ·rename_i e
      obtain⟨e,rfl⟩:=e;exact⟨by rw[c],by rw[c];exact e.symm,hx.2 e⟩
     ·trivial
 | tup xs=>exact hx
 | own sz e xs=>trivial
 | optr cs=>trivial
 | under t r x=>trivial
 | cc k xs =>
   cases k with
   | none=>exact hx
   | some f =>
     simp only[res];split
     ·rename_i j id n hat
      split
      ·rename_i l C D m c
       split
       ·rename_i p
        exact⟨hx,hat,by rw[c],by rw[c];exact p.symm⟩
       ·exact hx
      ·exact hx
     ·exact hx
def Ce(g:Option (Nat×Bool))(a:Act):Prop:=∀t want,g=some (t,want)->a.tmps[t]?=some (.bool want)
theorem fa(v:Value){O:Nat->Prop}{n:Nat->Nat}{tm:Array Value}:JX β n O w tm v (eZ v):=by
 unfold eZ;split
 ·exact .int _ _
 ·exact .bool _
 ·exact .str _
 ·exact .nil _ _
 ·trivial
theorem kP{g:Option (Nat×Bool)}(b:Ce g a){O:Nat->Prop}{n:Nat->Nat}{v:Value}{y:AV}(h:JX β n O w a.tmps v y):JX β n O w a.tmps v (rL g y):=by
 cases y<;>try exact h
 case under t want x =>
  simp only[rL]
  cases g with
  | none=>trivial
  | some p =>
    obtain⟨c,w'⟩:=p;simp only;split
    ·rename_i e
     obtain⟨rfl,rfl⟩:=e;exact h.1 (b t want rfl)
    ·trivial
theorem ρ_sound(h:SimB x G β S a w){g:Option (Nat×Bool)}(c:Ce g a)(y:Operand):Pa β (OS β x S) S w (a.eval y) (ρOf S g y):=by
 refine ZB h (kP c ?_)
 cases y with
 | tmp t =>
   simp only[ev,Act.eval];by_cases b:t<a.tmps.size
   ·have:=h.slots t a.tmps[t] (by simp[b])
    simpa [Array.getD,b] using this
   ·have e:Ag S t=eK:=Nf S t (by rw[<-h.len];exact Nat.le_of_not_lt b);rw[e];trivial
 | const v=>exact fa v
 | global q =>
   simp only[ev]
   cases hq:pb q with
   | none=>trivial
   | some cs=>exact h.glob q cs hq
 | func f=>exact .fn f #[] [] rfl (λ_ h=>by cases h) (λi v y h=>by simp at h)
theorem σ_sound(h:SimB x G β S a w){v:Value}{id n:Nat}(b:Cj β (AH S) (OS β x S) w v (.sl id n)):Pa β (OS β x S) S w v (σOf S id n) :=
 ZB (y:=.sl id n) h b
def BJ.isF:BJ->Bool
 | .frow _ _|.fvar _=>true
 | _=>false
theorem BJ.isF_ne{B:BJ}(h:B.isF=true):B≠.none:=by cases B<;>simp[BJ.isF]at h ⊢
theorem BO(b c:Bx):∀S,Bh (b++c) S=Bh c (Bh b S):=by
 induction b with
 | nil=>intro S;rfl
 | cons x r ih=>intro S;exact ih _
theorem Cr:∀(b:Bx)(S:AS),(Bh b S).length=S.length
 | [],_=>rfl
 | x :: r,S=>by simp only[Bh];rw[Cr r,CX]
theorem Pj{sz:Nat}:∀(xs:List D),(∀x∈xs,x.cells.length=sz)->∀(i:Nat) x (j:Nat) y,xs[i]?=some x->x.cells[j]?=some y->(xs.flatMap D.cells)[i*sz+j]?=some y
 | [],_,i,x,j,y,hx,_=>by simp at hx
 | z :: r,hs,0,x,j,y,hx,hy=>by
   simp at hx;subst hx;simp[vG,ut (A6 hy),hy]
 | z :: r,hs,i+1,x,j,y,hx,hy=>by
   have b:z.cells.length=sz:=hs z (by simp);have ih:=Pj r (λx hx=>hs x (by simp[hx])) i x j y (by simpa using hx) hy;rw[vG,uq (by rw[b,vD];omega),<-ih];congr 1;rw[b,vD];omega
theorem Fc{sz:Nat}:∀(xs:List D),(∀x∈xs,x.cells.length=sz)->(xs.flatMap D.cells).length=xs.length*sz
 | [],_=>by simp
 | z :: r,hs=>by
   rw[vG,uV,hs z (by simp),Fc r (λx hx=>hs x (by simp[hx])),vu,vD];omega
theorem Ys{O:Nat->Prop}{w:World}{e:TypeId}{sz:Nat}{v:Value}{xs:List D}{vals:List Value}(t:0<sz)
 (m:∀x∈xs,x.cells.length=sz) (hr:Bw w e sz v xs.length vals) (n:By O w vals (xs.flatMap D.cells)) (z:∀b,Ae v=some b->¬O b) :
 Ay O w v (.list sz xs):=by
 by_cases hx:xs=[]
 ·subst hx;rcases hr with⟨_,⟨d,_⟩|⟨g,cap,cur,d,_⟩⟩|⟨_,_,J,d⟩<;>(rw[d];exact .emp _ _ _)
 ·have o:0<xs.length:=List.length_pos_iff.2 hx;rcases hr with⟨f,⟨d,A⟩|⟨g,cap,cur,d,B,p,C,K,E,F⟩⟩|⟨A,_⟩
  ·omega
  ·have h:cap≠0:=by omega
   have c:=Dz p;subst d
   have key:∀(i:Nat) x (j:Nat) y,xs[i]?=some x->x.cells[j]?=some y->∃u,vals[i*sz+j]?=some u/\w.cell? ⟨g,0+i*sz+j,none⟩=some u/\Ay O w u y/\y.one=true:=by
    intro i x j y hx hy;have q:=Pj xs m i x j y hx hy;have c:i*sz+j<vals.length:=by rw[n.1];exact A6 q
    have l:vals[i*sz+j]?=some vals[i*sz+j]:=P3 c;refine⟨_,l,?_,n.2 _ _ _ l q⟩;rw[<-l,<-F,vJ (by rw[<-f];exact c)];simp[World.cell?,p]
   refine .list g 0 cap sz xs (λi j=>vals.getD (i*sz+j) undef) hx c (z g (by simp[Ae,h])) C m ?_ ?_ ?_
   ·intro x hx y hy;obtain⟨i,H⟩:=List.mem_iff_getElem?.1 hx;obtain⟨j,I⟩:=List.mem_iff_getElem?.1 hy;obtain⟨u,_,_,_,k⟩:=key i x j y H I;exact k
   ·intro i x j y hx hy;obtain⟨u,k,r,s,_⟩:=key i x j y hx hy;rw[r];simp[List.getD,k]
   ·intro i x j y hx hy;obtain⟨u,k,r,s,_⟩:=key i x j y hx hy
    simpa [List.getD,k] using s
  ·omega
theorem qd{O:Nat->Prop}{w:World}{b:Nat}{vals:Array Value}{T:TypeId}{cs:List D}(f:w.heap[b]?=some (.cells vals T (0,0)))(e:By O w vals.toList cs)(h:¬O b)(o:Nat) :
 Ay O w (.pointer (some ⟨b,o,none⟩)) (.ptr (cs.drop o)):=by
 have base:Ay O w (.pointer (some ⟨b,0,none⟩)) (.ptr cs):=by
  refine .ptr b 0 cs (λj=>vals.toList.getD j undef) (λ_=>Dz f) (λ_=>h) (λy hy=>?_) (λj y hy=>?_) (λj y hy=>?_)
  ·obtain⟨j,g⟩:=List.mem_iff_getElem?.1 hy;have c:j<vals.toList.length:=by rw[e.1];exact A6 g
   exact(e.2 j _ y (P3 c) g).2
  ·have c:j<vals.toList.length:=by rw[e.1];exact A6 hy
   have d:j<vals.size:=by simpa using c
   simp[World.cell?,f,d]
  ·have c:j<vals.toList.length:=by rw[e.1];exact A6 hy
   have:=(e.2 j _ y (P3 c) hy).1;have d:j<vals.size:=by simpa using c
   simpa [d] using this
 have:=base.drop o
 rwa [uQ]at this
theorem Rx{B:BJ}{n:Nat}:∀(S:AS)(id:Nat),(Ag S id).box=B->(Ag S id).ver=n->AY S id B n=S
 | [],_,_,_=>rfl
 | ⟨_,_,_⟩ :: _,0,h1,h2=>by simp only[Ag]at h1 h2;subst h1;subst h2;rfl
 | s :: r,id+1,h1,h2=>by rw[AY,Rx r id h1 h2]
theorem fw(h:SimB x G β S a w){id n sz:Nat}{e:TypeId}{xs:List D}(d:(Ag S id).box=.row sz e xs)(q:(Ag S id).ver=n) :
 SimB x G β (AY S id (.frow sz xs) n) a w:=by
 have hid:=ND d (by simp)
 have l:∀b,Ae (β id)=some b->¬OS β x (AY S id (.frow sz xs) n) b:=by
  intro b f g;have o:=h.mine id b (by rw[d];rfl) f;rcases g with g|g|⟨i,c,m⟩
  ·have:=h.o₀ b g;rcases o.1 with p|p;omega;exact this.2 p
  ·exact o.2 g
  ·rw[Ci]at c;split at c
   ·simp[BJ.owned]at c
   ·rename_i e;exact e ⟨h.inj i id b c (by rw[d];rfl) m f,hid⟩
 have hr:=h.rebox (R':=x.R) (id:=id) (B:=.frow sz xs) (v:=β id) (n:=n) (w':=w) (λ_ h=>h) hid (.inr ⟨q.symm,rfl,by rw[d];simp⟩) (uh _) (A8.refl _ _ _) (λ_ _ _=>rfl) (by simp[BJ.owned])
  (λk t=>by
   rw[Gu]at k ⊢;have j:=h.boxes id;rw[d]at j;obtain⟨c,m,vals,r,s⟩:=j;exact Ys c m r (s.mono k) l)
 rw[Gu]at hr;exact hr
theorem fy(h:SimB x G β S a w){id n:Nat}{cs:List C}{ds:List D}(d:(Ag S id).box=.var cs)(t:(Ag S id).ver=n)
 (hd:∀b vals T,β id=.pointer (some ⟨b,0,none⟩)->w.heap[b]?=some (.cells vals T (0,0))->vals.size=cs.length->(∀(j:Nat) v c,vals[j]?=some v->cs[j]?=some c->Cj β (AH S) (OS β x S) w v c)->By (OS β x S) w vals.toList ds) :
 SimB x G β (AY S id (.fvar ds) n) a w:=by
 have hid:=ND d (by simp)
 have p:∀b,Ae (β id)=some b->¬OS β x (AY S id (.fvar ds) n) b:=by
  intro b f g;have q:=h.mine id b (by rw[d];rfl) f;rcases g with g|g|⟨i,m,u⟩
  ·have:=h.o₀ b g;rcases q.1 with r|r;omega;exact this.2 r
  ·exact q.2 g
  ·rw[Ci]at m;split at m
   ·simp[BJ.owned]at m
   ·rename_i e;exact e ⟨h.inj i id b m (by rw[d];rfl) u f,hid⟩
 have hr:=h.rebox (R':=x.R) (id:=id) (B:=.fvar ds) (v:=β id) (n:=n) (w':=w) (λ_ h=>h) hid (.inr ⟨t.symm,rfl,by rw[d];simp⟩) (uh _) (A8.refl _ _ _) (λ_ _ _=>rfl) (by simp[BJ.owned])
  (λk A=>by
   rw[Gu]at k ⊢;have l:=h.boxes id;rw[d]at l;obtain⟨b,vals,T,o,s,y,z⟩:=l;refine⟨?_,b,o⟩;rw[o];have:=qd s ((hd b vals T o s y z).mono k) (p b (by rw[o];rfl)) 0
   simpa using this)
 rw[Gu]at hr;exact hr
end
def Lj(S:AS)(seen:Bx)(cs:List C)(ds:List D):Prop :=
 cs.length=ds.length/\∀(j:Nat) c y,cs[j]?=some c->ds[j]?=some y->match c with
  | .d x=>y=norm1 x
  | .sl id n=>∃sz xs,y=.list sz xs/\(Ag S id).ver=n/\(((∃e,(Ag S id).box=.row sz e xs)/\(id,BJ.frow sz xs,n)∈seen)\/(Ag S id).box=.frow sz xs)
  | .own _ _ _=>False
def gS(S:AS)(seen:Bx)(y:Nat×BJ×Nat):Prop :=
 (Ag S y.1).ver=y.2.2/\((∃sz e xs,(Ag S y.1).box=.row sz e xs/\y.2.1=.frow sz xs)\/(∃cs ds,(Ag S y.1).box=.var cs/\y.2.1=.fvar ds/\Lj S seen cs ds)\/((Ag S y.1).box=y.2.1/\y.2.1.isF=true))
def FZ(S:AS):Bx->Bx->Prop
 | _,[]=>True
 | seen,y :: r=>gS S seen y/\FZ S (seen++[y]) r
theorem Lj.mono{S:AS}{seen seen':Bx}(a:∀y∈seen,y∈seen'){cs:List C}{ds:List D}(h:Lj S seen cs ds):Lj S seen' cs ds:=by
 refine⟨h.1,λj c y b hy=>?_⟩;have:=h.2 j c y b hy
 cases c with
 | d x=>exact this
 | sl id n =>
   obtain⟨sz,xs,f,g,i⟩:=this;exact⟨sz,xs,f,g,i.imp (λh=>⟨h.1,a _ h.2⟩) (λh=>h)⟩
 | own sz e xs=>exact this
theorem gS.mono{S:AS}{seen seen':Bx}(a:∀y∈seen,y∈seen'){y:Nat×BJ×Nat}(h:gS S seen y):gS S seen' y:=by
 refine⟨h.1,?_⟩;rcases h.2 with h|⟨cs,ds,b,c,d⟩|h
 ·exact .inl h
 ·exact .inr (.inl ⟨cs,ds,b,c,d.mono a⟩)
 ·exact .inr (.inr h)
theorem FZ.mono{S:AS}:∀{b seen seen':Bx},(∀y∈seen,y∈seen')->FZ S seen b->FZ S seen' b
 | [],_,_,_,_=>trivial
 | y :: r,seen,seen',hs,h=>⟨h.1.mono hs,h.2.mono (by
     intro z a;rcases List.mem_append.1 a with a|a
     ·exact List.mem_append.2 (.inl (hs z a))
     ·exact List.mem_append.2 (.inr a))⟩
theorem FZ.append{S:AS}:∀{b c seen:Bx},FZ S seen b->FZ S [] c->FZ S seen (b++c)
 | [],c,seen,_,h=>h.mono (by simp)
 | y :: r,c,seen,h,h'=>⟨h.1,FZ.append h.2 h'⟩
theorem FZ.snoc{S:AS}:∀{b seen:Bx}{y:Nat×BJ×Nat},FZ S seen b->gS S (seen++b) y->FZ S seen (b++[y])
 | [],seen,y,_,h=>⟨by simpa using h,trivial⟩
 | z :: r,seen,y,h,h'=>⟨h.1,FZ.snoc h.2 (by simpa using h')⟩
theorem FZ.each{S:AS}:∀{b seen:Bx},FZ S seen b->∀y∈b,gS S (seen++b) y
 | [],_,_,_,h=>by cases h
 | z :: r,seen,h,y,hy=>by
   rcases List.mem_cons.1 hy with rfl|hy
   ·exact h.1.mono (by intro q a;exact List.mem_append.2 (.inl a))
   ·have:=FZ.each h.2 y hy
    simpa using this
theorem Lj.unique{S:AS}{seen seen':Bx}{cs:List C}{ds b:List D}(h:Lj S seen cs ds)(k:Lj S seen' cs b):ds=b:=by
 apply vX;intro j;rcases uZ j cs.length with f|f
 ·have o:cs[j]?=some cs[j]:=P3 f;have p:ds[j]?=some (ds[j]'(by rw[<-h.1];exact f)):=P3 _;have q:b[j]?=some (b[j]'(by rw[<-k.1];exact f)):=P3 _;have g:=h.2 j _ _ o p;have l:=k.2 j _ _ o q;rw[p,q];generalize cs[j]=c at g l
  cases c with
  | d x=>rw[g,l]
  | sl id n =>
    obtain⟨sz,xs,r,_,i⟩:=g;obtain⟨s,t,m,_,a⟩:=l;rw[r,m];rcases i with⟨⟨e,i⟩,_⟩|i<;>rcases a with⟨⟨u,a⟩,_⟩|a<;>rw[i]at a<;>simp at a
    ·rw[a.1,a.2.2]
    ·rw[a.1,a.2]
  | own sz e xs=>exact g.elim
 ·rw[uP (by rw[<-h.1];exact f),uP (by rw[<-k.1];exact f)]
theorem gS.unique{S:AS}{seen seen':Bx}{y y':Nat×BJ×Nat}(h:gS S seen y)(g:gS S seen' y')(e:y.1=y'.1):y.2.1=y'.2.1:=by
 rcases h.2 with⟨sz,o,xs,d,c⟩|⟨cs,ds,d,c,i⟩|⟨d,c⟩<;>rcases g.2 with⟨j,k,l,a,b⟩|⟨m,n,a,b,f⟩|⟨a,b⟩<;>rw[<-e,d]at a
 ·simp at a;rw[c,b,a.1,a.2.2]
 ·cases a
 ·rw[<-a]at b;cases b
 ·cases a
 ·simp at a;subst a;rw[c,b,i.unique f]
 ·rw[<-a]at b;cases b
 ·rw[a]at c;cases c
 ·rw[a]at c;cases c
 ·exact a
structure Fr(S:AS)(seen:Bx)(T:AS):Prop where
 len:T.length=S.length
 ver:∀i,(Ag T i).ver=(Ag S i).ver
 av:∀i,(Ag T i).av=(Ag S i).av
 mem:∀y∈seen,(Ag T y.1).box=y.2.1
 other:∀i,(∀y∈seen,y.1≠i)->(Ag T i).box=(Ag S i).box
 keepF:∀i,(Ag S i).box.isF=true->(Ag T i).box=(Ag S i).box
theorem gS.lt{S:AS}{seen:Bx}{y:Nat×BJ×Nat}(h:gS S seen y):y.1<S.length:=by
 have:(Ag S y.1).box≠.none:=by
  rcases h.2 with⟨sz,e,xs,a,_⟩|⟨cs,ds,a,_⟩|⟨a,b⟩
  ·rw[a];simp
  ·rw[a];simp
  ·rw[a];exact BJ.isF_ne b
 exact ND rfl this
section
variable {P:Program} {x:Cx} {G:Nat->Prop} {β:Nat->Value} {S:AS} {a:Act} {w:World}
theorem FZ.run_:∀{b seen:Bx}{T:AS},(∀y∈seen,gS S seen y)->FZ S seen b->Fr S seen T->SimB x G β T a w->(∀k,OS β x T k->OS β x S k) ->
 SimB x G β (Bh b T) a w/\(∀k,OS β x (Bh b T) k->OS β x S k)/\Fr S (seen++b) (Bh b T)
 | [],seen,T,_,_,hf,h,hO=>⟨h,hO,by simpa [Bh] using hf⟩
 | y :: r,seen,T,hseen,hF,hf,h,hO=>by
   have hy:=hF.1;have J:y.1<T.length:=by rw[hf.len];exact hy.lt
   have o:SimB x G β (AY T y.1 y.2.1 y.2.2) a w/\(∀k,OS β x (AY T y.1 y.2.1 y.2.2) k->OS β x T k):=by
    by_cases p:∃z∈seen,z.1=y.1
    ·obtain⟨z,f,e⟩:=p;have g:=hf.mem z f;have m:=(hseen z f).unique hy e;rw[Rx T y.1 (by rw[<-e,g,m]) (by rw[hf.ver,hy.1])];exact⟨h,λ_ h=>h⟩
    ·have D:(Ag T y.1).box=(Ag S y.1).box:=hf.other _ λz f e=>p ⟨z,f,e⟩;have s:(Ag T y.1).ver=y.2.2:=by rw[hf.ver,hy.1]
     have E:y.2.1.owned=false->∀k,OS β x (AY T y.1 y.2.1 y.2.2) k->OS β x T k:=by
      intro K k hk;rcases hk with hk|hk|⟨i,g,m⟩
      ·exact .inl hk
      ·exact .inr (.inl hk)
      ·rw[Ci]at g;split at g
       ·rw[K]at g;cases g
       ·exact .inr (.inr ⟨i,g,m⟩)
     rcases hy.2 with⟨sz,e,xs,g,m⟩|⟨cs,ds,g,m,H⟩|⟨g,m⟩
     ·refine⟨?_,E (by rw[m];rfl)⟩;rw[m];exact fw h (by rw[D];exact g) s
     ·refine⟨?_,E (by rw[m];rfl)⟩;rw[m];refine fy h (by rw[D];exact g) s λb vals Z hβ hh U V=>⟨by rw[ve,U];exact H.1,λj v z W f=>?_⟩;have R:j<cs.length:=by rw[H.1];exact A6 f
      have t:=V j v cs[j] (by simpa using W) (P3 R);have u:=H.2 j cs[j] z (P3 R) f;generalize cs[j]=c at t u
      cases c with
      | d q=>rw[u];exact⟨t.1.norm1,RN q t.2⟩
      | sl id n =>
        obtain⟨sz,xs,L,I,B⟩:=u
        have M:(Ag T id).box=.frow sz xs:=by
         rcases B with⟨_,B⟩|B
         ·exact hf.mem _ B
         ·by_cases p:∃q∈seen,q.1=id
          ·obtain⟨q,C,e⟩:=p;have X:=hf.mem q C;have Y:=(hseen q C).unique (y':=(id,BJ.frow sz xs,n)) (seen':=seen) ⟨I,.inr (.inr ⟨B,rfl⟩)⟩ e;rw[<-e,X,Y]
          ·rw[hf.other id λq C e=>p ⟨q,C,e⟩];exact B
        have F:=h.boxes id;rw[M]at F;have N:=t.2 (by simp only[AH];rw[hf.ver];exact I.symm);rw[L,N];exact⟨F,rfl⟩
      | own sz e xs=>exact u.elim
     ·rw[Rx T y.1 (by rw[D,g]) s];exact⟨h,λ_ h=>h⟩
   have l:=JS J y.2.1 y.2.2
   have O:Fr S (seen++[y]) (AY T y.1 y.2.1 y.2.2):=by
    refine⟨by rw[CX];exact hf.len,λi=>?_,λi=>?_,λz f=>?_,λi A=>?_,λi A=>?_⟩
    ·rw[l];split
     ·rename_i e;rw[e];exact hy.1.symm
     ·exact hf.ver i
    ·rw[l];split
     ·rename_i e;rw[e];exact hf.av _
     ·exact hf.av i
    ·rw[l];split
     ·rename_i e
      rcases List.mem_append.1 f with f|f
      ·exact(hy.unique (hseen z f) e.symm)
      ·simp at f;rw[f]
     ·rename_i e
      rcases List.mem_append.1 f with f|f
      ·exact hf.mem z f
      ·simp at f;exact absurd (by rw[f]) e
    ·rw[l];split
     ·rename_i e;exact absurd e.symm (A y (by simp))
     ·exact hf.other i λz f=>A z (by simp[f])
    ·rw[l];split
     ·rename_i e
      rw[e]at A ⊢;rcases hy.2 with⟨sz,e',xs,g,m⟩|⟨cs,ds,g,m,H⟩|⟨g,m⟩
      ·rw[g]at A;cases A
      ·rw[g]at A;cases A
      ·exact g.symm
     ·exact hf.keepF i A
   have Q:∀z∈seen++[y],gS S (seen++[y]) z:=by
    intro z f;rcases List.mem_append.1 f with f|f
    ·exact(hseen z f).mono λq C=>List.mem_append.2 (.inl C)
    ·simp at f;rw[f];exact hy.mono λq C=>List.mem_append.2 (.inl C)
   obtain⟨L,I,B⟩:=FZ.run_ Q hF.2 O o.1 λk hk=>hO k (o.2 k hk);exact⟨L,I,by simpa [Bh] using B⟩
theorem FZ.run(h:SimB x G β S a w){b:Bx}(c:FZ S [] b):SimB x G β (Bh b S) a w/\(∀k,OS β x (Bh b S) k->OS β x S k)/\Fr S b (Bh b S):=by
 have:=FZ.run_ (x:=x) (G:=G) (β:=β) (a:=a) (w:=w) (S:=S) (b:=b) (seen:=[]) (T:=S) (λ_ h=>by cases h) c ⟨rfl,λ_=>rfl,λ_=>rfl,(λ_ h=>by cases h),λ_ _=>rfl,λ_ _=>rfl⟩ h (λ_ h=>h)
 simpa using this
def Lk(x:Cx)(G:Nat->Prop)(β:Nat->Value)(S:AS)(a:Act)(w:World)(b:Bx)(p:(Nat->Prop)->Prop):Prop :=
 ∀B,(∀y∈b,y∈B)->Fr S B (Bh B S)->SimB x G β (Bh B S) a w->(∀k,OS β x (Bh B S) k->OS β x S k)->p (OS β x (Bh B S))
theorem Lk.mono{b c:Bx}{p q:(Nat->Prop)->Prop}(h:Lk x G β S a w b p)(d:∀y∈b,y∈c)(hp:∀O,p O->q O):Lk x G β S a w c q :=
 λB e f g hk=>hp _ (h B (λy hy=>e y (d y hy)) f g hk)
theorem Lk.and{b c:Bx}{p q:(Nat->Prop)->Prop}(h:Lk x G β S a w b p)(g:Lk x G β S a w c q):Lk x G β S a w (b++c) λO=>p O/\q O :=
 λB d e f hk=>⟨h B (λy hy=>d y (by simp[hy])) e f hk,g B (λy hy=>d y (by simp[hy])) e f hk⟩
theorem Lk.now(c:SimB x G β S a w){b:Bx}{p:(Nat->Prop)->Prop}(h:Lk x G β S a w b p)(d:FZ S [] b):p (OS β x (Bh b S)):=by
 obtain⟨e,f,g⟩:=d.run c;exact h b (λ_ h=>h) g e f
theorem JC{r:RV}{v:Value}(hr:Pa β (OS β x S) S w v r){K:D->Bx->Prop}(hy:Zd r K) :
 ∃y b,K y b/\FZ S [] b/\(∀z∈b,∃sz xs,z.2.1=.frow sz xs)/\Lk x G β S a w b λO=>Ay O w v y:=by
 cases r<;>simp only[Zd]at hy
 case d y=>exact⟨y,[],hy,trivial,(λ_ h=>by cases h),λB _ _ _ hk=>Ay.mono (BA.of_sub hk) hr⟩
 case lim sz xs=>exact⟨_,[],hy,trivial,(λ_ h=>by cases h),λB _ _ _ hk=>Ay.mono (BA.of_sub hk) hr.1⟩
 case row id n sz e xs =>
  obtain⟨g,i,j⟩:=hr;refine⟨_,_,hy,⟨⟨i,.inl ⟨sz,e,xs,g,rfl⟩⟩,trivial⟩,(λz c=>⟨sz,xs,by simp at c;subst c;rfl⟩),λB k l m _=>?_⟩;have:=l.mem (id,.frow sz xs,n) (k _ (by simp));have f:=m.boxes id;simp only at this;rw[this]at f;rw[j];exact f
theorem Vf{r:RV}{v:Value}(hr:Pa β (OS β x S) S w v r){K:D->Bx->Prop}(hy:qm r K) :
 ∃y b,K y b/\FZ S [] b/\(∀z∈b,∃sz xs,z.2.1=.frow sz xs)/\Lk x G β S a w b λO=>Ay O w v y:=by
 obtain⟨y,b,hK,d,c,e⟩:=JC (x:=x) (G:=G) (a:=a) hr hy;rw[NH]at hK;exact⟨_,b,hK,d,c,e.mono (λ_ h=>h) λO h=>h.norm⟩
theorem Kc(h:SimB x G β S a w):∀{cs:List C}{K:List D->Bx->Prop},Ea (σOf S) cs K ->
 ∃l b,K l b/\FZ S [] b/\(∀z∈b,∃sz xs,z.2.1=.frow sz xs)/\cs.length=l.length /\
  (∀(j:Nat) c y,cs[j]?=some c->l[j]?=some y->match c with
   | .d q=>y=q
   | .sl id n=>∃sz xs,y=.list sz xs/\(Ag S id).ver=n/\(((∃e,(Ag S id).box=.row sz e xs)/\(id,BJ.frow sz xs,n)∈b)\/(Ag S id).box=.frow sz xs)
   | .own _ _ _=>False) /\
  ∀vs:List Value,vs.length=cs.length->(∀(j:Nat) v c,vs[j]?=some v->cs[j]?=some c->Cj β (AH S) (OS β x S) w v c)->Lk x G β S a w b λO=>By O w vs l
 | [],K,hy=>⟨[],[],hy,trivial,(λ_ h=>by cases h),rfl,(λj c y h=>by simp at h),λvs k _ B _ _ _ _=>⟨by simpa using k,λj v y _ hy=>by simp at hy⟩⟩
 | .d q :: r,K,hy=>by
   have hy:Ea (σOf S) r λl b=>K (q :: l) b:=hy;obtain⟨l,b,hK,V,F,W,H,X⟩:=Kc h hy;refine⟨_,_,hK,V,F,by simp[W],λj c y g i=>?_,λvs k f=>?_⟩
   ·cases j with
    | zero=>simp at g i;subst g;exact i.symm
    | succ j=>exact H j c y (by simpa using g) (by simpa using i)
   ·cases vs with
    | nil=>simp at k
    | cons v vs =>
      have R:=f 0 v (.d q) rfl rfl;have hr:=X vs (by simpa using k) λj v c k H=>f (j+1) v c (by simpa using k) (by simpa using H);intro B T L I hk;have o:=hr B T L I hk;refine⟨by simp[o.1],λj u y J hy=>?_⟩
      cases j with
      | zero=>simp at J hy;subst J;subst hy;exact⟨R.1.mono (BA.of_sub hk),R.2⟩
      | succ j=>exact o.2 j u y (by simpa using J) (by simpa using hy)
 | .sl id n :: r,K,hy=>by
   simp only[Ea,σOf,res]at hy
   obtain⟨sz,xs,M,p,Y,Z⟩:∃sz xs M,((Ag S id).ver=n/\(((∃e,(Ag S id).box=.row sz e xs)/\M=[(id,BJ.frow sz xs,n)])\/((Ag S id).box=.frow sz xs/\M=[])))/\FZ S [] M/\Ea (σOf S) r λl b'=>K (.list sz xs :: l) (M++b'):=by
    generalize I:Ag S id=s at hy;obtain⟨av,B,m⟩:=s
    cases B with
    | none=>exact hy.elim
    | var cs=>exact hy.elim
    | fvar cs=>exact hy.elim
    | map es =>
      simp only at hy;split at hy<;>exact hy.elim
    | row sz e xs =>
      simp only at hy;split at hy
      ·rename_i U
       exact⟨sz,xs,_,⟨U.symm,.inl ⟨⟨e,rfl⟩,rfl⟩⟩,⟨⟨by rw[I];exact U.symm,.inl ⟨sz,e,xs,by rw[I],rfl⟩⟩,trivial⟩,hy⟩
      ·exact hy.elim
    | frow sz xs =>
      simp only at hy;split at hy
      ·rename_i U
       exact⟨sz,xs,[],⟨U.symm,.inr ⟨rfl,rfl⟩⟩,trivial,hy⟩
      ·exact hy.elim
   obtain⟨l,b,hK,V,F,W,H,X⟩:=Kc h Z;refine⟨_,_,hK,Y.append V,λz A=>?_,by simp[W],λj c y g i=>?_,λvs k f=>?_⟩
   ·rcases List.mem_append.1 A with A|A
    ·rcases p.2 with⟨_,t⟩|⟨_,t⟩
     ·rw[t]at A;simp at A;exact⟨sz,xs,by rw[A]⟩
     ·rw[t]at A;cases A
    ·exact F z A
   ·cases j with
    | zero =>
      simp at g i;subst g;refine⟨sz,xs,i.symm,p.1,?_⟩;rcases p.2 with⟨E,t⟩|⟨E,t⟩
      ·exact .inl ⟨E,by rw[t];simp⟩
      ·exact .inr E
    | succ j =>
      have:=H j c y (by simpa using g) (by simpa using i)
      cases c with
      | d q=>exact this
      | sl id' n' =>
        obtain⟨sz',xs',E,t,h3⟩:=this;exact⟨sz',xs',E,t,h3.imp (λh=>⟨h.1,by simp[h.2]⟩) (λh=>h)⟩
      | own _ _ _=>exact this
   ·cases vs with
    | nil=>simp at k
    | cons v vs =>
      have R:=f 0 v (.sl id n) rfl rfl;have hr:=X vs (by simpa using k) λj v c k H=>f (j+1) v c (by simpa using k) (by simpa using H);intro B T L I hk;have o:=hr B (λy hy=>T y (by simp[hy])) L I hk
      have N:(Ag (Bh B S) id).box=.frow sz xs:=by
       rcases p.2 with⟨_,t⟩|⟨E,t⟩
       ·exact L.mem (id,.frow sz xs,n) (T _ (by rw[t];simp))
       ·rw[L.keepF id (by rw[E];rfl)];exact E
      have Q:=I.boxes id;rw[N]at Q;have hv2:=R.2 (by simp only[AH];exact p.1.symm);refine⟨by simp[o.1],λj u y J hy=>?_⟩
      cases j with
      | zero=>simp at J hy;subst J;subst hy;rw[hv2];exact⟨Q,rfl⟩
      | succ j=>exact o.2 j u y (by simpa using J) (by simpa using hy)
 | .own _ _ _ :: _,K,hy=>hy.elim
