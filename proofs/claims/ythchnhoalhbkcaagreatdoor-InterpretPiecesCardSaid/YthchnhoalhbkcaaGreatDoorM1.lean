/- M1 -/
import Derived.Orders
import Derived.Below
import Derived.Laws.AppendOwn
import Derived.Laws.Cells
import Derived.Laws.Build
namespace Go
abbrev P2:=@List.getElem?_eq_getElem
abbrev P3:=@Option.some.inj
abbrev pX:=@List.length_map
abbrev pY:=@Nat.zero_le
abbrev pZ:=@of_decide_eq_true
abbrev qa:=@List.getElem_mem
abbrev qb:=@Nat.le_refl
abbrev qc:=@List.getD_eq_getElem?_getD
abbrev qd:=@Option.bind_some
abbrev qf:=@if_pos
abbrev qg:=@List.getElem?_append_right
abbrev qh:=@decide_eq_true
abbrev qi:=@if_neg
abbrev qj:=@List.getElem?_append_left
abbrev qk:=@List.map_cons
abbrev ql:=@List.getElem?_map
abbrev qm:=@Nat.lt_of_lt_of_le
abbrev qn:=@List.mem_of_getElem?
abbrev qo:=@List.take_succ_eq_append_getElem
abbrev qp:=@Array.getElem?_setIfInBounds_ne
abbrev qq:=@List.eq_nil_of_length_eq_zero
abbrev qt:=@Nat.le_trans
abbrev qu:=@Int.toNat_natCast
abbrev qv:=@List.getElem?_eq_none
abbrev qw:=@Nat.lt_or_ge
abbrev qx:=@List.map_append
abbrev qy:=@Nat.zero_add
abbrev qz:=@List.length_append
abbrev q7:=@List.map_set
abbrev q8:=@Array.length_toList
abbrev q9:=@cond_false
abbrev qA:=@Array.getElem?_append_left
abbrev qB:=@List.getElem?_take
abbrev qC:=@decide_eq_false
abbrev qD:=@List.getElem?_cons_succ
abbrev qE:=@List.getElem?_drop
abbrev qF:=@Nat.pow_le_pow_right
abbrev qG:=@Nat.eq_of_beq_eq_true
abbrev qH:=@List.map_nil
abbrev qI:=@Array.getD_eq_getD_getElem?
abbrev qJ:=@Array.getElem?_toList
abbrev qK:=@cond_true
abbrev qL:=@List.length_take
abbrev qM:=@Nat.mul_comm
abbrev qN:=@Array.getElem?_eq_getElem
abbrev qO:=@List.getElem?_set
abbrev qP:=@List.length_cons
abbrev qQ:=@of_decide_eq_false
abbrev qR:=@Array.getElem?_setIfInBounds
abbrev qS:=@List.take_of_length_le
abbrev qT:=@Array.getElem?_eq_none
abbrev qU:=@Nat.mul_le_mul_right
abbrev qV:=@List.mem_of_mem_take
abbrev qW:=@Nat.two_pow_pos
abbrev qX:=@Bool.and_eq_true
abbrev qY:=@Nat.add_zero
abbrev qZ:=@Bool.false_eq_true
abbrev ra:=@List.getElem?_take_of_lt
abbrev re:=@Nat.add_mul
abbrev rf:=@List.flatMap_cons
abbrev rh:=@List.mem_cons_of_mem
abbrev ri:=@List.mem_of_mem_drop
abbrev rj:=@List.length_drop
abbrev rk:=@Int.le_refl
abbrev rl:=@List.length_filter_le
abbrev rp:=@Int.sign_eq_neg_one_of_neg
abbrev rq:=@Array.toList_setIfInBounds
abbrev rr:=@Nat.mul_assoc
abbrev rt:=@Option.getD_some
abbrev ru:=@Nat.le_of_eq
abbrev rx:=@Nat.lt_succ_self
abbrev ry:=@Nat.mul_one
abbrev rz:=@Nat.pow_add
abbrev r7:=@List.ext_getElem?
abbrev r9:=@List.size_toArray
abbrev rA:=@List.eq_of_mem_replicate
abbrev rB:=@Nat.min_eq_left
abbrev rC:=@List.mem_append
abbrev rD:=@List.mem_cons_self
abbrev rE:=@Nat.mod_eq_of_lt
abbrev rF:=@List.take_length
abbrev rG:=@List.mem_flatMap
abbrev rH:=@Array.getElem?_append_right
abbrev rI:=@List.length_nil
abbrev rJ:=@List.getElem?_toArray
abbrev rK:=@Option.isSome_none
abbrev rL:=@Nat.gcd_pos_of_pos_left
abbrev rM:=@List.getElem?_cons_zero
abbrev rN:=@List.append_assoc
abbrev rO:=@Option.map_some
abbrev rP:=@Nat.mul_le_mul_left
abbrev rQ:=@List.all_eq_true
abbrev rR:=@List.mem_singleton
abbrev rS:=@Nat.div_lt_iff_lt_mul
abbrev rT:=@List.length_mergeSort
abbrev rU:=@Array.getElem?_modify
abbrev rV:=@List.length_replicate
abbrev rW:=@List.findIdx?_eq_some_iff_getElem
abbrev rX:=@Nat.div_add_mod
abbrev rY:=@List.append_nil
abbrev rZ:=@Nat.not_lt_zero
abbrev sa:=@Nat.lt_trichotomy
abbrev sc:=@List.nodup_append
abbrev sd:=@List.getElem_take
abbrev se:=@Nat.mod_lt
abbrev sf:=@List.mem_cons
abbrev si:=@List.getElem?_range
abbrev sj:=@List.getElem?_replicate
abbrev sk:=@beq_self_eq_true
abbrev so:=@List.take_append_of_le_length
abbrev sp:=@Int.sign_eq_one_of_pos
abbrev sq:=@Nat.gcd_comm
abbrev sr:=@Int.natCast_nonneg
abbrev su:=@List.find?_eq_none
abbrev sw:=@Int.emod_lt_of_pos
abbrev sx:=@List.length_set
abbrev sy:=@Nat.mul_le_mul
abbrev s3:=@List.take_left
abbrev s4:=@List.mapM_cons
abbrev s7:=@List.cons_append
abbrev s9:=@Array.toList_map
abbrev sA:=@List.filter_cons
abbrev sB:=@List.not_mem_nil
abbrev sD:=@List.drop_eq_getElem_cons
abbrev sE:=@Array.mapM_eq_mapM_toList
abbrev sF:=@List.mem_map_of_mem
abbrev sG:=@List.flatMap_append
abbrev sH:=@Nat.div_le_self
abbrev sI:=@List.count_cons
abbrev sJ:=@List.nodup_cons
abbrev sK:=@Int.emod_nonneg
abbrev sL:=@Int.natAbs_natCast
abbrev sM:=@Array.getElem?_map
abbrev sN:=@Array.empty_append
abbrev sO:=@Nat.add_sub_cancel
abbrev sP:=@Nat.le_mul_of_pos_right
abbrev sQ:=@Nat.mul_div_cancel_left
abbrev sR:=@eq_of_beq
abbrev sS:=@Nat.pow_succ
abbrev sT:=@Nat.div_div_eq_div_mul
abbrev sU:=@Nat.le_mul_of_pos_left
abbrev sV:=@List.any_eq_false
abbrev sW:=@List.drop_eq_nil_of_le
abbrev sX:=@Array.size_append
abbrev sY:=@Bool.not_eq_true'
abbrev sZ:=@Nat.le_div_iff_mul_le
abbrev ta:=@List.take_append_drop
abbrev tb:=@List.any_eq_true
abbrev tc:=@Nat.mul_mod
end Go
set_option linter.unusedVariables false
set_option linter.unusedSimpArgs false
namespace Go.Proofs.YthchnhoalhbkcaaGreatDoor.P
def idx{α:Type}(l:List α)(i:Int):Option α:=if 0<=i then l[i.toNat]? else none
def rm(n m:Nat):Bool:=decide (n+m<=137438953472)
def iter{σ ρ:Type}(body:(σ->Option ρ)->σ->Option ρ):Nat->σ->Option ρ
 | 0,_=>none
 | n+1,s=>body (iter body n) s
def AD:Nat:=36893488147419103232
theorem Vi{α ρ:Type}{m:Option α}{G:α->Option ρ}{R:ρ}(h:m.bind G=some R):∃x,m=some x/\G x=some R:=by
 cases m with
 | none=>cases h
 | some x=>exact⟨x,rfl,h⟩
theorem Vv{ρ:Type}{b:Bool}{X:Option ρ}{R:ρ}(h:(bif b then X else none)=some R):b=true/\X=some R:=by
 cases b with
 | true=>exact⟨rfl,h⟩
 | false=>cases h
theorem Q1{α:Type}{l:List α}{i:Int}{x:α}(h:idx l i=some x):0<=i/\i.toNat<l.length/\l[i.toNat]?=some x:=by
 unfold idx at h;split at h
 ·rename_i h0
  exact⟨h0,(List.getElem?_eq_some_iff.1 h).1,h⟩
 ·cases h
theorem mZ{σ ρ:Type}{body:(σ->Option ρ)->σ->Option ρ}{n:Nat}{s:σ}{R:ρ}(h:iter body n s=some R) :
 ∃Φ:Nat->σ->Option ρ,(∀k s,Φ k s=some R->∃k',k=k'+1/\body (Φ k') s=some R)/\Φ n s=some R:=by
 refine⟨iter body,λk s h=>?_,h⟩
 cases k with
 | zero=>cases h
 | succ k=>exact⟨k,rfl,h⟩
theorem Bp{α ρ:Type}{m:Option α}{G:α->Option ρ}{R:ρ}{p:Prop}(h:m.bind G=some R)(k:∀x,m=some x->G x=some R->p):p:=by
 obtain⟨x,h1,h2⟩:=Vi h;exact k x h1 h2
theorem Te{ρ:Type}{b:Bool}{X:Option ρ}{R:ρ}{p:Prop}(h:(bif b then X else none)=some R)(k:b=true->X=some R->p):p:=k (Vv h).1 (Vv h).2
theorem GN{σ ρ:Type}{body:(σ->Option ρ)->σ->Option ρ}{n:Nat}{s:σ}{R:ρ}{p:Prop}(h:iter body n s=some R)
 (k:∀Φ:Nat->σ->Option ρ,(∀k s,Φ k s=some R->∃k',k=k'+1/\body (Φ k') s=some R)->Φ n s=some R->p):p:=by
 obtain⟨Φ,h1,h2⟩:=mZ h;exact k Φ h1 h2
end Go.Proofs.YthchnhoalhbkcaaGreatDoor.P
namespace Go.Abs
def H1:List Int:=[0,1,56,2,57,49,28,3,61,58,42,50,38,29,17,4,62,47,59,36,45,43,51,22,53,39,33,30,24,18,12,5,63,55,48,27,60,41,37,16,46,35,44,21,52,32,23,11,54,26,40,15,34,20,31,10,25,14,19,9,13,8,7,6]
def fj:Nat->Option (List Int)
 | 2=>some H1
 | _=>none
inductive D where
 | bool (b:Bool)
 | int (k:IntKind) (n:Int)
 | str (s:ByteArray)
 | fn (f:FuncId) (caps:List D)
 | ptr (cs:List D)
 | nil (sz:Nat)
 | list (sz:Nat) (xs:List D)
 | agg (xs:List D)
def lW(g:Nat):Option (List D):=match fj g with
 | some l=>some (l.map λn=>D.int .u8 n)
 | none=>none
def D.cells:D->List D
 | .agg xs=>xs
 | x=>[x]
def D.one:D->Bool
 | .agg _=>false
 | _=>true
def D.bare:D->Bool
 | .bool _|.int _ _|.str _|.nil _|.fn _ []=>true
 | _=>false
inductive C where
 | d (x:D)
 | sl (id ver:Nat)
 | own (sz:Nat) (e:TypeId) (xs:List D)
inductive AV where
 | any
 | bot
 | d (x:D)
 | lim (sz:Nat) (xs:List D)
 | ptr (id ver off:Nat)
 | sl (id ver:Nat)
 | eptr (id ver sz i off:Nat)
 | tup (xs:List C)
 | own (sz:Nat) (e:TypeId) (xs:List D)
 | optr (cs:List D)
 | under (t:Nat) (want:Bool) (x:AV)
 | cc (k:Option FuncId) (xs:List C)
inductive B6 where
 | none
 | var (cs:List C)
 | row (sz:Nat) (e:TypeId) (xs:List D)
 | fvar (cs:List D)
 | frow (sz:Nat) (xs:List D)
 | map (es:List (D×D))
structure Sl where
 av:AV
 box:B6
 ver:Nat
abbrev AS:=List Sl
def Ac:Value->Option Nat
 | .pointer (some a)=>some a.block
 | .slice (some a) _ cap=>if cap=0 then none else some a.block
 | .map (some b)=>some b
 | .agg vs=>match vs.back? with
   | some (.slice (some a) _ cap)=>if cap=0 then none else some a.block
   | _=>none
 | _=>none
def Pq:Value->Value
 | .agg vs=>match vs.back? with
   | some u=>u
   | none=>undef
 | v=>v
def RE:Value->Nat
 | .slice _ _ c=>c
 | _=>0
inductive Aw(O:Nat->Prop)(w:World):Value->D->Prop
 | bool (b:Bool):Aw O w (.bool b) (.bool b)
 | int (k:IntKind) (n:Int):Aw O w (.int k n) (.int k n)
 | str (s:ByteArray):Aw O w (.string s) (.str s)
 | fn (f:FuncId) (vs:Array Value) (xs:List D) (hl:vs.size=xs.length) (h1:∀x∈xs,x.one=true)
  (h:∀(i:Nat) v x,vs[i]?=some v->xs[i]?=some x->Aw O w v x):Aw O w (.func (.func f) #[] vs) (.fn f xs)
 | ptr (b off:Nat) (cs:List D) (c:Nat->Value) (hb:cs≠[]->b<w.heap.size) (hO:cs≠[]->¬O b) (h1:∀x∈cs,x.one=true)
  (hcell:∀(j:Nat) y,cs[j]?=some y->w.cell? ⟨b,off+j,none⟩=some (c j))
  (h:∀(j:Nat) y,cs[j]?=some y->Aw O w (c j) y):Aw O w (.pointer (some ⟨b,off,none⟩)) (.ptr cs)
 | agg (vs:Array Value) (xs:List D) (hl:vs.size=xs.length) (h1:∀x∈xs,x.one=true)
  (h:∀(i:Nat) v x,vs[i]?=some v->xs[i]?=some x->Aw O w v x):Aw O w (.agg vs) (.agg xs)
 | nil (a:Option Addr) (sz:Nat):Aw O w (.slice a 0 0) (.nil sz)
 | emp (a:Option Addr) (cap sz:Nat):Aw O w (.slice a 0 cap) (.list sz [])
 | list (b off cap sz:Nat) (xs:List D) (c:Nat->Nat->Value) (hne:xs≠[]) (hb:b<w.heap.size) (hO:¬O b) (hcap:xs.length<=cap) (hsz:∀x∈xs,x.cells.length=sz)
  (h1:∀x∈xs,∀y∈x.cells,y.one=true)
  (hcell:∀(i:Nat) x (j:Nat) y,xs[i]?=some x->x.cells[j]?=some y->w.cell? ⟨b,off+i*sz+j,none⟩=some (c i j))
  (h:∀(i:Nat) x (j:Nat) y,xs[i]?=some x->x.cells[j]?=some y->Aw O w (c i j) y) :
  Aw O w (.slice (some ⟨b,off,none⟩) xs.length cap) (.list sz xs)
def Oq(O:Nat->Prop)(w:World):Prop:=∀g cs,lW g=some cs->Aw O w (.pointer (some ⟨g,0,none⟩)) (.ptr cs)
def Bl(O:Nat->Prop)(w:World)(vs:List Value)(ys:List D):Prop :=
 vs.length=ys.length/\∀(j:Nat) v y,vs[j]?=some v->ys[j]?=some y->Aw O w v y/\y.one=true
def BQ(β:Nat->Value)(ver:Nat->Nat)(O:Nat->Prop)(w:World)(v:Value):C->Prop
 | .d x=>Aw O w v x/\x.one=true
 | .sl id n=>n<=ver id/\(n=ver id->v=β id)
 | .own _ _ _=>False
def pT(k:Option FuncId)(vs:Array Value):Value :=
 match k with
 | none=>.agg vs
 | some f=>.func (.func f) #[] vs
def JB(β:Nat->Value)(ver:Nat->Nat)(O:Nat->Prop)(w:World)(tm:Array Value)(v:Value):AV->Prop
 | .any=>True
 | .bot=>False
 | .d x=>Aw O w v x
 | .lim sz xs=>Aw O w v (.list sz xs)/\RE v=xs.length
 | .ptr id n o=>n<=ver id/\(n=ver id->∃b,β id=.pointer (some ⟨b,0,none⟩)/\v=.pointer (some ⟨b,o,none⟩))
 | .sl id n=>n<=ver id/\(n=ver id->v=β id)
 | .eptr id n sz i o=>n<=ver id/\(n=ver id->∃b m cap,β id=.slice (some ⟨b,0,none⟩) m cap/\v=.pointer (some ⟨b,i*sz+o,none⟩))
 | .tup xs=>∃vs:Array Value,v=.tuple vs/\vs.size=xs.length/\∀(i:Nat) u x,vs[i]?=some u->xs[i]?=some x->match x with
  | .d y=>Aw O w u y
  | c=>BQ β ver O w u c
 | .own _ _ _=>False
 | .optr _=>False
 | .under t want x=>(tm[t]?=some (.bool want)->JB β ver O w tm v x)/\(tm[t]?≠some (.bool want)->v=undef)
 | .cc k xs=>∃vs:Array Value,v=pT k vs/\vs.size=xs.length/\∀(i:Nat) u x,vs[i]?=some u->xs[i]?=some x->BQ β ver O w u x/\u.oneCell'=true
def Bj(w:World)(e:TypeId)(sz:Nat)(v:Value)(n:Nat)(vals:List Value):Prop :=
 w.ownsRow 0 e sz v n vals\/(n=0/\vals=[]/\∃a,v=.slice (some a) 0 0)
def I3(β:Nat->Value)(ver:Nat->Nat)(O:Nat->Prop)(w:World)(id:Nat):B6->Prop
 | .none=>True
 | .var cs=>∃b vals T,β id=.pointer (some ⟨b,0,none⟩)/\w.heap[b]?=some (.cells vals T (0,0))/\vals.size=cs.length/\∀(j:Nat) v c,vals[j]?=some v->cs[j]?=some c->BQ β ver O w v c
 | .row sz e xs=>0<sz/\(∀x∈xs,x.cells.length=sz)/\∃vals,Bj w e sz (β id) xs.length vals/\Bl O w vals (xs.flatMap D.cells)
 | .fvar cs=>Aw O w (β id) (.ptr cs)/\∃b,β id=.pointer (some ⟨b,0,none⟩)
 | .frow sz xs=>Aw O w (β id) (.list sz xs)
 | .map es=>∃(b:Nat)(vs:Array MapEntry)(clock:Nat),β id=.map (some b)/\w.heap[b]?=some (.map vs clock)/\vs.size=es.length /\
  ∀(i:Nat)(e:MapEntry)(p:D×D),vs[i]?=some e->es[i]?=some p->Aw O w e.key p.1/\Aw O w e.val p.2/\p.1.bare=true/\p.2.bare=true
def B6.owned:B6->Bool
 | .var _|.row _ _ _|.map _=>true
 | _=>false
def Ot(O:Nat->Prop)(w:World)(v:Value):AV->Prop
 | .any=>True
 | .d x=>Aw O w v x
 | .lim sz xs=>Aw O w v (.list sz xs)/\RE v=xs.length
 | _=>False
def Uw(mine:Nat->Prop)(w:World)(v:Value)(sz:Nat)(e:TypeId)(xs:List D):Prop :=
 0<sz/\(∀x∈xs,x.cells.length=sz)/\(∀b,Ac v=some b->mine b)/\∃vals,Bj w e sz v xs.length vals/\Bl (λ_=>True) w vals (xs.flatMap D.cells)
def cH(O:Nat->Prop)(w:World)(v:Value)(cs:List D):Prop :=
 ∃b vals T,v=.pointer (some ⟨b,0,none⟩)/\w.heap[b]?=some (.cells vals T (0,0))/\Bl O w vals.toList cs
def Dw(v:Value)(r:AV)(b:Nat):Prop :=
 match r with
 | .own _ _ _|.optr _=>Ac v=some b
 | .tup xs=>∃(vs:Array Value)(i:Nat)(u:Value)(sz:Nat)(e:TypeId)(ys:List D),v=.tuple vs/\vs[i]?=some u/\xs[i]?=some (.own sz e ys)/\Ac u=some b
 | .cc _ _=>Ac v=some b
 | _=>False
def Tj(mine O:Nat->Prop)(w:World)(v:Value):List C->Prop
 | [.own sz e xs]=>0<sz/\(∀x∈xs,x.cells.length=sz)/\(∀b,Ac v=some b->mine b)/\∃vals,Bj w e sz v xs.length vals/\Bl (λb=>O b\/Ac v=some b) w vals (xs.flatMap D.cells)
 | _=>False
def CK(mine O:Nat->Prop)(w:World)(v:Value)(r:AV):Prop :=
 match r with
 | .own sz e xs=>Uw mine w v sz e xs
 | .cc _ l=>Tj mine O w v l
 | .optr cs=>(∀b,Ac v=some b->mine b)/\cH (λb=>O b\/Ac v=some b) w v cs
 | .tup xs=>∃vs:Array Value,v=.tuple vs/\vs.size=xs.length/\(∀(i:Nat) u x,vs[i]?=some u->xs[i]?=some x->match x with
  | .d y=>Aw (λb=>O b\/Dw v (.tup xs) b) w u y
  | .own sz e ys=>Uw mine w u sz e ys
  | .sl _ _=>False) /\
  ∀(i j:Nat) u u' sz e ys sz' e' ys' b,vs[i]?=some u->vs[j]?=some u'->xs[i]?=some (.own sz e ys)->xs[j]?=some (.own sz' e' ys')->Ac u=some b->Ac u'=some b->i=j
 | x=>Ot O w v x
def EG(P:Program)(f:FuncId):Bool :=
 match P.funcs[f]? with
 | some fn=>!(fn.name == "runtime.NumGoroutine")&&fn.body.isSome
 | none=>false
def Ax(P:Program)(f:FuncId)(args:List AV)(r:AV):Prop :=
 EG P f=true/\∀(O:Nat->Prop)(w:World)(vs:Array Value),(∀b,O b->b<w.heap.size)->Oq O w->vs.size=args.length ->
  (∀(i:Nat) v x,vs[i]?=some v->args[i]?=some x->Ot O w v x) ->
  Calls P f vs w λe w'=>∃v,e=.returned v/\RowKit.Below w.heap.size w w'/\CK (λb=>w.heap.size<=b) O w' v r
structure A7(B:Nat)(M:Nat->Prop)(w w':World):Prop where
 os:w'.os=w.os
 tape:w'.tape=w.tape
 output:w'.output=w.output
 size:w.heap.size<=w'.heap.size
 block:∀k,k<B->¬M k->w'.heap[k]?=w.heap[k]?
def AV.mut:AV->Bool
 | .own _ _ _|.optr _|.cc _ _=>true
 | _=>false
def iJ(w:World)(O:Nat->Prop)(v:Value)(l:List C)(vs:Array Value)(u:Value)(ds:List D)(sz:Nat)(e:TypeId)(xs:List D):Prop :=
 l=ds.map .d++[.own sz e xs]/\v=.agg (vs.push u)/\vs.size=ds.length/\0<sz/\(∀x∈xs,x.cells.length=sz)/\∃vals,Bj w e sz u xs.length vals/\Bl O w vals (xs.flatMap D.cells)
def ZX(O:Nat->Prop)(w:World)(v:Value):AV->Prop
 | .own sz e xs=>0<sz/\(∀x∈xs,x.cells.length=sz)/\∃vals,Bj w e sz v xs.length vals/\Bl O w vals (xs.flatMap D.cells)
 | .optr cs=>cH O w v cs
 | .cc k l=>k=none/\∃vs u ds sz e xs,iJ w O v l vs u ds sz e xs/\Bl O w vs.toList ds
 | x=>Ot O w v x
def Hl(vs:Array Value)(args:List AV)(b:Nat):Prop:=∃(i:Nat)(v:Value)(x:AV),vs[i]?=some v/\args[i]?=some x/\x.mut=true/\Ac v=some b
def Qh(O:Nat->Prop)(w:World)(v:Value)(x:AV):AV->Prop
 | .own sz e ys=>ZX O w v (.own sz e ys)/\∃xs,x=.own sz e xs
 | .optr cs=>ZX O w v (.optr cs)/\∃cs',x=.optr cs'/\cs.length=cs'.length
 | .cc _ l=>∃vs u ds sz e xs,iJ w O v l vs u ds sz e xs
 | _=>True
def Dl(P:Program)(f:FuncId)(args outs:List AV)(r:AV):Prop :=
 EG P f=true/\outs.length=args.length/\∀(O:Nat->Prop)(w:World)(vs:Array Value),(∀b,O b->b<w.heap.size)->Oq (λb=>O b\/Hl vs args b) w->vs.size=args.length->(∀b,Hl vs args b->¬O b) ->
  (∀(i j:Nat) v v' x y b,vs[i]?=some v->vs[j]?=some v'->args[i]?=some x->args[j]?=some y->x.mut=true->y.mut=true->Ac v=some b->Ac v'=some b->i=j) ->
  (∀(i:Nat) v x,vs[i]?=some v->args[i]?=some x->ZX (λb=>O b\/Hl vs args b) w v x) ->
  Calls P f vs w λe w'=>∃v,e=.returned v/\A7 w.heap.size (Hl vs args) w w' /\
   CK (λb=>w.heap.size<=b\/(Hl vs args b/\¬Hl vs outs b)) (λb=>O b\/Hl vs outs b) w' v r /\
   ∀(i:Nat) u x y,vs[i]?=some u->args[i]?=some x->outs[i]?=some y->Qh (λb=>O b\/Hl vs outs b\/Dw v r b) w' u x y
def eG(P:Program)(f:FuncId)(args:List AV)(r:AV):Prop :=
 ∀(O:Nat->Prop)(w:World)(vs:Array Value),vs.size=args.length->(∀(i:Nat) v x,vs[i]?=some v->args[i]?=some x->Ot O w v x) ->
  ∃v,(callFunc f vs).run P w=.ok (.value v) w/\CK (λb=>w.heap.size<=b) O w v r
def Vh(b:Bool)(x y:Prop):Prop:=Bool.rec (motive:=λ_=>Prop) y x b
theorem br{b:Bool}{x y:Prop}(h1:b=true->x)(h2:b=false->y):Bool.rec (motive:=λ_=>Prop) y x b:=by
 cases b
 ·exact h2 rfl
 ·exact h1 rfl
theorem Vh.pos{b:Bool}{x y:Prop}(h:Vh b x y)(hb:b=true):x:=by subst hb;exact h
theorem Vh.neg{b:Bool}{x y:Prop}(h:Vh b x y)(hb:b=false):y:=by subst hb;exact h
structure JA(p:Prop)(k:Prop):Prop where
 need:p
 then_:k
def iK(P:Program)(f:FuncId)(nils:List Nat)(args:List AV)(r:AV):Prop :=
 EG P f=true/\∀(O:Nat->Prop)(w:World)(vs:Array Value),(∀b,O b->b<w.heap.size)->Oq O w->vs.size=args.length->(∀i∈nils,vs[i]?=some (.slice none 0 0)) ->
  (∀(i:Nat) v x,vs[i]?=some v->args[i]?=some x->Ot O w v x) ->
  Calls P f vs w λe w'=>∃v,e=.returned v/\RowKit.Below w.heap.size w w'/\CK (λb=>w.heap.size<=b) O w' v r
structure Hs(P:Program)(f:FuncId)(nils:List Nat)(args:List AV)(K:AV->Prop)(margs:List AV)(KM:List AV->AV->Prop):Prop where
 go:(∃r,(Ax P f args r\/eG P f args r\/iK P f nils args r)/\K r)\/∃outs r,Dl P f margs outs r/\KM outs r
theorem A0{P:Program}{f:FuncId}{nils:List Nat}{args margs:List AV}{K:AV->Prop}{KM:List AV->AV->Prop}{r:AV}(c:Ax P f args r)(k:K r):Hs P f nils args K margs KM:=⟨.inl ⟨r,.inl c,k⟩⟩
theorem jd{P:Program}{f:FuncId}{nils:List Nat}{args margs:List AV}{K:AV->Prop}{KM:List AV->AV->Prop}{r:AV}(c:eG P f args r)(k:K r):Hs P f nils args K margs KM:=⟨.inl ⟨r,.inr (.inl c),k⟩⟩
theorem oI{P:Program}{f:FuncId}{nils:List Nat}{args margs:List AV}{K:AV->Prop}{KM:List AV->AV->Prop}{r:AV}(c:iK P f nils args r)(k:K r):Hs P f nils args K margs KM:=⟨.inl ⟨r,.inr (.inr c),k⟩⟩
theorem Hm{P:Program}{f:FuncId}{nils:List Nat}{args margs outs:List AV}{K:AV->Prop}{KM:List AV->AV->Prop}{r:AV}(c:Dl P f margs outs r)(k:KM outs r):Hs P f nils args K margs KM:=⟨.inr ⟨outs,r,c,k⟩⟩
def UZ(P:Program)(f:FuncId)(args:List AV)(k sz:Nat)(e:TypeId)(xs ys:List D):Prop :=
 EG P f=true/\∀(O:Nat->Prop)(w:World)(vs:Array Value)(b:Nat)(u:Value)(T:TypeId),
  (∀c,O c->c<w.heap.size)->Oq (λc=>O c\/c=b\/Ac u=some c) w->vs.size=args.length->vs[k]?=some (.pointer (some ⟨b,0,none⟩)) ->
  w.heap[b]?=some (.cells #[u] T (0,0))->¬O b->(∀c,Ac u=some c->¬O c/\c≠b)->0<sz->(∀x∈xs,x.cells.length=sz) ->
  (∃vals,Bj w e sz u xs.length vals/\Bl (λc=>O c\/c=b\/Ac u=some c) w vals (xs.flatMap D.cells)) ->
  (∀(i:Nat) v x,vs[i]?=some v->args[i]?=some x->Ot (λc=>O c\/c=b\/Ac u=some c) w v x) ->
  Calls P f vs w λe' w'=>∃v u' T',e'=.returned v/\A7 w.heap.size (λc=>c=b\/Ac u=some c) w w' /\
   w'.heap[b]?=some (.cells #[u'] T' (0,0))/\(∀c,Ac u'=some c->Ac u=some c\/w.heap.size<=c)/\(∀x∈ys,x.cells.length=sz) /\
   ∃vals,Bj w' e sz u' ys.length vals/\Bl (λc=>O c\/c=b\/Ac u'=some c) w' vals (ys.flatMap D.cells)
structure ZZ(P:Program)(f:FuncId)(args:List AV)(k sz:Nat)(e:TypeId)(xs:List D)(K:List D->Prop):Prop where
 go:∃ys,UZ P f args k sz e xs ys/\K ys
theorem Vk{P:Program}{f:FuncId}{args:List AV}{k sz:Nat}{e:TypeId}{xs ys:List D}{K:List D->Prop}(c:UZ P f args k sz e xs ys)(h:K ys):ZZ P f args k sz e xs K:=⟨⟨ys,c,h⟩⟩
def FL(vals:Array Value)(cs:List C)(c:Nat):Prop :=
 ∃(j:Nat)(u:Value)(sz:Nat)(e:TypeId)(xs:List D),vals[j]?=some u/\cs[j]?=some (.own sz e xs)/\Ac u=some c
def pr(O:Nat->Prop)(w:World)(v:Value):C->Prop
 | .d x=>Aw O w v x/\x.one=true
 | .own sz e xs=>0<sz/\(∀x∈xs,x.cells.length=sz)/\∃rv,Bj w e sz v xs.length rv/\Bl O w rv (xs.flatMap D.cells)
 | .sl _ _=>False
structure iP(O:Nat->Prop)(w:World)(b:Nat)(cs:List C)(vals:Array Value):Prop where
 cells:∃T,w.heap[b]?=some (.cells vals T (0,0))
 size:vals.size=cs.length
 rep:∀(j:Nat) v c,vals[j]?=some v->cs[j]?=some c->pr O w v c
 ne:∀c,FL vals cs c->c≠b
 inj:∀(i j:Nat) u u' sz e xs sz' e' xs' c,vals[i]?=some u->vals[j]?=some u'->cs[i]?=some (.own sz e xs)->cs[j]?=some (.own sz' e' xs')->Ac u=some c->Ac u'=some c->i=j
def oC(P:Program)(f:FuncId)(args:List AV)(k:Nat)(cs cs':List C)(r:D):Prop :=
 EG P f=true/\∀(O:Nat->Prop)(w:World)(vs:Array Value)(b:Nat)(vals:Array Value),
  (∀c,O c->c<w.heap.size)->Oq (λc=>O c\/c=b\/FL vals cs c) w->vs.size=args.length->vs[k]?=some (.pointer (some ⟨b,0,none⟩)) ->
  iP (λc=>O c\/c=b\/FL vals cs c) w b cs vals->(∀c,c=b\/FL vals cs c->¬O c) ->
  (∀(i:Nat) v x,vs[i]?=some v->args[i]?=some x->Ot (λc=>O c\/c=b\/FL vals cs c) w v x) ->
  Calls P f vs w λe w'=>∃v vals',e=.returned v/\A7 w.heap.size (λc=>c=b\/FL vals cs c) w w'/\iP (λc=>O c\/c=b\/FL vals' cs' c) w' b cs' vals' /\
   (∀c,FL vals' cs' c->FL vals cs c\/w.heap.size<=c)/\Aw (λc=>O c\/c=b\/FL vals' cs' c) w' v r
structure iL(P:Program)(f:FuncId)(args:List AV)(k:Nat)(cs:List C)(K:List C->D->Prop):Prop where
 go:∃cs' r,oC P f args k cs cs' r/\K cs' r
structure At(xs:List D)(i:Int)(K:D->Prop):Prop where
 go:0<=i/\∃x,xs[i.toNat]?=some x/\K x
structure Sz(x y:Prop):Prop where
 go:x\/y
structure mO(K:List (Nat×Nat)->Prop):Prop where
 go:∃hs,K hs
structure mP(xs:List D)(K:Bool->Prop):Prop where
 go:∀b:Bool,(xs≠[]->b=false)->K b
def cF:Sl:=⟨.any,.none,0⟩
def Af:AS->Nat->Sl
 | [],_=>cF
 | s :: _,0=>s
 | _ :: r,n+1=>Af r n
def Fb:AS->Nat->AV->AS
 | [],_,_=>[]
 | s :: r,0,v=>⟨v,s.box,s.ver⟩ :: r
 | s :: r,n+1,v=>s :: Fb r n v
def AQ:AS->Nat->B6->Nat->AS
 | [],_,_,_=>[]
 | s :: r,0,b,n=>⟨s.av,b,n⟩ :: r
 | s :: r,k+1,b,n=>s :: AQ r k b n
inductive RV where
 | any
 | bot
 | d (x:D)
 | lim (sz:Nat) (xs:List D)
 | vptr (id ver off:Nat) (cs:List C)
 | row (id ver sz:Nat) (e:TypeId) (xs:List D)
 | eptr (id ver sz:Nat) (e:TypeId) (xs:List D) (i off:Nat)
 | tup (xs:List C)
 | mp (id ver:Nat) (es:List (D×D))
 | cagg (xs:List C)
 | cfun (f:FuncId) (xs:List C)
 | clo (f:FuncId) (cs:List C) (k id ver rid rver:Nat)
def dQ:List C->Option (Nat×Nat×Nat)
 | []=>none
 | .sl id n :: _=>some (0,id,n)
 | _ :: r=>match dQ r with
   | some (k,id,n)=>some (k+1,id,n)
   | none=>none
def cN:Value->AV
 | .int k n=>.d (.int k n)
 | .bool b=>.d (.bool b)
 | .string s=>.d (.str s)
 | .slice none 0 0=>.d (.nil 0)
 | _=>.any
def ev(S:AS):Operand->AV
 | .tmp t=>(Af S t).av
 | .const v=>cN v
 | .func f=>.d (.fn f [])
 | .global g=>match lW g with
   | some cs=>.d (.ptr cs)
   | none=>.any
def o0(g:Option (Nat×Bool)):AV->AV
 | .under t w y=>match g with
   | some (t',w')=>if t=t'/\w=w' then y else .any
   | none=>.any
 | x=>x
def res(S:AS):AV->RV
 | .any=>.any
 | .bot=>.bot
 | .d x=>.d x
 | .lim sz xs=>.lim sz xs
 | .tup xs=>.tup xs
 | .ptr id n o=>match Af S id with
   | ⟨_,.var cs,m⟩=>if n=m then .vptr id n o cs else .any
   | ⟨_,.fvar cs,m⟩=>if n=m then .d (.ptr (cs.drop o))else .any
   | _=>.any
 | .sl id n=>match Af S id with
   | ⟨_,.row sz e xs,m⟩=>if n=m then .row id n sz e xs else .any
   | ⟨_,.frow sz xs,m⟩=>if n=m then .d (.list sz xs)else .any
   | ⟨_,.map es,m⟩=>if n=m then .mp id n es else .any
   | _=>.any
 | .eptr id n sz i o=>match Af S id with
   | ⟨_,.row sz' e xs,m⟩=>if n=m/\sz=sz' then .eptr id n sz e xs i o else .any
   | _=>.any
 | .own _ _ _=>.any
 | .optr _=>.any
 | .under _ _ _=>.any
 | .cc k xs=>match k with
   | none=>.cagg xs
   | some f=>match dQ xs with
     | some (j,id,n)=>match Af S id with
       | ⟨_,.var [.sl rid rn],m⟩=>if n=m then .clo f xs j id n rid rn else .cfun f xs
       | _=>.cfun f xs
     | none=>.cfun f xs
def AV.guards:AV->List Nat
 | .under t _ x=>t :: x.guards
 | _=>[]
def AG(S:AS)(i:Nat):Nat:=(Af S i).ver
structure Cx where
 base:Nat
 M:Nat->Prop
 O:Nat->Prop
 R:Nat->Prop
 w₀:World
 ini:Nat->Value
 glob:Oq (λb=>O b\/base<=b\/M b) w₀
def Cx.mine(x:Cx)(b:Nat):Prop:=x.base<=b\/x.M b
def Cx.less(x:Cx)(R:Nat->Prop):Cx:={ x with R:=R }
def OS(β:Nat->Value)(x:Cx)(S:AS)(b:Nat):Prop:=x.O b\/x.R b\/∃i,(Af S i).box.owned=true/\Ac (β i)=some b
structure SimB(x:Cx)(G:Nat->Prop)(β:Nat->Value)(S:AS)(a:Act)(w:World):Prop where
 len:a.tmps.size=S.length
 df:a.defers=[]
 below:A7 x.base x.M x.w₀ w
 hbase:x.base<=w.heap.size
 o₀:∀b,x.O b->b<x.base/\¬x.M b
 rs:∀b,x.R b->x.mine b/\b<w.heap.size
 slots:∀(t:Nat) v,a.tmps[t]?=some v->JB β (AG S) (OS β x S) w a.tmps v (Af S t).av
 boxes:∀i,I3 β (AG S) (OS β x S) w i (Af S i).box
 mine:∀i b,(Af S i).box.owned=true->Ac (β i)=some b->x.mine b/\¬x.R b
 inj:∀i j b,(Af S i).box.owned=true->(Af S j).box.owned=true->Ac (β i)=some b->Ac (β j)=some b->i=j
 gds:∀t,∀u∈(Af S t).av.guards,G u
 ini:∀i,(Af S i).ver=0->(Af S i).box≠.none->β i=x.ini i
structure GJ where
 av:AV
 bx:List (Nat×B6×Nat)
 homes:List (Nat×Nat)
abbrev Bx:=List (Nat×B6×Nat)
def back:RV->AV
 | .any=>.any
 | .bot=>.bot
 | .d x=>.d x
 | .lim sz xs=>.lim sz xs
 | .vptr id n o _=>.ptr id n o
 | .row id n _ _ _=>.sl id n
 | .eptr id n sz _ _ i o=>.eptr id n sz i o
 | .tup xs=>.tup xs
 | .mp id n _=>.sl id n
 | .cagg xs=>.cc none xs
 | .cfun f cs=>.cc (some f) cs
 | .clo f cs _ _ _ _ _=>.cc (some f) cs
def G3:Nat->(Nat->Prop)->Prop
 | 0,K=>K 0
 | n+1,K=>G3 n λm=>K (m+1)
def We(v:AV)(K:AV->Prop):Prop :=
 match v with
 | .any=>K .any
 | .bot=>K .bot
 | .d x=>K (.d x)
 | .lim sz xs=>K (.lim sz xs)
 | .ptr id n o=>G3 n λn=>G3 o λo=>K (.ptr id n o)
 | .sl id n=>G3 n λn=>K (.sl id n)
 | .eptr id n sz i o=>G3 n λn=>G3 sz λsz=>G3 o λo=>K (.eptr id n sz i o)
 | .tup xs=>K (.tup xs)
 | .own sz e xs=>K (.own sz e xs)
 | .optr cs=>K (.optr cs)
 | .under t w x=>match x with
   | .any=>K (.under t w .any)
   | .d x=>K (.under t w (.d x))
   | .ptr id n o=>G3 n λn=>G3 o λo=>K (.under t w (.ptr id n o))
   | .sl id n=>G3 n λn=>K (.under t w (.sl id n))
   | .eptr id n sz i o=>G3 n λn=>G3 sz λsz=>G3 o λo=>K (.under t w (.eptr id n sz i o))
   | x=>K (.under t w x)
 | .cc k xs=>K (.cc k xs)
def Zv(b:B6)(K:B6->Prop):Prop :=
 match b with
 | .none=>K .none
 | .var cs=>K (.var cs)
 | .row sz e xs=>G3 sz λsz=>K (.row sz e xs)
 | .fvar cs=>K (.fvar cs)
 | .frow sz xs=>G3 sz λsz=>K (.frow sz xs)
 | .map es=>K (.map es)
def C0{α:Type}:List α->(List α->Prop)->Prop
 | [],K=>K []
 | x :: r,K=>C0 r λr=>K (x :: r)
def splice{α:Type}:List α->Nat->List α->List α
 | cs,0,ys=>ys++cs.drop ys.length
 | [],_+1,_=>[]
 | c :: cs,n+1,ys=>c :: splice cs n ys
def O9:List D->(List D->Prop)->Prop
 | [],K=>K []
 | x :: r,K=>O9 r λr=>match x with
   | .nil s=>K (.list s [] :: r)
   | x=>K (x :: r)
def PP(x:D)(K:D->Prop):Prop :=
 match x with
 | .nil s=>K (.list s [])
 | .agg xs=>O9 xs λl=>K (.agg l)
 | x=>K x
def Yn(r:RV)(K:D->Bx->Prop):Prop :=
 match r with
 | .d x=>K x []
 | .lim sz xs=>K (.list sz xs) []
 | .row id n sz _ xs=>K (.list sz xs) [(id,.frow sz xs,n)]
 | _=>False
def mT(r:RV)(K:D->Bx->Prop):Prop:=Yn r λx b=>PP x λx=>K x b
def Dv(σ:Nat->Nat->RV):List C->(List D->Bx->Prop)->Prop
 | [],K=>K [] []
 | .d x :: r,K=>Dv σ r λl b=>K (x :: l) b
 | .sl id n :: r,K=>Yn (σ id n) λx b=>Dv σ r λl b'=>K (x :: l) (b++b')
 | .own _ _ _ :: _,_=>False
def ZV:List D->(List C->Prop)->Prop
 | [],K=>K []
 | x :: r,K=>ZV r λr=>K (.d x :: r)
def zD:Value->Option D
 | .int k n=>some (.int k n)
 | .bool b=>some (.bool b)
 | .string s=>some (.str s)
 | .slice none 0 0=>some (.nil 0)
 | _=>none
def pi:List Value->Option (List D)
 | []=>some []
 | v :: r=>match zD v,pi r with
   | some x,some l=>some (x :: l)
   | _,_=>none
def AB(P:Program)(t:TypeId):Nat:=match P.info? t with|some i=>i.size|none=>0
def K7(P:Program)(t:TypeId):Nat:=match P.info? t with|some i=>i.bytes|none=>0
def U1(P:Program):Nat->TypeId->List Nat
 | 0,_=>[]
 | n+1,t=>match P.underlying t with
   | some (.slice e)=>[AB P e]
   | some (.struct fs)=>fs.toList.flatMap λf=>U1 P n f.type
   | some (.array k e)=>(List.replicate k e).flatMap λe=>U1 P n e
   | _=>[0]
def KV:List D->List Nat->List D
 | .nil _ :: r,s :: q=>.nil s :: KV r q
 | x :: r,_ :: q=>x :: KV r q
 | l,_=>l
def zeroCells(P:Program)(t:TypeId):Option (List D) :=
 match P.info? t with
 | some i=>match i.zero with
   | some z=>match pi z.cells.toList with
     | some l=>some (KV l (U1 P 12 t))
     | none=>none
   | none=>none
 | none=>none
def M7(P:Program)(t:TypeId):Option Bool :=
 match P.underlying t with
 | some (.struct _)|some (.array _ _)=>some true
 | some _=>some false
 | none=>none
def bA(P:Program)(t:TypeId)(cs:List D)(K:D->Prop):Prop :=
 match M7 P t with
 | some true=>match P.info? t with
   | some i=>C0 (cs.take i.size) λl=>if l.length=i.size then K (.agg l)else False
   | none=>False
 | some false=>match cs with
   | y :: _=>K y
   | []=>False
 | none=>False
def nilT(P:Program)(t:TypeId)(x:D):D :=
 match x with
 | .nil 0=>match P.underlying t with
   | some (.slice e)=>.nil (AB P e)
   | _=>.nil 0
 | x=>x
def oq:List C->Bool
 | []=>false
 | c :: r=>match c with
   | .sl _ _=>true
   | _=>oq r
def QS(σ:Nat->Nat->RV):List C->Bool
 | []=>true
 | c :: r=>match c with
   | .d _=>QS σ r
   | .sl id n=>match σ id n with
     | .row _ _ _ _ _=>QS σ r
     | _=>false
   | .own _ _ _=>false
def lD(P:Program)(σ:Nat->Nat->RV)(t:TypeId)(cs:List C)(K:GJ->Prop):Prop :=
 match M7 P t with
 | some true=>match P.info? t with
   | some i=>C0 (cs.take i.size) λl=>if l.length=i.size then match oq l with
     | false=>Dv σ l λl b=>K ⟨.d (.agg l),b,[]⟩
     | true=>Sz (Dv σ l λl b=>K ⟨.d (.agg l),b,[]⟩) (if QS σ l=true then K ⟨.cc none l,[],[]⟩else False)
     else False
   | none=>False
 | some false=>match cs with
   | .d y :: _=>K ⟨.d y,[],[]⟩
   | .sl id n :: _=>K ⟨.sl id n,[],[]⟩
   | _=>False
 | none=>False
def Ws(op:BinOp)(k:IntKind)(a b:Int)(K:D->Prop):Prop :=
 match op with
 | .add=>K (.int k (k.wrap (a+b)))
 | .sub=>K (.int k (k.wrap (a-b)))
 | .mul=>K (.int k (k.wrap (a*b)))
 | .quo=>JA (b≠0) (K (.int k (k.wrap (a.tdiv b))))
 | .rem=>JA (b≠0) (K (.int k (a.tmod b)))
 | .and=>K (.int k (k.wrap (BitVec.ofInt k.bits a &&& BitVec.ofInt k.bits b).toNat))
 | .or=>K (.int k (k.wrap (BitVec.ofInt k.bits a ||| BitVec.ofInt k.bits b).toNat))
 | .xor=>K (.int k (k.wrap (BitVec.ofInt k.bits a ^^^ BitVec.ofInt k.bits b).toNat))
 | .andNot=>K (.int k (k.wrap (BitVec.ofInt k.bits a &&& ~~~ BitVec.ofInt k.bits b).toNat))
 | .eql=>K (.bool (a==b))
 | .neq=>K (.bool (a != b))
 | .lss=>K (.bool (decide (a<b)))
 | .leq=>K (.bool (decide (a<=b)))
 | .gtr=>K (.bool (decide (a>b)))
 | .geq=>K (.bool (decide (a>=b)))
 | _=>False
def UQ(op:BinOp)(k:IntKind)(a b:Int)(K:D->Prop):Prop :=
 match op with
 | .shl=>JA (0<=b) (K (.int k (k.wrap (a*2 ^ (min b.toNat k.bits)))))
 | .shr=>JA (0<=b) (K (.int k (a.fdiv (2 ^ (min b.toNat k.bits)))))
 | _=>False
def oL(P:Program)(t:TypeId)(fs:List Field)(n m:Nat):Bool :=
 !P.stoodInHeld t&&fs.all λf=>!(f.name == "_")&&((P.info? f.type).isSome&&(decide (f.offset+AB P f.type<=n)&&decide (f.offset+AB P f.type<=m)))
def aV(P:Program):Nat->TypeId->List D->List D->(Bool->Prop)->Prop
 | 0,_,_,_,_=>False
 | n+1,t,xs,ys,K=>match P.underlying t with
   | some (.int _)=>match xs,ys with
     | .int k a :: _,.int k' b :: _=>if k=k' then K (a==b)else False
     | _,_=>False
   | some .bool=>match xs,ys with
     | .bool a :: _,.bool b :: _=>K (a==b)
     | _,_=>False
   | some .string=>match xs,ys with
     | .str a :: _,.str b :: _=>K (a.toList==b.toList)
     | _,_=>False
   | some (.struct fs)=>JA (oL P t fs.toList xs.length ys.length=true)
     (List.rec (motive:=λ_=>(Bool->Prop)->Prop) (λK=>K true)
      (λf _ ih K=>aV P n f.type ((xs.drop f.offset).take (AB P f.type)) ((ys.drop f.offset).take (AB P f.type)) λa=>ih λb=>K (a&&b)) fs.toList K)
   | _=>False
def dx(P:Program)(t:TypeId):Bool:=match P.underlying t with|some .bool=>true|_=>false
def ef(op:BinOp)(a b:ByteArray)(K:D->Prop):Prop :=
 match op with
 | .add=>JA (a.size+b.size<=9223372036854775807) (K (.str (a++b)))
 | .eql=>K (.bool (a.toList==b.toList))
 | .neq=>K (.bool (!(a.toList==b.toList)))
 | .lss=>K (.bool (Op.bytesLess a.toList b.toList))
 | .leq=>K (.bool (Op.bytesLess a.toList b.toList||a.toList==b.toList))
 | .gtr=>K (.bool (!(Op.bytesLess a.toList b.toList||a.toList==b.toList)))
 | .geq=>K (.bool (!(Op.bytesLess a.toList b.toList)))
 | _=>False
def aj(P:Program)(t:TypeId)(op:BinOp)(x y:D)(K:D->Prop):Prop :=
 match x,y with
 | .int k a,.int k' b=>match op with
   | .shl=>UQ .shl k a b K
   | .shr=>UQ .shr k a b K
   | op=>if k=k' then Ws op k a b K else False
 | .str a,.str b=>ef op a b K
 | .bool a,.bool b=>match dx P t with
   | true=>match op with
     | .eql=>K (.bool (a==b))
     | .neq=>K (.bool (!(a==b)))
     | _=>False
   | false=>False
 | .agg xs,.agg ys=>JA (P.eqGuardType P.depth t=false/\M7 P t=some true) (match op with
   | .eql=>aV P 12 t xs ys λb=>K (.bool b)
   | .neq=>aV P 12 t xs ys λb=>K (.bool !b)
   | _=>False)
 | _,_=>False
def oy(op:UnOp)(x:D)(K:D->Prop):Prop :=
 match op,x with
 | .not,.bool b=>K (.bool !b)
 | .neg,.int k n=>K (.int k (k.wrap (0-n)))
 | .xor,.int k n=>K (.int k (k.wrap (BitVec.ofInt k.bits (if k.signed then -1 else k.max) ^^^ BitVec.ofInt k.bits n).toNat))
 | _,_=>False
def M9(σ:Nat->Nat->RV)(r:RV)(K:AV->Bx->Prop):Prop :=
 match r with
 | .any=>K .any []
 | .d x=>PP x λx=>K (.d x) []
 | .lim sz xs=>K (.d (.list sz xs)) []
 | .vptr id n o cs=>Dv σ cs λl b=>O9 l λl=>C0 (l.drop o) λl'=>K (.d (.ptr l')) (b++[(id,.fvar l,n)])
 | .row id n sz _ xs=>K (.d (.list sz xs)) [(id,.frow sz xs,n)]
 | .eptr id n sz _ xs i o=>At xs i λx=>C0 (x.cells.drop o) λl=>K (.d (.ptr l)) [(id,.frow sz xs,n)]
 | .cagg cs=>Dv σ cs λl b=>O9 l λl=>K (.d (.agg l)) b
 | _=>False
def R1(σ:Nat->Nat->RV):List C->(List C->Nat->Nat->Prop)->Prop
 | [],_=>False
 | c :: r,K=>match c with
   | .d x=>PP x λx=>R1 σ r λl id n=>K (.d x :: l) id n
   | .sl id n=>match r with
     | []=>match σ id n with
       | .row id n sz e xs=>K [.own sz e xs] id n
       | _=>False
     | _=>False
   | .own _ _ _=>False
def V3:List C->(Nat->TypeId->List D->Prop)->Prop
 | [],_=>False
 | c :: r,K=>match c with
   | .own sz e xs=>match r with
     | []=>K sz e xs
     | _=>False
   | _=>V3 r K
def Na:Operand->Bool
 | .const (.slice none 0 0)=>true
 | _=>false
def Q4:List Operand->Nat->List Nat
 | [],_=>[]
 | x :: r,n=>match Na x with
   | true=>n :: Q4 r (n+1)
   | false=>Q4 r (n+1)
def YD(P:Program)(t:TypeId)(K:AV->Prop):Prop :=
 match P.underlying t with
 | some (.slice e)=>K (.d (.list (AB P e) []))
 | _=>False
def Hu(P:Program)(σ:Nat->Nat->RV)(ρ:Operand->RV):List Operand->List TypeId->(List AV->Bx->Prop)->Prop
 | [],_,K=>K [] []
 | x :: r,ts,K=>match Na x with
   | true=>match ts with
     | t :: ts=>YD P t λv=>Hu P σ ρ r ts λvs bs=>K (v :: vs) bs
     | []=>False
   | false=>M9 σ (ρ x) λv b=>Hu P σ ρ r ts.tail λvs bs=>K (v :: vs) (b++bs)
def Xa:List C->Bool
 | []=>false
 | c :: r=>match c with
   | .d _=>Xa r
   | .sl _ _=>match r with
     | []=>true
     | _=>false
   | .own _ _ _=>false
def SJ(σ:Nat->Nat->RV)(r:RV)(K:AV->Bx->Option (Nat×Nat)->Prop):Prop :=
 match r with
 | .row id n sz e xs=>K (.own sz e xs) [] (some (id,n))
 | .vptr id n 0 cs=>Dv σ cs λl b=>O9 l λl=>K (.optr l) b (some (id,n))
 | .cagg cs=>match Xa cs with
   | true=>R1 σ cs λl id n=>K (.cc none l) [] (some (id,n))
   | false=>M9 σ (.cagg cs) λv b=>K v b none
 | r=>M9 σ r λv b=>K v b none
def G5(P:Program)(σ:Nat->Nat->RV)(ρ:Operand->RV):List Operand->List TypeId->(List AV->Bx->List (Option (Nat×Nat))->Prop)->Prop
 | [],_,K=>K [] [] []
 | x :: r,ts,K=>match Na x with
   | true=>match ts with
     | t :: ts=>YD P t λv=>G5 P σ ρ r ts λvs bs us=>K (v :: vs) bs (none :: us)
     | []=>False
   | false=>SJ σ (ρ x) λv b u=>G5 P σ ρ r ts.tail λvs bs us=>K (v :: vs) (b++bs) (u :: us)
def Wx:List D->(List AV->Prop)->Prop
 | [],K=>K []
 | x :: r,K=>Wx r λr=>K (.d x :: r)
def C.bare:C->Bool
 | .d (.agg xs)=>xs.all D.bare
 | .d x=>x.bare
 | .own _ _ _=>true
 | .sl _ _=>false
def AV.bare:AV->Bool
 | .d (.agg xs)=>xs.all D.bare
 | .d x=>x.bare
 | .tup xs=>xs.all C.bare
 | .own _ _ _=>true
 | _=>false
def bG(r:AV)(lent:Bx)(K:Bx->Prop):Prop :=
 match lent with
 | []=>K []
 | l=>match r.bare with
   | true=>K []
   | false=>K l
def Fj(id:Nat):Bx->Bool
 | []=>true
 | x :: r=>decide (x.1≠id)&&Fj id r
def RP:List C->List (Nat×Nat)->(List C->Bx->Prop)->Prop
 | [],[],K=>K [] []
 | .d x :: r,hs,K=>RP r hs λl b=>K (.d x :: l) b
 | .own sz e xs :: r,(h,n) :: hs,K=>RP r hs λl b=>if Fj h b=true then K (.sl h n :: l) ((h,.row sz e xs,n) :: b)else False
 | _,_,_=>False
def U7:List C->Bool
 | []=>false
 | .own _ _ _ :: _=>true
 | _ :: r=>U7 r
def gS(d dv:Nat)(r:AV)(b:Bx)(K:GJ->Prop):Prop :=
 match r with
 | .own sz e xs=>if Fj d b=true then K ⟨.sl d (dv+1),b++[(d,.row sz e xs,dv+1)],[]⟩else False
 | .optr cs=>if Fj d b=true then ZV cs λl=>K ⟨.ptr d (dv+1) 0,b++[(d,.var l,dv+1)],[]⟩else False
 | .tup xs=>match U7 xs with
   | false=>K ⟨.tup xs,b,[]⟩
   | true=>mO λhs=>RP xs hs λl hb=>if hb.all (λh=>Fj h.1 b)=true then K ⟨.tup l,b++hb,hs⟩else False
 | .cc _ l=>match l with
   | [.own sz e xs]=>if Fj d b=true then K ⟨.sl d (dv+1),b++[(d,.row sz e xs,dv+1)],[]⟩else False
   | _=>False
 | .under _ _ _|.ptr _ _ _|.sl _ _|.eptr _ _ _ _ _=>False
 | r=>K ⟨r,b,[]⟩
def LO:List (Option (Nat×Nat))->List AV->(Bx->Prop)->Prop
 | [],[],K=>K []
 | none :: us,_ :: os,K=>LO us os K
 | some (id,n) :: us,.own sz e ys :: os,K=>LO us os λb=>if Fj id b=true then K ((id,.row sz e ys,n) :: b)else False
 | some (id,n) :: us,.optr cs :: os,K=>ZV cs λl=>LO us os λb=>if Fj id b=true then K ((id,.var l,n) :: b)else False
 | some (id,n) :: us,.any :: os,K=>LO us os λb=>if Fj id b=true then K ((id,.none,n+1) :: b)else False
 | some (id,n) :: us,.cc _ l :: os,K=>V3 l λsz e ys=>LO us os λb=>if Fj id b=true then K ((id,.row sz e ys,n) :: b)else False
 | _,_,_=>False
def LN(ρ:Operand->RV):List Operand->Nat->Option (Nat×Nat×Nat×List C)
 | [],_=>none
 | x :: r,k=>match ρ x with
   | .vptr id n 0 cs=>match oq cs with
     | true=>some (k,id,n,cs)
     | false=>LN ρ r (k+1)
   | _=>LN ρ r (k+1)
def MU(ρ:Operand->RV)(k:Nat):List Operand->Nat->(List AV->Prop)->Prop
 | [],_,K=>K []
 | x :: r,i,K=>match Nat.beq i k with
   | true=>MU ρ k r (i+1) λl=>K (.any :: l)
   | false=>match ρ x with
     | .d y=>PP y λy=>MU ρ k r (i+1) λl=>K (.d y :: l)
     | _=>False
def I4(σ:Nat->Nat->RV):List C->(List C->Prop)->Prop
 | [],K=>K []
 | c :: r,K=>match c with
   | .d x=>PP x λx=>I4 σ r λl=>K (.d x :: l)
   | .sl id n=>match σ id n with
     | .row _ _ sz e xs=>I4 σ r λl=>K (.own sz e xs :: l)
     | _=>False
   | .own _ _ _=>False
def RJ:List C->List C->(List C->Bx->Prop)->Prop
 | [],[],K=>K [] []
 | .d _ :: r,.d x :: r',K=>RJ r r' λl b=>K (.d x :: l) b
 | .sl id n :: r,.own sz e ys :: r',K=>RJ r r' λl b=>if Fj id b=true then K (.sl id (n+1) :: l) ((id,.row sz e ys,n+1) :: b)else False
 | _,_,_=>False
def Oa(r:RV)(K:Nat->List D->Prop):Prop :=
 match r with
 | .d (.list sz xs)=>K sz xs
 | .d (.nil sz)=>K sz []
 | .lim sz xs=>K sz xs
 | .row _ _ sz _ xs=>K sz xs
 | _=>False
def LG(ρ:Operand->RV):List (Nat×Operand)->(List (Nat×D)->Bx->Prop)->Prop
 | [],K=>K [] []
 | (i,x) :: r,K=>Yn (ρ x) λv b=>LG ρ r λvs bs=>K ((i,v) :: vs) (b++bs)
def Nh(ρ:Operand->RV):List (Nat×Operand)->(List (Nat×D)->Bx->Prop)->Prop
 | [],K=>K [] []
 | (i,x) :: r,K=>mT (ρ x) λv b=>Nh ρ r λvs bs=>K ((i,v) :: vs) (b++bs)
def WN(place:Nat->Option (Nat×Nat))(cells:List D):List (Nat×D)->Option (List D)
 | []=>some cells
 | (i,v) :: rest=>match place i with
   | none=>none
   | some (off,size)=>if v.cells.length=size/\off+v.cells.length<=cells.length then WN place (splice cells off v.cells) rest else none
def Uj(ρ:Operand->RV):List (Nat×Operand)->Bool
 | []=>false
 | (_,x) :: r=>match ρ x with
   | .row _ _ _ _ _=>true
   | _=>Uj ρ r
def cellsOf(r:RV)(K:List C->Prop):Prop :=
 match r with
 | .row id n _ _ _=>K [.sl id n]
 | .d v=>ZV v.cells K
 | .lim sz xs=>K [.d (.list sz xs)]
 | _=>False
def Ng(ρ:Operand->RV):List (Nat×Operand)->(List (Nat×List C)->Prop)->Prop
 | [],K=>K []
 | (i,x) :: r,K=>cellsOf (ρ x) λc=>Ng ρ r λps=>K ((i,c) :: ps)
def Y1(place:Nat->Option (Nat×Nat))(cells:List C):List (Nat×List C)->Option (List C)
 | []=>some cells
 | (i,v) :: rest=>match place i with
   | none=>none
   | some (off,size)=>if v.length=size/\off+v.length<=cells.length then Y1 place (splice cells off v) rest else none
def Rl:Nat->List (Nat×D)->Option (List D)
 | _,[]=>some []
 | n,(i,v) :: r=>if i=n then(Rl (n+1) r).map (v :: ·)else none
def Je(σ:Nat->Nat->RV)(ρ:Operand->RV):List Operand->(List D->Bx->Prop)->Prop
 | [],K=>K [] []
 | x :: r,K=>M9 σ (ρ x) λv b=>match v with
   | .d y=>if y.one=true then Je σ ρ r λl bs=>K (y :: l) (b++bs)else False
   | _=>False
def dG(r:RV):Option (Nat×Nat) :=
 match r with
 | .vptr id n 0 [.sl _ _]=>some (id,n)
 | .vptr id n 0 [.d (.nil _)]=>some (id,n)
 | _=>none
def TX(ρ:Operand->RV):List Operand->Bool
 | []=>false
 | x :: r=>match dG (ρ x)with
   | some _=>true
   | none=>TX ρ r
def Jd(σ:Nat->Nat->RV)(ρ:Operand->RV):List Operand->(List C->Bx->Prop)->Prop
 | [],K=>K [] []
 | x :: r,K=>match dG (ρ x)with
   | some (id,n)=>Jd σ ρ r λl bs=>K (.sl id n :: l) bs
   | none=>M9 σ (ρ x) λv b=>match v with
     | .d y=>if y.one=true then Jd σ ρ r λl bs=>K (.d y :: l) (b++bs)else False
     | _=>False
def Qi:List C->List AV
 | []=>[]
 | .d x :: r=>.d x :: Qi r
 | _ :: r=>.any :: Qi r
def KZ(P:Program)(t:TypeId):Bool:=match P.info? t with|some i=>(match i.zero with|some z=>decide (z.cells.size=i.size)|none=>false)|none=>false
def YQ(P:Program)(t:TypeId)(K:D->Prop):Prop :=
 match zeroCells P t with
 | some l=>match M7 P t with
   | some true=>O9 l λl=>K (.agg l)
   | some false=>match l with
     | [x]=>PP x K
     | _=>False
   | none=>False
 | none=>False
def cE(ρ:Operand->RV)(x:Option Operand)(dflt:Int)(K:Int->Prop):Prop :=
 match x with
 | none=>K dflt
 | some x=>match ρ x with
   | .d (.int _ i)=>K i
   | _=>False
def LZ{α:Type}(xs:List α)(l h:Int):List α:=(xs.drop l.toNat).take (h.toNat-l.toNat)
def LL(ρ:Operand->RV)(sz:Nat)(xs:List D)(lo hi mx:Option Operand)(b:Bx)(K:GJ->Prop):Prop :=
 cE ρ lo 0 λl=>cE ρ hi xs.length λh=>match mx with
  | none=>JA (0<=l/\l<=h/\h<=xs.length) (K ⟨.d (.list sz (LZ xs l h)),b,[]⟩)
  | some m=>if hi.isNone=true then False else match ρ m with
    | .d (.int _ m)=>JA (0<=l/\l<=h/\h<=xs.length/\m=h) (K ⟨.lim sz (LZ xs l h),b,[]⟩)
    | _=>False
def FJ(s:ByteArray)(i:Int):Int:=((s.data.toList.getD i.toNat 0).toNat:Int)
def N4(s:ByteArray):List Int:=s.data.toList.map λb=>(b.toNat:Int)
def Ip:D->D->Bool
 | .int k _,.int k' _=>decide (k=k')
 | .str _,.str _=>true
 | _,_=>false
def Jr:D->D->Bool
 | .int _ a,.int _ b=>a==b
 | .str a,.str b=>a==b
 | _,_=>false
def Q0(k:D):List (D×D)->Option Nat
 | []=>none
 | p :: r=>bif Jr k p.1 then some 0 else(Q0 k r).map (·+1)
def O0(k:D):List (D×D)->Option D
 | []=>none
 | p :: r=>bif Jr k p.1 then some p.2 else O0 k r
def XF(k v:D):List (D×D)->List (D×D)
 | []=>[(k,v)]
 | p :: r=>bif Jr k p.1 then(k,v) :: r else p :: XF k v r
def XS:D->Option TypeDesc
 | .int j _=>some (.int j)
 | .str _=>some .string
 | _=>none
def l9(P:Program)(t:TypeId):Option D:=match P.info? t with
 | some i=>match i.zero with
   | some z=>zD z
   | none=>none
 | none=>none
structure Tg(r:Option D)(z:D)(K:D->Bool->Prop):Prop where
 go:∃v b,r.getD z=v/\r.isSome=b/\K v b
def fu(P:Program)(kt et:TypeId)(x ix:RV)(ok:Bool)(K:GJ->Prop):Prop :=
 match x with
 | .mp _ _ es=>match ix with
   | .d q=>match XS q with
     | some kd=>JA (P.underlying kt=some kd/\∀p∈es,Ip q p.1=true) (match l9 P et with
       | some z=>Tg (O0 q es) z λv b=>match ok with
         | true=>K ⟨.tup [.d v,.d (.bool b)],[],[]⟩
         | false=>K ⟨.d v,[],[]⟩
       | none=>False)
     | none=>False
   | _=>False
 | _=>False
def mJ(P:Program)(kt:TypeId)(m k x:RV)(K:GJ->Prop):Prop :=
 match m with
 | .mp id n es=>match k with
   | .d q=>match x with
     | .d y=>match XS q with
       | some kd=>JA (y.bare=true/\P.underlying kt=some kd/\∀p∈es,Ip q p.1=true) (K ⟨.any,[(id,.map (XF q y es),n)],[]⟩)
       | none=>False
     | _=>False
   | _=>False
 | _=>False
def Tq(P:Program)(σ:Nat->Nat->RV)(ρ:Operand->RV)(c:Call)(f:FuncId)(caps:List D)(d dv:Nat)(K:GJ->Prop):Prop :=
 Wx caps λcv=>Hu P σ ρ c.args.toList c.argTypes.toList λvs bs=>G5 P σ ρ c.args.toList c.argTypes.toList λms mb us =>
  Hs P f (Q4 c.args.toList 0) (vs++cv) (λr=>bG r bs λb=>gS d dv r b K)
   (ms++cv) (λouts r=>LO (us++cv.map λ_=>none) outs λub=>if ub.all (λx=>Fj x.1 mb)=true then gS d dv r (mb++ub) K else False)
def yA(P:Program)(σ:Nat->Nat->RV)(ρ:Option (Nat×Bool)->Operand->RV)(g:Option (Nat×Bool))(o:Oper)(d dv:Nat)(K:GJ->Prop):Prop :=
 match o.op with
 | .move x=>K ⟨back (ρ g x),[],[]⟩
 | .assign x=>match Na x with
   | true=>match P.underlying o.type with
     | some (.slice e)=>if 0<AB P e then K ⟨.sl d (dv+1),[(d,.row (AB P e) e [],dv+1)],[]⟩else False
     | _=>False
   | false=>K ⟨back (ρ g x),[],[]⟩
 | .pick (.tmp t) a b=>match ρ g (.tmp t)with
   | .bot=>K ⟨.bot,[],[]⟩
   | .d (.bool c)=>match ρ (some (t,true)) a with
     | .bot=>match ρ (some (t,false)) b with
       | .d (.bool y)=>K ⟨.d (.bool y),[],[]⟩
       | _=>False
     | .d (.bool x)=>match ρ (some (t,false)) b with
       | .bot=>K ⟨.d (.bool x),[],[]⟩
       | .d (.bool y)=>K ⟨.d (.bool (bif c then x else y)),[],[]⟩
       | _=>False
     | _=>False
   | _=>False
 | .box _ x=>match ρ g x with
   | .row id n _ _ _=>K ⟨.ptr d (dv+1) 0,[(d,.var [.sl id n],dv+1)],[]⟩
   | .cagg l=>K ⟨.ptr d (dv+1) 0,[(d,.var l,dv+1)],[]⟩
   | r=>Yn r λv b=>ZV v.cells λl=>K ⟨.ptr d (dv+1) 0,b++[(d,.var l,dv+1)],[]⟩
 | .alloc t=>match zeroCells P t with
   | some l=>ZV l λl=>K ⟨.ptr d (dv+1) 0,[(d,.var l,dv+1)],[]⟩
   | none=>False
 | .build t parts=>match P.underlying t with
   | some (.struct fields)=>match zeroCells P t with
     | some z=>if fields.toList.all (λf=>(P.info? f.type).isSome)then
       match Uj (ρ g) parts.toList with
       | false=>LG (ρ g) parts.toList λps b =>
         match WN (λi=>match fields[i]? with|some f=>some (f.offset,AB P f.type)|none=>none) z ps with
         | some l=>C0 l λl=>K ⟨.d (.agg l),b,[]⟩
         | none=>False
       | true=>Sz (LG (ρ g) parts.toList λps b =>
         match WN (λi=>match fields[i]? with|some f=>some (f.offset,AB P f.type)|none=>none) z ps with
         | some l=>C0 l λl=>K ⟨.d (.agg l),b,[]⟩
         | none=>False)
         (ZV z λzc=>Ng (ρ g) parts.toList λps=>match Y1 (λi=>match fields[i]? with|some f=>some (f.offset,AB P f.type)|none=>none) zc ps with
          | some l=>C0 l λl=>K ⟨.cc none l,[],[]⟩
          | none=>False)
       else False
     | none=>False
   | _=>False
 | .buildSlice t n parts=>match P.underlying t with
   | some (.slice e)=>Nh (ρ g) parts.toList λps b=>match Rl 0 ps with
     | some l=>C0 l λl =>
       if l.length=n/\0<AB P e/\KZ P e=true/\n*AB P e<=16777216/\l.all (λx=>x.cells.length==AB P e)then K ⟨.sl d (dv+1),b++[(d,.row (AB P e) e l,dv+1)],[]⟩else False
     | none=>False
   | _=>False
 | .makeSlice t l c=>match P.underlying t with
   | some (.slice e)=>match ρ g l with
     | .d (.int _ l)=>match ρ g c with
       | .d (.int _ c)=>if 0<AB P e/\KZ P e=true then YQ P e λz =>
        JA (0<=l/\l<=c/\c<=maxLen/\(K7 P e:Int)*c<=281474976710656) (K ⟨.sl d (dv+1),[(d,.row (AB P e) e (List.replicate l.toNat z),dv+1)],[]⟩)else False
       | _=>False
     | _=>False
   | _=>False
 | .makeFunc (.func f) first caps=>match first.toList with
   | []=>match TX (ρ g) caps.toList with
     | false=>Je σ (ρ g) caps.toList λl b=>K ⟨.d (.fn f l),b,[]⟩
     | true=>Sz (Je σ (ρ g) caps.toList λl b=>K ⟨.d (.fn f l),b,[]⟩) (Jd σ (ρ g) caps.toList λl b=>K ⟨.cc (some f) l,b,[]⟩)
   | _=>False
 | .load t a=>match ρ g a with
   | .bot=>K ⟨.bot,[],[]⟩
   | .vptr _ _ o cs=>lD P σ t (cs.drop o) K
   | .d (.ptr cs)=>bA P t cs λx=>K ⟨.d x,[],[]⟩
   | .eptr _ _ _ _ xs i o=>At xs i λx=>bA P t (x.cells.drop o) λx=>K ⟨.d x,[],[]⟩
   | _=>False
 | .store t a x=>if(P.info? t).isSome=true then match ρ g a with
   | .vptr id n o cs=>match M7 P t with
     | some true=>match ρ g x with
       | .cagg l=>if l.length=AB P t/\o+l.length<=cs.length then C0 (splice cs o l) λl=>K ⟨.any,[(id,.var l,n)],[]⟩else False
       | r=>Yn r λv b =>
         if v.cells.length=AB P t/\o+v.cells.length<=cs.length then ZV v.cells λl=>C0 (splice cs o l) λl=>K ⟨.any,b++[(id,.var l,n)],[]⟩else False
     | some false=>if AB P t=1/\o<cs.length then match ρ g x with
      | .row id' n' _ _ _=>C0 (splice cs o [.sl id' n']) λl=>K ⟨.any,[(id,.var l,n)],[]⟩
      | r=>Yn r λv b=>if v.one=true then C0 (splice cs o [.d (nilT P t v)]) λl=>K ⟨.any,b++[(id,.var l,n)],[]⟩else False
      else False
     | none=>False
   | .eptr id n sz e xs i o=>mT (ρ g x) λv b=>At xs i λy =>
     if v.cells.length=AB P t/\o+v.cells.length<=y.cells.length/\Fj id b=true then
      match y with
      | .agg cs=>C0 (splice cs o v.cells) λl=>K ⟨.any,b++[(id,.row sz e (xs.set i (.agg l)),n)],[]⟩
      | _=>if v.one then K ⟨.any,b++[(id,.row sz e (xs.set i v),n)],[]⟩else False
     else False
   | _=>False
   else False
 | .nilCheck x=>match ρ g x with
   | .vptr id n o _=>K ⟨.ptr id n o,[],[]⟩
   | .d (.ptr cs)=>K ⟨.d (.ptr cs),[],[]⟩
   | .d (.fn f cs)=>K ⟨.d (.fn f cs),[],[]⟩
   | .eptr id n sz _ _ i o=>K ⟨.eptr id n sz i o,[],[]⟩
   | _=>False
 | .binOp op t x y _=>match ρ g x with
   | .bot=>K ⟨.bot,[],[]⟩
   | .d a=>match ρ g y with
     | .bot=>K ⟨.bot,[],[]⟩
     | .d b=>aj P t op a b λx=>K ⟨.d x,[],[]⟩
     | _=>False
   | _=>False
 | .unOp op _ x=>match ρ g x with
   | .bot=>K ⟨.bot,[],[]⟩
   | .d a=>oy op a λx=>K ⟨.d x,[],[]⟩
   | _=>False
 | .convert s t x=>match P.underlying s with
   | some _=>match P.underlying t with
     | some (.int k)=>match ρ g x with
       | .bot=>K ⟨.bot,[],[]⟩
       | .d (.int _ n)=>K ⟨.d (.int k (k.wrap n)),[],[]⟩
       | _=>False
     | some .string=>match ρ g x with
       | .bot=>K ⟨.bot,[],[]⟩
       | .d (.str s)=>K ⟨.d (.str s),[],[]⟩
       | _=>False
     | some (.slice e)=>match P.underlying e with
       | some (.int .u8)=>match ρ g x with
         | .bot=>K ⟨.bot,[],[]⟩
         | .d (.str s)=>K ⟨.d (.list 1 ((N4 s).map (D.int .u8))),[],[]⟩
         | _=>False
       | _=>False
     | _=>False
   | none=>False
 | .fieldAddr s x f=>match P.underlying s with
   | some (.struct fields)=>match fields[f]? with
     | some fd=>if 0<AB P fd.type then match ρ g x with
      | .bot=>K ⟨.bot,[],[]⟩
      | .vptr id n o _=>K ⟨.ptr id n (o+fd.offset),[],[]⟩
      | .d (.ptr cs)=>C0 (cs.drop fd.offset) λl=>K ⟨.d (.ptr l),[],[]⟩
      | .eptr id n sz _ _ i o=>K ⟨.eptr id n sz i (o+fd.offset),[],[]⟩
      | _=>False
      else False
     | none=>False
   | _=>False
 | .field s x f=>match P.underlying s with
   | some (.struct fields)=>match fields[f]? with
     | some fd=>match ρ g x with
      | .bot=>K ⟨.bot,[],[]⟩
      | .d (.agg cs)=>bA P fd.type (cs.drop fd.offset) λx=>K ⟨.d x,[],[]⟩
      | _=>False
     | none=>False
   | _=>False
 | .indexAddr t x ix=>match P.underlying t with
   | some (.slice e)=>match ρ g ix with
     | .d (.int _ i)=>match ρ g x with
       | .d (.list sz xs)=>if sz=AB P e/\0<sz then At xs i λx=>C0 x.cells λl=>K ⟨.d (.ptr l),[],[]⟩else False
       | .lim sz xs=>if sz=AB P e/\0<sz then At xs i λx=>C0 x.cells λl=>K ⟨.d (.ptr l),[],[]⟩else False
       | .row id n sz _ xs=>if sz=AB P e then JA (0<=i/\i.toNat<xs.length) (K ⟨.eptr id n sz i.toNat 0,[],[]⟩)else False
       | _=>False
     | _=>False
   | some (.array n e)=>match ρ g ix with
     | .d (.int _ i)=>match ρ g x with
       | .d (.ptr cs)=>if AB P e=1 then JA (i<n) (At cs i λy=>K ⟨.d (.ptr [y]),[],[]⟩)else False
       | .vptr id m o _=>if 0<AB P e then JA (0<=i/\i<n) (K ⟨.ptr id m (o+i.toNat*AB P e),[],[]⟩)else False
       | _=>False
     | _=>False
   | _=>False
 | .index t x ix=>match P.underlying t with
   | some (.array n e)=>match ρ g ix with
     | .d (.int _ i)=>match ρ g x with
       | .d (.agg cs)=>if 0<AB P e then JA (0<=i/\i<n) (bA P e (cs.drop (i.toNat*AB P e)) λx=>K ⟨.d x,[],[]⟩)else False
       | _=>False
     | _=>False
   | some .string=>match ρ g ix with
     | .d (.int _ i)=>match ρ g x with
       | .d (.str s)=>JA (0<=i/\i.toNat<s.size) (K ⟨.d (.int .u8 (FJ s i)),[],[]⟩)
       | _=>False
     | _=>False
   | _=>False
 | .slice t x lo hi mx=>match P.underlying t with
   | some .string=>match mx with
     | none=>match ρ g x with
       | .d (.str s)=>cE (ρ g) lo 0 λl=>cE (ρ g) hi s.size λh=>JA (0<=l/\l<=h/\h<=s.size) (K ⟨.d (.str (s.extract l.toNat h.toNat)),[],[]⟩)
       | _=>False
     | some _=>False
   | some (.slice e)=>match ρ g x with
     | .d (.list sz xs)=>if sz=AB P e/\0<sz then LL (ρ g) sz xs lo hi mx [] K else False
     | .d (.nil sz)=>if sz=AB P e/\0<sz then LL (ρ g) sz [] lo hi mx [] K else False
     | .lim sz xs=>if sz=AB P e/\0<sz then LL (ρ g) sz xs lo hi mx [] K else False
     | .row id n sz e' xs=>if sz=AB P e/\0<sz then Sz (LL (ρ g) sz xs lo hi mx [(id,.frow sz xs,n)] K)
      (match lo with
       | none=>match mx with
         | none=>cE (ρ g) hi xs.length λh=>JA (0<=h/\h<=xs.length) (K ⟨.sl id (n+1),[(id,.row sz e' (xs.take h.toNat),n+1)],[]⟩)
         | some _=>False
       | some _=>False)
      else False
     | _=>False
   | _=>False
 | .call c=>match c.callee with
   | .value f=>match ρ g f with
     | .d (.fn f caps)=>match LN (ρ g) c.args.toList 0 with
       | none=>Tq P σ (ρ g) c f caps d dv K
       | some (k,id,n,cl)=>Sz (match caps with
         | []=>MU (ρ g) k c.args.toList 0 λvs=>I4 σ cl λcs=>iL P f vs k cs λcs' r=>RJ cl cs' λl ub=>if Fj id ub=true then K ⟨.d r,ub++[(id,.var l,n)],[]⟩else False
         | _=>False) (Tq P σ (ρ g) c f caps d dv K)
     | .clo f cs k id n rid rn=>match σ rid rn with
       | .row _ _ sz e xs=>Hu P σ (ρ g) c.args.toList c.argTypes.toList λvs bs=>match bs with
         | []=>C0 (Qi cs) λcv=>ZZ P f (vs++cv) (vs.length+k) sz e xs λys=>if id=rid then False else K ⟨.any,[(rid,.row sz e ys,rn+1),(id,.var [.sl rid (rn+1)],n)],[]⟩
         | _=>False
       | _=>False
     | _=>False
   | .builtin .len=>match c.args.toList,c.argTypes.toList with
     | [x],[t]=>match P.underlying t with
       | some .string=>match ρ g x with
         | .bot=>K ⟨.bot,[],[]⟩
         | .d (.str s)=>K ⟨.d (.int .i64 s.size),[],[]⟩
         | _=>False
       | some (.slice _)=>match ρ g x with
         | .bot=>K ⟨.bot,[],[]⟩
         | r=>Oa r λ_ xs=>K ⟨.d (.int .i64 xs.length),[],[]⟩
       | _=>False
     | _,_=>False
   | .builtin .min=>match c.args.toList with
     | [x,y]=>match ρ g x with
       | .d (.int k a)=>match ρ g y with
         | .d (.int _ b)=>K ⟨.d (.int k (if b<a then b else a)),[],[]⟩
         | _=>False
       | _=>False
     | _=>False
   | .builtin .max=>match c.args.toList with
     | [x,y]=>match ρ g x with
       | .d (.int k a)=>match ρ g y with
         | .d (.int _ b)=>K ⟨.d (.int k (if b>a then b else a)),[],[]⟩
         | _=>False
       | _=>False
     | _=>False
   | .builtin .append=>match c.args.toList,c.argTypes.toList with
     | [x,y],[t,u]=>match P.underlying t with
       | some (.slice e)=>if t=u/\0<AB P e/\KZ P e=true then Oa (ρ g y) λsz' ys =>
         let fits (n:Nat):Prop:=n+ys.length<=maxLen/\(n+ys.length)*K7 P e<=140737488355328/\(ys=[]\/sz'=AB P e)
         match ρ g x with
         | .row id n sz e' xs=>if e=e'/\sz=AB P e then JA (fits xs.length) (K ⟨.sl id (n+1),[(id,.row sz e (xs++ys),n+1)],[]⟩)else False
         | .d (.nil _)=>JA (fits 0) (K ⟨.sl d (dv+1),[(d,.row (AB P e) e ys,dv+1)],[]⟩)
         | .lim sz xs=>if sz=AB P e then JA (fits xs.length/\ys≠[]) (K ⟨.sl d (dv+1),[(d,.row sz e (xs++ys),dv+1)],[]⟩)else False
         | _=>False
         else False
       | _=>False
     | _,_=>False
   | _=>False
 | .extract t i=>match ρ g t with
   | .tup xs=>match xs[i]? with
     | some (.d x)=>K ⟨.d x,[],[]⟩
     | some (.sl id n)=>K ⟨.sl id n,[],[]⟩
     | _=>False
   | _=>False
 | .makeMap t none=>match P.underlying t with
   | some (.map _ _)=>K ⟨.sl d (dv+1),[(d,.map [],dv+1)],[]⟩
   | _=>False
 | .lookup t x ix ok=>match P.underlying t with
   | some (.map kt et)=>fu P kt et (ρ g x) (ρ g ix) ok K
   | _=>False
 | .mapUpdate t m k x=>match P.underlying t with
   | some (.map kt _)=>mJ P kt (ρ g m) (ρ g k) (ρ g x) K
   | _=>False
 | _=>False
def Lz:Op->Bool
 | .move _|.pick _ _ _|.load _ _|.unOp _ _ _|.convert _ _ _|.fieldAddr _ _ _|.field _ _ _=>true
 | .binOp op _ _ _ _=>match op with|.quo|.rem|.shl|.shr|.add=>false|_=>true
 | .call c=>match c.callee with|.builtin .len=>true|_=>false
 | _=>false
def Vq:List Oper->Nat->Option Nat
 | [],_=>none
 | o :: _,0=>o.dst
 | _ :: r,n+1=>Vq r n
def QT:AS->Nat->AV->(AS->Prop)->Prop
 | [],_,_,K=>K []
 | s :: r,0,v,K=>match s with|⟨_,b,n⟩=>K (⟨v,b,n⟩ :: r)
 | s :: r,k+1,v,K=>QT r k v λr'=>K (s :: r')
def Wh:AS->Nat->B6->Nat->(AS->Prop)->Prop
 | [],_,_,_,K=>K []
 | s :: r,0,b,m,K=>match s with|⟨v,_,_⟩=>K (⟨v,b,m⟩ :: r)
 | s :: r,k+1,b,m,K=>Wh r k b m λr'=>K (s :: r')
def OZ:Bx->AS->(AS->Prop)->Prop
 | [],S,K=>K S
 | (id,b,n) :: r,S,K=>G3 n λn=>Zv b λb=>Wh S id b n λS=>OZ r S K
def gm(dst:Option Nat)(e:GJ)(S:AS)(K:AS->Prop):Prop :=
 match e with
 | ⟨v,bx,_⟩=>match dst with
   | some d=>We v λv=>OZ bx S λS=>QT S d v K
   | none=>OZ bx S K
def AZ:Bx->AS->AS
 | [],S=>S
 | (id,b,n) :: r,S=>AZ r (AQ S id b n)
def Ym(dst:Option Nat)(e:GJ)(S:AS):AS :=
 match dst with
 | some d=>Fb (AZ e.bx S) d e.av
 | none=>AZ e.bx S
def σOf(S:AS)(id n:Nat):RV:=res S (.sl id n)
def ρOf(S:AS)(g:Option (Nat×Bool))(x:Operand):RV:=res S (o0 g (ev S x))
def UW:AS->Nat->(Nat->Prop)->Prop
 | [],_,_=>False
 | s :: _,0,K=>match s with|⟨_,_,n⟩=>K n
 | _ :: r,k+1,K=>UW r k K
def dK(x:Option Nat)(K:Nat->Prop):Prop :=
 match x with
 | some d=>K d
 | none=>K 0
def G4(S:AS):List (Nat×Nat)->Bool
 | []=>true
 | (h,n) :: r=>decide (h<S.length)&&decide ((Af S h).ver<n)&&G4 S r
def DK:Option Nat->List Nat
 | some d=>[d]
 | none=>[]
def UB:List Operand->List Nat
 | []=>[]
 | .tmp t :: r=>t :: UB r
 | _ :: r=>UB r
def WY(all:List Oper):Nat->Oper->List Nat
 | 0,_=>[]
 | n+1,o=>match o.guard with
   | some (j,_)=>DK (Vq all j)++match all[j]? with
     | some m=>WY all n m
     | none=>[]
   | none=>[]
def Ek(all:List Oper)(o:Oper):List Nat:=WY all 5 o++UB o.op.operands.toList
def Yp(S:AS)(t:Nat)(mk:Bool->AV)(b:Bool)(K:AS->Option Bool->Prop):Prop :=
 Vh b (QT S t (mk true) λS=>K S (some true)) (QT S t (mk false) λS=>K S (some false))
def gA(lk:List Nat):Nat->Nat->AS->(AS->Option Bool->Prop)->Prop
 | 0,_,_,_=>False
 | n+1,t,S,K=>if lk.contains t=true then match (Af S t).av with
   | .d (.bool b)=>Yp S t (λb=>.d (.bool b)) b K
   | .under t' w' (.d (.bool b))=>gA lk n t' S λS r=>match r with
     | some c=>match w' with
       | true=>match c with
         | true=>Yp S t (λb=>.under t' w' (.d (.bool b))) b K
         | false=>K S none
       | false=>match c with
         | true=>K S none
         | false=>Yp S t (λb=>.under t' w' (.d (.bool b))) b K
     | none=>K S none
   | .under _ _ .bot=>K S none
   | _=>False
   else False
def Wt(want:Bool)(r:Option Bool)(go skip:Prop):Prop :=
 match r with
 | none=>skip
 | some b=>match want with
   | true=>match b with
     | true=>go
     | false=>skip
   | false=>match b with
     | true=>skip
     | false=>go
def jH:AV->Bool
 | .ptr _ _ _|.sl _ _=>true
 | _=>false
def Ld(S:AS)(o:Oper):Bool :=
 match o.op with
 | .move x=>jH (ev S x)
 | _=>false
def yS(P:Program)(S:AS)(g:Option (Nat×Bool))(o:Oper)(d dv:Nat)(K:GJ->Prop):Prop :=
 match o.op with
 | .move x=>match ev S x with
   | .ptr id n k=>K ⟨.ptr id n k,[],[]⟩
   | .sl id n=>K ⟨.sl id n,[],[]⟩
   | _=>yA P (σOf S) (ρOf S) g o d dv K
 | _=>yA P (σOf S) (ρOf S) g o d dv K
def ij(P:Program)(all:List Oper)(done:List Nat)(o:Oper)(S:AS)(K:AS->GJ->Prop):Prop :=
 match o.guard with
 | none=>dK o.dst λd=>UW S d λn=>yS P S none o d n λe=>if G4 S e.homes=true then K S e else False
 | some (j,want)=>match Vq all j with
   | none=>False
   | some t=>if done.contains t=true then
     match Lz o.op with
     | true=>dK o.dst λd=>UW S d λn=>yS P S (some (t,want)) o d n λe=>match e with
       | ⟨v,[],[]⟩=>K S ⟨.under t want v,[],[]⟩
       | _=>False
     | false=>gA (Ek all o) 5 t S λS r=>Wt want r
      (dK o.dst λd=>UW S d λn=>yS P S (some (t,want)) o d n λe=>if G4 S e.homes=true then K S e else False)
      (K S ⟨.under t want .bot,[],[]⟩)
     else False
def TT(P:Program)(o:Oper):Option (Bool×Operand) :=
 match o.op with
 | .binOp op t x y _=>match Na y,o.guard,P.underlying t with
   | true,none,some (.slice _)=>match op with
     | .eql=>some (true,x)
     | .neq=>some (false,x)
     | _=>none
   | _,_,_=>none
 | _=>none
def NB:List Nat->(List Nat->Prop)->Prop
 | [],K=>K []
 | x :: r,K=>NB r λr=>K (x :: r)
def oe(P:Program)(all:List Oper)(done:List Nat)(l:List Oper):AS->(AS->Prop)->Prop :=
 List.rec (motive:=λ_=>List Nat->AS->(AS->Prop)->Prop) (λ_ S K=>K S)
  (λo _ ih done S K=>if(DK o.dst).all (λd=>!done.contains d)=true then
   match TT P o with
   | some (pos,x)=>Oa (ρOf S none x) λ_ xs=>mP xs λb=>gm o.dst ⟨.d (.bool (b==pos)),[],[]⟩ S λS=>NB (DK o.dst++done) λdone=>ih done S K
   | none=>ij P all done o S λS e=>gm o.dst e S λS=>NB (DK o.dst++done) λdone=>ih done S K
   else False) l done
def MB:List C->List Nat
 | []=>[]
 | .sl id _ :: r=>id :: MB r
 | _ :: r=>MB r
def Ky:AV->List Nat
 | .ptr id _ _=>[id]
 | .sl id _=>[id]
 | .eptr id _ _ _ _=>[id]
 | .under _ _ x=>Ky x
 | .cc _ xs=>MB xs
 | _=>[]
def fF(S:AS)(id:Nat):List Nat:=id :: match (Af S id).box with
 | .var cs=>MB cs
 | _=>[]
def bJ:Op->Bool
 | .assign _|.box _ _|.alloc _|.buildSlice _ _ _|.makeSlice _ _ _|.makeMap _ _=>true
 | .call c=>match c.callee with|.value _|.builtin .append=>true|_=>false
 | _=>false
def XN(S:AS)(ts:List Nat)(o:Oper):List Nat :=
 (if bJ o.op=true then[o.dst.getD 0]else[])++match Ld S o with
  | true=>[]
  | false=>ts.flatMap λt=>(Ky (Af S t).av).flatMap (fF S)
def VP(x y:List Nat):Bool:=x.all λi=>!y.contains i
def XP(o:Oper)(i:Nat):Bool:=o.after.toList.any λe=>e.on==i&&Region.binds .any e
def eV(all:List Oper):Nat->Oper->Nat->Bool
 | 0,o,i=>XP o i
 | n+1,o,i=>XP o i||o.after.toList.any λe=>Region.binds .any e&&(match all[e.on]? with|some m=>eV all n m i|none=>false)
def RH(all:List Oper)(o:Oper)(i:Nat):Bool:=eV all 4 o i
def nl(all:List Oper)(o:Oper)(R W:List Nat)(log:List (Nat×List Nat×List Nat)):Bool :=
 log.all λx=>(VP x.2.2 (R++W)&&VP x.2.1 W)||RH all o x.1
def og(P:Program)(all:List Oper)(k:Nat)(log:List (Nat×List Nat×List Nat))(done:List Nat)(l:List Oper):AS->(AS->Prop)->Prop :=
 List.rec (motive:=λ_=>Nat->List (Nat×List Nat×List Nat)->List Nat->AS->(AS->Prop)->Prop) (λ_ _ _ S K=>K S)
  (λo _ ih k log done S K=>if(DK o.dst).all (λd=>!done.contains d)=true then
   ij P all done o S λS e=>NB (XN S (Ek all o) o++e.homes.map (·.1)) λR=>NB (e.bx.map (·.1)) λW=>if nl all o R W log=true then
    gm o.dst e S λS'=>NB (DK o.dst++done) λdone=>ih (k+1) ((k,R,W) :: log) done S' K else False
  else False) l k log done
def dJ(all:List Oper):Nat->List Oper->Bool
 | _,[]=>true
 | k,o :: r=>((o.after.toList.all λe=>!Region.binds .any e||decide (e.on<k))&&(match o.guard with|some (j,_)=>decide (j<k)|none=>true)) &&
  (all.take k).zipIdx.all (λx=>(VP (DK x.1.dst) (Ek all o)&&VP (Ek all x.1) (DK o.dst))||RH all o x.2)&&dJ all (k+1) r
def plain:AS->(AS->Prop)->Prop
 | [],K=>K []
 | s :: r,K=>plain r λr'=>match s with
   | ⟨.under _ _ _,b,n⟩=>K (⟨.any,b,n⟩ :: r')
   | s=>K (s :: r')
def jv(x y:D)(K:Prop):Prop :=
 match x with
 | .nil s=>(D.nil s=y\/D.list s []=y)/\K
 | x=>x=y/\K
def Iq(v v':Nat->Nat):List C->List C->Prop->Prop
 | [],[],K=>K
 | .d x :: r,.d y :: q,K=>jv x y (Iq v v' r q K)
 | .sl id n :: r,.sl id' n' :: q,K=>if id=id'/\n=v id/\n'=v' id then Iq v v' r q K else False
 | _,_,_=>False
def NZ(v v':Nat->Nat)(a a':AV)(K:Prop):Prop :=
 match a' with
 | .any=>K
 | .d x'=>match a with
   | .d x=>jv x x' K
   | .lim sz xs=>D.list sz xs=x'/\K
   | _=>False
 | .lim sz xs=>a=.lim sz xs/\K
 | .ptr id n o=>match a with
   | .ptr id' n' o'=>if id'=id/\n'=v id/\n=v' id then o'=o/\K else False
   | _=>False
 | .sl id n=>match a with
   | .sl id' n'=>if id'=id/\n'=v id/\n=v' id then K else False
   | _=>False
 | .cc k xs'=>match a with
   | .cc k' xs=>if k=k' then Iq v v' xs xs' K else False
   | _=>False
 | _=>False
def fl(v v':Nat->Nat)(b b':B6)(K:Prop):Prop :=
 match b' with
 | .none=>K
 | .frow sz xs=>(b=.frow sz xs\/∃e,b=.row sz e xs)/\K
 | .fvar cs=>b=.fvar cs/\K
 | .map es=>b=.map es/\K
 | .row sz e xs=>b=.row sz e xs/\K
 | .var cs'=>match b with
   | .var cs=>Iq v v' cs cs' K
   | _=>False
def fm(b':B6)(n n':Nat)(K:Prop):Prop :=
 match b' with
 | .none=>K
 | _=>if n'=0->n=0 then K else False
def bB(v v':Nat->Nat):AS->AS->Prop
 | [],[]=>True
 | ⟨av,b,n⟩ :: r,⟨av',b',n'⟩ :: r'=>NZ v v' av av' (fm b' n n' (fl v v' b b' (bB v v' r r')))
 | _,_=>False
def aL:List Nat->AS->(AS->Prop)->Prop
 | [],S,K=>K S
 | t :: r,S,K=>Yn (ρOf S none (.tmp t)) λx b=>OZ b S λS=>QT S t (.d x) λS=>aL r S K
def ZO:Nat->AS->AS->List Nat
 | t,⟨av,_,_⟩ :: r,⟨av',_,_⟩ :: r'=>match av' with
   | .d _=>match av with
     | .sl _ _=>t :: ZO (t+1) r r'
     | _=>ZO (t+1) r r'
   | _=>ZO (t+1) r r'
 | _,_,_=>[]
def j6:List C->List C->Bool
 | c :: r,c' :: q=>match c with
   | .sl _ _=>match c' with
     | .d _=>true
     | _=>j6 r q
   | _=>j6 r q
 | _,_=>false
def XB:Nat->AS->AS->List Nat
 | t,⟨_,b,_⟩ :: r,⟨_,b',_⟩ :: r'=>match b' with
   | .var cs'=>match b with
     | .var cs=>match j6 cs cs' with
       | true=>t :: XB (t+1) r r'
       | false=>XB (t+1) r r'
     | _=>XB (t+1) r r'
   | _=>XB (t+1) r r'
 | _,_,_=>[]
def ff:List Nat->AS->(AS->Prop)->Prop
 | [],S,K=>K S
 | t :: r,S,K=>match Af S t with
   | ⟨_,.var cs,n⟩=>Dv (σOf S) cs λl b=>ZV l λl=>OZ (b++[(t,.var l,n)]) S λS=>ff r S K
   | _=>False
def Le(S S':AS):Prop:=aL (ZO 0 S S') S λS=>ff (XB 0 S S') S λS=>bB (λi=>(Af S i).ver) (λi=>(Af S' i).ver) S S'
def Wp:List (Nat×Nat×Nat×TypeId)->AS->(AS->Prop)->Prop
 | [],S,K=>K S
 | (v,j,h,e) :: r,S,K=>match Af S v with
   | ⟨_,.var cs,n⟩=>match cs[j]? with
     | some (.d (.nil s))=>if 0<s/\v≠h then UW S h λm=>C0 (splice cs j [.sl h (m+1)]) λl=>OZ [(h,.row s e [],m+1),(v,.var l,n)] S λS=>Wp r S K else False
     | _=>False
   | _=>False
def Es:AS->(AS->Prop)->Prop
 | [],K=>K []
 | s :: r,K=>Es r λr'=>match s with|⟨v,b,n⟩=>We v λv=>Zv b λb=>G3 n λn=>K (⟨v,b,n⟩ :: r')
structure pS(p:Prop):Prop where
 go:p
structure Qf(S:AS)(W:(Exit->AS->Prop)->AS->Prop)(Q:Exit->AS->Prop):Prop where
 go:∃(ads:List (Nat×Nat×Nat×TypeId))(frs:List Nat)(ι:Type)(Inv:ι->AS)(μ:ι->Nat)(i:ι),Wp ads S (λS=>aL frs S λS=>Le S (Inv i)) /\
  ∀i,Es (Inv i) (W (λe S=>match e with|.normal=>∃j,Le S (Inv j)/\μ j<μ i|e=>Q e S))
theorem loop{S:AS}{W:(Exit->AS->Prop)->AS->Prop}{Q:Exit->AS->Prop}(ι:Type)(Inv:ι->AS)(μ:ι->Nat)(i:ι)(h:Le S (Inv i))
 (k:∀i,Es (Inv i) (W (λe S=>match e with|.normal=>∃j,Le S (Inv j)/\μ j<μ i|e=>Q e S))):Qf S W Q:=⟨⟨[],[],ι,Inv,μ,i,h,k⟩⟩
theorem nd{S:AS}{W:(Exit->AS->Prop)->AS->Prop}{Q:Exit->AS->Prop}(ads:List (Nat×Nat×Nat×TypeId))(ι:Type)(Inv:ι->AS)(μ:ι->Nat)(i:ι)(h:Wp ads S (λS=>Le S (Inv i)))
 (k:∀i,Es (Inv i) (W (λe S=>match e with|.normal=>∃j,Le S (Inv j)/\μ j<μ i|e=>Q e S))):Qf S W Q:=⟨⟨ads,[],ι,Inv,μ,i,h,k⟩⟩
noncomputable def j0(c:Code):Option Nat :=
 Code.rec (motive:=λ_=>Option Nat) none (λid _ _=>some id) (λ_ _ a b=>match a with|some i=>some i|none=>b) (λ_ _ _ _ _=>none) (λ_ _ a=>a) (λ_ a=>a)
  (λ_ _ _ _ _ _=>none) (λ_=>none) (λ_ a=>a) (λ_=>none) (λ_=>none) none (λ_=>none) c
noncomputable def Z3(J:List Nat)(y:Code):Bool :=
 match J with
 | []=>false
 | J=>match j0 y with
   | some i=>J.contains i
   | none=>false
structure Qe(S:AS)(wx wy:(Exit->AS->Prop)->AS->Prop)(Q:Exit->AS->Prop):Prop where
 go:∃(ι:Type)(Inv:ι->AS),wx (λe S=>match e with|.normal=>∃i,Le S (Inv i)|e=>Q e S) S/\∀i,Es (Inv i) (wy Q)
theorem Fl{S:AS}{wx wy:(Exit->AS->Prop)->AS->Prop}{Q:Exit->AS->Prop}(ι:Type)(Inv:ι->AS)(h:wx (λe S=>match e with|.normal=>∃i,Le S (Inv i)|e=>Q e S) S)(k:∀i,Es (Inv i) (wy Q)):Qe S wx wy Q:=⟨⟨ι,Inv,h,k⟩⟩
noncomputable def Z0(J:List Nat)(id:Nat):Bool :=
 match J with
 | []=>false
 | J=>J.contains (1000000+id)
structure Qd(P:Program)(S:AS)(x:Code)(Q:Exit->AS->Prop):Prop where
 go:∃(S₁:AS)(ι:Type)(Inv:ι->AS),Le S S₁/\(∀(X:Cx)(β:Nat->Value)(a:Act)(w:World),SimB X (λ_=>False) β S₁ a w->x.wp P (λe a' w'=>e=.normal/\∃i β',SimB X (λ_=>False) β' (Inv i) a' w') a w)/\∀i,Es (Inv i) (Q .normal)
theorem jD{P:Program}{S:AS}{x:Code}{Q:Exit->AS->Prop}(S₁:AS)(ι:Type)(Inv:ι->AS)(h:Le S S₁)
 (hx:∀(X:Cx)(β:Nat->Value)(a:Act)(w:World),SimB X (λ_=>False) β S₁ a w->x.wp P (λe a' w'=>e=.normal/\∃i β',SimB X (λ_=>False) β' (Inv i) a' w') a w) (k:∀i,Es (Inv i) (Q .normal)):Qd P S x Q:=⟨⟨S₁,ι,Inv,h,hx,k⟩⟩
def YO(P:Program)(J:List Nat)(c:Code):(Exit->AS->Prop)->AS->Prop :=
 Code.rec (motive:=λ_=>(Exit->AS->Prop)->AS->Prop)
  (λQ S=>Q .normal S)
  (λid ops draw Q S=>match Z0 J (1000000+id)with
   | true=>Qd P S (.region id ops draw) Q
   | false=>match draw with
     | false=>oe P ops.toList [] ops.toList S λS=>plain S (Q .normal)
     | true=>JA (dJ ops.toList 0 ops.toList=true/\P.follows .mixedOrders=true) (og P ops.toList 0 [] [] ops.toList S λS=>plain S (Q .normal)))
  (λ_ y wx wy Q S=>match Z3 J y with
   | false=>wx (λe S=>match e with|.normal=>wy Q S|e=>Q e S) S
   | true=>Qe S wx wy Q)
  (λc _ _ wx wy Q S=>match ρOf S none c with
   | .d (.bool b)=>Vh b (wx Q S) (wy Q S)
   | _=>False)
  (λid c wc Q S=>match Z0 J id with
   | true=>Qd P S (.block id c) Q
   | false=>wc (λe S=>match e with|.exit id'=>if id'=id then Q .normal S else Q (.exit id') S|e=>Q e S) S)
  (λ_ wc Q S=>Qf S wc Q)
  (λ_ _ _ _ _ _ _ _=>False)
  (λid Q S=>Q (.exit id) S)
  (λ_ _ _ _=>False)
  (λ_ Q S=>Q .normal S)
  (λ_ _ _=>False)
  (λQ S=>Q .ret S)
  (λ_ _ _=>False)
  c
def jc:C->AV
 | .d x=>.d x
 | .own sz e xs=>.own sz e xs
 | .sl _ _=>.any
def Zh:List C->(List D->Prop)->Prop
 | [],K=>K []
 | .d x :: r,K=>Zh r λl=>K (x :: l)
 | _ :: _,_=>False
def QP(P:Program)(S:AS)(used:List Nat)(frz:Bx):List ResultVar->(List C->List Nat->Bx->Prop)->Prop
 | [],K=>K [] used frz
 | .tmp t :: r,K=>match ρOf S none (.tmp t)with
   | .row id n sz e xs=>Sz (QP P S used (frz++[(id,.frow sz xs,n)]) r λl u b=>K (.d (.list sz xs) :: l) u b)
    (if used.contains id=true then False else JA (∀x∈xs,∀y∈x.cells,y.bare=true) (QP P S (id :: used) frz r λl u b=>K (.own sz e xs :: l) u b))
   | v=>mT v λx b=>QP P S used (frz++b) r λl u b=>K (.d x :: l) u b
 | .cell t ty :: r,K=>match ρOf S none (.tmp t)with
   | .vptr _ _ o cs=>Zh cs λl=>bA P ty (l.drop o) λx=>PP x λx=>QP P S used frz r λl u b=>K (.d x :: l) u b
   | _=>False
structure o9(x:AV)(r:AV):Prop where
 go:x=r
def mz(l:List C)(used:List Nat)(frz:Bx)(r:AV):Prop :=
 if used.all (λi=>Fj i frz)=true then match l with
  | [c]=>o9 (jc c) r
  | l=>o9 (.tup l) r
 else False
def dM(P:Program)(rs:List ResultVar)(used:List Nat)(frz:Bx)(S:AS)(r:AV):Prop :=
 match r with
 | .cc _ _=>match rs with
   | [.tmp t]=>match ρOf S none (.tmp t)with
     | .row id _ sz e xs=>if used.contains id=true then False else if(id :: used).all (λi=>Fj i frz)=true then o9 (.cc none [.own sz e xs]) r else False
     | _=>False
   | _=>False
 | r=>match rs with
   | [.tmp t]=>match ρOf S none (.tmp t)with
     | .vptr id _ 0 cs=>if used.contains id=true then False else Dv (σOf S) cs λl b=>O9 l λl=>if(id :: used).all (λi=>Fj i (frz++b))=true then o9 (.optr l) r else False
     | _=>QP P S used frz rs λl u b=>mz l u b r
   | rs=>QP P S used frz rs λl u b=>mz l u b r
def Fi:Nat->AS
 | 0=>[]
 | n+1=>cF :: Fi n
def bF(i:Nat):List C->List C
 | []=>[]
 | c :: r=>match c with
   | .own _ _ _=>.sl i 0 :: bF i r
   | c=>c :: bF i r
def m7:List C->B6
 | []=>.none
 | c :: r=>match c with
   | .own sz e xs=>.row sz e xs
   | _=>m7 r
def Ls(i:Nat):AV->Sl
 | .own sz e xs=>⟨.sl i 0,.row sz e xs,0⟩
 | .optr cs=>⟨.ptr i 0 0,.var (cs.map .d),0⟩
 | .cc k l=>⟨.cc k (bF i l),m7 l,0⟩
 | a=>⟨a,.none,0⟩
def enter(i:Nat):List AV->AS->AS
 | [],S=>S
 | a :: r,S=>Ls i a :: enter (i+1) r (S.drop 1)
def Dp:List (Nat×AV)->Nat->AV
 | [],_=>.any
 | (t,v) :: r,k=>match Nat.beq t k with
   | true=>v
   | false=>Dp r k
def Cn:Bx->Nat->AV->Sl
 | [],_,v=>⟨v,.none,0⟩
 | (t,b,n) :: r,k,v=>match Nat.beq t k with
   | true=>⟨v,b,n⟩
   | false=>Cn r k v
def ct(N:Nat):Nat->(Nat->Sl)->AS
 | 0,_=>[]
 | n+1,f=>f (Nat.sub N (Nat.succ n)) :: ct N n f
def CJ(n:Nat)(l:List (Nat×AV))(b:Bx):AS:=ct n n λk=>Cn b k (Dp l k)
def ZY(P:Program)(J:List Nat)(fn:Func)(args:List AV)(r:AV):Prop :=
 match fn.body with
 | some c=>Es (enter 0 args (Fi fn.ntmps)) (YO P J c (λe S=>match e with
   | .normal|.ret=>dM P fn.results.toList [] [] S r
   | _=>False))
 | none=>False
def Q2(S:AS):Nat->List AV->(List Nat->Bx->Prop)->Prop
 | _,[],K=>K [] []
 | i,.own sz e ys :: r,K=>match Af S i with
   | ⟨_,.row sz' e' xs,0⟩=>(sz'=sz/\e'=e/\xs=ys)/\Q2 S (i+1) r λu b=>K (i :: u) b
   | _=>False
 | i,.optr cs :: r,K=>match Af S i with
   | ⟨_,.var cs',0⟩=>Dv (σOf S) cs' λl b=>O9 l λl=>l=cs/\Q2 S (i+1) r λu b'=>K (i :: u) (b++b')
   | _=>False
 | i,.cc _ l :: r,K=>V3 l λsz e ys=>match Af S i with
   | ⟨_,.row sz' e' xs,0⟩=>(sz'=sz/\e'=e/\xs=ys)/\Q2 S (i+1) r λu b=>K (i :: u) b
   | _=>False
 | i,_ :: r,K=>Q2 S (i+1) r K
def Wn(P:Program)(J:List Nat)(fn:Func)(args outs:List AV)(r:AV):Prop :=
 match fn.body with
 | some c=>Es (enter 0 args (Fi fn.ntmps)) (YO P J c (λe S=>match e with
   | .normal|.ret=>Q2 S 0 outs λu b=>dM P fn.results.toList u b S r
   | _=>False))
 | none=>False
def nM(S:AS)(k q sz:Nat)(e:TypeId)(ys:List D):Prop :=
 match Af S k with
 | ⟨_,.var [.sl q' n],0⟩=>match Af S q with
   | ⟨_,.row sz' e' xs,m⟩=>q'=q/\n=m/\sz'=sz/\e'=e/\xs=ys
   | _=>False
 | _=>False
def iQ(P:Program)(J:List Nat)(fn:Func)(args:List AV)(k q sz:Nat)(e:TypeId)(xs ys:List D):Prop :=
 match fn.body with
 | some c=>Es (AQ (AQ (Fb (enter 0 args (Fi fn.ntmps)) k (.ptr k 0 0)) k (.var [.sl q 0]) 0) q (.row sz e xs) 0) (YO P J c (λe' S=>match e' with
   | .normal|.ret=>nM S k q sz e ys
   | _=>False))
 | none=>False
def nA(P:Program)(fn:Func)(args:List AV)(r:AV):Prop:=ZY P [] fn args r
def mS(P:Program)(fn:Func)(args outs:List AV)(r:AV):Prop:=Wn P [] fn args outs r
open Go.RowKit (Below)
theorem A7.refl(B:Nat)(M:Nat->Prop)(w:World):A7 B M w w:=⟨rfl,rfl,rfl,qb _,λ_ _ _=>rfl⟩
theorem A7.trans{B:Nat}{M:Nat->Prop}{a b c:World}(h:A7 B M a b)(k:A7 B M b c):A7 B M a c :=
 ⟨k.os.trans h.os,k.tape.trans h.tape,k.output.trans h.output,qt h.size k.size,λi hi hm=>(k.block i hi hm).trans (h.block i hi hm)⟩
theorem A7.of{B:Nat}{M:Nat->Prop}{a b:World}(h:Below B a b):A7 B M a b:=⟨h.os,h.tape,h.output,h.size,λi hi _=>h.block i hi⟩
theorem A7.below{B:Nat}{M:Nat->Prop}{a b:World}(h:A7 B M a b)(hm:∀k,¬M k):Below B a b:=⟨h.os,h.tape,h.output,h.size,λi hi=>h.block i hi (hm i)⟩
theorem A7.weaken{B B':Nat}{M M':Nat->Prop}{a b:World}(h:A7 B M a b)(hB:B'<=B)(hm:∀k,k<B'->¬M' k->¬M k):A7 B' M' a b :=
 ⟨h.os,h.tape,h.output,h.size,λi hi hk=>h.block i (by omega) (hm i hi hk)⟩
theorem A7.setRow(B:Nat){M:Nat->Prop}(w:World){b:Nat}(c:Array Value)(hb:B<=b\/M b):A7 B M w (w.setRow b c) :=
 ⟨rfl,rfl,rfl,by simp,λk hk hm=>setRow_other w b k c λe=>by subst e;rcases hb with h|h;omega;exact hm h⟩
section mono
variable {O O':Nat->Prop} {w w':World}
structure B0(O O':Nat->Prop)(w w':World):Prop where
 size:w.heap.size<=w'.heap.size
 own:∀b,b<w.heap.size->O' b->O b
 same:∀b,b<w.heap.size->¬O b->w'.heap[b]?=w.heap[b]?
theorem B0.cell(k:B0 O O' w w'){b o:Nat}(hb:b<w.heap.size)(hO:¬O b):w'.cell? ⟨b,o,none⟩=w.cell? ⟨b,o,none⟩ :=
 World.cell?_of_block (k.same b hb hO)
theorem Aw.mono(k:B0 O O' w w'){v:Value}{x:D}(h:Aw O w v x):Aw O' w' v x:=by
 induction h with
 | bool b=>exact .bool b
 | int kd n=>exact .int kd n
 | str s=>exact .str s
 | fn f vs xs hl h1 h ih=>exact .fn f vs xs hl h1 ih
 | ptr b off cs c hb hO h1 hcell h ih =>
   have hne:∀(j:Nat) y,cs[j]?=some y->cs≠[]:=by intro j y hy e;subst e;simp at hy
   exact .ptr b off cs c (λhn=>qm (hb hn) k.size) (λhn h'=>hO hn (k.own b (hb hn) h')) h1
    (λj y hy=>by rw[<-hcell j y hy];exact k.cell (hb (hne j y hy)) (hO (hne j y hy))) ih
 | agg vs xs hl h1 h ih=>exact .agg vs xs hl h1 ih
 | nil a sz=>exact .nil a sz
 | emp a cap sz=>exact .emp a cap sz
 | list b off cap sz xs c hne hb hO hcap hsz h1 hcell h ih =>
   exact .list b off cap sz xs c hne (qm hb k.size) (λh'=>hO (k.own b hb h')) hcap hsz h1
    (λi x j y hx hy=>by rw[<-hcell i x j y hx hy];exact k.cell hb hO) ih
theorem Bl.mono(k:B0 O O' w w'){vs:List Value}{ys:List D}(h:Bl O w vs ys):Bl O' w' vs ys :=
 ⟨h.1,λj v y hv hy=>⟨(h.2 j v y hv hy).1.mono k,(h.2 j v y hv hy).2⟩⟩
theorem Ot.mono(k:B0 O O' w w'){v:Value}{x:AV}(h:Ot O w v x):Ot O' w' v x:=by
 cases x<;>simp only[Ot]at h ⊢
 case d x=>exact h.mono k
 case lim sz xs=>exact⟨h.1.mono k,h.2⟩
theorem BQ.mono(k:B0 O O' w w'){β β':Nat->Value}{n n':Nat->Nat}(hn:∀i,n i<n' i\/(n' i=n i/\β' i=β i)){v:Value}{c:C}(h:BQ β n O w v c):BQ β' n' O' w' v c:=by
 cases c with
 | d x=>exact⟨h.1.mono k,h.2⟩
 | sl id m =>
   simp only[BQ]at h ⊢;rcases hn id with h1|⟨h1,h2⟩
   ·exact⟨by omega,λe=>by omega⟩
   ·rw[h1,h2];exact h
 | own sz e xs=>exact h
theorem JB.mono(k:B0 O O' w w'){β β':Nat->Value}{n n':Nat->Nat}{tm tm':Array Value}{v:Value}
 (hn:∀i,n i<n' i\/(n' i=n i/\β' i=β i)):∀{x:AV},(∀u∈x.guards,tm'[u]?=tm[u]?)->JB β n O w tm v x->JB β' n' O' w' tm' v x:=by
 intro x
 induction x with
 | any=>intro _ h;exact h
 | bot=>intro _ h;exact h
 | d x=>intro _ h;exact Aw.mono k h
 | lim sz xs=>intro _ h;exact⟨Aw.mono k h.1,h.2⟩
 | ptr id m o =>
   intro _ h;simp only[JB]at h ⊢;rcases hn id with h1|⟨h1,h2⟩
   ·exact⟨by omega,λe=>by omega⟩
   ·rw[h1,h2];exact h
 | sl id m =>
   intro _ h;simp only[JB]at h ⊢;rcases hn id with h1|⟨h1,h2⟩
   ·exact⟨by omega,λe=>by omega⟩
   ·rw[h1,h2];exact h
 | eptr id m sz i o =>
   intro _ h;simp only[JB]at h ⊢;rcases hn id with h1|⟨h1,h2⟩
   ·exact⟨by omega,λe=>by omega⟩
   ·rw[h1,h2];exact h
 | tup xs =>
   intro _ h;obtain⟨vs,hv,hl,h⟩:=h;refine⟨vs,hv,hl,λi u x hu hx=>?_⟩;have:=h i u x hu hx
   cases x with
   | d y=>exact Aw.mono k this
   | sl id m=>exact BQ.mono k hn this
   | own sz e xs=>exact this
 | own sz e xs=>intro _ h;exact h
 | optr cs=>intro _ h;exact h
 | cc k' xs =>
   intro _ h;obtain⟨vs,hv,hl,h⟩:=h;exact⟨vs,hv,hl,λi u x hu hx=>⟨BQ.mono k hn (h i u x hu hx).1,(h i u x hu hx).2⟩⟩
 | under t want x ih =>
   intro hg h;refine⟨λht=>ih (λu hu=>hg u (by simp[AV.guards,hu])) (h.1 ?_),λht=>h.2 ?_⟩
   ·rw[<-hg t (by simp[AV.guards])];exact ht
   ·rw[<-hg t (by simp[AV.guards])];exact ht
end mono
theorem C3:∀(S:AS)(d:Nat)(v:AV)(i:Nat),Af (Fb S d v) i=if i=d/\d<S.length then⟨v,(Af S d).box,(Af S d).ver⟩else Af S i
 | [],d,v,i=>by simp[Fb,Af]
 | s :: r,0,v,0=>by simp[Fb,Af]
 | s :: r,0,v,i+1=>by simp[Fb,Af]
 | s :: r,d+1,v,0=>by simp[Fb,Af]
 | s :: r,d+1,v,i+1=>by simp[Fb,Af,C3 r d v i]
theorem BP:∀(S:AS)(d:Nat)(b:B6)(n i:Nat),Af (AQ S d b n) i=if i=d/\d<S.length then⟨(Af S d).av,b,n⟩else Af S i
 | [],d,b,n,i=>by simp[AQ,Af]
 | s :: r,0,b,n,0=>by simp[AQ,Af]
 | s :: r,0,b,n,i+1=>by simp[AQ,Af]
 | s :: r,d+1,b,n,0=>by simp[AQ,Af]
 | s :: r,d+1,b,n,i+1=>by simp[AQ,Af,BP r d b n i]
theorem Ir:∀(S:AS)(d:Nat)(v:AV),(Fb S d v).length=S.length
 | [],_,_=>rfl
 | _ :: _,0,_=>rfl
 | _ :: r,d+1,v=>by simp[Fb,Ir r d v]
theorem C6:∀(S:AS)(d:Nat)(b:B6)(n:Nat),(AQ S d b n).length=S.length
 | [],_,_,_=>rfl
 | _ :: _,0,_,_=>rfl
 | _ :: r,d+1,b,n=>by simp[AQ,C6 r d b n]
theorem Mt:∀(S:AS)(i:Nat),S.length<=i->Af S i=cF
 | [],_,_=>rfl
 | _ :: r,0,h=>by simp at h
 | _ :: r,i+1,h=>by simp only[Af];exact Mt r i (by simpa using h)
theorem B0.refl(O:Nat->Prop)(w:World):B0 O O w w:=⟨qb _,λ_ _ h=>h,λ_ _ _=>rfl⟩
theorem B0.world{O:Nat->Prop}{w w':World}(h:Below w.heap.size w w'):B0 O O w w':=⟨h.size,λ_ _ h=>h,λb hb _=>h.block b hb⟩
theorem B0.of_sub{O O':Nat->Prop}{w:World}(h:∀b,O' b->O b):B0 O O' w w:=⟨qb _,λb _ hb=>h b hb,λ_ _ _=>rfl⟩
theorem SimB.glob{x:Cx}{G:Nat->Prop}{β:Nat->Value}{S:AS}{a:Act}{w:World}(h:SimB x G β S a w):Oq (OS β x S) w:=by
 intro g cs hg;refine(x.glob g cs hg).mono ⟨h.below.size,λb hb ho=>?_,λb hb ho=>h.below.block b (by omega) (λhm=>ho (.inr (.inr hm)))⟩;rcases ho with ho|ho|⟨i,h1,h2⟩
 ·exact .inl ho
 ·exact .inr (h.rs b ho).1
 ·exact .inr (h.mine i b h1 h2).1
theorem WS{O M:Nat->Prop}{w:World}(h:Oq (λb=>O b\/M b) w):Oq (λb=>O b\/w.heap.size<=b\/M b) w:=by
 intro g cs hg;refine(h g cs hg).mono ⟨qb _,λb hb ho=>?_,λ_ _ _=>rfl⟩;rcases ho with ho|ho|ho
 ·exact .inl ho
 ·omega
 ·exact .inr ho
theorem A5{α:Type}{l:List α}{i:Nat}{x:α}(h:l[i]?=some x):i<l.length:=by
 rcases qw i l.length with h'|h'
 ·exact h'
 ·simp[qv h']at h
theorem CP{α:Type}{l:Array α}{i:Nat}{x:α}(h:l[i]?=some x):i<l.size:=by
 rcases qw i l.size with h'|h'
 ·exact h'
 ·simp[qT h']at h
section sim
variable {x:Cx} {G:Nat->Prop} {β:Nat->Value} {S:AS} {a:Act} {w:World}
theorem Bj.mono{w w':World}{e:TypeId}{sz n:Nat}{v:Value}{vals:List Value}(h:Bj w e sz v n vals)
 (hk:∀b,b<w.heap.size->Ac v=some b->w'.heap[b]?=w.heap[b]?):Bj w' e sz v n vals:=by
 rcases h with⟨hl,h⟩|h
 ·rcases h with h|⟨g,cap,cur,hv,hb,hh,hn,hm,hs,ht⟩
  ·exact .inl ⟨hl,.inl h⟩
  ·by_cases hc:cap=0
   ·subst hc;have hn0:n=0:=by omega
    subst hn0;exact .inr ⟨rfl,by simpa using hl,_,hv⟩
   ·have hlt:=CP hh;exact .inl ⟨hl,.inr ⟨g,cap,cur,hv,hb,by rw[hk g hlt (by rw[hv];simp[Ac,hc])];exact hh,hn,hm,hs,ht⟩⟩
 ·exact .inr h
theorem Bj.lt{w:World}{e:TypeId}{sz n:Nat}{v:Value}{vals:List Value}(h:Bj w e sz v n vals){b:Nat}(hb:Ac v=some b):b<w.heap.size:=by
 rcases h with⟨_,⟨hv,_⟩|⟨g,cap,cur,hv,_,hh,_⟩⟩|⟨_,_,ad,hv⟩
 ·rw[hv]at hb;simp[Ac]at hb
 ·rw[hv]at hb;simp[Ac]at hb;obtain⟨_,rfl⟩:=hb;exact CP hh
 ·rw[hv]at hb;simp[Ac]at hb
theorem I3.lt{β:Nat->Value}{n:Nat->Nat}{O:Nat->Prop}{w:World}{id:Nat}{B:B6}(h:I3 β n O w id B)(ho:B.owned=true){b:Nat}(hb:Ac (β id)=some b):b<w.heap.size:=by
 cases B<;>simp[B6.owned]at ho
 case var cs =>
  obtain⟨b',vals,T,hβ,h1,_⟩:=h;rw[hβ]at hb;simp[Ac]at hb;subst hb;exact CP h1
 case row sz e xs =>
  obtain⟨_,_,vals,hr,_⟩:=h;exact hr.lt hb
 case map es =>
  obtain⟨b',vs,clock,hβ,h1,_⟩:=h;rw[hβ]at hb;simp[Ac]at hb;subst hb;exact CP h1
theorem SimB.blk(h:SimB x G β S a w){i b:Nat}(ho:(Af S i).box.owned=true)(hb:Ac (β i)=some b):b<w.heap.size:=(h.boxes i).lt ho hb
theorem SimB.os_lt(h:SimB x G β S a w){b:Nat}(hb:OS β x S b):b<w.heap.size:=by
 rcases hb with hb|hb|⟨i,h1,h2⟩
 ·exact qm (h.o₀ b hb).1 h.hbase
 ·exact(h.rs b hb).2
 ·exact h.blk h1 h2
theorem I3.mono{O O':Nat->Prop}{w w':World}(k:B0 O O' w w'){β β':Nat->Value}{n n':Nat->Nat}{id:Nat}{B:B6}(hn:∀i,n i<n' i\/(n' i=n i/\β' i=β i))(hβ:β' id=β id)
 (hk:∀b,b<w.heap.size->B.owned=true->Ac (β id)=some b->w'.heap[b]?=w.heap[b]?) (h:I3 β n O w id B):I3 β' n' O' w' id B:=by
 cases B with
 | none=>exact h
 | var cs =>
   obtain⟨b,vals,T,h1,h3,h4,h5⟩:=h;have hlt:=CP h3;exact⟨b,vals,T,by rw[hβ];exact h1,by rw[hk b hlt rfl (by rw[h1];rfl)];exact h3,h4,λj v c hv hc=>(h5 j v c hv hc).mono k hn⟩
 | row sz e xs =>
   obtain⟨h1,h2,vals,h3,h4⟩:=h;exact⟨h1,h2,vals,by rw[hβ];exact h3.mono λb hb hv=>hk b hb rfl hv,h4.mono k⟩
 | fvar cs=>exact⟨by rw[hβ];exact Aw.mono k h.1,by rw[hβ];exact h.2⟩
 | frow sz xs=>simp only[I3];rw[hβ];exact Aw.mono k h
 | map es =>
   obtain⟨b,vs,clock,h1,h3,h4,h5⟩:=h;have hlt:=CP h3;exact⟨b,vs,clock,by rw[hβ];exact h1,by rw[hk b hlt rfl (by rw[h1];rfl)];exact h3,h4,λi e p hv hc=>⟨(h5 i e p hv hc).1.mono k,(h5 i e p hv hc).2.1.mono k,(h5 i e p hv hc).2.2⟩⟩
theorem SimB.worldR(h:SimB x G β S a w){w':World}(hw:A7 w.heap.size x.R w w'):SimB x G β S a w':=by
 have hk:B0 (OS β x S) (OS β x S) w w':=⟨hw.size,λ_ _ h=>h,λb hb hno=>hw.block b hb λhr=>hno (.inr (.inl hr))⟩;refine⟨h.len,h.df,h.below.trans (hw.weaken h.hbase λk hk hm hr=>?_),qt h.hbase hw.size,h.o₀,λb hb=>⟨(h.rs b hb).1,qm (h.rs b hb).2 hw.size⟩,?_,?_,h.mine,h.inj,h.gds,h.ini⟩
 ·rcases(h.rs k hr).1 with h1|h1
  ·omega
  ·exact hm h1
 ·exact λt v hv=>(h.slots t v hv).mono hk (λ_=>.inr ⟨rfl,rfl⟩) (λ_ _=>rfl)
 ·exact λi=>(h.boxes i).mono hk (λ_=>.inr ⟨rfl,rfl⟩) rfl (λb hb ho hv=>hw.block b hb (h.mine i b ho hv).2)
theorem SimB.world(h:SimB x G β S a w){w':World}(hw:Below w.heap.size w w'):SimB x G β S a w':=h.worldR (.of hw)
theorem ZW(d:Nat)(v:AV):OS β x (Fb S d v)=OS β x S:=by
 funext b;simp only[OS,C3];congr 2;apply propext;constructor
 ·rintro⟨i,h1,h2⟩;refine⟨i,?_,h2⟩;split at h1
  ·rename_i hh;rw[hh.1];exact h1
  ·exact h1
 ·rintro⟨i,h1,h2⟩;refine⟨i,?_,h2⟩;split
  ·rename_i hh;rw[hh.1]at h1;exact h1
  ·exact h1
theorem Rb(d:Nat)(v:AV):AG (Fb S d v)=AG S:=by
 funext i;simp only[AG,C3];split
 ·rename_i hh;rw[hh.1]
 ·rfl
theorem Ow(d:Nat)(v:AV)(i:Nat):(Af (Fb S d v) i).box=(Af S i).box:=by
 rw[C3];split
 ·rename_i hh;rw[hh.1]
 ·rfl
theorem SimB.put(h:SimB x G β S a w){d:Nat}{v:Value}{y:AV}(hd:¬G d)(hr:JB β (AG S) (OS β x S) w a.tmps v y)(hg:∀u∈y.guards,G u) :
 SimB x G β (Fb S d y) (a.put (some d) v) w where
 len:=by simp[Act.put,Ir,h.len]
 df:=h.df
 below:=h.below
 hbase:=h.hbase
 o₀:=h.o₀
 rs:=h.rs
 slots:=by
  intro t u hu;rw[ZW,Rb,C3]
  have keep:∀(y:AV),(∀u∈y.guards,G u)->∀z∈y.guards,(a.put (some d) v).tmps[z]?=a.tmps[z]?:=by
   intro y hy z hz;have:d≠z:=λe=>hd (e▸hy z hz);simp[Act.put,qp this]
  simp only[Act.put,qR]at hu;split at hu
  ·rename_i e
   subst e;split at hu
   ·rename_i hlt
    cases hu
    rw[qf ⟨rfl,by rw[<-h.len];exact hlt⟩];exact hr.mono (B0.refl _ _) (λ_=>.inr ⟨rfl,rfl⟩) (keep y hg)
   ·cases hu
  ·rename_i e
   rw[qi (λhh=>e hh.1.symm)];exact(h.slots t u hu).mono (B0.refl _ _) (λ_=>.inr ⟨rfl,rfl⟩) (keep _ (h.gds t))
 boxes:=by intro i;rw[ZW,Rb,Ow];exact h.boxes i
 mine:=by intro i b;rw[Ow];exact h.mine i b
 inj:=by intro i j b;rw[Ow,Ow];exact h.inj i j b
 gds:=by
  intro t u hu;rw[C3]at hu;split at hu
  ·exact hg u hu
  ·exact h.gds t u hu
 ini:=by
  intro i;rw[Ow,show(Af (Fb S d y) i).ver=(Af S i).ver from congrFun (Rb d y) i];exact h.ini i
def Kz(β:Nat->Value)(id:Nat)(v:Value)(i:Nat):Value:=if i=id then v else β i
theorem J7{id:Nat}(hid:id<S.length)(B:B6)(n i:Nat):Af (AQ S id B n) i=if i=id then⟨(Af S id).av,B,n⟩else Af S i:=by
 rw[BP];simp[hid]
theorem SimB.rebox(h:SimB x G β S a w){id:Nat}{B:B6}{v:Value}{n:Nat}{w':World}{R':Nat->Prop}(hR:∀b,R' b->x.R b)(hid:id<S.length)
 (hver:(Af S id).ver<n\/(n=(Af S id).ver/\v=β id/\(Af S id).box≠.none)) (hs:w.heap.size<=w'.heap.size) (hb:A7 x.base x.M w w')
 (hkeep:∀b,b<w.heap.size->((Af S id).box.owned=true->Ac (β id)≠some b)->w'.heap[b]?=w.heap[b]?)
 (hown:B.owned=true->∀b,Ac v=some b->((Ac (β id)=some b/\(Af S id).box.owned=true)\/w.heap.size<=b\/x.R b)/\¬R' b)
 (hbox:B0 (OS β x S) (OS (Kz β id v) (x.less R') (AQ S id B n)) w w'->(∀i,AG S i<AG (AQ S id B n) i\/(AG (AQ S id B n) i=AG S i/\Kz β id v i=β i)) ->
  I3 (Kz β id v) (AG (AQ S id B n)) (OS (Kz β id v) (x.less R') (AQ S id B n)) w' id B) :
 SimB (x.less R') G (Kz β id v) (AQ S id B n) a w':=by
 have hget:=J7 (S:=S) hid B n
 have hO:∀b,b<w.heap.size->OS (Kz β id v) (x.less R') (AQ S id B n) b->OS β x S b:=by
  intro b hb h';rcases h' with h'|h'|⟨i,h1,h2⟩
  ·exact .inl h'
  ·exact .inr (.inl (hR b h'))
  ·rw[hget]at h1;by_cases hi:i=id
   ·subst hi;simp[Kz]at h1 h2;rcases(hown h1 b h2).1 with⟨h3,h4⟩|h3|h3
    ·exact .inr (.inr ⟨i,h4,h3⟩)
    ·omega
    ·exact .inr (.inl h3)
   ·simp[Kz,hi]at h1 h2;exact .inr (.inr ⟨i,h1,h2⟩)
 have hk:B0 (OS β x S) (OS (Kz β id v) (x.less R') (AQ S id B n)) w w' :=
  ⟨hs,hO,λb hb hno=>hkeep b hb λho hbk=>hno (.inr (.inr ⟨id,ho,hbk⟩))⟩
 have hvv:∀i,AG S i<AG (AQ S id B n) i\/(AG (AQ S id B n) i=AG S i/\Kz β id v i=β i):=by
  intro i;simp only[AG,hget,Kz];by_cases hi:i=id
  ·subst hi;simp only[if_true];rcases hver with h1|⟨h1,h2,_⟩
   ·exact .inl h1
   ·exact .inr ⟨h1,h2⟩
  ·simp[hi]
 refine⟨by rw[C6];exact h.len,h.df,h.below.trans hb,qt h.hbase hs,h.o₀,λb hb=>⟨(h.rs b (hR b hb)).1,qm (h.rs b (hR b hb)).2 hs⟩,?_,?_,?_,?_,?_,?_⟩
 ·intro t u hu;have hav:(Af (AQ S id B n) t).av=(Af S t).av:=by rw[hget];split<;>simp_all
  rw[hav];exact(h.slots t u hu).mono hk hvv (λ_ _=>rfl)
 ·intro i;rw[hget];by_cases hi:i=id
  ·subst hi;simp only[if_true];exact hbox hk hvv
  ·simp only[hi,if_false];refine(h.boxes i).mono hk hvv (by simp[Kz,hi]) λb hb ho hbk=>hkeep b hb λho' hbk'=>hi (h.inj i id b ho ho' hbk hbk')
 ·intro i b hi hbi;rw[hget]at hi;by_cases ei:i=id
  ·subst ei;simp[Kz]at hi hbi;obtain⟨h1,h2⟩:=hown hi b hbi;refine⟨?_,h2⟩;rcases h1 with⟨h3,h4⟩|h3|h3
   ·exact(h.mine i b h4 h3).1
   ·exact .inl (qt h.hbase h3)
   ·exact(h.rs b h3).1
  ·simp[Kz,ei]at hi hbi;exact⟨(h.mine i b hi hbi).1,λhr=>(h.mine i b hi hbi).2 (hR b hr)⟩
 ·intro i j b hi hj hbi hbj;rw[hget]at hi hj
  have key:∀j,j≠id->(Af S j).box.owned=true->Ac (β j)=some b->B.owned=true->Ac v=some b->j=id:=by
   intro j hj1 hj2 hj3 hB hv;rcases(hown hB b hv).1 with⟨h3,h4⟩|h3|h3
   ·exact h.inj j id b hj2 h4 hj3 h3
   ·have:=h.blk hj2 hj3;omega
   ·exact absurd h3 (h.mine j b hj2 hj3).2
  by_cases ei:i=id
  ·by_cases ej:j=id
   ·rw[ei,ej]
   ·subst ei;simp[Kz,ej]at hi hj hbi hbj;exact(key j ej hj hbj hi hbi).symm
  ·by_cases ej:j=id
   ·subst ej;simp[Kz,ei]at hi hj hbi hbj;exact key i ei hi hbi hj hbj
   ·simp[Kz,ei,ej]at hi hj hbi hbj;exact h.inj i j b hi hj hbi hbj
 ·intro t u hu;have hav:(Af (AQ S id B n) t).av=(Af S t).av:=by rw[hget];split<;>simp_all
  rw[hav]at hu;exact h.gds t u hu
 ·intro i h0 hne;rw[hget]at h0 hne;by_cases hi:i=id
  ·subst hi;simp only[if_true]at h0 hne;rcases hver with h1|⟨h1,h2,h3⟩
   ·omega
   ·simp only[Kz,if_true];rw[h2];exact h.ini i (by rw[<-h1];exact h0) h3
  ·simp only[hi,if_false]at h0 hne;simp only[Kz,hi,if_false];exact h.ini i h0 hne
theorem FI(β:Nat->Value)(id:Nat):Kz β id (β id)=β:=by funext i;simp only[Kz];split<;>simp_all
theorem SimB.multi(h:SimB x G β S a w)(E:Nat->Option (B6×Nat×Value)){S':AS}{β':Nat->Value}{w':World}(hS:∀i,Af S' i=match E i with|some (B,n,_)=>⟨(Af S i).av,B,n⟩|none=>Af S i)
 (hβ:∀i,β' i=match E i with|some (_,_,v)=>v|none=>β i) (hlen:S'.length=S.length) (hs:w.heap.size<=w'.heap.size) (hb:A7 x.base x.M w w')
 (hver:∀i B n v,E i=some (B,n,v)->(Af S i).ver<n\/(n=(Af S i).ver/\v=β i/\(Af S i).box≠.none))
 (hkeep:∀b,b<w.heap.size->(∀i B n v,E i=some (B,n,v)->(Af S i).box.owned=true->Ac (β i)≠some b)->w'.heap[b]?=w.heap[b]?)
 (hown:∀i B n v b,E i=some (B,n,v)->B.owned=true->Ac v=some b->(∃j B' n' v',E j=some (B',n',v')/\(Af S j).box.owned=true/\Ac (β j)=some b)\/w.heap.size<=b)
 (hinj:∀i j B n v B' n' v' b,E i=some (B,n,v)->E j=some (B',n',v')->B.owned=true->B'.owned=true->Ac v=some b->Ac v'=some b->i=j)
 (hbox:B0 (OS β x S) (OS β' x S') w w'->(∀i,AG S i<AG S' i\/(AG S' i=AG S i/\β' i=β i))->∀i B n v,E i=some (B,n,v)->I3 β' (AG S') (OS β' x S') w' i B) :
 SimB x G β' S' a w':=by
 have hO:∀b,b<w.heap.size->OS β' x S' b->OS β x S b:=by
  intro b hb h';rcases h' with h'|h'|⟨i,h1,h2⟩
  ·exact .inl h'
  ·exact .inr (.inl h')
  ·rw[hS]at h1;rw[hβ]at h2
   cases hE:E i with
   | none=>rw[hE]at h1 h2;exact .inr (.inr ⟨i,h1,h2⟩)
   | some q =>
     obtain⟨B,n,v⟩:=q;rw[hE]at h1 h2;rcases hown i B n v b hE h1 h2 with⟨j,B',n',v',_,h4,h5⟩|h3
     ·exact .inr (.inr ⟨j,h4,h5⟩)
     ·omega
 have hk:B0 (OS β x S) (OS β' x S') w w':=⟨hs,hO,λb hb hno=>hkeep b hb λi B n v _ ho hbk=>hno (.inr (.inr ⟨i,ho,hbk⟩))⟩
 have hvv:∀i,AG S i<AG S' i\/(AG S' i=AG S i/\β' i=β i):=by
  intro i;simp only[AG,hS,hβ]
  cases hE:E i with
  | none=>exact .inr ⟨rfl,rfl⟩
  | some q=>obtain⟨B,n,v⟩:=q;exact(hver i B n v hE).imp (λh=>h) (λh=>⟨h.1,h.2.1⟩)
 have hav:∀t,(Af S' t).av=(Af S t).av:=by intro t;rw[hS];cases E t<;>rfl
 have stay:∀i b,E i=none->(Af S i).box.owned=true->Ac (β i)=some b->∀j B n v,E j=some (B,n,v)->(Af S j).box.owned=true->Ac (β j)≠some b:=by
  intro i b hE ho hb j B n v hj ho' hb';have:=h.inj i j b ho ho' hb hb';subst this;rw[hE]at hj;cases hj
 refine⟨by rw[hlen];exact h.len,h.df,h.below.trans hb,qt h.hbase hs,h.o₀,λb hb=>⟨(h.rs b hb).1,qm (h.rs b hb).2 hs⟩,?_,?_,?_,?_,?_,?_⟩
 ·intro t u hu;rw[hav];exact(h.slots t u hu).mono hk hvv (λ_ _=>rfl)
 ·intro i
  cases hE:E i with
  | some q=>obtain⟨B,n,v⟩:=q;rw[hS,hE];exact hbox hk hvv i B n v hE
  | none =>
    have:Af S' i=Af S i:=by rw[hS,hE]
    rw[this];exact(h.boxes i).mono hk hvv (by rw[hβ,hE]) λb hb ho hbk=>hkeep b hb λj B n v hj ho'=>stay i b hE ho hbk j B n v hj ho'
 ·intro i b hi hbi;rw[hS]at hi;rw[hβ]at hbi
  cases hE:E i with
  | none=>rw[hE]at hi hbi;exact h.mine i b hi hbi
  | some q =>
    obtain⟨B,n,v⟩:=q;rw[hE]at hi hbi;rcases hown i B n v b hE hi hbi with⟨j,B',n',v',_,h4,h5⟩|h3
    ·exact h.mine j b h4 h5
    ·exact⟨.inl (qt h.hbase h3),λhr=>by have:=(h.rs b hr).2;omega⟩
 ·intro i j b hi hj hbi hbj;rw[hS]at hi hj;rw[hβ]at hbi hbj
  have mixed:∀i j B n v,E i=some (B,n,v)->E j=none->B.owned=true->Ac v=some b->(Af S j).box.owned=true->Ac (β j)=some b->False:=by
   intro i j B n v hEi hEj ho hb ho' hb';rcases hown i B n v b hEi ho hb with⟨k,B',n',v',hk',h4,h5⟩|h3
   ·exact stay j b hEj ho' hb' k B' n' v' hk' h4 h5
   ·have:=h.blk ho' hb';omega
  cases hEi:E i with
  | none =>
    rw[hEi]at hi hbi
    cases hEj:E j with
    | none=>rw[hEj]at hj hbj;exact h.inj i j b hi hj hbi hbj
    | some q=>obtain⟨B,n,v⟩:=q;rw[hEj]at hj hbj;exact(mixed j i B n v hEj hEi hj hbj hi hbi).elim
  | some p =>
    obtain⟨B,n,v⟩:=p;rw[hEi]at hi hbi
    cases hEj:E j with
    | none=>rw[hEj]at hj hbj;exact(mixed i j B n v hEi hEj hi hbi hj hbj).elim
    | some q=>obtain⟨B',n',v'⟩:=q;rw[hEj]at hj hbj;exact hinj i j B n v B' n' v' b hEi hEj hi hj hbi hbj
 ·intro t u hu;rw[hav]at hu;exact h.gds t u hu
 ·intro i h0 hne;rw[hS]at h0 hne;rw[hβ]
  cases hE:E i with
  | none=>rw[hE]at h0 hne;exact h.ini i h0 hne
  | some q =>
    obtain⟨B,n,v⟩:=q;rw[hE]at h0 hne;rcases hver i B n v hE with h1|⟨h1,h2,h3⟩
    ·simp only at h0;omega
    ·simp only;rw[h2];exact h.ini i (by rw[<-h1];exact h0) h3
end sim
theorem O2:∀(n:Nat)(K:Nat->Prop),G3 n K=K n
 | 0,_=>rfl
 | n+1,K=>by rw[G3,O2 n]
theorem BI{α:Type}:∀(l:List α)(K:List α->Prop),C0 l K=K l
 | [],_=>rfl
 | x :: r,K=>by rw[C0,BI r]
theorem P6:∀(l:List D)(K:List C->Prop),ZV l K=K (l.map .d)
 | [],_=>rfl
 | x :: r,K=>by rw[ZV,P6 r];rfl
def norm1:D->D
 | .nil s=>.list s []
 | x=>x
def norm:D->D
 | .nil s=>.list s []
 | .agg xs=>.agg (xs.map norm1)
 | x=>x
theorem TW:∀(l:List D)(K:List D->Prop),O9 l K=K (l.map norm1)
 | [],_=>rfl
 | x :: r,K=>by
   rw[O9,TW r]
   cases x<;>rfl
theorem Nf(x:D)(K:D->Prop):PP x K=K (norm x):=by
 cases x<;>simp only[PP,TW,norm]
theorem Rr(x:D)(h:x.one=true):(norm1 x).one=true:=by cases x<;>first|rfl|exact h
section
variable {P:Program} {x:Cx} {G:Nat->Prop} {β:Nat->Value} {S:AS} {a:Act} {w:World}
theorem Aw.norm1{O:Nat->Prop}{v:Value}{y:D}(h:Aw O w v y):Aw O w v (norm1 y):=by
 cases y<;>try exact h
 case nil s=>cases h;exact .emp _ _ _
theorem Aw.norm{O:Nat->Prop}{v:Value}{y:D}(h:Aw O w v y):Aw O w v (norm y):=by
 cases y<;>try exact h
 case nil s=>cases h;exact .emp _ _ _
 case agg xs =>
  cases h with
  | agg vs _ hl h1 h =>
    refine .agg vs _ (by simpa using hl) (λy hy=>?_) (λi v y hv hy=>?_)
    ·obtain⟨z,hz,rfl⟩:=List.mem_map.1 hy;exact Rr z (h1 z hz)
    ·simp only[ql]at hy
     cases hz:xs[i]? with
     | none=>simp[hz]at hy
     | some z=>simp[hz]at hy;subst hy;exact(h i v z hv hz).norm1
theorem Bl.norm{O:Nat->Prop}{vs:List Value}{ys:List D}(h:Bl O w vs ys):Bl O w vs (ys.map norm1):=by
 refine⟨by simp[h.1],λj v y hv hy=>?_⟩;simp only[ql]at hy
 cases hz:ys[j]? with
 | none=>simp[hz]at hy
 | some z=>simp[hz]at hy;subst hy;exact⟨(h.2 j v z hv hz).1.norm1,Rr z (h.2 j v z hv hz).2⟩
def Ou(β:Nat->Value)(O:Nat->Prop)(S:AS)(w:World)(v:Value):RV->Prop
 | .any=>True
 | .bot=>False
 | .d x=>Aw O w v x
 | .lim sz xs=>Aw O w v (.list sz xs)/\RE v=xs.length
 | .vptr id n o cs=>(Af S id).box=.var cs/\(Af S id).ver=n/\∃b,β id=.pointer (some ⟨b,0,none⟩)/\v=.pointer (some ⟨b,o,none⟩)
 | .row id n sz e xs=>(Af S id).box=.row sz e xs/\(Af S id).ver=n/\v=β id
 | .eptr id n sz e xs i o=>(Af S id).box=.row sz e xs/\(Af S id).ver=n/\∃b m cap,β id=.slice (some ⟨b,0,none⟩) m cap/\v=.pointer (some ⟨b,i*sz+o,none⟩)
 | .tup xs=>∃vs:Array Value,v=.tuple vs/\vs.size=xs.length/\∀(i:Nat) u x,vs[i]?=some u->xs[i]?=some x->match x with
  | .d y=>Aw O w u y
  | c=>BQ β (AG S) O w u c
 | .mp id n es=>(Af S id).box=.map es/\(Af S id).ver=n/\v=β id
 | .cagg xs=>∃vs:Array Value,v=.agg vs/\vs.size=xs.length/\∀(i:Nat) u x,vs[i]?=some u->xs[i]?=some x->BQ β (AG S) O w u x/\u.oneCell'=true
 | .cfun f xs=>∃vs:Array Value,v=.func (.func f) #[] vs/\vs.size=xs.length/\∀(i:Nat) u x,vs[i]?=some u->xs[i]?=some x->BQ β (AG S) O w u x/\u.oneCell'=true
 | .clo f xs k id n rid rn=>(∃vs:Array Value,v=.func (.func f) #[] vs/\vs.size=xs.length/\∀(i:Nat) u x,vs[i]?=some u->xs[i]?=some x->BQ β (AG S) O w u x/\u.oneCell'=true) /\
  dQ xs=some (k,id,n)/\(Af S id).box=.var [.sl rid rn]/\(Af S id).ver=n
theorem MZ{id:Nat}{B:B6}(h:(Af S id).box=B)(hB:B≠.none):id<S.length:=by
 rcases qw id S.length with h'|h'
 ·exact h'
 ·rw[Mt S id h']at h;exact absurd h.symm hB
theorem Aw.drop{O:Nat->Prop}{b off:Nat}{cs:List D}(h:Aw O w (.pointer (some ⟨b,off,none⟩)) (.ptr cs))(n:Nat):Aw O w (.pointer (some ⟨b,off+n,none⟩)) (.ptr (cs.drop n)):=by
 cases h with
 | ptr _ _ _ c hb hO h1 hcell hr =>
   have hne:cs.drop n≠[]->cs≠[]:=by intro h e;subst e;simp at h
   refine .ptr b (off+n) _ (λj=>c (n+j)) (λh=>hb (hne h)) (λh=>hO (hne h)) (λy hy=>h1 y (ri hy)) (λj y hy=>?_) (λj y hy=>?_)
   ·simp only[qE]at hy;have:=hcell (n+j) y hy
    rwa [<-Nat.add_assoc]at this
   ·simp only[qE]at hy;exact hr (n+j) y hy
theorem YH(h:SimB x G β S a w){v:Value}{y:AV}(hx:JB β (AG S) (OS β x S) w a.tmps v y):Ou β (OS β x S) S w v (res S y):=by
 cases y with
 | any=>trivial
 | bot=>exact hx
 | d x=>exact hx
 | lim sz xs=>exact hx
 | ptr id n o =>
   simp only[JB,AG]at hx;have hb:=h.boxes id;simp only[res];generalize hs:Af S id=s at hx hb;obtain⟨av,B,m⟩:=s
   cases B with
   | none=>trivial
   | row sz e xs=>trivial
   | frow sz xs=>trivial
   | map es=>trivial
   | var cs =>
     simp only at hx ⊢;split
     ·rename_i e
      exact⟨by rw[hs],by rw[hs];exact e.symm,hx.2 e⟩
     ·trivial
   | fvar cs =>
     simp only at hx ⊢;split
     ·rename_i e
      obtain⟨b,h1,h2⟩:=hx.2 e;obtain⟨h3,_⟩:=hb;rw[h1]at h3;have:=h3.drop o;rw[qy]at this;show Aw _ _ _ _;rw[h2];exact this
     ·trivial
 | sl id n =>
   simp only[JB,AG]at hx;have hb:=h.boxes id;simp only[res];generalize hs:Af S id=s at hx hb;obtain⟨av,B,m⟩:=s
   cases B with
   | none=>trivial
   | var cs=>trivial
   | fvar cs=>trivial
   | map es =>
     simp only at hx ⊢;split
     ·rename_i e
      exact⟨by rw[hs],by rw[hs];exact e.symm,hx.2 e⟩
     ·trivial
   | row sz e xs =>
     simp only at hx ⊢;split
     ·rename_i e
      exact⟨by rw[hs],by rw[hs];exact e.symm,hx.2 e⟩
     ·trivial
   | frow sz xs =>
     simp only at hx ⊢;split
     ·rename_i e
      show Aw _ _ _ _;rw[hx.2 e];exact hb
     ·trivial
 | eptr id n sz i o =>
   simp only[JB,AG]at hx;simp only[res];generalize hs:Af S id=s at hx;obtain⟨av,B,m⟩:=s
   cases B with
   | none=>trivial
   | var cs=>trivial
   | fvar cs=>trivial
   | frow sz xs=>trivial
   | map es=>trivial
   | row sz' e xs =>
     simp only at hx ⊢;split
     ·rename_i e
      obtain⟨e,rfl⟩:=e;exact⟨by rw[hs],by rw[hs];exact e.symm,hx.2 e⟩
     ·trivial
 | tup xs=>exact hx
 | own sz e xs=>trivial
 | optr cs=>trivial
 | under t want x=>trivial
 | cc k xs =>
   cases k with
   | none=>exact hx
   | some f =>
     simp only[res];split
     ·rename_i j id n hat
      split
      ·rename_i av rid rn m hs
       split
       ·rename_i hnm
        exact⟨hx,hat,by rw[hs],by rw[hs];exact hnm.symm⟩
       ·exact hx
      ·exact hx
     ·exact hx
def BN(g:Option (Nat×Bool))(a:Act):Prop:=∀t want,g=some (t,want)->a.tmps[t]?=some (.bool want)
theorem cO(v:Value){O:Nat->Prop}{n:Nat->Nat}{tm:Array Value}:JB β n O w tm v (cN v):=by
 unfold cN;split
 ·exact .int _ _
 ·exact .bool _
 ·exact .str _
 ·exact .nil _ _
 ·trivial
theorem iC{g:Option (Nat×Bool)}(hg:BN g a){O:Nat->Prop}{n:Nat->Nat}{v:Value}{y:AV}(h:JB β n O w a.tmps v y):JB β n O w a.tmps v (o0 g y):=by
 cases y<;>try exact h
 case under t want x =>
  simp only[o0]
  cases g with
  | none=>trivial
  | some p =>
    obtain⟨t',w'⟩:=p;simp only;split
    ·rename_i e
     obtain⟨rfl,rfl⟩:=e;exact h.1 (hg t want rfl)
    ·trivial
theorem ρ_sound(h:SimB x G β S a w){g:Option (Nat×Bool)}(hg:BN g a)(y:Operand):Ou β (OS β x S) S w (a.eval y) (ρOf S g y):=by
 refine YH h (iC hg ?_)
 cases y with
 | tmp t =>
   simp only[ev,Act.eval];by_cases ht:t<a.tmps.size
   ·have:=h.slots t a.tmps[t] (by simp[ht])
    simpa [Array.getD,ht] using this
   ·have e:Af S t=cF:=Mt S t (by rw[<-h.len];exact Nat.le_of_not_lt ht);rw[e];trivial
 | const v=>exact cO v
 | global q =>
   simp only[ev]
   cases hq:lW q with
   | none=>trivial
   | some cs=>exact h.glob q cs hq
 | func f=>exact .fn f #[] [] rfl (λ_ h=>by cases h) (λi v y h=>by simp at h)
theorem σ_sound(h:SimB x G β S a w){v:Value}{id n:Nat}(hc:BQ β (AG S) (OS β x S) w v (.sl id n)):Ou β (OS β x S) S w v (σOf S id n) :=
 YH (y:=.sl id n) h hc
def B6.isF:B6->Bool
 | .frow _ _|.fvar _=>true
 | _=>false
theorem B6.isF_ne{B:B6}(h:B.isF=true):B≠.none:=by cases B<;>simp[B6.isF]at h ⊢
theorem BB(b c:Bx):∀S,AZ (b++c) S=AZ c (AZ b S):=by
 induction b with
 | nil=>intro S;rfl
 | cons x r ih=>intro S;exact ih _
theorem Cc:∀(b:Bx)(S:AS),(AZ b S).length=S.length
 | [],_=>rfl
 | x :: r,S=>by simp only[AZ];rw[Cc r,C6]
theorem O1{sz:Nat}:∀(xs:List D),(∀x∈xs,x.cells.length=sz)->∀(i:Nat) x (j:Nat) y,xs[i]?=some x->x.cells[j]?=some y->(xs.flatMap D.cells)[i*sz+j]?=some y
 | [],_,i,x,j,y,hx,_=>by simp at hx
 | z :: r,hs,0,x,j,y,hx,hy=>by
   simp at hx;subst hx;simp[rf,qj (A5 hy),hy]
 | z :: r,hs,i+1,x,j,y,hx,hy=>by
   have hz:z.cells.length=sz:=hs z (by simp);have ih:=O1 r (λx hx=>hs x (by simp[hx])) i x j y (by simpa using hx) hy;rw[rf,qg (by rw[hz,re];omega),<-ih];congr 1;rw[hz,re];omega
theorem Ex{sz:Nat}:∀(xs:List D),(∀x∈xs,x.cells.length=sz)->(xs.flatMap D.cells).length=xs.length*sz
 | [],_=>by simp
 | z :: r,hs=>by
   rw[rf,qz,hs z (by simp),Ex r (λx hx=>hs x (by simp[hx])),qP,re];omega
theorem Xy{O:Nat->Prop}{w:World}{e:TypeId}{sz:Nat}{v:Value}{xs:List D}{vals:List Value}(hsz:0<sz)
 (hs:∀x∈xs,x.cells.length=sz) (hr:Bj w e sz v xs.length vals) (hl:Bl O w vals (xs.flatMap D.cells)) (hO:∀b,Ac v=some b->¬O b) :
 Aw O w v (.list sz xs):=by
 by_cases hx:xs=[]
 ·subst hx;rcases hr with⟨_,⟨hv,_⟩|⟨g,cap,cur,hv,_⟩⟩|⟨_,_,ad,hv⟩<;>(rw[hv];exact .emp _ _ _)
 ·have hpos:0<xs.length:=List.length_pos_iff.2 hx;rcases hr with⟨hlen,⟨hv,h0⟩|⟨g,cap,cur,hv,hbg,hh,hn,hm,hcs,ht⟩⟩|⟨h0,_⟩
  ·omega
  ·have hcap:cap≠0:=by omega
   have hlt:=CP hh;subst hv
   have key:∀(i:Nat) x (j:Nat) y,xs[i]?=some x->x.cells[j]?=some y->∃u,vals[i*sz+j]?=some u/\w.cell? ⟨g,0+i*sz+j,none⟩=some u/\Aw O w u y/\y.one=true:=by
    intro i x j y hx hy;have hf:=O1 xs hs i x j y hx hy;have hlt:i*sz+j<vals.length:=by rw[hl.1];exact A5 hf
    have hu:vals[i*sz+j]?=some vals[i*sz+j]:=P2 hlt;refine⟨_,hu,?_,hl.2 _ _ _ hu hf⟩;rw[<-hu,<-ht,ra (by rw[<-hlen];exact hlt)];simp[World.cell?,hh]
   refine .list g 0 cap sz xs (λi j=>vals.getD (i*sz+j) undef) hx hlt (hO g (by simp[Ac,hcap])) hn hs ?_ ?_ ?_
   ·intro x hx y hy;obtain⟨i,hi⟩:=List.mem_iff_getElem?.1 hx;obtain⟨j,hj⟩:=List.mem_iff_getElem?.1 hy;obtain⟨u,_,_,_,h1⟩:=key i x j y hi hj;exact h1
   ·intro i x j y hx hy;obtain⟨u,h1,h2,h3,_⟩:=key i x j y hx hy;rw[h2];simp[List.getD,h1]
   ·intro i x j y hx hy;obtain⟨u,h1,h2,h3,_⟩:=key i x j y hx hy
    simpa [List.getD,h1] using h3
  ·omega
theorem mL{O:Nat->Prop}{w:World}{b:Nat}{vals:Array Value}{T:TypeId}{cs:List D}(hh:w.heap[b]?=some (.cells vals T (0,0)))(hl:Bl O w vals.toList cs)(hO:¬O b)(o:Nat) :
 Aw O w (.pointer (some ⟨b,o,none⟩)) (.ptr (cs.drop o)):=by
 have base:Aw O w (.pointer (some ⟨b,0,none⟩)) (.ptr cs):=by
  refine .ptr b 0 cs (λj=>vals.toList.getD j undef) (λ_=>CP hh) (λ_=>hO) (λy hy=>?_) (λj y hy=>?_) (λj y hy=>?_)
  ·obtain⟨j,hj⟩:=List.mem_iff_getElem?.1 hy;have hlt:j<vals.toList.length:=by rw[hl.1];exact A5 hj
   exact(hl.2 j _ y (P2 hlt) hj).2
  ·have hlt:j<vals.toList.length:=by rw[hl.1];exact A5 hy
   have hlt':j<vals.size:=by simpa using hlt
   simp[World.cell?,hh,hlt']
  ·have hlt:j<vals.toList.length:=by rw[hl.1];exact A5 hy
   have:=(hl.2 j _ y (P2 hlt) hy).1;have hlt':j<vals.size:=by simpa using hlt
   simpa [hlt'] using this
 have:=base.drop o
 rwa [qy]at this
theorem QU{B:B6}{n:Nat}:∀(S:AS)(id:Nat),(Af S id).box=B->(Af S id).ver=n->AQ S id B n=S
 | [],_,_,_=>rfl
 | ⟨_,_,_⟩ :: _,0,h1,h2=>by simp only[Af]at h1 h2;subst h1;subst h2;rfl
 | s :: r,id+1,h1,h2=>by rw[AQ,QU r id h1 h2]
theorem de(h:SimB x G β S a w){id n sz:Nat}{e:TypeId}{xs:List D}(hb:(Af S id).box=.row sz e xs)(hn:(Af S id).ver=n) :
 SimB x G β (AQ S id (.frow sz xs) n) a w:=by
 have hid:=MZ hb (by simp)
 have hno:∀b,Ac (β id)=some b->¬OS β x (AQ S id (.frow sz xs) n) b:=by
  intro b hbb h';have hm:=h.mine id b (by rw[hb];rfl) hbb;rcases h' with h'|h'|⟨i,h1,h2⟩
  ·have:=h.o₀ b h';rcases hm.1 with h3|h3;omega;exact this.2 h3
  ·exact hm.2 h'
  ·rw[BP]at h1;split at h1
   ·simp[B6.owned]at h1
   ·rename_i e;exact e ⟨h.inj i id b h1 (by rw[hb];rfl) h2 hbb,hid⟩
 have hr:=h.rebox (R':=x.R) (id:=id) (B:=.frow sz xs) (v:=β id) (n:=n) (w':=w) (λ_ h=>h) hid (.inr ⟨hn.symm,rfl,by rw[hb];simp⟩) (qb _) (A7.refl _ _ _) (λ_ _ _=>rfl) (by simp[B6.owned])
  (λk hv=>by
   rw[FI]at k ⊢;have hbx:=h.boxes id;rw[hb]at hbx;obtain⟨h1,h2,vals,h5,h6⟩:=hbx;exact Xy h1 h2 h5 (h6.mono k) hno)
 rw[FI]at hr;exact hr
theorem dh(h:SimB x G β S a w){id n:Nat}{cs:List C}{ds:List D}(hb:(Af S id).box=.var cs)(hn:(Af S id).ver=n)
 (hd:∀b vals T,β id=.pointer (some ⟨b,0,none⟩)->w.heap[b]?=some (.cells vals T (0,0))->vals.size=cs.length->(∀(j:Nat) v c,vals[j]?=some v->cs[j]?=some c->BQ β (AG S) (OS β x S) w v c)->Bl (OS β x S) w vals.toList ds) :
 SimB x G β (AQ S id (.fvar ds) n) a w:=by
 have hid:=MZ hb (by simp)
 have hno:∀b,Ac (β id)=some b->¬OS β x (AQ S id (.fvar ds) n) b:=by
  intro b hbb h';have hm:=h.mine id b (by rw[hb];rfl) hbb;rcases h' with h'|h'|⟨i,h1,h2⟩
  ·have:=h.o₀ b h';rcases hm.1 with h3|h3;omega;exact this.2 h3
  ·exact hm.2 h'
  ·rw[BP]at h1;split at h1
   ·simp[B6.owned]at h1
   ·rename_i e;exact e ⟨h.inj i id b h1 (by rw[hb];rfl) h2 hbb,hid⟩
 have hr:=h.rebox (R':=x.R) (id:=id) (B:=.fvar ds) (v:=β id) (n:=n) (w':=w) (λ_ h=>h) hid (.inr ⟨hn.symm,rfl,by rw[hb];simp⟩) (qb _) (A7.refl _ _ _) (λ_ _ _=>rfl) (by simp[B6.owned])
  (λk hv=>by
   rw[FI]at k ⊢;have hbx:=h.boxes id;rw[hb]at hbx;obtain⟨b,vals,T,h5,h6,h7,h8⟩:=hbx;refine⟨?_,b,h5⟩;rw[h5];have:=mL h6 ((hd b vals T h5 h6 h7 h8).mono k) (hno b (by rw[h5];rfl)) 0
   simpa using this)
 rw[FI]at hr;exact hr
end
def K4(S:AS)(seen:Bx)(cs:List C)(ds:List D):Prop :=
 cs.length=ds.length/\∀(j:Nat) c y,cs[j]?=some c->ds[j]?=some y->match c with
  | .d x=>y=norm1 x
  | .sl id n=>∃sz xs,y=.list sz xs/\(Af S id).ver=n/\(((∃e,(Af S id).box=.row sz e xs)/\(id,B6.frow sz xs,n)∈seen)\/(Af S id).box=.frow sz xs)
  | .own _ _ _=>False
def eC(S:AS)(seen:Bx)(y:Nat×B6×Nat):Prop :=
 (Af S y.1).ver=y.2.2/\((∃sz e xs,(Af S y.1).box=.row sz e xs/\y.2.1=.frow sz xs)\/(∃cs ds,(Af S y.1).box=.var cs/\y.2.1=.fvar ds/\K4 S seen cs ds)\/((Af S y.1).box=y.2.1/\y.2.1.isF=true))
def FZ(S:AS):Bx->Bx->Prop
 | _,[]=>True
 | seen,y :: r=>eC S seen y/\FZ S (seen++[y]) r
theorem K4.mono{S:AS}{seen seen':Bx}(hs:∀y∈seen,y∈seen'){cs:List C}{ds:List D}(h:K4 S seen cs ds):K4 S seen' cs ds:=by
 refine⟨h.1,λj c y hc hy=>?_⟩;have:=h.2 j c y hc hy
 cases c with
 | d x=>exact this
 | sl id n =>
   obtain⟨sz,xs,h1,h2,h3⟩:=this;exact⟨sz,xs,h1,h2,h3.imp (λh=>⟨h.1,hs _ h.2⟩) (λh=>h)⟩
 | own sz e xs=>exact this
theorem eC.mono{S:AS}{seen seen':Bx}(hs:∀y∈seen,y∈seen'){y:Nat×B6×Nat}(h:eC S seen y):eC S seen' y:=by
 refine⟨h.1,?_⟩;rcases h.2 with h|⟨cs,ds,h1,h2,h3⟩|h
 ·exact .inl h
 ·exact .inr (.inl ⟨cs,ds,h1,h2,h3.mono hs⟩)
 ·exact .inr (.inr h)
theorem FZ.mono{S:AS}:∀{b seen seen':Bx},(∀y∈seen,y∈seen')->FZ S seen b->FZ S seen' b
 | [],_,_,_,_=>trivial
 | y :: r,seen,seen',hs,h=>⟨h.1.mono hs,h.2.mono (by
     intro z hz;rcases List.mem_append.1 hz with hz|hz
     ·exact List.mem_append.2 (.inl (hs z hz))
     ·exact List.mem_append.2 (.inr hz))⟩
theorem FZ.append{S:AS}:∀{b c seen:Bx},FZ S seen b->FZ S [] c->FZ S seen (b++c)
 | [],c,seen,_,h=>h.mono (by simp)
 | y :: r,c,seen,h,h'=>⟨h.1,FZ.append h.2 h'⟩
theorem FZ.snoc{S:AS}:∀{b seen:Bx}{y:Nat×B6×Nat},FZ S seen b->eC S (seen++b) y->FZ S seen (b++[y])
 | [],seen,y,_,h=>⟨by simpa using h,trivial⟩
 | z :: r,seen,y,h,h'=>⟨h.1,FZ.snoc h.2 (by simpa using h')⟩
theorem FZ.each{S:AS}:∀{b seen:Bx},FZ S seen b->∀y∈b,eC S (seen++b) y
 | [],_,_,_,h=>by cases h
 | z :: r,seen,h,y,hy=>by
   rcases List.mem_cons.1 hy with rfl|hy
   ·exact h.1.mono (by intro q hq;exact List.mem_append.2 (.inl hq))
   ·have:=FZ.each h.2 y hy
    simpa using this
theorem K4.unique{S:AS}{seen seen':Bx}{cs:List C}{ds ds':List D}(h:K4 S seen cs ds)(h':K4 S seen' cs ds'):ds=ds':=by
 apply r7;intro j;rcases qw j cs.length with hj|hj
 ·have e1:cs[j]?=some cs[j]:=P2 hj;have e2:ds[j]?=some (ds[j]'(by rw[<-h.1];exact hj)):=P2 _;have e3:ds'[j]?=some (ds'[j]'(by rw[<-h'.1];exact hj)):=P2 _;have k1:=h.2 j _ _ e1 e2;have k2:=h'.2 j _ _ e1 e3;rw[e2,e3];generalize cs[j]=c at k1 k2
  cases c with
  | d x=>rw[k1,k2]
  | sl id n =>
    obtain⟨sz,xs,h1,_,h3⟩:=k1;obtain⟨sz',xs',h1',_,h3'⟩:=k2;rw[h1,h1'];rcases h3 with⟨⟨e,h3⟩,_⟩|h3<;>rcases h3' with⟨⟨e',h3'⟩,_⟩|h3'<;>rw[h3]at h3'<;>simp at h3'
    ·rw[h3'.1,h3'.2.2]
    ·rw[h3'.1,h3'.2]
  | own sz e xs=>exact k1.elim
 ·rw[qv (by rw[<-h.1];exact hj),qv (by rw[<-h'.1];exact hj)]
theorem eC.unique{S:AS}{seen seen':Bx}{y y':Nat×B6×Nat}(h:eC S seen y)(h':eC S seen' y')(e:y.1=y'.1):y.2.1=y'.2.1:=by
 rcases h.2 with⟨sz,e1,xs,h1,h2⟩|⟨cs,ds,h1,h2,h3⟩|⟨h1,h2⟩<;>rcases h'.2 with⟨sz',e1',xs',h1',h2'⟩|⟨cs',ds',h1',h2',h3'⟩|⟨h1',h2'⟩<;>rw[<-e,h1]at h1'
 ·simp at h1';rw[h2,h2',h1'.1,h1'.2.2]
 ·cases h1'
 ·rw[<-h1']at h2';cases h2'
 ·cases h1'
 ·simp at h1';subst h1';rw[h2,h2',h3.unique h3']
 ·rw[<-h1']at h2';cases h2'
 ·rw[h1']at h2;cases h2
 ·rw[h1']at h2;cases h2
 ·exact h1'
structure Fr(S:AS)(seen:Bx)(T:AS):Prop where
 len:T.length=S.length
 ver:∀i,(Af T i).ver=(Af S i).ver
 av:∀i,(Af T i).av=(Af S i).av
 mem:∀y∈seen,(Af T y.1).box=y.2.1
 other:∀i,(∀y∈seen,y.1≠i)->(Af T i).box=(Af S i).box
 keepF:∀i,(Af S i).box.isF=true->(Af T i).box=(Af S i).box
theorem eC.lt{S:AS}{seen:Bx}{y:Nat×B6×Nat}(h:eC S seen y):y.1<S.length:=by
 have:(Af S y.1).box≠.none:=by
  rcases h.2 with⟨sz,e,xs,h1,_⟩|⟨cs,ds,h1,_⟩|⟨h1,h2⟩
  ·rw[h1];simp
  ·rw[h1];simp
  ·rw[h1];exact B6.isF_ne h2
 exact MZ rfl this
section
variable {P:Program} {x:Cx} {G:Nat->Prop} {β:Nat->Value} {S:AS} {a:Act} {w:World}
theorem FZ.run_:∀{b seen:Bx}{T:AS},(∀y∈seen,eC S seen y)->FZ S seen b->Fr S seen T->SimB x G β T a w->(∀k,OS β x T k->OS β x S k) ->
 SimB x G β (AZ b T) a w/\(∀k,OS β x (AZ b T) k->OS β x S k)/\Fr S (seen++b) (AZ b T)
 | [],seen,T,_,_,hf,h,hO=>⟨h,hO,by simpa [AZ] using hf⟩
 | y :: r,seen,T,hseen,hF,hf,h,hO=>by
   have hy:=hF.1;have hlt:y.1<T.length:=by rw[hf.len];exact hy.lt
   have hstep:SimB x G β (AQ T y.1 y.2.1 y.2.2) a w/\(∀k,OS β x (AQ T y.1 y.2.1 y.2.2) k->OS β x T k):=by
    by_cases hin:∃z∈seen,z.1=y.1
    ·obtain⟨z,hz,e⟩:=hin;have h1:=hf.mem z hz;have h2:=(hseen z hz).unique hy e;rw[QU T y.1 (by rw[<-e,h1,h2]) (by rw[hf.ver,hy.1])];exact⟨h,λ_ h=>h⟩
    ·have hbx:(Af T y.1).box=(Af S y.1).box:=hf.other _ λz hz e=>hin ⟨z,hz,e⟩;have hver:(Af T y.1).ver=y.2.2:=by rw[hf.ver,hy.1]
     have sub:y.2.1.owned=false->∀k,OS β x (AQ T y.1 y.2.1 y.2.2) k->OS β x T k:=by
      intro hno k hk;rcases hk with hk|hk|⟨i,h1,h2⟩
      ·exact .inl hk
      ·exact .inr (.inl hk)
      ·rw[BP]at h1;split at h1
       ·rw[hno]at h1;cases h1
       ·exact .inr (.inr ⟨i,h1,h2⟩)
     rcases hy.2 with⟨sz,e,xs,h1,h2⟩|⟨cs,ds,h1,h2,h3⟩|⟨h1,h2⟩
     ·refine⟨?_,sub (by rw[h2];rfl)⟩;rw[h2];exact de h (by rw[hbx];exact h1) hver
     ·refine⟨?_,sub (by rw[h2];rfl)⟩;rw[h2];refine dh h (by rw[hbx];exact h1) hver λb vals T' hβ hh hl hc=>⟨by rw[q8,hl];exact h3.1,λj v z hv hz=>?_⟩;have hj:j<cs.length:=by rw[h3.1];exact A5 hz
      have hcc:=hc j v cs[j] (by simpa using hv) (P2 hj);have hcd:=h3.2 j cs[j] z (P2 hj) hz;generalize cs[j]=c at hcc hcd
      cases c with
      | d q=>rw[hcd];exact⟨hcc.1.norm1,Rr q hcc.2⟩
      | sl id n =>
        obtain⟨sz,xs,k1,k2,k3⟩:=hcd
        have hfr:(Af T id).box=.frow sz xs:=by
         rcases k3 with⟨_,k3⟩|k3
         ·exact hf.mem _ k3
         ·by_cases hin:∃q∈seen,q.1=id
          ·obtain⟨q,hq,e⟩:=hin;have e1:=hf.mem q hq;have e2:=(hseen q hq).unique (y':=(id,B6.frow sz xs,n)) (seen':=seen) ⟨k2,.inr (.inr ⟨k3,rfl⟩)⟩ e;rw[<-e,e1,e2]
          ·rw[hf.other id λq hq e=>hin ⟨q,hq,e⟩];exact k3
        have hbb:=h.boxes id;rw[hfr]at hbb;have hv2:=hcc.2 (by simp only[AG];rw[hf.ver];exact k2.symm);rw[k1,hv2];exact⟨hbb,rfl⟩
      | own sz e xs=>exact hcd.elim
     ·rw[QU T y.1 (by rw[hbx,h1]) hver];exact⟨h,λ_ h=>h⟩
   have hget:=J7 hlt y.2.1 y.2.2
   have hF1:Fr S (seen++[y]) (AQ T y.1 y.2.1 y.2.2):=by
    refine⟨by rw[C6];exact hf.len,λi=>?_,λi=>?_,λz hz=>?_,λi hi=>?_,λi hi=>?_⟩
    ·rw[hget];split
     ·rename_i e;rw[e];exact hy.1.symm
     ·exact hf.ver i
    ·rw[hget];split
     ·rename_i e;rw[e];exact hf.av _
     ·exact hf.av i
    ·rw[hget];split
     ·rename_i e
      rcases List.mem_append.1 hz with hz|hz
      ·exact(hy.unique (hseen z hz) e.symm)
      ·simp at hz;rw[hz]
     ·rename_i e
      rcases List.mem_append.1 hz with hz|hz
      ·exact hf.mem z hz
      ·simp at hz;exact absurd (by rw[hz]) e
    ·rw[hget];split
     ·rename_i e;exact absurd e.symm (hi y (by simp))
     ·exact hf.other i λz hz=>hi z (by simp[hz])
    ·rw[hget];split
     ·rename_i e
      rw[e]at hi ⊢;rcases hy.2 with⟨sz,e',xs,h1,h2⟩|⟨cs,ds,h1,h2,h3⟩|⟨h1,h2⟩
      ·rw[h1]at hi;cases hi
      ·rw[h1]at hi;cases hi
      ·exact h1.symm
     ·exact hf.keepF i hi
   have hs2:∀z∈seen++[y],eC S (seen++[y]) z:=by
    intro z hz;rcases List.mem_append.1 hz with hz|hz
    ·exact(hseen z hz).mono λq hq=>List.mem_append.2 (.inl hq)
    ·simp at hz;rw[hz];exact hy.mono λq hq=>List.mem_append.2 (.inl hq)
   obtain⟨k1,k2,k3⟩:=FZ.run_ hs2 hF.2 hF1 hstep.1 λk hk=>hO k (hstep.2 k hk);exact⟨k1,k2,by simpa [AZ] using k3⟩
theorem FZ.run(h:SimB x G β S a w){b:Bx}(hF:FZ S [] b):SimB x G β (AZ b S) a w/\(∀k,OS β x (AZ b S) k->OS β x S k)/\Fr S b (AZ b S):=by
 have:=FZ.run_ (x:=x) (G:=G) (β:=β) (a:=a) (w:=w) (S:=S) (b:=b) (seen:=[]) (T:=S) (λ_ h=>by cases h) hF ⟨rfl,λ_=>rfl,λ_=>rfl,(λ_ h=>by cases h),λ_ _=>rfl,λ_ _=>rfl⟩ h (λ_ h=>h)
 simpa using this
def K5(x:Cx)(G:Nat->Prop)(β:Nat->Value)(S:AS)(a:Act)(w:World)(b:Bx)(p:(Nat->Prop)->Prop):Prop :=
 ∀B,(∀y∈b,y∈B)->Fr S B (AZ B S)->SimB x G β (AZ B S) a w->(∀k,OS β x (AZ B S) k->OS β x S k)->p (OS β x (AZ B S))
theorem K5.mono{b b':Bx}{p q:(Nat->Prop)->Prop}(h:K5 x G β S a w b p)(hb:∀y∈b,y∈b')(hp:∀O,p O->q O):K5 x G β S a w b' q :=
 λB hB hf hs hk=>hp _ (h B (λy hy=>hB y (hb y hy)) hf hs hk)
theorem K5.and{b b':Bx}{p q:(Nat->Prop)->Prop}(h:K5 x G β S a w b p)(h':K5 x G β S a w b' q):K5 x G β S a w (b++b') λO=>p O/\q O :=
 λB hB hf hs hk=>⟨h B (λy hy=>hB y (by simp[hy])) hf hs hk,h' B (λy hy=>hB y (by simp[hy])) hf hs hk⟩
theorem K5.now(hs:SimB x G β S a w){b:Bx}{p:(Nat->Prop)->Prop}(h:K5 x G β S a w b p)(hF:FZ S [] b):p (OS β x (AZ b S)):=by
 obtain⟨h1,h2,h3⟩:=hF.run hs;exact h b (λ_ h=>h) h3 h1 h2
theorem Jn{r:RV}{v:Value}(hr:Ou β (OS β x S) S w v r){K:D->Bx->Prop}(hy:Yn r K) :
 ∃y b,K y b/\FZ S [] b/\(∀z∈b,∃sz xs,z.2.1=.frow sz xs)/\K5 x G β S a w b λO=>Aw O w v y:=by
 cases r<;>simp only[Yn]at hy
 case d y=>exact⟨y,[],hy,trivial,(λ_ h=>by cases h),λB _ _ _ hk=>Aw.mono (B0.of_sub hk) hr⟩
 case lim sz xs=>exact⟨_,[],hy,trivial,(λ_ h=>by cases h),λB _ _ _ hk=>Aw.mono (B0.of_sub hk) hr.1⟩
 case row id n sz e xs =>
  obtain⟨h1,h2,h3⟩:=hr;refine⟨_,_,hy,⟨⟨h2,.inl ⟨sz,e,xs,h1,rfl⟩⟩,trivial⟩,(λz hz=>⟨sz,xs,by simp at hz;subst hz;rfl⟩),λB hB hF hS _=>?_⟩;have:=hF.mem (id,.frow sz xs,n) (hB _ (by simp));have hb:=hS.boxes id;simp only at this;rw[this]at hb;rw[h3];exact hb
theorem U0{r:RV}{v:Value}(hr:Ou β (OS β x S) S w v r){K:D->Bx->Prop}(hy:mT r K) :
 ∃y b,K y b/\FZ S [] b/\(∀z∈b,∃sz xs,z.2.1=.frow sz xs)/\K5 x G β S a w b λO=>Aw O w v y:=by
 obtain⟨y,b,hK,hF,hfr,hh⟩:=Jn (x:=x) (G:=G) (a:=a) hr hy;rw[Nf]at hK;exact⟨_,b,hK,hF,hfr,hh.mono (λ_ h=>h) λO h=>h.norm⟩
theorem JF(h:SimB x G β S a w):∀{cs:List C}{K:List D->Bx->Prop},Dv (σOf S) cs K ->
 ∃l b,K l b/\FZ S [] b/\(∀z∈b,∃sz xs,z.2.1=.frow sz xs)/\cs.length=l.length /\
  (∀(j:Nat) c y,cs[j]?=some c->l[j]?=some y->match c with
   | .d q=>y=q
   | .sl id n=>∃sz xs,y=.list sz xs/\(Af S id).ver=n/\(((∃e,(Af S id).box=.row sz e xs)/\(id,B6.frow sz xs,n)∈b)\/(Af S id).box=.frow sz xs)
   | .own _ _ _=>False) /\
  ∀vs:List Value,vs.length=cs.length->(∀(j:Nat) v c,vs[j]?=some v->cs[j]?=some c->BQ β (AG S) (OS β x S) w v c)->K5 x G β S a w b λO=>Bl O w vs l
 | [],K,hy=>⟨[],[],hy,trivial,(λ_ h=>by cases h),rfl,(λj c y h=>by simp at h),λvs hv _ B _ _ _ _=>⟨by simpa using hv,λj v y _ hy=>by simp at hy⟩⟩
 | .d q :: r,K,hy=>by
   have hy:Dv (σOf S) r λl b=>K (q :: l) b:=hy;obtain⟨l,b,hK,hF,hfr,hl,hc,hh⟩:=JF h hy;refine⟨_,_,hK,hF,hfr,by simp[hl],λj c y hcj hyj=>?_,λvs hv hrep=>?_⟩
   ·cases j with
    | zero=>simp at hcj hyj;subst hcj;exact hyj.symm
    | succ j=>exact hc j c y (by simpa using hcj) (by simpa using hyj)
   ·cases vs with
    | nil=>simp at hv
    | cons v vs =>
      have h0:=hrep 0 v (.d q) rfl rfl;have hr:=hh vs (by simpa using hv) λj v c hv hc=>hrep (j+1) v c (by simpa using hv) (by simpa using hc);intro B hB hf hs hk;have hr':=hr B hB hf hs hk;refine⟨by simp[hr'.1],λj u y hu hy=>?_⟩
      cases j with
      | zero=>simp at hu hy;subst hu;subst hy;exact⟨h0.1.mono (B0.of_sub hk),h0.2⟩
      | succ j=>exact hr'.2 j u y (by simpa using hu) (by simpa using hy)
 | .sl id n :: r,K,hy=>by
   simp only[Dv,σOf,res]at hy
   obtain⟨sz,xs,b0,hst,hb0,hK0⟩:∃sz xs b0,((Af S id).ver=n/\(((∃e,(Af S id).box=.row sz e xs)/\b0=[(id,B6.frow sz xs,n)])\/((Af S id).box=.frow sz xs/\b0=[])))/\FZ S [] b0/\Dv (σOf S) r λl b'=>K (.list sz xs :: l) (b0++b'):=by
    generalize hs:Af S id=s at hy;obtain⟨av,B,m⟩:=s
    cases B with
    | none=>exact hy.elim
    | var cs=>exact hy.elim
    | fvar cs=>exact hy.elim
    | map es =>
      simp only at hy;split at hy<;>exact hy.elim
    | row sz e xs =>
      simp only at hy;split at hy
      ·rename_i e'
       exact⟨sz,xs,_,⟨e'.symm,.inl ⟨⟨e,rfl⟩,rfl⟩⟩,⟨⟨by rw[hs];exact e'.symm,.inl ⟨sz,e,xs,by rw[hs],rfl⟩⟩,trivial⟩,hy⟩
      ·exact hy.elim
    | frow sz xs =>
      simp only at hy;split at hy
      ·rename_i e'
       exact⟨sz,xs,[],⟨e'.symm,.inr ⟨rfl,rfl⟩⟩,trivial,hy⟩
      ·exact hy.elim
   obtain⟨l,b,hK,hF,hfr,hl,hc,hh⟩:=JF h hK0;refine⟨_,_,hK,hb0.append hF,λz hz=>?_,by simp[hl],λj c y hcj hyj=>?_,λvs hv hrep=>?_⟩
   ·rcases List.mem_append.1 hz with hz|hz
    ·rcases hst.2 with⟨_,h2⟩|⟨_,h2⟩
     ·rw[h2]at hz;simp at hz;exact⟨sz,xs,by rw[hz]⟩
     ·rw[h2]at hz;cases hz
    ·exact hfr z hz
   ·cases j with
    | zero =>
      simp at hcj hyj;subst hcj;refine⟨sz,xs,hyj.symm,hst.1,?_⟩;rcases hst.2 with⟨h1,h2⟩|⟨h1,h2⟩
      ·exact .inl ⟨h1,by rw[h2];simp⟩
      ·exact .inr h1
    | succ j =>
      have:=hc j c y (by simpa using hcj) (by simpa using hyj)
      cases c with
      | d q=>exact this
      | sl id' n' =>
        obtain⟨sz',xs',h1,h2,h3⟩:=this;exact⟨sz',xs',h1,h2,h3.imp (λh=>⟨h.1,by simp[h.2]⟩) (λh=>h)⟩
      | own _ _ _=>exact this
   ·cases vs with
    | nil=>simp at hv
    | cons v vs =>
      have h0:=hrep 0 v (.sl id n) rfl rfl;have hr:=hh vs (by simpa using hv) λj v c hv hc=>hrep (j+1) v c (by simpa using hv) (by simpa using hc);intro B hB hf hs hk;have hr':=hr B (λy hy=>hB y (by simp[hy])) hf hs hk
      have hfrz:(Af (AZ B S) id).box=.frow sz xs:=by
       rcases hst.2 with⟨_,h2⟩|⟨h1,h2⟩
       ·exact hf.mem (id,.frow sz xs,n) (hB _ (by rw[h2];simp))
       ·rw[hf.keepF id (by rw[h1];rfl)];exact h1
      have hbb:=hs.boxes id;rw[hfrz]at hbb;have hv2:=h0.2 (by simp only[AG];exact hst.1.symm);refine⟨by simp[hr'.1],λj u y hu hy=>?_⟩
      cases j with
      | zero=>simp at hu hy;subst hu;subst hy;rw[hv2];exact⟨hbb,rfl⟩
      | succ j=>exact hr'.2 j u y (by simpa using hu) (by simpa using hy)
 | .own _ _ _ :: _,K,hy=>hy.elim
end
end Go.Abs
