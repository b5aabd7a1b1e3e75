/- M1 -/
import Derived.Orders
import Derived.Below
import Derived.Laws.AppendOwn
import Derived.Laws.Cells
import Derived.Laws.Build
set_option linter.all false
open Option renaming some → θ, none → κ
open Bool renaming true → ν, false → ξ
open Decidable renaming decide → υ
abbrev Γ:=List
abbrev Δ:=Option
abbrev Θ:=ByteArray
abbrev Ψ:=Go.Value
abbrev Ω:=Bool
abbrev Λ:=Go.World
abbrev Υ:=Go.TypeId
abbrev Η:=Go.Program
abbrev Ly:=Go.Operand
open List renaming length → Ξ
def z0{p:Prop}(h:p:=by omega):p:=h
def z5{p:Prop}(h:p:=by grind):p:=h
def zs{p:Prop}(h:p:=by simp):p:=h
def zv{p:Prop}(h:p:=by simp;omega):p:=h
def j0{p:Prop}(h:p:=by decide):p:=h
namespace Go
abbrev Zaa:=@List.getElem?_eq_getElem
abbrev Zab:=@List.take_succ_eq_append_getElem
abbrev Zac:=@List.length_map
abbrev Zad:=@Option.bind_some
abbrev Zae:=@List.getElem_mem
abbrev Zaf:=@Option.some.inj
abbrev Zag:=@Nat.zero_le
abbrev Zah:=@if_neg
abbrev Zai:=@if_pos
abbrev Zaj:=@List.take_length
abbrev Zak:=@decide_eq_true
abbrev Zal:=@of_decide_eq_true
abbrev Zam:=@Nat.le_refl
abbrev Zan:=@List.length_take
abbrev Zao:=@List.getD_eq_getElem?_getD
abbrev Zap:=@decide_eq_false
abbrev Zaq:=@cond_false
abbrev Zar:=@List.length_append
abbrev Zas:=@List.map_cons
abbrev Zat:=@List.getElem?_append_right
abbrev Zau:=@List.eq_nil_of_length_eq_zero
abbrev Zav:=@cond_true
abbrev Zaw:=@Int.toNat_natCast
abbrev Zax:=@Bool.and_eq_true
abbrev Zay:=@List.map_append
abbrev Zaz:=@List.getElem?_map
abbrev Zba:=@List.getElem?_append_left
abbrev Zbb:=@List.mem_singleton
abbrev Zbc:=@Nat.lt_of_lt_of_le
abbrev Zbd:=@beq_self_eq_true
abbrev Zbe:=@List.take_of_length_le
abbrev Zbf:=@List.mem_of_getElem?
abbrev Zbg:=@Array.getElem?_setIfInBounds_ne
abbrev Zbh:=@Int.le_refl
abbrev Zbi:=@List.getElem_of_mem
abbrev Zbj:=@List.getElem?_eq_none
abbrev Zbk:=@Nat.lt_or_ge
abbrev Zbl:=@Nat.le_trans
abbrev Zbm:=@List.map_nil
abbrev Zbn:=@Nat.zero_add
abbrev Zbo:=@List.mem_of_mem_take
abbrev Zbp:=@List.mem_append_right
abbrev Zbq:=@List.length_cons
abbrev Zbr:=@List.map_set
abbrev Zbs:=@List.getElem_take
abbrev Zbt:=@beq_eq_false_iff_ne
abbrev Zbu:=@List.getElem_map
abbrev Zbv:=@Array.length_toList
abbrev Zbw:=@List.getElem?_take
abbrev Zbx:=@Array.getElem?_append_left
abbrev Zby:=@List.mem_append_left
abbrev Zbz:=@List.getElem?_set
abbrev Zca:=@List.getElem?_drop
abbrev Zcb:=@of_decide_eq_false
abbrev Zcc:=@Nat.eq_of_beq_eq_true
abbrev Zcd:=@List.length_drop
abbrev Zce:=@List.length_filter_le
abbrev Zcf:=@List.flatMap_cons
abbrev Zcg:=@List.getElem?_cons_succ
abbrev Zch:=@Nat.pow_le_pow_right
abbrev Zci:=@Array.getD_eq_getD_getElem?
abbrev Zcj:=@List.mem_append
abbrev Zck:=@List.map_congr_left
abbrev Zcl:=@Array.getElem?_eq_getElem
abbrev Zcm:=@Nat.mul_comm
abbrev Zcn:=@List.append_assoc
abbrev Zco:=@Nat.le_mul_of_pos_right
abbrev Zcp:=@Array.getElem?_toList
abbrev Zcq:=@List.append_nil
abbrev Zcr:=@Array.getElem?_setIfInBounds
abbrev Zcs:=@Nat.two_pow_pos
abbrev Zct:=@Array.getElem?_eq_none
abbrev Zcu:=@Nat.add_mul
abbrev Zcv:=@Int.emod_lt_of_pos
abbrev Zcw:=@List.flatMap_append
abbrev Zcx:=@Nat.mul_le_mul_right
abbrev Zcy:=@Nat.add_zero
abbrev Zcz:=@Bool.false_eq_true
abbrev Zda:=@List.getElem?_take_of_lt
abbrev Zdb:=@Int.emod_nonneg
abbrev Zdc:=@List.not_mem_nil
abbrev Zdd:=@List.mem_cons
abbrev Zde:=@Nat.mul_assoc
abbrev Zdf:=@List.mem_of_mem_drop
abbrev Zdg:=@List.mem_cons_self
abbrev Zdh:=@Int.toNat_of_nonneg
abbrev Zdi:=@Nat.pow_add
abbrev Zdj:=@List.take_append_drop
abbrev Zdk:=@beq_iff_eq
abbrev Zdl:=@Bool.cond_false_right
abbrev Zdm:=@Array.toList_setIfInBounds
abbrev Zdn:=@List.mem_cons_of_mem
abbrev Zdo:=@List.length_set
abbrev Zdp:=@Nat.min_eq_left
abbrev Zdq:=@List.sum_append
abbrev Zdr:=@Nat.le_of_eq
abbrev Zds:=@Nat.lt_succ_self
abbrev Zdt:=@List.size_toArray
abbrev Zdu:=@Nat.mul_one
abbrev Zdv:=@List.ext_getElem?
abbrev Zdw:=@List.length_replicate
abbrev Zdx:=@Nat.div_le_self
abbrev Zdy:=@Nat.mod_eq_of_lt
abbrev Zdz:=@List.mem_flatMap
abbrev Zea:=@List.pairwise_append
abbrev Zeb:=@Array.getElem?_append_right
abbrev Zec:=@Nat.mul_le_mul
abbrev Zed:=@Nat.lt_trichotomy
abbrev Zee:=@List.length_range
abbrev Zef:=@Int.sign_eq_neg_one_of_neg
abbrev Zeg:=@List.getElem?_range
abbrev Zeh:=@Nat.mul_le_mul_left
abbrev Zei:=@Nat.div_add_mod
abbrev Zej:=@List.getElem?_toArray
abbrev Zek:=@Option.isSome_none
abbrev Zel:=@Option.getD_some
abbrev Zem:=@List.all_eq_true
abbrev Zen:=@List.ext_getElem
abbrev Zeo:=@List.flatMap_nil
abbrev Zep:=@List.getElem?_cons_zero
abbrev Zeq:=@List.nodup_append
abbrev Zer:=@Option.map_some
abbrev Zes:=@Nat.sub_self
abbrev Zet:=@Int.sign_eq_one_of_pos
abbrev Zeu:=@Nat.div_div_eq_div_mul
abbrev Zev:=@Nat.mod_lt
abbrev Zew:=@List.filter_append
abbrev Zex:=@Array.getElem?_modify
abbrev Zey:=@Nat.div_lt_iff_lt_mul
abbrev Zez:=@Int.natCast_mul
abbrev Zfa:=@Int.mul_emod
abbrev Zfb:=@List.any_eq_false
abbrev Zfc:=@Nat.pow_succ
abbrev Zfd:=@List.take_left
abbrev Zfe:=@List.getElem?_replicate
abbrev Zff:=@List.any_eq_true
abbrev Zfg:=@List.filter_cons
abbrev Zfh:=@Int.dvd_of_emod_eq_zero
abbrev Zfi:=@List.getElem_set
abbrev Zfl:=@Nat.gcd_pos_of_pos_left
abbrev Zfm:=@List.take_append_of_le_length
abbrev Zfn:=@List.drop_eq_nil_of_le
abbrev Zfo:=@List.map_map
abbrev Zfp:=@List.getElem_range
abbrev Zfq:=@Nat.gcd_comm
abbrev Zfr:=@Nat.le_mul_of_pos_left
abbrev Zfs:=@List.length_nil
abbrev Zft:=@Bool.or_eq_true
abbrev Zfu:=@Nat.not_lt_zero
abbrev Zfv:=@List.range_succ
abbrev Zfw:=@List.all_append
abbrev Zfx:=@Nat.add_assoc
abbrev Zfy:=@Bool.not_true
abbrev Zfz:=@Bool.and_self
abbrev Zga:=@List.set_append_right
abbrev Zgb:=@List.length_mergeSort
abbrev Zgc:=@Bool.not_eq_true'
abbrev Zgd:=@List.filter_congr
abbrev Zge:=@List.mapM_cons
abbrev Zgf:=@Int.tmod_eq_emod_of_nonneg
abbrev Zgg:=@List.cons_append
abbrev Zgh:=@Int.natCast_ediv
abbrev Zgi:=@List.getElem_append_right
abbrev Zgj:=@List.drop_eq_getElem_cons
abbrev Zgk:=@Array.mapM_eq_mapM_toList
abbrev Zgl:=@List.getElem_append_left
abbrev Zgm:=@List.eq_of_mem_replicate
abbrev Zgn:=@List.count_cons
abbrev Zgo:=@List.nil_append
abbrev Zgp:=@List.any_append
abbrev Zgq:=@Bool.eq_iff_iff
abbrev Zgr:=@Nat.lt_of_le_of_lt
abbrev Zgt:=@List.pairwise_mergeSort
abbrev Zgu:=@List.all_eq_not_any_not
end Go
namespace Go.Proofs.YthifolbledpmkaaGreatDoor.P
def idx{α:Type}(l:Γ α)(i:Int):=if 0<=i then l[i.toNat]? else κ
def rm n m:=υ (n+m<=137438953472)
def iter{σ ρ}(body:(σ->Δ ρ)->σ->Δ ρ):Nat->σ->Δ ρ| 0,_=>κ| n+1,s=>body (iter body n) s
def Ay:=36893488147419103232
def Fs{σ ρ}(a:(σ->Δ ρ)->σ->Δ ρ)n s:iter a (n+1) s=a (iter a n) s:=rfl
theorem cY{α ρ:Type}{m:Δ α}{G}{R:ρ}(h:m.bind G=θ R):∃x,m=θ x/\G x=θ R:=by
 cases m with
 | none=>cases h
 | some x=>exact⟨x,rfl,h⟩
theorem iN{ρ:Type}{b}{X}{R:ρ}(h:(bif b then X else κ)=θ R):b=ν/\X=θ R:=by
 cases b with
 | true=>exact⟨rfl,h⟩
 | false=>cases h
def WO{α}{l}{i}{x:α}(h:idx l i=θ x):0<=i/\i.toNat<Ξ l/\l[i.toNat]?=θ x:=by
 unfold idx at h;split at h;rename_i a;exact⟨a,(List.getElem?_eq_some_iff.1 h).1,h⟩
 cases h
theorem Aat{σ ρ}{a}{n}{s}{R}(h:iter a n s=θ R):
 ∃Φ:Nat->σ->Δ ρ,(∀k s,Φ k s=θ R->∃b,k=b+1/\a (Φ b) s=θ R)/\Φ n s=θ R:=by
 refine⟨iter a,λk s h=>?_,h⟩
 cases k with
 | zero=>cases h
 | succ k=>exact⟨k,rfl,h⟩
def By{α ρ:Type}{m:Δ α}{G}{R:ρ}{p:Prop}(h:m.bind G=θ R)(k:∀x,m=θ x->G x=θ R->p):p:=by
 have⟨x,h1,h2⟩:=cY h;exact k x h1 h2
def SU{ρ:Type}{b}{X}{R:ρ}{p:Prop}(h:(bif b then X else κ)=θ R)(k:b=ν->X=θ R->p):p:=k (iN h).1 (iN h).2
def ED{σ ρ}{a}{n}{s}{R}{p:Prop}(h:iter a n s=θ R)(k:∀Φ:Nat->σ->Δ ρ,(∀k s,Φ k s=θ R->∃b,k=b+1/\a (Φ b) s=θ R)->Φ n s=θ R->p):p:=by
 have⟨Φ,h1,h2⟩:=Aat h;exact k Φ h1 h2
end Go.Proofs.YthifolbledpmkaaGreatDoor.P
namespace Go.Abs
def K7:Γ Int:=[0,1,56,2,57,49,28,3,61,58,42,50,38,29,17,4,62,47,59,36,45,43,51,22,53,39,33,30,24,18,12,5,63,55,48,27,60,41,37,16,46,35,44,21,52,32,23,11,54,26,40,15,34,20,31,10,25,14,19,9,13,8,7,6]
def rF:Nat->Δ (Γ Int)| 2=>θ K7| _=>κ
inductive D where
 | bool (b:Bool)
 | int (k:IntKind) (n:Int)
 | str (s:ByteArray)
 | fn (f:FuncId) (caps:List D)
 | ptr (cs:List D)
 | nil (sz:Nat)
 | list (sz:Nat) (xs:List D)
 | agg (xs:List D)
def ze(g:Nat):Δ (Γ D):=match rF g with
 | some l=>θ (l.map λn=>D.int .u8 n)
 | none=>κ
def D.cells:D->Γ D| .agg xs=>xs| x=>[x]
def D.one:D->Ω| .agg _=>ξ| _=>ν
def D.bare:D->Ω| .bool _|.int _ _|.str _|.nil _|.fn _ []=>ν| _=>ξ
inductive C where
 | d (x:D)
 | sl (id ver:Nat)
 | own (sz:Nat) (e:TypeId) (xs:List D)
inductive AV where
 | any
 | bot
 | d (x:D)
 | lim (sz:Nat) (xs:List D)
 | ptr (id ver off:Nat)
 | sl (id ver:Nat)
 | eptr (id ver sz i off:Nat)
 | tup (xs:List C)
 | own (sz:Nat) (e:TypeId) (xs:List D)
 | optr (cs:List D)
 | under (t:Nat) (want:Bool) (x:AV)
 | cc (k:Option FuncId) (xs:List C)
inductive Cq where
 | none
 | var (cs:List C)
 | row (sz:Nat) (e:TypeId) (xs:List D)
 | fvar (cs:List D)
 | frow (sz:Nat) (xs:List D)
 | map (es:List (D×D))
structure Sl where
 av:AV
 box:Cq
 ver:Nat
abbrev AS:=Γ Sl
def Ai:Ψ->Δ Nat
 | .pointer (θ a)=>θ a.block
 | .slice (θ a) _ cap=>if cap=0 then κ else θ a.block
 | .map (θ b)=>θ b
 | .agg vs=>match vs.back? with
   | some (.slice (some a) _ cap)=>if cap=0 then κ else θ a.block
   | _=>κ
 | _=>κ
def VH:Ψ->Ψ
 | .agg vs=>match vs.back? with
   | some u=>u
   | none=>undef
 | v=>v
def Yx:Ψ->Nat| .slice _ _ c=>c| _=>0
inductive A5(O:Nat->Prop)(w:World):Value->D->Prop
 | bool (b:Bool):A5 O w (.bool b) (.bool b)
 | int (k:IntKind) (n:Int):A5 O w (.int k n) (.int k n)
 | str (s:ByteArray):A5 O w (.string s) (.str s)
 | fn (f:FuncId) (vs:Array Value) (xs:List D) (hl:vs.size=Ξ xs) (h1:∀x∈xs,x.one=true)
  (h:∀(i:Nat) v x,vs[i]?=some v->xs[i]?=some x->A5 O w v x):A5 O w (.func (.func f) #[] vs) (.fn f xs)
 | ptr (b off:Nat) (cs:List D) (c:Nat->Value) (hb:cs≠[]->b<w.heap.size) (hO:cs≠[]->¬O b) (h1:∀x∈cs,x.one=true)
  (hcell:∀(j:Nat) y,cs[j]?=some y->w.cell? ⟨b,off+j,none⟩=some (c j))
  (h:∀(j:Nat) y,cs[j]?=some y->A5 O w (c j) y):A5 O w (.pointer (some ⟨b,off,none⟩)) (.ptr cs)
 | agg (vs:Array Value) (xs:List D) (hl:vs.size=Ξ xs) (h1:∀x∈xs,x.one=true)
  (h:∀(i:Nat) v x,vs[i]?=some v->xs[i]?=some x->A5 O w v x):A5 O w (.agg vs) (.agg xs)
 | nil (sz:Nat):A5 O w (.slice none 0 0) (.nil sz)
 | emp (a:Option Addr) (cap sz:Nat):A5 O w (.slice a 0 cap) (.list sz [])
 | list (b off cap sz:Nat) (xs:List D) (c:Nat->Nat->Value) (hne:xs≠[]) (hb:b<w.heap.size) (hO:¬O b) (hcap:Ξ xs<=cap) (hsz:∀x∈xs,Ξ x.cells=sz)
  (h1:∀x∈xs,∀y∈x.cells,y.one=true)
  (hcell:∀(i:Nat) x (j:Nat) y,xs[i]?=some x->x.cells[j]?=some y->w.cell? ⟨b,off+i*sz+j,none⟩=some (c i j))
  (h:∀(i:Nat) x (j:Nat) y,xs[i]?=some x->x.cells[j]?=some y->A5 O w (c i j) y):
  A5 O w (.slice (some ⟨b,off,none⟩) (Ξ xs) cap) (.list sz xs)
def Vo O w:=∀g cs,ze g=θ cs->A5 O w (.pointer (θ ⟨g,0,κ⟩)) (.ptr cs)
def BC(O:Nat->Prop)(w:Λ)(vs:Γ Ψ)(ys:Γ D):=Ξ vs=Ξ ys/\∀(j:Nat) v y,vs[j]?=θ v->ys[j]?=θ y->A5 O w v y/\y.one=ν
def CI(β:Nat->Ψ)(ver:Nat->Nat)(O:Nat->Prop)(w:Λ)(v:Ψ):C->Prop| .d x=>A5 O w v x/\x.one=ν| .sl id n=>n<=ver id/\(n=ver id->v=β id)| .own _ _ _=>False
def ccV(k:Δ FuncId)(vs:Array Ψ):Ψ:=
 match k with
 | none=>.agg vs
 | some f=>.func (.func f) #[] vs
def NM(β:Nat->Ψ)(ver:Nat->Nat)(O:Nat->Prop)(w:Λ)(tm:Array Ψ)(v:Ψ):AV->Prop
 | .any=>True
 | .bot=>False
 | .d x=>A5 O w v x
 | .lim sz xs=>A5 O w v (.list sz xs)/\Yx v=Ξ xs
 | .ptr id n o=>n<=ver id/\(n=ver id->∃b,β id=.pointer (θ ⟨b,0,κ⟩)/\v=.pointer (θ ⟨b,o,κ⟩))
 | .sl id n=>n<=ver id/\(n=ver id->v=β id)
 | .eptr id n sz i o=>n<=ver id/\(n=ver id->∃b m cap,β id=.slice (θ ⟨b,0,κ⟩) m cap/\v=.pointer (θ ⟨b,i*sz+o,κ⟩))
 | .tup xs=>∃vs:Array Ψ,v=.tuple vs/\vs.size=Ξ xs/\∀(i:Nat) u x,vs[i]?=θ u->xs[i]?=θ x->match x with
  | .d y=>A5 O w u y
  | c=>CI β ver O w u c
 | .own _ _ _=>False
 | .optr _=>False
 | .under t want x=>(tm[t]?=θ (.bool want)->NM β ver O w tm v x)/\(tm[t]?≠θ (.bool want)->v=undef)
 | .cc k xs=>∃vs:Array Ψ,v=ccV k vs/\vs.size=Ξ xs/\∀(i:Nat) u x,vs[i]?=θ u->xs[i]?=θ x->CI β ver O w u x/\u.oneCell'=ν
def BM(w:Λ)(e:Υ)(sz:Nat)(v:Ψ)(n:Nat)(vals:Γ Ψ):=w.ownsRow 0 e sz v n vals\/(n=0/\vals=[]/\∃a,v=.slice (θ a) 0 0)
def LZ(β:Nat->Ψ)(ver:Nat->Nat)(O:Nat->Prop)(w:Λ)(id:Nat):Cq->Prop| .none=>True| .var cs=>∃b vals T,β id=.pointer (θ ⟨b,0,κ⟩)/\w.heap[b]?=θ (.cells vals T (0,0))/\vals.size=Ξ cs/\∀(j:Nat) v c,vals[j]?=θ v->cs[j]?=θ c->CI β ver O w v c| .row sz e xs=>0<sz/\(∀x∈xs,Ξ x.cells=sz)/\∃vals,BM w e sz (β id) (Ξ xs) vals/\BC O w vals (xs.flatMap D.cells)| .fvar cs=>A5 O w (β id) (.ptr cs)/\∃b,β id=.pointer (θ ⟨b,0,κ⟩)| .frow sz xs=>A5 O w (β id) (.list sz xs)| .map es=>∃(b:Nat)(vs:Array MapEntry)(clock:Nat),β id=.map (θ b)/\w.heap[b]?=θ (.map vs clock)/\vs.size=Ξ es /\ ∀(i:Nat)(e:MapEntry)(p:D×D),vs[i]?=θ e->es[i]?=θ p->A5 O w e.key p.1/\A5 O w e.val p.2/\p.1.bare=ν/\p.2.bare=ν
def Cq.owned:Cq->Ω| .var _|.row _ _ _|.map _=>ν| _=>ξ
def Wo(O:Nat->Prop)(w:Λ)(v:Ψ):AV->Prop| .any=>True| .d x=>A5 O w v x| .lim sz xs=>A5 O w v (.list sz xs)/\Yx v=Ξ xs| _=>False
def bA(mine:Nat->Prop)(w:Λ)(v:Ψ)(sz:Nat)(e:Υ)(xs:Γ D):=0<sz/\(∀x∈xs,Ξ x.cells=sz)/\(∀b,Ai v=θ b->mine b)/\∃vals,BM w e sz v (Ξ xs) vals/\BC (λ_=>True) w vals (xs.flatMap D.cells)
def oW(O:Nat->Prop)(w:Λ)(v:Ψ)(cs:Γ D):=∃b vals T,v=.pointer (θ ⟨b,0,κ⟩)/\w.heap[b]?=θ (.cells vals T (0,0))/\BC O w vals.toList cs
def EZ(v:Ψ)(r:AV)(b:Nat):Prop:=
 match r with
 | .own _ _ _|.optr _=>Ai v=θ b
 | .tup xs=>∃(vs:Array Ψ)(i:Nat)(u:Ψ)(sz:Nat)(e:Υ)(ys:Γ D),v=.tuple vs/\vs[i]?=θ u/\xs[i]?=θ (.own sz e ys)/\Ai u=θ b
 | .cc _ _=>Ai v=θ b
 | _=>False
def Z5(mine O:Nat->Prop)(w:Λ)(v:Ψ):Γ C->Prop| [.own sz e xs]=>0<sz/\(∀x∈xs,Ξ x.cells=sz)/\(∀b,Ai v=θ b->mine b)/\∃vals,BM w e sz v (Ξ xs) vals/\BC (λb=>O b\/Ai v=θ b) w vals (xs.flatMap D.cells)| _=>False
def Eu(mine O:Nat->Prop)(w:Λ)(v:Ψ)(r:AV):Prop:=
 match r with
 | .own sz e xs=>bA mine w v sz e xs
 | .cc _ l=>Z5 mine O w v l
 | .optr cs=>(∀b,Ai v=θ b->mine b)/\oW (λb=>O b\/Ai v=θ b) w v cs
 | .tup xs=>∃vs:Array Ψ,v=.tuple vs/\vs.size=Ξ xs/\(∀(i:Nat) u x,vs[i]?=θ u->xs[i]?=θ x->match x with
  | .d y=>A5 (λb=>O b\/EZ v (.tup xs) b) w u y
  | .own sz e ys=>bA mine w u sz e ys
  | .sl _ _=>False) /\
  ∀(i j:Nat) u u' sz e ys sz' e' ys' b,vs[i]?=θ u->vs[j]?=θ u'->xs[i]?=θ (.own sz e ys)->xs[j]?=θ (.own sz' e' ys')->Ai u=θ b->Ai u'=θ b->i=j
 | x=>Wo O w v x
def Hq(P:Η)(f:FuncId):Ω:=
 match P.funcs[f]? with
 | some fn=>!(fn.name == "runtime.NumGoroutine")&&fn.body.isSome
 | none=>ξ
def A9(P:Η)(f:FuncId)(args:Γ AV)(r:AV):=Hq P f=ν/\∀O w vs,(∀b,O b->b<w.heap.size)->Vo O w->vs.size=Ξ args -> (∀(i:Nat) v x,vs[i]?=θ v->args[i]?=θ x->Wo O w v x) -> Calls P f vs w λe w'=>∃v,e=.returned v/\RowKit.Below w.heap.size w w'/\Eu (λb=>w.heap.size<=b) O w' v r
structure AC(B:Nat)(M:Nat->Prop)(w w':World):Prop where
 os:w'.os=w.os
 tape:w'.tape=w.tape
 output:w'.output=w.output
 size:w.heap.size<=w'.heap.size
 block:∀k,k<B->¬M k->w'.heap[k]?=w.heap[k]?
def AV.mut:AV->Ω| .own _ _ _|.optr _|.cc _ _=>ν| _=>ξ
def vl(w:Λ)(O:Nat->Prop)(v:Ψ)(l:Γ C)(vs:Array Ψ)(u:Ψ)(ds:Γ D)(sz:Nat)(e:Υ)(xs:Γ D):=l=ds.map .d++[.own sz e xs]/\v=.agg (vs.push u)/\vs.size=Ξ ds/\0<sz/\(∀x∈xs,Ξ x.cells=sz)/\∃vals,BM w e sz u (Ξ xs) vals/\BC O w vals (xs.flatMap D.cells)
def m7(O:Nat->Prop)(w:Λ)(v:Ψ):AV->Prop| .own sz e xs=>0<sz/\(∀x∈xs,Ξ x.cells=sz)/\∃vals,BM w e sz v (Ξ xs) vals/\BC O w vals (xs.flatMap D.cells)| .optr cs=>oW O w v cs| .cc k l=>k=κ/\∃vs u ds sz e xs,vl w O v l vs u ds sz e xs/\BC O w vs.toList ds| x=>Wo O w v x
def Km(vs:Array Ψ)(args:Γ AV)(b:Nat):=∃(i:Nat)(v:Ψ)(x:AV),vs[i]?=θ v/\args[i]?=θ x/\x.mut=ν/\Ai v=θ b
def Wu(O:Nat->Prop)(w:Λ)(v:Ψ)(x:AV):AV->Prop| .own sz e ys=>m7 O w v (.own sz e ys)/\∃xs,x=.own sz e xs| .optr cs=>m7 O w v (.optr cs)/\∃cs',x=.optr cs'/\Ξ cs=Ξ cs'| .cc _ l=>∃vs u ds sz e xs,vl w O v l vs u ds sz e xs| _=>True
def Et(P:Η)(f:FuncId)(args outs:Γ AV)(r:AV):=Hq P f=ν/\Ξ outs=Ξ args/\∀(O:Nat->Prop) w vs,(∀b,O b->b<w.heap.size)->Vo (λb=>O b\/Km vs args b) w->vs.size=Ξ args->(∀b,Km vs args b->¬O b) -> (∀(i j:Nat) v v' x y b,vs[i]?=θ v->vs[j]?=θ v'->args[i]?=θ x->args[j]?=θ y->x.mut=ν->y.mut=ν->Ai v=θ b->Ai v'=θ b->i=j) -> (∀(i:Nat) v x,vs[i]?=θ v->args[i]?=θ x->m7 (λb=>O b\/Km vs args b) w v x) -> Calls P f vs w λe w'=>∃v,e=.returned v/\AC w.heap.size (Km vs args) w w'/\Eu (λb=>w.heap.size<=b\/(Km vs args b/\¬Km vs outs b)) (λb=>O b\/Km vs outs b) w' v r /\ ∀(i:Nat) u x y,vs[i]?=θ u->args[i]?=θ x->outs[i]?=θ y->Wu (λb=>O b\/Km vs outs b\/EZ v r b) w' u x y
def jm(P:Η)(f:FuncId)(args:Γ AV)(r:AV):=∀O w vs,vs.size=Ξ args->(∀(i:Nat) v x,vs[i]?=θ v->args[i]?=θ x->Wo O w v x) -> ∃v,(callFunc f vs).run P w=.ok (.value v) w/\Eu (λb=>w.heap.size<=b) O w v r
def cX b x y:=Bool.rec (motive:=λ_=>Prop) y x b
def br{b}{x y}(h1:b=ν->x)(h2:b=ξ->y):Bool.rec (motive:=λ_=>Prop) y x b:=by
 cases b
 exact h2 rfl;exact h1 rfl
def cX.pos{b}{x y}(h:cX b x y)(a:b=ν):x:=by subst a;exact h
def cX.neg{b}{x y}(h:cX b x y)(a:b=ξ):y:=by subst a;exact h
structure NL(p k:Prop):Prop where
 need:p
 then_:k
def vm(P:Η)(f:FuncId)(nils:Γ Nat)(args:Γ AV)(r:AV):=Hq P f=ν/\∀O w vs,(∀b,O b->b<w.heap.size)->Vo O w->vs.size=Ξ args->(∀i∈nils,vs[i]?=θ (.slice κ 0 0)) -> (∀(i:Nat) v x,vs[i]?=θ v->args[i]?=θ x->Wo O w v x) -> Calls P f vs w λe w'=>∃v,e=.returned v/\RowKit.Below w.heap.size w w'/\Eu (λb=>w.heap.size<=b) O w' v r
structure K3(P:Program)(f:FuncId)(nils:List Nat)(args:List AV)(K:AV->Prop)(margs:List AV)(KM:List AV->AV->Prop):Prop where
 go:(∃r,(A9 P f args r\/jm P f args r\/vm P f nils args r)/\K r)\/∃outs r,Et P f margs outs r/\KM outs r
def BU{P}{f}{b}{args a}{K}{d}{r}(c:A9 P f args r)(k:K r):K3 P f b args K a d:=⟨.inl ⟨r,.inl c,k⟩⟩
def ZG{P}{f}{b}{args a}{K}{d}{r}(c:jm P f args r)(k:K r):K3 P f b args K a d:=⟨.inl ⟨r,.inr (.inl c),k⟩⟩
def Adl{P}{f}{a}{args b}{K}{d}{r}(c:vm P f a args r)(k:K r):K3 P f a args K b d:=⟨.inl ⟨r,.inr (.inr c),k⟩⟩
def Ha{P}{f}{d}{args a b}{K}{e}{r}(c:Et P f a b r)(k:e b r):K3 P f d args K a e:=⟨.inr ⟨b,r,c,k⟩⟩
def cN(P:Η)(f:FuncId)(args:Γ AV)(k sz:Nat)(e:Υ)(xs ys:Γ D):=Hq P f=ν/\∀(O:Nat->Prop) w vs b u T,(∀c,O c->c<w.heap.size)->Vo (λc=>O c\/c=b\/Ai u=θ c) w->vs.size=Ξ args->vs[k]?=θ (.pointer (θ ⟨b,0,κ⟩)) -> w.heap[b]?=θ (.cells #[u] T (0,0))->¬O b->(∀c,Ai u=θ c->¬O c/\c≠b)->0<sz->(∀x∈xs,Ξ x.cells=sz) -> (∃vals,BM w e sz u (Ξ xs) vals/\BC (λc=>O c\/c=b\/Ai u=θ c) w vals (xs.flatMap D.cells)) -> (∀(i:Nat) v x,vs[i]?=θ v->args[i]?=θ x->Wo (λc=>O c\/c=b\/Ai u=θ c) w v x) -> Calls P f vs w λe' w'=>∃v u' T',e'=.returned v/\AC w.heap.size (λc=>c=b\/Ai u=θ c) w w'/\w'.heap[b]?=θ (.cells #[u'] T' (0,0))/\(∀c,Ai u'=θ c->Ai u=θ c\/w.heap.size<=c)/\(∀x∈ys,Ξ x.cells=sz) /\ ∃vals,BM w' e sz u' (Ξ ys) vals/\BC (λc=>O c\/c=b\/Ai u'=θ c) w' vals (ys.flatMap D.cells)
structure m9(P:Program)(f:FuncId)(args:List AV)(k sz:Nat)(e:TypeId)(xs:List D)(K:List D->Prop):Prop where
 go:∃ys,cN P f args k sz e xs ys/\K ys
def da{P}{f}{args}{k sz}{e}{xs ys}{K}(c:cN P f args k sz e xs ys)(h:K ys):m9 P f args k sz e xs K:=⟨⟨ys,c,h⟩⟩
structure At(xs:List D)(i:Int)(K:D->Prop):Prop where
 go:0<=i/\∃x,xs[i.toNat]?=some x/\K x
structure YV(x y:Prop):Prop where
 go:x\/y
structure Aaj(K:List (Nat×Nat)->Prop):Prop where
 go:∃hs,K hs
structure Add(xs:List D)(K:Bool->Prop):Prop where
 go:∀b:Bool,(xs≠[]->b=false)->K b
def oV:Sl:=⟨.any,.none,0⟩
def An:AS->Nat->Sl| [],_=>oV| s::_,0=>s| _::r,n+1=>An r n
def GT:AS->Nat->AV->AS| [],_,_=>[]| s::r,0,v=>⟨v,s.box,s.ver⟩::r| s::r,n+1,v=>s::GT r n v
def Bp:AS->Nat->Cq->Nat->AS| [],_,_,_=>[]| s::r,0,b,n=>⟨s.av,b,n⟩::r| s::r,k+1,b,n=>s::Bp r k b n
inductive RV where
 | any
 | bot
 | d (x:D)
 | lim (sz:Nat) (xs:List D)
 | vptr (id ver off:Nat) (cs:List C)
 | row (id ver sz:Nat) (e:TypeId) (xs:List D)
 | eptr (id ver sz:Nat) (e:TypeId) (xs:List D) (i off:Nat)
 | tup (xs:List C)
 | mp (id ver:Nat) (es:List (D×D))
 | cagg (xs:List C)
 | cfun (f:FuncId) (xs:List C)
 | clo (f:FuncId) (cs:List C) (k id ver rid rver:Nat)
def qz:Γ C->Δ (Nat×Nat×Nat)
 | []=>κ
 | .sl id n::_=>θ (0,id,n)
 | _::r=>match qz r with
   | some (k,id,n)=>θ (k+1,id,n)
   | none=>κ
def pp:Ψ->AV| .int k n=>.d (.int k n)| .bool b=>.d (.bool b)| .string s=>.d (.str s)| .slice κ 0 0=>.d (.nil 0)| _=>.any
def ev(S:AS):Ly->AV
 | .tmp t=>(An S t).av
 | .const v=>pp v
 | .func f=>.d (.fn f [])
 | .global g=>match ze g with
   | some cs=>.d (.ptr cs)
   | none=>.any
def unw(g:Δ (Nat×Ω)):AV->AV
 | .under t w y=>match g with
   | some (t',w')=>if t=t'/\w=w' then y else .any
   | none=>.any
 | x=>x
def res(S:AS):AV->RV
 | .any=>.any
 | .bot=>.bot
 | .d x=>.d x
 | .lim sz xs=>.lim sz xs
 | .tup xs=>.tup xs
 | .ptr id n o=>match An S id with
   | ⟨_,.var cs,m⟩=>if n=m then .vptr id n o cs else .any
   | ⟨_,.fvar cs,m⟩=>if n=m then .d (.ptr (cs.drop o))else .any
   | _=>.any
 | .sl id n=>match An S id with
   | ⟨_,.row sz e xs,m⟩=>if n=m then .row id n sz e xs else .any
   | ⟨_,.frow sz xs,m⟩=>if n=m then .d (.list sz xs)else .any
   | ⟨_,.map es,m⟩=>if n=m then .mp id n es else .any
   | _=>.any
 | .eptr id n sz i o=>match An S id with
   | ⟨_,.row sz' e xs,m⟩=>if n=m/\sz=sz' then .eptr id n sz e xs i o else .any
   | _=>.any
 | .own _ _ _=>.any
 | .optr _=>.any
 | .under _ _ _=>.any
 | .cc k xs=>match k with
   | none=>.cagg xs
   | some f=>match qz xs with
     | some (j,id,n)=>match An S id with
       | ⟨_,.var [.sl rid rn],m⟩=>if n=m then .clo f xs j id n rid rn else .cfun f xs
       | _=>.cfun f xs
     | none=>.cfun f xs
def AV.guards:AV->Γ Nat| .under t _ x=>t::x.guards| _=>[]
def AU S i:=(An S i).ver
structure Cx where
 base:Nat
 M:Nat->Prop
 O:Nat->Prop
 R:Nat->Prop
 w₀:World
 ini:Nat->Value
 glob:Vo (λb=>O b\/base<=b\/M b) w₀
def Cx.mine(x:Cx)(b:Nat):=x.base<=b\/x.M b
def Cx.less(x:Cx)(R:Nat->Prop):={ x with R:=R }
def OS(β:Nat->Ψ)(x:Cx)(S:AS)(b:Nat):=x.O b\/x.R b\/∃i,(An S i).box.owned=ν/\Ai (β i)=θ b
structure SimB(x:Cx)(G:Nat->Prop)(β:Nat->Value)(S:AS)(a:Act)(w:World):Prop where
 len:a.tmps.size=Ξ S
 df:a.defers=[]
 below:AC x.base x.M x.w₀ w
 hbase:x.base<=w.heap.size
 o₀:∀b,x.O b->b<x.base/\¬x.M b
 rs:∀b,x.R b->x.mine b/\b<w.heap.size
 slots:∀(t:Nat) v,a.tmps[t]?=some v->NM β (AU S) (OS β x S) w a.tmps v (An S t).av
 boxes:∀i,LZ β (AU S) (OS β x S) w i (An S i).box
 mine:∀i b,(An S i).box.owned=true->Ai (β i)=some b->x.mine b/\¬x.R b
 inj:∀i j b,(An S i).box.owned=true->(An S j).box.owned=true->Ai (β i)=some b->Ai (β j)=some b->i=j
 gds:∀t,∀u∈(An S t).av.guards,G u
 ini:∀i,(An S i).ver=0->(An S i).box≠.none->β i=x.ini i
structure J4 where
 av:AV
 bx:List (Nat×Cq×Nat)
 homes:List (Nat×Nat)
abbrev Bx:=Γ (Nat×Cq×Nat)
def back:RV->AV| .any=>.any| .bot=>.bot| .d x=>.d x| .lim sz xs=>.lim sz xs| .vptr id n o _=>.ptr id n o| .row id n _ _ _=>.sl id n| .eptr id n sz _ _ i o=>.eptr id n sz i o| .tup xs=>.tup xs| .mp id n _=>.sl id n| .cagg xs=>.cc κ xs| .cfun f cs=>.cc (θ f) cs| .clo f cs _ _ _ _ _=>.cc (θ f) cs
def Jh:Nat->(Nat->Prop)->Prop| 0,K=>K 0| n+1,K=>Jh n λm=>K (m+1)
def eG(v:AV)(K:AV->Prop):Prop:=
 match v with
 | .any=>K .any
 | .bot=>K .bot
 | .d x=>K (.d x)
 | .lim sz xs=>K (.lim sz xs)
 | .ptr id n o=>Jh n λn=>Jh o λo=>K (.ptr id n o)
 | .sl id n=>Jh n λn=>K (.sl id n)
 | .eptr id n sz i o=>Jh n λn=>Jh sz λsz=>Jh o λo=>K (.eptr id n sz i o)
 | .tup xs=>K (.tup xs)
 | .own sz e xs=>K (.own sz e xs)
 | .optr cs=>K (.optr cs)
 | .under t w x=>match x with
   | .any=>K (.under t w .any)
   | .d x=>K (.under t w (.d x))
   | .ptr id n o=>Jh n λn=>Jh o λo=>K (.under t w (.ptr id n o))
   | .sl id n=>Jh n λn=>K (.under t w (.sl id n))
   | .eptr id n sz i o=>Jh n λn=>Jh sz λsz=>Jh o λo=>K (.under t w (.eptr id n sz i o))
   | x=>K (.under t w x)
 | .cc k xs=>K (.cc k xs)
def lq(b:Cq)(K:Cq->Prop):Prop:=
 match b with
 | .none=>K .none
 | .var cs=>K (.var cs)
 | .row sz e xs=>Jh sz λsz=>K (.row sz e xs)
 | .fvar cs=>K (.fvar cs)
 | .frow sz xs=>Jh sz λsz=>K (.frow sz xs)
 | .map es=>K (.map es)
def DY{α}:Γ α->(Γ α->Prop)->Prop| [],K=>K []| x::r,K=>DY r λr=>K (x::r)
def splice{α}:Γ α->Nat->Γ α->Γ α| cs,0,ys=>ys++cs.drop (Ξ ys)| [],_+1,_=>[]| c::cs,n+1,ys=>c::splice cs n ys
def UX:Γ D->(Γ D->Prop)->Prop
 | [],K=>K []
 | x::r,K=>UX r λr=>match x with
   | .nil s=>K (.list s []::r)
   | x=>K (x::r)
def Y8(x:D)(K:D->Prop):Prop:=
 match x with
 | .nil s=>K (.list s [])
 | .agg xs=>UX xs λl=>K (.agg l)
 | x=>K x
def jo(r:RV)(K:D->Bx->Prop):Prop:=
 match r with
 | .d x=>K x []
 | .lim sz xs=>K (.list sz xs) []
 | .row id n sz _ xs=>K (.list sz xs) [(id,.frow sz xs,n)]
 | _=>False
def asN(r:RV)(K:D->Bx->Prop):=jo r λx b=>Y8 x λx=>K x b
def EY(σ:Nat->Nat->RV):Γ C->(Γ D->Bx->Prop)->Prop| [],K=>K [] []| .d x::r,K=>EY σ r λl b=>K (x::l) b| .sl id n::r,K=>jo (σ id n) λx b=>EY σ r λl b'=>K (x::l) (b++b')| .own _ _ _::_,_=>False
def m5:Γ D->(Γ C->Prop)->Prop| [],K=>K []| x::r,K=>m5 r λr=>K (.d x::r)
def zD:Ψ->Δ D| .int k n=>θ (.int k n)| .bool b=>θ (.bool b)| .string s=>θ (.str s)| .slice κ 0 0=>θ (.nil 0)| _=>κ
def zDs:Γ Ψ->Δ (Γ D)
 | []=>θ []
 | v::r=>match zD v,zDs r with
   | some x,some l=>θ (x::l)
   | _,_=>κ
def AJ(P:Η)(t:Υ):Nat:=match P.info? t with|θ i=>i.size|κ=>0
def SJ(P:Η)(t:Υ):Nat:=match P.info? t with|θ i=>i.bytes|κ=>0
def bE(P:Η):Nat->Υ->Γ Nat
 | 0,_=>[]
 | n+1,t=>match P.underlying t with
   | some (.slice e)=>[AJ P e]
   | some (.struct fs)=>fs.toList.flatMap λf=>bE P n f.type
   | some (.array k e)=>(List.replicate k e).flatMap λe=>bE P n e
   | _=>[0]
def PY:Γ D->Γ Nat->Γ D| .nil _::r,s::q=>.nil s::PY r q| x::r,_::q=>x::PY r q| l,_=>l
def zeroCells(P:Η)(t:Υ):Δ (Γ D):=
 match P.info? t with
 | some i=>match i.zero with
   | some z=>match zDs z.cells.toList with
     | some l=>θ (PY l (bE P 12 t))
     | none=>κ
   | none=>κ
 | none=>κ
def SD(P:Η)(t:Υ):Δ Ω:=
 match P.underlying t with
 | some (.struct _)|some (.array _ _)=>θ ν
 | some _=>θ ξ
 | none=>κ
def nQ(P:Η)(t:Υ)(cs:Γ D)(K:D->Prop):Prop:=
 match SD P t with
 | some true=>match P.info? t with
   | some i=>DY (cs.take i.size) λl=>if Ξ l=i.size then K (.agg l)else False
   | none=>False
 | some false=>match cs with
   | y::_=>K y
   | []=>False
 | none=>False
def nilT(P:Η)(t:Υ)(x:D):D:=
 match x with
 | .nil 0=>match P.underlying t with
   | some (.slice e)=>.nil (AJ P e)
   | _=>.nil 0
 | x=>x
def Acw:Γ C->Ω
 | []=>ξ
 | c::r=>match c with
   | .sl _ _=>ν
   | _=>Acw r
def X9(σ:Nat->Nat->RV):Γ C->Ω
 | []=>ν
 | c::r=>match c with
   | .d _=>X9 σ r
   | .sl id n=>match σ id n with
     | .row _ _ _ _ _=>X9 σ r
     | _=>ξ
   | .own _ _ _=>ξ
def yE(P:Η)(σ:Nat->Nat->RV)(t:Υ)(cs:Γ C)(K:J4->Prop):Prop:=
 match SD P t with
 | some true=>match P.info? t with
   | some i=>DY (cs.take i.size) λl=>if Ξ l=i.size then match Acw l with
     | false=>EY σ l λl b=>K ⟨.d (.agg l),b,[]⟩
     | true=>YV (EY σ l λl b=>K ⟨.d (.agg l),b,[]⟩) (if X9 σ l=ν then K ⟨.cc κ l,[],[]⟩else False)
     else False
   | none=>False
 | some false=>match cs with
   | .d y::_=>K ⟨.d y,[],[]⟩
   | .sl id n::_=>K ⟨.sl id n,[],[]⟩
   | _=>False
 | none=>False
def fg(op:BinOp)(k:IntKind)(a b:Int)(K:D->Prop):Prop:=
 match op with
 | .add=>K (.int k (k.wrap (a+b)))
 | .sub=>K (.int k (k.wrap (a-b)))
 | .mul=>K (.int k (k.wrap (a*b)))
 | .quo=>NL (b≠0) (K (.int k (k.wrap (a.tdiv b))))
 | .rem=>NL (b≠0) (K (.int k (a.tmod b)))
 | .and=>K (.int k (k.wrap (BitVec.ofInt k.bits a&&&BitVec.ofInt k.bits b).toNat))
 | .or=>K (.int k (k.wrap (BitVec.ofInt k.bits a|||BitVec.ofInt k.bits b).toNat))
 | .xor=>K (.int k (k.wrap (BitVec.ofInt k.bits a ^^^ BitVec.ofInt k.bits b).toNat))
 | .eql=>K (.bool (a==b))
 | .neq=>K (.bool (a != b))
 | .lss=>K (.bool (υ (a<b)))
 | .leq=>K (.bool (υ (a<=b)))
 | .gtr=>K (.bool (υ (a>b)))
 | .geq=>K (.bool (υ (a>=b)))
 | _=>False
def cF(op:BinOp)(k:IntKind)(a b:Int)(K:D->Prop):Prop:=
 match op with
 | .shl=>NL (0<=b) (K (.int k (k.wrap (a*2^(min b.toNat k.bits)))))
 | .shr=>NL (0<=b) (K (.int k (a.fdiv (2^(min b.toNat k.bits)))))
 | _=>False
def Adm(P:Η)(t:Υ)(fs:Γ Field)(n m:Nat):=
 !P.stoodInHeld t&&fs.all λf=>!(f.name == "_")&&((P.info? f.type).isSome&&(f.offset+AJ P f.type<=n&&f.offset+AJ P f.type<=m))
def nu(P:Η):Nat->Υ->Γ D->Γ D->(Ω->Prop)->Prop
 | 0,_,_,_,_=>False
 | n+1,t,xs,ys,K=>match P.underlying t with
   | some (.int _)=>match xs,ys with
     | .int k a::_,.int k' b::_=>if k=k' then K (a==b)else False
     | _,_=>False
   | some .bool=>match xs,ys with
     | .bool a::_,.bool b::_=>K (a==b)
     | _,_=>False
   | some .string=>match xs,ys with
     | .str a::_,.str b::_=>K (a.toList==b.toList)
     | _,_=>False
   | some (.struct fs)=>NL (Adm P t fs.toList (Ξ xs) (Ξ ys)=ν)
     (List.rec (motive:=λ_=>(Ω->Prop)->Prop) (λK=>K ν)
      (λf _ ih K=>nu P n f.type ((xs.drop f.offset).take (AJ P f.type)) ((ys.drop f.offset).take (AJ P f.type)) λa=>ih λb=>K (a&&b)) fs.toList K)
   | _=>False
def pW(P:Η)(t:Υ):Ω:=match P.underlying t with|θ .bool=>ν|_=>ξ
def qC(op:BinOp)(a b:Θ)(K:D->Prop):Prop:=
 match op with
 | .add=>NL (a.size+b.size<=9223372036854775807) (K (.str (a++b)))
 | .eql=>K (.bool (a.toList==b.toList))
 | .neq=>K (.bool (!(a.toList==b.toList)))
 | _=>False
def mI(P:Η)(t:Υ)(op:BinOp)(x y:D)(K:D->Prop):Prop:=
 match x,y with
 | .int k a,.int k' b=>match op with
   | .shl=>cF .shl k a b K
   | .shr=>cF .shr k a b K
   | op=>if k=k' then fg op k a b K else False
 | .str a,.str b=>qC op a b K
 | .bool a,.bool b=>match pW P t with
   | true=>match op with
     | .eql=>K (.bool (a==b))
     | .neq=>K (.bool (!(a==b)))
     | _=>False
   | false=>False
 | .agg xs,.agg ys=>NL (P.eqGuardType P.depth t=ξ/\SD P t=θ ν) (match op with
   | .eql=>nu P 12 t xs ys λb=>K (.bool b)
   | .neq=>nu P 12 t xs ys λb=>K (.bool !b)
   | _=>False)
 | _,_=>False
def unD(op:UnOp)(x:D)(K:D->Prop):Prop:=
 match op,x with
 | .not,.bool b=>K (.bool !b)
 | .neg,.int k n=>K (.int k (k.wrap (0-n)))
 | .xor,.int k n=>K (.int k (k.wrap (BitVec.ofInt k.bits (if k.signed then -1 else k.max) ^^^ BitVec.ofInt k.bits n).toNat))
 | _,_=>False
def SH(σ:Nat->Nat->RV)(r:RV)(K:AV->Bx->Prop):Prop:=
 match r with
 | .any=>K .any []
 | .d x=>Y8 x λx=>K (.d x) []
 | .lim sz xs=>K (.d (.list sz xs)) []
 | .vptr id n o cs=>EY σ cs λl b=>UX l λl=>DY (l.drop o) λl'=>K (.d (.ptr l')) (b++[(id,.fvar l,n)])
 | .row id n sz _ xs=>K (.d (.list sz xs)) [(id,.frow sz xs,n)]
 | .eptr id n sz _ xs i o=>At xs i λx=>DY (x.cells.drop o) λl=>K (.d (.ptr l)) [(id,.frow sz xs,n)]
 | .cagg cs=>EY σ cs λl b=>UX l λl=>K (.d (.agg l)) b
 | _=>False
def Yn(σ:Nat->Nat->RV):Γ C->(Γ C->Nat->Nat->Prop)->Prop
 | [],_=>False
 | c::r,K=>match c with
   | .d x=>Y8 x λx=>Yn σ r λl id n=>K (.d x::l) id n
   | .sl id n=>match r with
     | []=>match σ id n with
       | .row id n sz e xs=>K [.own sz e xs] id n
       | _=>False
     | _=>False
   | .own _ _ _=>False
def dA:Γ C->(Nat->Υ->Γ D->Prop)->Prop
 | [],_=>False
 | c::r,K=>match c with
   | .own sz e xs=>match r with
     | []=>K sz e xs
     | _=>False
   | _=>dA r K
def SY:Ly->Ω| .const (.slice κ 0 0)=>ν| _=>ξ
def WT:Γ Ly->Nat->Γ Nat
 | [],_=>[]
 | x::r,n=>match SY x with
   | true=>n::WT r (n+1)
   | false=>WT r (n+1)
def jZ(P:Η)(t:Υ)(K:AV->Prop):Prop:=
 match P.underlying t with
 | some (.slice e)=>K (.d (.list (AJ P e) []))
 | _=>False
def K4(P:Η)(σ:Nat->Nat->RV)(ρ:Ly->RV):Γ Ly->Γ Υ->(Γ AV->Bx->Prop)->Prop
 | [],_,K=>K [] []
 | x::r,ts,K=>match SY x with
   | true=>match ts with
     | t::ts=>jZ P t λv=>K4 P σ ρ r ts λvs bs=>K (v::vs) bs
     | []=>False
   | false=>SH σ (ρ x) λv b=>K4 P σ ρ r ts.tail λvs bs=>K (v::vs) (b++bs)
def gn:Γ C->Ω
 | []=>ξ
 | c::r=>match c with
   | .d _=>gn r
   | .sl _ _=>match r with
     | []=>ν
     | _=>ξ
   | .own _ _ _=>ξ
def Zn(σ:Nat->Nat->RV)(r:RV)(K:AV->Bx->Δ (Nat×Nat)->Prop):Prop:=
 match r with
 | .row id n sz e xs=>K (.own sz e xs) [] (θ (id,n))
 | .vptr id n 0 cs=>EY σ cs λl b=>UX l λl=>K (.optr l) b (θ (id,n))
 | .cagg cs=>match gn cs with
   | true=>Yn σ cs λl id n=>K (.cc κ l) [] (θ (id,n))
   | false=>SH σ (.cagg cs) λv b=>K v b κ
 | r=>SH σ r λv b=>K v b κ
def Jl(P:Η)(σ:Nat->Nat->RV)(ρ:Ly->RV):Γ Ly->Γ Υ->(Γ AV->Bx->Γ (Δ (Nat×Nat))->Prop)->Prop
 | [],_,K=>K [] [] []
 | x::r,ts,K=>match SY x with
   | true=>match ts with
     | t::ts=>jZ P t λv=>Jl P σ ρ r ts λvs bs us=>K (v::vs) bs (κ::us)
     | []=>False
   | false=>Zn σ (ρ x) λv b u=>Jl P σ ρ r ts.tail λvs bs us=>K (v::vs) (b++bs) (u::us)
def fy:Γ D->(Γ AV->Prop)->Prop| [],K=>K []| x::r,K=>fy r λr=>K (.d x::r)
def C.bare:C->Ω| .d (.agg xs)=>xs.all D.bare| .d x=>x.bare| .own _ _ _=>ν| .sl _ _=>ξ
def AV.bare:AV->Ω| .d (.agg xs)=>xs.all D.bare| .d x=>x.bare| .tup xs=>xs.all C.bare| .own _ _ _=>ν| _=>ξ
def nY(r:AV)(lent:Bx)(K:Bx->Prop):Prop:=
 match lent with
 | []=>K []
 | l=>match r.bare with
   | true=>K []
   | false=>K l
def Ku(id:Nat):Bx->Ω| []=>ν| x::r=>υ (x.1≠id)&&Ku id r
def Y2:Γ C->Γ (Nat×Nat)->(Γ C->Bx->Prop)->Prop| [],[],K=>K [] []| .d x::r,hs,K=>Y2 r hs λl b=>K (.d x::l) b| .own sz e xs::r,(h,n)::hs,K=>Y2 r hs λl b=>if Ku h b=ν then K (.sl h n::l) ((h,.row sz e xs,n)::b)else False| _,_,_=>False
def bS:Γ C->Ω| []=>ξ| .own _ _ _::_=>ν| _::r=>bS r
def tW(d dv:Nat)(r:AV)(b:Bx)(K:J4->Prop):Prop:=
 match r with
 | .own sz e xs=>if Ku d b=ν then K ⟨.sl d (dv+1),b++[(d,.row sz e xs,dv+1)],[]⟩else False
 | .optr cs=>if Ku d b=ν then m5 cs λl=>K ⟨.ptr d (dv+1) 0,b++[(d,.var l,dv+1)],[]⟩else False
 | .tup xs=>match bS xs with
   | false=>K ⟨.tup xs,b,[]⟩
   | true=>Aaj λhs=>Y2 xs hs λl hb=>if hb.all (λh=>Ku h.1 b)=ν then K ⟨.tup l,b++hb,hs⟩else False
 | .cc _ l=>match l with
   | [.own sz e xs]=>if Ku d b=ν then K ⟨.sl d (dv+1),b++[(d,.row sz e xs,dv+1)],[]⟩else False
   | _=>False
 | .under _ _ _|.ptr _ _ _|.sl _ _|.eptr _ _ _ _ _=>False
 | r=>K ⟨r,b,[]⟩
def R0:Γ (Δ (Nat×Nat))->Γ AV->(Bx->Prop)->Prop| [],[],K=>K []| κ::us,_::os,K=>R0 us os K| θ (id,n)::us,.own sz e ys::os,K=>R0 us os λb=>if Ku id b=ν then K ((id,.row sz e ys,n)::b)else False| θ (id,n)::us,.optr cs::os,K=>m5 cs λl=>R0 us os λb=>if Ku id b=ν then K ((id,.var l,n)::b)else False| θ (id,n)::us,.any::os,K=>R0 us os λb=>if Ku id b=ν then K ((id,.none,n+1)::b)else False| θ (id,n)::us,.cc _ l::os,K=>dA l λsz e ys=>R0 us os λb=>if Ku id b=ν then K ((id,.row sz e ys,n)::b)else False| _,_,_=>False
def Y0(ρ:Ly->RV):Γ Ly->Ω
 | []=>ξ
 | x::r=>match ρ x with
   | .vptr _ _ 0 cs=>match Acw cs with
     | true=>ν
     | false=>Y0 ρ r
   | _=>Y0 ρ r
def VA(r:RV)(K:Nat->Γ D->Prop):Prop:=
 match r with
 | .d (.list sz xs)=>K sz xs
 | .d (.nil sz)=>K sz []
 | .lim sz xs=>K sz xs
 | .row _ _ sz _ xs=>K sz xs
 | _=>False
def Rq(ρ:Ly->RV):Γ (Nat×Ly)->(Γ (Nat×D)->Bx->Prop)->Prop| [],K=>K [] []| (i,x)::r,K=>jo (ρ x) λv b=>Rq ρ r λvs bs=>K ((i,v)::vs) (b++bs)
def Te(ρ:Ly->RV):Γ (Nat×Ly)->(Γ (Nat×D)->Bx->Prop)->Prop| [],K=>K [] []| (i,x)::r,K=>asN (ρ x) λv b=>Te ρ r λvs bs=>K ((i,v)::vs) (b++bs)
def fN(place:Nat->Δ (Nat×Nat))(cells:Γ D):Γ (Nat×D)->Δ (Γ D)
 | []=>θ cells
 | (i,v)::rest=>match place i with
   | none=>κ
   | some (off,size)=>if Ξ v.cells=size/\off+Ξ v.cells<=Ξ cells then fN place (splice cells off v.cells) rest else κ
def bg(ρ:Ly->RV):Γ (Nat×Ly)->Ω
 | []=>ξ
 | (_,x)::r=>match ρ x with
   | .row _ _ _ _ _=>ν
   | _=>bg ρ r
def cellsOf(r:RV)(K:Γ C->Prop):Prop:=
 match r with
 | .row id n _ _ _=>K [.sl id n]
 | .d v=>m5 v.cells K
 | .lim sz xs=>K [.d (.list sz xs)]
 | _=>False
def Td(ρ:Ly->RV):Γ (Nat×Ly)->(Γ (Nat×Γ C)->Prop)->Prop| [],K=>K []| (i,x)::r,K=>cellsOf (ρ x) λc=>Td ρ r λps=>K ((i,c)::ps)
def jE(place:Nat->Δ (Nat×Nat))(cells:Γ C):Γ (Nat×Γ C)->Δ (Γ C)
 | []=>θ cells
 | (i,v)::rest=>match place i with
   | none=>κ
   | some (off,size)=>if Ξ v=size/\off+Ξ v<=Ξ cells then jE place (splice cells off v) rest else κ
def XX:Nat->Γ (Nat×D)->Δ (Γ D)| _,[]=>θ []| n,(i,v)::r=>if i=n then(XX (n+1) r).map (v :: ·)else κ
def Nc(σ:Nat->Nat->RV)(ρ:Ly->RV):Γ Ly->(Γ D->Bx->Prop)->Prop
 | [],K=>K [] []
 | x::r,K=>SH σ (ρ x) λv b=>match v with
   | .d y=>if y.one=ν then Nc σ ρ r λl bs=>K (y::l) (b++bs)else False
   | _=>False
def qh(r:RV):Δ (Nat×Nat):=
 match r with
 | .vptr id n 0 [.sl _ _]=>θ (id,n)
 | .vptr id n 0 [.d (.nil _)]=>θ (id,n)
 | _=>κ
def aN(ρ:Ly->RV):Γ Ly->Ω
 | []=>ξ
 | x::r=>match qh (ρ x)with
   | some _=>ν
   | none=>aN ρ r
def Nb(σ:Nat->Nat->RV)(ρ:Ly->RV):Γ Ly->(Γ C->Bx->Prop)->Prop
 | [],K=>K [] []
 | x::r,K=>match qh (ρ x)with
   | some (id,n)=>Nb σ ρ r λl bs=>K (.sl id n::l) bs
   | none=>SH σ (ρ x) λv b=>match v with
     | .d y=>if y.one=ν then Nb σ ρ r λl bs=>K (.d y::l) (b++bs)else False
     | _=>False
def Wx:Γ C->Γ AV| []=>[]| .d x::r=>.d x::Wx r| _::r=>.any::Wx r
def Qb(P:Η)(t:Υ):Ω:=match P.info? t with|θ i=>(match i.zero with|θ z=>υ (z.cells.size=i.size)|κ=>ξ)|κ=>ξ
def kF(P:Η)(t:Υ)(K:D->Prop):Prop:=
 match zeroCells P t with
 | some l=>match SD P t with
   | some true=>UX l λl=>K (.agg l)
   | some false=>match l with
     | [x]=>Y8 x K
     | _=>False
   | none=>False
 | none=>False
def oT(ρ:Ly->RV)(x:Δ Ly)(dflt:Int)(K:Int->Prop):Prop:=
 match x with
 | none=>K dflt
 | some x=>match ρ x with
   | .d (.int _ i)=>K i
   | _=>False
def Ia{α:Type}(xs:Γ α)(l h:Int):=(xs.drop l.toNat).take (h.toNat-l.toNat)
def Rx(ρ:Ly->RV)(sz:Nat)(xs:Γ D)(lo hi mx:Δ Ly)(b:Bx)(K:J4->Prop):Prop:=
 oT ρ lo 0 λl=>oT ρ hi (Ξ xs) λh=>match mx with
  | none=>NL (0<=l/\l<=h/\h<=Ξ xs) (K ⟨.d (.list sz (Ia xs l h)),b,[]⟩)
  | some m=>if hi.isNone=ν then False else match ρ m with
    | .d (.int _ m)=>NL (0<=l/\l<=h/\h<=Ξ xs/\m=h) (K ⟨.lim sz (Ia xs l h),b,[]⟩)
    | _=>False
def Gi(s:Θ)(i:Int):Int:=((s.data.toList.getD i.toNat 0).toNat)
def Lu(s:Θ):Γ Int:=s.data.toList.map λb=>b.toNat
def L5:D->D->Ω| .int k _,.int k' _=>υ (k=k')| .str _,.str _=>ν| _,_=>ξ
def Nx:D->D->Ω| .int _ a,.int _ b=>a==b| .str a,.str b=>a==b| _,_=>ξ
def WN(k:D):Γ (D×D)->Δ Nat| []=>κ| p::r=>bif Nx k p.1 then θ 0 else(WN k r).map (·+1)
def UJ(k:D):Γ (D×D)->Δ D| []=>κ| p::r=>bif Nx k p.1 then θ p.2 else UJ k r
def iy(k v:D):Γ (D×D)->Γ (D×D)| []=>[(k,v)]| p::r=>bif Nx k p.1 then(k,v)::r else p::iy k v r
def iP:D->Δ TypeDesc| .int j _=>θ (.int j)| .str _=>θ .string| _=>κ
def yB(P:Η)(t:Υ):Δ D:=match P.info? t with
 | some i=>match i.zero with
   | some z=>zD z
   | none=>κ
 | none=>κ
structure Z4(r:Option D)(z:D)(K:D->Bool->Prop):Prop where
 go:∃v b,r.getD z=v/\r.isSome=b/\K v b
def rP(P:Η)(kt et:Υ)(x ix:RV)(ok:Ω)(K:J4->Prop):Prop:=
 match x with
 | .mp _ _ es=>match ix with
   | .d q=>match iP q with
     | some kd=>NL (P.underlying kt=θ kd/\∀p∈es,L5 q p.1=ν) (match yB P et with
       | some z=>Z4 (UJ q es) z λv b=>match ok with
         | true=>K ⟨.tup [.d v,.d (.bool b)],[],[]⟩
         | false=>K ⟨.d v,[],[]⟩
       | none=>False)
     | none=>False
   | _=>False
 | _=>False
def Aab(P:Η)(kt:Υ)(m k x:RV)(K:J4->Prop):Prop:=
 match m with
 | .mp id n es=>match k with
   | .d q=>match x with
     | .d y=>match iP q with
       | some kd=>NL (y.bare=ν/\P.underlying kt=θ kd/\∀p∈es,L5 q p.1=ν) (K ⟨.any,[(id,.map (iy q y es),n)],[]⟩)
       | none=>False
     | _=>False
   | _=>False
 | _=>False
def ZF(P:Η)(σ:Nat->Nat->RV)(ρ:Ly->RV)(c:Call)(f:FuncId)(caps:Γ D)(d dv:Nat)(K:J4->Prop):=fy caps λcv=>K4 P σ ρ c.args.toList c.argTypes.toList λvs bs=>Jl P σ ρ c.args.toList c.argTypes.toList λms mb us=>K3 P f (WT c.args.toList 0) (vs++cv) (λr=>nY r bs λb=>tW d dv r b K) (ms++cv) (λouts r=>R0 (us++cv.map λ_=>κ) outs λub=>if ub.all (λx=>Ku x.1 mb)=ν then tW d dv r (mb++ub) K else False)
def yA(P:Η)(σ:Nat->Nat->RV)(ρ:Δ (Nat×Ω)->Ly->RV)(g:Δ (Nat×Ω))(o:Oper)(d dv:Nat)(K:J4->Prop):Prop:=
 match o.op with
 | .move x=>K ⟨back (ρ g x),[],[]⟩
 | .assign x=>match SY x with
   | true=>match P.underlying o.type with
     | some (.slice e)=>if 0<AJ P e then match P.underlying e,d with
       | some (.slice _),2=>YV (K ⟨.d (.nil (AJ P e)),[],[]⟩) (K ⟨.sl d (dv+1),[(d,.row (AJ P e) e [],dv+1)],[]⟩)
       | _,_=>K ⟨.sl d (dv+1),[(d,.row (AJ P e) e [],dv+1)],[]⟩
       else False
     | _=>False
   | false=>K ⟨back (ρ g x),[],[]⟩
 | .pick (.tmp t) a b=>match ρ g (.tmp t)with
   | .bot=>K ⟨.bot,[],[]⟩
   | .d (.bool c)=>match ρ (θ (t,ν)) a with
     | .bot=>match ρ (θ (t,ξ)) b with
       | .d (.bool y)=>K ⟨.d (.bool y),[],[]⟩
       | _=>False
     | .d (.bool x)=>match ρ (θ (t,ξ)) b with
       | .bot=>K ⟨.d (.bool x),[],[]⟩
       | .d (.bool y)=>K ⟨.d (.bool (bif c then x else y)),[],[]⟩
       | _=>False
     | _=>False
   | _=>False
 | .box _ x=>match ρ g x with
   | .row id n _ _ _=>K ⟨.ptr d (dv+1) 0,[(d,.var [.sl id n],dv+1)],[]⟩
   | .cagg l=>K ⟨.ptr d (dv+1) 0,[(d,.var l,dv+1)],[]⟩
   | r=>jo r λv b=>m5 v.cells λl=>K ⟨.ptr d (dv+1) 0,b++[(d,.var l,dv+1)],[]⟩
 | .alloc t=>match zeroCells P t with
   | some l=>m5 l λl=>K ⟨.ptr d (dv+1) 0,[(d,.var l,dv+1)],[]⟩
   | none=>False
 | .build t parts=>match P.underlying t with
   | some (.struct fields)=>match zeroCells P t with
     | some z=>if fields.toList.all (λf=>(P.info? f.type).isSome)then
       match bg (ρ g) parts.toList with
       | false=>Rq (ρ g) parts.toList λps b=>
         match fN (λi=>match fields[i]? with|θ f=>θ (f.offset,AJ P f.type)|κ=>κ) z ps with
         | some l=>DY l λl=>K ⟨.d (.agg l),b,[]⟩
         | none=>False
       | true=>YV (Rq (ρ g) parts.toList λps b=>
         match fN (λi=>match fields[i]? with|θ f=>θ (f.offset,AJ P f.type)|κ=>κ) z ps with
         | some l=>DY l λl=>K ⟨.d (.agg l),b,[]⟩
         | none=>False)
         (m5 z λzc=>Td (ρ g) parts.toList λps=>match jE (λi=>match fields[i]? with|θ f=>θ (f.offset,AJ P f.type)|κ=>κ) zc ps with
          | some l=>DY l λl=>K ⟨.cc κ l,[],[]⟩
          | none=>False)
       else False
     | none=>False
   | _=>False
 | .buildSlice t n parts=>match P.underlying t with
   | some (.slice e)=>Te (ρ g) parts.toList λps b=>match XX 0 ps with
     | some l=>DY l λl=>
       if Ξ l=n/\0<AJ P e/\Qb P e=ν/\n*AJ P e<=16777216/\l.all (λx=>Ξ x.cells==AJ P e)then K ⟨.sl d (dv+1),b++[(d,.row (AJ P e) e l,dv+1)],[]⟩else False
     | none=>False
   | _=>False
 | .makeSlice t l c=>match P.underlying t with
   | some (.slice e)=>match ρ g l with
     | .d (.int _ l)=>match ρ g c with
       | .d (.int _ c)=>if 0<AJ P e/\Qb P e=ν then kF P e λz=>
        NL (0<=l/\l<=c/\c<=maxLen/\(SJ P e:Int)*c<=281474976710656) (K ⟨.sl d (dv+1),[(d,.row (AJ P e) e (List.replicate l.toNat z),dv+1)],[]⟩)else False
       | _=>False
     | _=>False
   | _=>False
 | .makeFunc (.func f) first caps=>match first.toList with
   | []=>match aN (ρ g) caps.toList with
     | false=>Nc σ (ρ g) caps.toList λl b=>K ⟨.d (.fn f l),b,[]⟩
     | true=>YV (Nc σ (ρ g) caps.toList λl b=>K ⟨.d (.fn f l),b,[]⟩) (Nb σ (ρ g) caps.toList λl b=>K ⟨.cc (θ f) l,b,[]⟩)
   | _=>False
 | .load t a=>match ρ g a with
   | .bot=>K ⟨.bot,[],[]⟩
   | .vptr _ _ o cs=>yE P σ t (cs.drop o) K
   | .d (.ptr cs)=>nQ P t cs λx=>K ⟨.d x,[],[]⟩
   | .eptr _ _ _ _ xs i o=>At xs i λx=>nQ P t (x.cells.drop o) λx=>K ⟨.d x,[],[]⟩
   | _=>False
 | .store t a x=>if(P.info? t).isSome=ν then match ρ g a with
   | .vptr id n o cs=>match SD P t with
     | some true=>match ρ g x with
       | .cagg l=>if Ξ l=AJ P t/\o+Ξ l<=Ξ cs then DY (splice cs o l) λl=>K ⟨.any,[(id,.var l,n)],[]⟩else False
       | r=>jo r λv b=>
         if Ξ v.cells=AJ P t/\o+Ξ v.cells<=Ξ cs then m5 v.cells λl=>DY (splice cs o l) λl=>K ⟨.any,b++[(id,.var l,n)],[]⟩else False
     | some false=>if AJ P t=1/\o<Ξ cs then match ρ g x with
      | .row id' n' _ _ _=>DY (splice cs o [.sl id' n']) λl=>K ⟨.any,[(id,.var l,n)],[]⟩
      | r=>jo r λv b=>if v.one=ν then DY (splice cs o [.d (nilT P t v)]) λl=>K ⟨.any,b++[(id,.var l,n)],[]⟩else False
      else False
     | none=>False
   | .eptr id n sz e xs i o=>asN (ρ g x) λv b=>At xs i λy=>
     if Ξ v.cells=AJ P t/\o+Ξ v.cells<=Ξ y.cells/\Ku id b=ν then
      match y with
      | .agg cs=>DY (splice cs o v.cells) λl=>K ⟨.any,b++[(id,.row sz e (xs.set i (.agg l)),n)],[]⟩
      | _=>if v.one then K ⟨.any,b++[(id,.row sz e (xs.set i v),n)],[]⟩else False
     else False
   | _=>False
   else False
 | .nilCheck x=>match ρ g x with
   | .vptr id n o _=>K ⟨.ptr id n o,[],[]⟩
   | _=>False
 | .binOp op t x y _=>match ρ g x with
   | .bot=>K ⟨.bot,[],[]⟩
   | .d a=>match ρ g y with
     | .bot=>K ⟨.bot,[],[]⟩
     | .d b=>mI P t op a b λx=>K ⟨.d x,[],[]⟩
     | _=>False
   | _=>False
 | .unOp op _ x=>match ρ g x with
   | .bot=>K ⟨.bot,[],[]⟩
   | .d a=>unD op a λx=>K ⟨.d x,[],[]⟩
   | _=>False
 | .convert s t x=>match P.underlying s with
   | some _=>match P.underlying t with
     | some (.int k)=>match ρ g x with
       | .bot=>K ⟨.bot,[],[]⟩
       | .d (.int _ n)=>K ⟨.d (.int k (k.wrap n)),[],[]⟩
       | _=>False
     | some (.slice e)=>match P.underlying e with
       | some (.int .u8)=>match ρ g x with
         | .bot=>K ⟨.bot,[],[]⟩
         | .d (.str s)=>K ⟨.d (.list 1 ((Lu s).map (D.int .u8))),[],[]⟩
         | _=>False
       | _=>False
     | _=>False
   | none=>False
 | .fieldAddr s x f=>match P.underlying s with
   | some (.struct fields)=>match fields[f]? with
     | some fd=>if 0<AJ P fd.type then match ρ g x with
      | .bot=>K ⟨.bot,[],[]⟩
      | .vptr id n o _=>K ⟨.ptr id n (o+fd.offset),[],[]⟩
      | .d (.ptr cs)=>DY (cs.drop fd.offset) λl=>K ⟨.d (.ptr l),[],[]⟩
      | .eptr id n sz _ _ i o=>K ⟨.eptr id n sz i (o+fd.offset),[],[]⟩
      | _=>False
      else False
     | none=>False
   | _=>False
 | .indexAddr t x ix=>match P.underlying t with
   | some (.slice e)=>match ρ g ix with
     | .d (.int _ i)=>match ρ g x with
       | .d (.list sz xs)=>if sz=AJ P e/\0<sz then At xs i λx=>DY x.cells λl=>K ⟨.d (.ptr l),[],[]⟩else False
       | .lim sz xs=>if sz=AJ P e/\0<sz then At xs i λx=>DY x.cells λl=>K ⟨.d (.ptr l),[],[]⟩else False
       | .row id n sz _ xs=>if sz=AJ P e then NL (0<=i/\i.toNat<Ξ xs) (K ⟨.eptr id n sz i.toNat 0,[],[]⟩)else False
       | _=>False
     | _=>False
   | _=>False
 | .index t x ix=>match P.underlying t with
   | some .string=>match ρ g ix with
     | .d (.int _ i)=>match ρ g x with
       | .d (.str s)=>NL (0<=i/\i.toNat<s.size) (K ⟨.d (.int .u8 (Gi s i)),[],[]⟩)
       | _=>False
     | _=>False
   | _=>False
 | .slice t x lo hi mx=>match P.underlying t with
   | some (.slice e)=>match ρ g x with
     | .d (.list sz xs)=>if sz=AJ P e/\0<sz then Rx (ρ g) sz xs lo hi mx [] K else False
     | .d (.nil sz)=>if sz=AJ P e/\0<sz then Rx (ρ g) sz [] lo hi mx [] K else False
     | .lim sz xs=>if sz=AJ P e/\0<sz then Rx (ρ g) sz xs lo hi mx [] K else False
     | .row id n sz e' xs=>if sz=AJ P e/\0<sz then YV (Rx (ρ g) sz xs lo hi mx [(id,.frow sz xs,n)] K) False else False
     | _=>False
   | _=>False
 | .call c=>match c.callee with
   | .value f=>match ρ g f with
     | .d (.fn f caps)=>match Y0 (ρ g) c.args.toList with
       | false=>ZF P σ (ρ g) c f caps d dv K
       | true=>YV False (ZF P σ (ρ g) c f caps d dv K)
     | .clo f cs k id n rid rn=>match σ rid rn with
       | .row _ _ sz e xs=>K4 P σ (ρ g) c.args.toList c.argTypes.toList λvs bs=>match bs with
         | []=>DY (Wx cs) λcv=>m9 P f (vs++cv) (Ξ vs+k) sz e xs λys=>if id=rid then False else K ⟨.any,[(rid,.row sz e ys,rn+1),(id,.var [.sl rid (rn+1)],n)],[]⟩
         | _=>False
       | _=>False
     | _=>False
   | .builtin .len=>match c.args.toList,c.argTypes.toList with
     | [x],[t]=>match P.underlying t with
       | some .string=>match ρ g x with
         | .bot=>K ⟨.bot,[],[]⟩
         | .d (.str s)=>K ⟨.d (.int .i64 s.size),[],[]⟩
         | _=>False
       | some (.slice _)=>match ρ g x with
         | .bot=>K ⟨.bot,[],[]⟩
         | r=>VA r λ_ xs=>K ⟨.d (.int .i64 (Ξ xs)),[],[]⟩
       | _=>False
     | _,_=>False
   | .builtin .min=>match c.args.toList with
     | [x,y]=>match ρ g x with
       | .d (.int k a)=>match ρ g y with
         | .d (.int _ b)=>K ⟨.d (.int k (if b<a then b else a)),[],[]⟩
         | _=>False
       | _=>False
     | _=>False
   | .builtin .max=>match c.args.toList with
     | [x,y]=>match ρ g x with
       | .d (.int k a)=>match ρ g y with
         | .d (.int _ b)=>K ⟨.d (.int k (if b>a then b else a)),[],[]⟩
         | _=>False
       | _=>False
     | _=>False
   | .builtin .append=>match c.args.toList,c.argTypes.toList with
     | [x,y],[t,u]=>match P.underlying t with
       | some (.slice e)=>if t=u/\0<AJ P e/\Qb P e=ν then VA (ρ g y) λsz' ys=>
         let fits (n:Nat):Prop:=n+Ξ ys<=maxLen/\(n+Ξ ys)*SJ P e<=140737488355328/\(ys=[]\/sz'=AJ P e)
         match ρ g x with
         | .row id n sz e' xs=>if e=e'/\sz=AJ P e then NL (fits (Ξ xs)) (K ⟨.sl id (n+1),[(id,.row sz e (xs++ys),n+1)],[]⟩)else False
         | .d (.nil _)=>NL (fits 0) (K ⟨.sl d (dv+1),[(d,.row (AJ P e) e ys,dv+1)],[]⟩)
         | .lim sz xs=>if sz=AJ P e then NL (fits (Ξ xs)/\ys≠[]) (K ⟨.sl d (dv+1),[(d,.row sz e (xs++ys),dv+1)],[]⟩)else False
         | _=>False
         else False
       | _=>False
     | _,_=>False
   | _=>False
 | .extract t i=>match ρ g t with
   | .tup xs=>match xs[i]? with
     | some (.d x)=>K ⟨.d x,[],[]⟩
     | some (.sl id n)=>K ⟨.sl id n,[],[]⟩
     | _=>False
   | _=>False
 | .makeMap t κ=>match P.underlying t with
   | some (.map _ _)=>K ⟨.sl d (dv+1),[(d,.map [],dv+1)],[]⟩
   | _=>False
 | .lookup t x ix ok=>match P.underlying t with
   | some (.map kt et)=>rP P kt et (ρ g x) (ρ g ix) ok K
   | _=>False
 | .mapUpdate t m k x=>match P.underlying t with
   | some (.map kt _)=>Aab P kt (ρ g m) (ρ g k) (ρ g x) K
   | _=>False
 | _=>False
def QR:Op->Ω
 | .move _|.pick _ _ _|.load _ _|.unOp _ _ _|.convert _ _ _|.fieldAddr _ _ _|.field _ _ _=>ν
 | .binOp op _ _ _ _=>match op with|.quo|.rem|.shl|.shr|.add=>ξ|_=>ν
 | .call c=>match c.callee with|.builtin .len=>ν|_=>ξ
 | _=>ξ
def dl:Γ Oper->Nat->Δ Nat| [],_=>κ| o::_,0=>o.dst| _::r,n+1=>dl r n
def XA:AS->Nat->AV->(AS->Prop)->Prop
 | [],_,_,K=>K []
 | s::r,0,v,K=>match s with|⟨_,b,n⟩=>K (⟨v,b,n⟩::r)
 | s::r,k+1,v,K=>XA r k v λr'=>K (s::r')
def eT:AS->Nat->Cq->Nat->(AS->Prop)->Prop
 | [],_,_,_,K=>K []
 | s::r,0,b,m,K=>match s with|⟨v,_,_⟩=>K (⟨v,b,m⟩::r)
 | s::r,k+1,b,m,K=>eT r k b m λr'=>K (s::r')
def Vs:Bx->AS->(AS->Prop)->Prop| [],S,K=>K S| (id,b,n)::r,S,K=>Jh n λn=>lq b λb=>eT S id b n λS=>Vs r S K
def sX(dst:Δ Nat)(e:J4)(S:AS)(K:AS->Prop):Prop:=
 match e with
 | ⟨v,bx,_⟩=>match dst with
   | some d=>eG v λv=>Vs bx S λS=>XA S d v K
   | none=>Vs bx S K
def B5:Bx->AS->AS| [],S=>S| (id,b,n)::r,S=>B5 r (Bp S id b n)
def app(dst:Δ Nat)(e:J4)(S:AS):AS:=
 match dst with
 | some d=>GT (B5 e.bx S) d e.av
 | none=>B5 e.bx S
def σOf S id n:=res S (.sl id n)
def ρOf S g x:=res S (unw g (ev S x))
def cK:AS->Nat->(Nat->Prop)->Prop
 | [],_,_=>False
 | s::_,0,K=>match s with|⟨_,_,n⟩=>K n
 | _::r,k+1,K=>cK r k K
def dK(x:Δ Nat)(K:Nat->Prop):Prop:=
 match x with
 | some d=>K d
 | none=>K 0
def Jj(S:AS):Γ (Nat×Nat)->Ω| []=>ν| (h,n)::r=>υ (h<Ξ S)&&υ ((An S h).ver<n)&&Jj S r
def F2:Δ Nat->Γ Nat| θ d=>[d]| κ=>[]
def bX:Γ Ly->Γ Nat| []=>[]| .tmp t::r=>t::bX r| _::r=>bX r
def ge(all:Γ Oper):Nat->Oper->Γ Nat
 | 0,_=>[]
 | n+1,o=>match o.guard with
   | some (j,_)=>F2 (dl all j)++match all[j]? with
     | some m=>ge all n m
     | none=>[]
   | none=>[]
def Ge all o:=ge all 5 o++bX o.op.operands.toList
def jr(S:AS)(t:Nat)(mk:Ω->AV)(b:Ω)(K:AS->Δ Ω->Prop):=cX b (XA S t (mk ν) λS=>K S (θ ν)) (XA S t (mk ξ) λS=>K S (θ ξ))
def tr(lk:Γ Nat):Nat->Nat->AS->(AS->Δ Ω->Prop)->Prop
 | 0,_,_,_=>False
 | n+1,t,S,K=>if lk.contains t=ν then match (An S t).av with
   | .d (.bool b)=>jr S t (λb=>.d (.bool b)) b K
   | .under t' w' (.d (.bool b))=>tr lk n t' S λS r=>match r with
     | some c=>match w' with
       | true=>match c with
         | true=>jr S t (λb=>.under t' w' (.d (.bool b))) b K
         | false=>K S κ
       | false=>match c with
         | true=>K S κ
         | false=>jr S t (λb=>.under t' w' (.d (.bool b))) b K
     | none=>K S κ
   | .under _ _ .bot=>K S κ
   | _=>False
   else False
def fh(want:Ω)(r:Δ Ω)(go skip:Prop):Prop:=
 match r with
 | none=>skip
 | some b=>match want with
   | true=>match b with
     | true=>go
     | false=>skip
   | false=>match b with
     | true=>skip
     | false=>go
def wQ:AV->Ω| .ptr _ _ _|.sl _ _=>ν| _=>ξ
def Qd(S:AS)(o:Oper):Ω:=
 match o.op with
 | .move x=>wQ (ev S x)
 | _=>ξ
def yS(P:Η)(S:AS)(g:Δ (Nat×Ω))(o:Oper)(d dv:Nat)(K:J4->Prop):Prop:=
 match o.op with
 | .move x=>match ev S x with
   | .ptr id n k=>K ⟨.ptr id n k,[],[]⟩
   | .sl id n=>K ⟨.sl id n,[],[]⟩
   | _=>yA P (σOf S) (ρOf S) g o d dv K
 | _=>yA P (σOf S) (ρOf S) g o d dv K
def uk(P:Η)(all:Γ Oper)(done:Γ Nat)(o:Oper)(S:AS)(K:AS->J4->Prop):Prop:=
 match o.guard with
 | none=>dK o.dst λd=>cK S d λn=>yS P S κ o d n λe=>if Jj S e.homes=ν then K S e else False
 | some (j,want)=>match dl all j with
   | none=>False
   | some t=>if done.contains t=ν then
     match QR o.op with
     | true=>dK o.dst λd=>cK S d λn=>yS P S (θ (t,want)) o d n λe=>match e with
       | ⟨v,[],[]⟩=>K S ⟨.under t want v,[],[]⟩
       | _=>False
     | false=>tr (Ge all o) 5 t S λS r=>fh want r
      (dK o.dst λd=>cK S d λn=>yS P S (θ (t,want)) o d n λe=>if Jj S e.homes=ν then K S e else False)
      (K S ⟨.under t want .bot,[],[]⟩)
     else False
def Ace(r:RV)(K:Ω->Prop):Prop:=
 match r with
 | .d (.nil _)=>K ν
 | r=>VA r λ_ xs=>Add xs K
def aG(P:Η)(o:Oper):Δ (Ω×Ly):=
 match o.op with
 | .binOp op t x y _=>match SY y,o.guard,P.underlying t with
   | true,none,some (.slice _)=>match op with
     | .eql=>θ (ν,x)
     | .neq=>θ (ξ,x)
     | _=>κ
   | _,_,_=>κ
 | _=>κ
def TS:Γ Nat->(Γ Nat->Prop)->Prop| [],K=>K []| x::r,K=>TS r λr=>K (x::r)
def Ach(P:Η)(all:Γ Oper)(done:Γ Nat)(l:Γ Oper):AS->(AS->Prop)->Prop:=
 List.rec (motive:=λ_=>Γ Nat->AS->(AS->Prop)->Prop) (λ_ S K=>K S)
  (λo _ ih done S K=>if(F2 o.dst).all (λd=>!done.contains d)=ν then
   match aG P o with
   | some (pos,x)=>Ace (ρOf S κ x) λb=>sX o.dst ⟨.d (.bool (b==pos)),[],[]⟩ S λS=>TS (F2 o.dst++done) λdone=>ih done S K
   | none=>uk P all done o S λS e=>sX o.dst e S λS=>TS (F2 o.dst++done) λdone=>ih done S K
   else False) l done
def SK:Γ C->Γ Nat| []=>[]| .sl id _::r=>id::SK r| _::r=>SK r
def Pl:AV->Γ Nat| .ptr id _ _=>[id]| .sl id _=>[id]| .eptr id _ _ _ _=>[id]| .under _ _ x=>Pl x| .cc _ xs=>SK xs| _=>[]
def sj(S:AS)(id:Nat):Γ Nat:=id::match (An S id).box with
 | .var cs=>SK cs
 | _=>[]
def oh:Op->Ω
 | .assign _|.box _ _|.alloc _|.buildSlice _ _ _|.makeSlice _ _ _|.makeMap _ _=>ν
 | .call c=>match c.callee with|.value _|.builtin .append=>ν|_=>ξ
 | _=>ξ
def iI(S:AS)(ts:Γ Nat)(o:Oper):Γ Nat:=
 (if oh o.op=ν then[o.dst.getD 0]else[])++match Qd S o with
  | true=>[]
  | false=>ts.flatMap λt=>(Pl (An S t).av).flatMap (sj S)
def dW(x y:Γ Nat):=x.all λi=>!y.contains i
def iL(o:Oper)(i:Nat):=o.after.toList.any λe=>e.on==i&&Region.binds .any e
def rp(all:Γ Oper):Nat->Oper->Nat->Ω
 | 0,o,i=>iL o i
 | n+1,o,i=>iL o i||o.after.toList.any λe=>Region.binds .any e&&(match all[e.on]? with|θ m=>rp all n m i|κ=>ξ)
def Yy all o i:=rp all 4 o i
def Aaw(all:Γ Oper)(o:Oper)(R W:Γ Nat)(log:Γ (Nat×Γ Nat×Γ Nat)):=log.all λx=>(dW x.2.2 (R++W)&&dW x.2.1 W)||Yy all o x.1
def Aci(P:Η)(all:Γ Oper)(k:Nat)(log:Γ (Nat×Γ Nat×Γ Nat))(done:Γ Nat)(l:Γ Oper):=List.rec (motive:=λ_=>Nat->Γ (Nat×Γ Nat×Γ Nat)->Γ Nat->AS->(AS->Prop)->Prop) (λ_ _ _ S K=>K S) (λo _ ih k log done S K=>if(F2 o.dst).all (λd=>!done.contains d)=ν then uk P all done o S λS e=>TS (iI S (Ge all o) o++e.homes.map (·.1)) λR=>TS (e.bx.map (·.1)) λW=>if Aaw all o R W log=ν then sX o.dst e S λS'=>TS (F2 o.dst++done) λdone=>ih (k+1) ((k,R,W)::log) done S' K else False else False) l k log done
def qp(all:Γ Oper):Nat->Γ Oper->Ω
 | _,[]=>ν
 | k,o::r=>((o.after.toList.all λe=>!Region.binds .any e||υ (e.on<k))&&(match o.guard with|θ (j,_)=>υ (j<k)|κ=>ν)) &&
  (all.take k).zipIdx.all (λx=>(dW (F2 x.1.dst) (Ge all o)&&dW (Ge all x.1) (F2 o.dst))||Yy all o x.2)&&qp all (k+1) r
def plain:AS->(AS->Prop)->Prop
 | [],K=>K []
 | s::r,K=>plain r λr'=>match s with
   | ⟨.under _ _ _,b,n⟩=>K (⟨.any,b,n⟩::r')
   | s=>K (s::r')
def w8(x y:D)(K:Prop):Prop:=
 match x with
 | .nil s=>(D.nil s=y\/D.list s []=y)/\K
 | x=>x=y/\K
def L6(v v':Nat->Nat):Γ C->Γ C->Prop->Prop| [],[],K=>K| .d x::r,.d y::q,K=>w8 x y (L6 v v' r q K)| .sl id n::r,.sl id' n'::q,K=>if id=id'/\n=v id/\n'=v' id then L6 v v' r q K else False| _,_,_=>False
def Uy(v v':Nat->Nat)(a a':AV)(K:Prop):Prop:=
 match a' with
 | .any=>K
 | .d x'=>match a with
   | .d x=>w8 x x' K
   | .lim sz xs=>D.list sz xs=x'/\K
   | _=>False
 | .lim sz xs=>a=.lim sz xs/\K
 | .ptr id n o=>match a with
   | .ptr id' n' o'=>if id'=id/\n'=v id/\n=v' id then o'=o/\K else False
   | _=>False
 | .sl id n=>match a with
   | .sl id' n'=>if id'=id/\n'=v id/\n=v' id then K else False
   | _=>False
 | .cc k xs'=>match a with
   | .cc k' xs=>if k=k' then L6 v v' xs xs' K else False
   | _=>False
 | _=>False
def rL(v v':Nat->Nat)(b b':Cq)(K:Prop):Prop:=
 match b' with
 | .none=>K
 | .frow sz xs=>(b=.frow sz xs\/∃e,b=.row sz e xs)/\K
 | .fvar cs=>b=.fvar cs/\K
 | .map es=>b=.map es/\K
 | .row sz e xs=>b=.row sz e xs/\K
 | .var cs'=>match b with
   | .var cs=>L6 v v' cs cs' K
   | _=>False
def rM(b':Cq)(n n':Nat)(K:Prop):Prop:=
 match b' with
 | .none=>K
 | _=>if n'=0->n=0 then K else False
def nR(v v':Nat->Nat):AS->AS->Prop| [],[]=>True| ⟨av,b,n⟩::r,⟨av',b',n'⟩::r'=>Uy v v' av av' (rM b' n n' (rL v v' b b' (nR v v' r r')))| _,_=>False
def mV:Γ Nat->AS->(AS->Prop)->Prop| [],S,K=>K S| t::r,S,K=>jo (ρOf S κ (.tmp t)) λx b=>Vs b S λS=>XA S t (.d x) λS=>mV r S K
def ml:Nat->AS->AS->Γ Nat
 | t,⟨av,_,_⟩::r,⟨av',_,_⟩::r'=>match av' with
   | .d _=>match av with
     | .sl _ _=>t::ml (t+1) r r'
     | _=>ml (t+1) r r'
   | _=>ml (t+1) r r'
 | _,_,_=>[]
def uA:List C->List C->Bool
 | c :: r,c' :: q=>match c with
   | .sl _ _=>match c' with
     | .d _=>true
     | _=>uA r q
   | _=>uA r q
 | _,_=>false
def uC:Nat->AS->AS->List Nat
 | t,⟨_,b,_⟩ :: r,⟨_,b',_⟩ :: r'=>match b' with
   | .var cs'=>match b with
     | .var cs=>match uA cs cs' with
       | true=>t :: uC (t+1) r r'
       | false=>uC (t+1) r r'
     | _=>uC (t+1) r r'
   | _=>uC (t+1) r r'
 | _,_,_=>[]
def uD:List Nat->AS->(AS->Prop)->Prop
 | [],S,K=>K S
 | t :: r,S,K=>match An S t with
   | ⟨_,.var cs,n⟩=>EY (σOf S) cs λl b=>m5 l λl=>Vs (b++[(t,.var l,n)]) S λS=>uD r S K
   | _=>False
def Le S S':=mV (ml 0 S S') S λS=>uD (uC 0 S S') S λS=>nR (λi=>(An S i).ver) (λi=>(An S' i).ver) S S'
def fb:Γ (Nat×Nat×Nat×Υ)->AS->(AS->Prop)->Prop
 | [],S,K=>K S
 | (v,j,h,e)::r,S,K=>match An S v with
   | ⟨_,.var cs,n⟩=>match cs[j]? with
     | some (.d (.nil s))=>if 0<s/\v≠h then cK S h λm=>DY (splice cs j [.sl h (m+1)]) λl=>Vs [(h,.row s e [],m+1),(v,.var l,n)] S λS=>fb r S K else False
     | _=>False
   | _=>False
def Gk:AS->(AS->Prop)->Prop
 | [],K=>K []
 | s::r,K=>Gk r λr'=>match s with|⟨v,b,n⟩=>eG v λv=>lq b λb=>Jh n λn=>K (⟨v,b,n⟩::r')
structure Af0(p:Prop):Prop where
 go:p
structure Ws(S:AS)(W:(Exit->AS->Prop)->AS->Prop)(Q:Exit->AS->Prop):Prop where
 go:∃(ads:List (Nat×Nat×Nat×TypeId))(frs:List Nat)(ι:Type)(Inv:ι->AS)(μ:ι->Nat)(i:ι),fb ads S (λS=>mV frs S λS=>Le S (Inv i)) /\
  ∀i,Gk (Inv i) (W (λe S=>match e with|.normal=>∃j,Le S (Inv j)/\μ j<μ i|e=>Q e S))
def loop{S:AS}{W:(Exit->AS->Prop)->AS->Prop}{Q:Exit->AS->Prop}(ι:Type)(Inv:ι->AS)(μ:ι->Nat)(i:ι)(h:Le S (Inv i))
 (k:∀i,Gk (Inv i) (W (λe S=>match e with|.normal=>∃j,Le S (Inv j)/\μ j<μ i|e=>Q e S))):Ws S W Q:=⟨⟨[],[],ι,Inv,μ,i,h,k⟩⟩
def og{S:AS}{W:(Exit->AS->Prop)->AS->Prop}{Q:Exit->AS->Prop}(a:Γ (Nat×Nat×Nat×Υ))(ι:Type)(Inv:ι->AS)(μ:ι->Nat)(i:ι)(h:fb a S λS=>Le S (Inv i))
 (k:∀i,Gk (Inv i) (W (λe S=>match e with|.normal=>∃j,Le S (Inv j)/\μ j<μ i|e=>Q e S))):Ws S W Q:=⟨⟨a,[],ι,Inv,μ,i,h,k⟩⟩
noncomputable def wE(c:Code):Δ Nat:=
 Code.rec (motive:=λ_=>Δ Nat) κ (λid _ _=>θ id) (λ_ _ a b=>match a with|θ i=>θ i|κ=>b) (λ_ _ _ _ _=>κ) (λ_ _ a=>a) (λ_ a=>a)
  (λ_ _ _ _ _ _=>κ) (λ_=>κ) (λ_ a=>a) (λ_=>κ) (λ_=>κ) κ (λ_=>κ) c
noncomputable def lC(J:Γ Nat)(y:Code):Ω:=
 match J with
 | []=>ξ
 | J=>match wE y with
   | some i=>J.contains i
   | none=>ξ
structure Wr(S:AS)(wx wy:(Exit->AS->Prop)->AS->Prop)(Q:Exit->AS->Prop):Prop where
 go:∃(ι:Type)(Inv:ι->AS),wx (λe S=>match e with|.normal=>∃i,Le S (Inv i)|e=>Q e S) S/\∀i,Gk (Inv i) (wy Q)
def Dd{S:AS}{a b:(Exit->AS->Prop)->AS->Prop}{Q:Exit->AS->Prop}(ι:Type)(Inv:ι->AS)(h:a (λe S=>match e with|.normal=>∃i,Le S (Inv i)|e=>Q e S) S)(k:∀i,Gk (Inv i) (b Q)):Wr S a b Q:=⟨⟨ι,Inv,h,k⟩⟩
noncomputable def lz(J:Γ Nat)(id:Nat):Ω:=
 match J with
 | []=>ξ
 | J=>J.contains (1000000+id)
structure Wq(P:Program)(S:AS)(x:Code)(Q:Exit->AS->Prop):Prop where
 go:∃(S₁:AS)(ι:Type)(Inv:ι->AS),Le S S₁/\(∀(X:Cx)(β:Nat->Value)(a:Act)(w:World),SimB X (λ_=>False) β S₁ a w->x.wp P (λe a' w'=>e=.normal/\∃i β',SimB X (λ_=>False) β' (Inv i) a' w') a w)/\∀i,Gk (Inv i) (Q .normal)
def wN{P}{S}{x}{Q}b(ι:Type)(Inv:ι->AS)(h:Le S b)(hx:∀(X:Cx)(β:Nat->Ψ)(a:Act)(w:Λ),SimB X (λ_=>False) β b a w->x.wp P (λe c w'=>e=.normal/\∃i d,SimB X (λ_=>False) d (Inv i) c w') a w)(k:∀i,Gk (Inv i) (Q .normal)):Wq P S x Q:=⟨⟨b,ι,Inv,h,hx,k⟩⟩
def kD(P:Η)(J:Γ Nat)(c:Code):(Exit->AS->Prop)->AS->Prop:=
 Code.rec (motive:=λ_=>(Exit->AS->Prop)->AS->Prop)
  (λQ S=>Q .normal S)
  (λid ops draw Q S=>match lz J (1000000+id)with
   | true=>Wq P S (.region id ops draw) Q
   | false=>match draw with
     | false=>Ach P ops.toList [] ops.toList S λS=>plain S (Q .normal)
     | true=>NL (qp ops.toList 0 ops.toList=ν/\P.follows .mixedOrders=ν) (Aci P ops.toList 0 [] [] ops.toList S λS=>plain S (Q .normal)))
  (λ_ y wx wy Q S=>match lC J y with
   | false=>wx (λe S=>match e with|.normal=>wy Q S|e=>Q e S) S
   | true=>Wr S wx wy Q)
  (λc _ _ wx wy Q S=>match ρOf S κ c with
   | .d (.bool b)=>cX b (wx Q S) (wy Q S)
   | _=>False)
  (λid c wc Q S=>match lz J id with
   | true=>Wq P S (.block id c) Q
   | false=>wc (λe S=>match e with|.exit id'=>if id'=id then Q .normal S else Q (.exit id') S|e=>Q e S) S)
  (λ_ wc Q S=>Ws S wc Q)
  (λ_ _ _ _ _ _ _ _=>False)
  (λid Q S=>Q (.exit id) S)
  (λ_ _ _ _=>False)
  (λ_ Q S=>Q .normal S)
  (λ_ _ _=>False)
  (λQ S=>Q .ret S)
  (λ_ _ _=>False)
  c
def yD:C->AV| .d x=>.d x| .own sz e xs=>.own sz e xs| .sl _ _=>.any
def kS:Γ C->(Γ D->Prop)->Prop| [],K=>K []| .d x::r,K=>kS r λl=>K (x::l)| _::_,_=>False
def X5(P:Η)(S:AS)(used:Γ Nat)(frz:Bx):Γ ResultVar->(Γ C->Γ Nat->Bx->Prop)->Prop
 | [],K=>K [] used frz
 | .tmp t::r,K=>match ρOf S κ (.tmp t)with
   | .row id n sz e xs=>YV (X5 P S used (frz++[(id,.frow sz xs,n)]) r λl u b=>K (.d (.list sz xs)::l) u b)
    (if used.contains id=ν then False else NL (∀x∈xs,∀y∈x.cells,y.bare=ν) (X5 P S (id::used) frz r λl u b=>K (.own sz e xs::l) u b))
   | .d (.nil s)=>YV (X5 P S used (frz++[]) r λl u b=>K (.d (.list s [])::l) u b) (X5 P S used (frz++[]) r λl u b=>K (.d (.nil s)::l) u b)
   | v=>asN v λx b=>X5 P S used (frz++b) r λl u b=>K (.d x::l) u b
 | .cell t ty::r,K=>match ρOf S κ (.tmp t)with
   | .vptr _ _ o cs=>kS cs λl=>nQ P ty (l.drop o) λx=>Y8 x λx=>X5 P S used frz r λl u b=>K (.d x::l) u b
   | _=>False
structure Ret(x r:AV):Prop where
 go:x=r
def zF(l:Γ C)(used:Γ Nat)(frz:Bx)(r:AV):Prop:=
 if used.all (λi=>Ku i frz)=ν then match l with
  | [c]=>Ret (yD c) r
  | l=>Ret (.tup l) r
 else False
def qs(P:Η)(rs:Γ ResultVar)(used:Γ Nat)(frz:Bx)(S:AS)(r:AV):Prop:=
 match r with
 | .cc _ _=>match rs with
   | [.tmp t]=>match ρOf S κ (.tmp t)with
     | .row id _ sz e xs=>if used.contains id=ν then False else if(id::used).all (λi=>Ku i frz)=ν then Ret (.cc κ [.own sz e xs]) r else False
     | _=>False
   | _=>False
 | r=>match rs with
   | [.tmp t]=>match ρOf S κ (.tmp t)with
     | .vptr id _ 0 cs=>if used.contains id=ν then False else EY (σOf S) cs λl b=>UX l λl=>if(id::used).all (λi=>Ku i (frz++b))=ν then Ret (.optr l) r else False
     | _=>X5 P S used frz rs λl u b=>zF l u b r
   | rs=>X5 P S used frz rs λl u b=>zF l u b r
def GZ:Nat->AS| 0=>[]| n+1=>oV::GZ n
def nX(i:Nat):Γ C->Γ C
 | []=>[]
 | c::r=>match c with
   | .own _ _ _=>.sl i 0::nX i r
   | c=>c::nX i r
def zJ:Γ C->Cq
 | []=>.none
 | c::r=>match c with
   | .own sz e xs=>.row sz e xs
   | _=>zJ r
def QN(i:Nat):AV->Sl| .own sz e xs=>⟨.sl i 0,.row sz e xs,0⟩| .optr cs=>⟨.ptr i 0 0,.var (cs.map .d),0⟩| .cc k l=>⟨.cc k (nX i l),zJ l,0⟩| a=>⟨a,.none,0⟩
def enter(i:Nat):Γ AV->AS->AS| [],S=>S| a::r,S=>QN i a::enter (i+1) r (S.drop 1)
def ET:Γ (Nat×AV)->Nat->AV
 | [],_=>.any
 | (t,v)::r,k=>match Nat.beq t k with
   | true=>v
   | false=>ET r k
def D2:Bx->Nat->AV->Sl
 | [],_,v=>⟨v,.none,0⟩
 | (t,b,n)::r,k,v=>match Nat.beq t k with
   | true=>⟨v,b,n⟩
   | false=>D2 r k v
def oM(N:Nat):Nat->(Nat->Sl)->AS| 0,_=>[]| n+1,f=>f (Nat.sub N (Nat.succ n))::oM N n f
def C9 n l b:=oM n n λk=>D2 b k (ET l k)
def m8(P:Η)(J:Γ Nat)(fn:Func)(args:Γ AV)(r:AV):Prop:=
 match fn.body with
 | some c=>Gk (enter 0 args (GZ fn.ntmps)) (kD P J c (λe S=>match e with
   | .normal|.ret=>qs P fn.results.toList [] [] S r
   | _=>False))
 | none=>False
def WP(S:AS):Nat->Γ AV->(Γ Nat->Bx->Prop)->Prop
 | _,[],K=>K [] []
 | i,.own sz e ys::r,K=>match An S i with
   | ⟨_,.row sz' e' xs,0⟩=>(sz'=sz/\e'=e/\xs=ys)/\WP S (i+1) r λu b=>K (i::u) b
   | _=>False
 | i,.optr cs::r,K=>match An S i with
   | ⟨_,.var cs',0⟩=>EY (σOf S) cs' λl b=>UX l λl=>l=cs/\WP S (i+1) r λu b'=>K (i::u) (b++b')
   | _=>False
 | i,.cc _ l::r,K=>dA l λsz e ys=>match An S i with
   | ⟨_,.row sz' e' xs,0⟩=>(sz'=sz/\e'=e/\xs=ys)/\WP S (i+1) r λu b=>K (i::u) b
   | _=>False
 | i,_::r,K=>WP S (i+1) r K
def fa(P:Η)(J:Γ Nat)(fn:Func)(args outs:Γ AV)(r:AV):Prop:=
 match fn.body with
 | some c=>Gk (enter 0 args (GZ fn.ntmps)) (kD P J c (λe S=>match e with
   | .normal|.ret=>WP S 0 outs λu b=>qs P fn.results.toList u b S r
   | _=>False))
 | none=>False
def Abq(S:AS)(k q sz:Nat)(e:Υ)(ys:Γ D):Prop:=
 match An S k with
 | ⟨_,.var [.sl q' n],0⟩=>match An S q with
   | ⟨_,.row sz' e' xs,m⟩=>q'=q/\n=m/\sz'=sz/\e'=e/\xs=ys
   | _=>False
 | _=>False
def vu(P:Η)(J:Γ Nat)(fn:Func)(args:Γ AV)(k q sz:Nat)(e:Υ)(xs ys:Γ D):Prop:=
 match fn.body with
 | some c=>Gk (Bp (Bp (GT (enter 0 args (GZ fn.ntmps)) k (.ptr k 0 0)) k (.var [.sl q 0]) 0) q (.row sz e xs) 0) (kD P J c (λe' S=>match e' with
   | .normal|.ret=>Abq S k q sz e ys
   | _=>False))
 | none=>False
def Abb P fn args r:=m8 P [] fn args r
def Aal P fn args outs r:=fa P [] fn args outs r
open Go.RowKit (Below)
def AC.refl B M w:AC B M w w:=⟨rfl,rfl,rfl,Zam _,λ_ _ _=>rfl⟩
def AC.trans{B}{M}{a b c}(h:AC B M a b)(k:AC B M b c):AC B M a c:=
 ⟨k.os.trans h.os,k.tape.trans h.tape,k.output.trans h.output,Zbl h.size k.size,λi d e=>(k.block i d e).trans (h.block i d e)⟩
def AC.of{B}{M}{a b}(h:Below B a b):AC B M a b:=⟨h.os,h.tape,h.output,h.size,λi c _=>h.block i c⟩
def AC.below{B}{M}{a b}(h:AC B M a b)(c:∀k,¬M k):Below B a b:=⟨h.os,h.tape,h.output,h.size,λi d=>h.block i d (c i)⟩
def AC.weaken{B c}{M d}{a b}(h:AC B M a b)(j:c<=B)(e:∀k,k<c->¬d k->¬M k):AC c d a b:=
 ⟨h.os,h.tape,h.output,h.size,λi f g=>h.block i z0 (e i f g)⟩
def AC.setRow B{M}w{b}c(a:B<=b\/M b):AC B M w (w.setRow b c):=
 ⟨rfl,rfl,rfl,zs,λk f d=>setRow_other w b k c λe=>by subst e;rcases a with h|h;omega;exact d h⟩
section mono
variable {O O':Nat->Prop} {w w':Λ}
structure Cg(O O':Nat->Prop)(w w':World):Prop where
 size:w.heap.size<=w'.heap.size
 own:∀b,b<w.heap.size->O' b->O b
 same:∀b,b<w.heap.size->¬O b->w'.heap[b]?=w.heap[b]?
def Cg.cell(k:Cg O O' w w'){b o}(a:b<w.heap.size)(c:¬O b):w'.cell? ⟨b,o,κ⟩=w.cell? ⟨b,o,κ⟩:=
 World.cell?_of_block (k.same b a c)
theorem A5.mono(k:Cg O O' w w'){v}{x}(h:A5 O w v x):A5 O' w' v x:=by
 induction h with
 | bool b=>exact .bool b
 | int u n=>exact .int u n
 | str s=>exact .str s
 | fn f vs xs q h1 h ih=>exact .fn f vs xs q h1 ih
 | ptr b off cs c l m h1 d h ih=>
   have g:∀(j:Nat) y,cs[j]?=θ y->cs≠[]:=by intro j y hy e;subst e;simp at hy
   exact .ptr b off cs c (λp=>Zbc (l p) k.size) (λp r=>m p (k.own b (l p) r)) h1
    (λj y hy=>by rw[<-d j y hy];exact k.cell (l (g j y hy)) (m (g j y hy))) ih
 | agg vs xs q h1 h ih=>exact .agg vs xs q h1 ih
 | nil sz=>exact .nil sz
 | emp a cap sz=>exact .emp a cap sz
 | list b off cap sz xs c g l m o t h1 d h ih=>
   exact .list b off cap sz xs c g (Zbc l k.size) (λr=>m (k.own b l r)) o t h1
    (λi x j y hx hy=>by rw[<-d i x j y hx hy];exact k.cell l m) ih
def BC.mono(k:Cg O O' w w'){vs}{ys}(h:BC O w vs ys):BC O' w' vs ys:=
 ⟨h.1,λj v y a hy=>⟨(h.2 j v y a hy).1.mono k,(h.2 j v y a hy).2⟩⟩
def Wo.mono(k:Cg O O' w w'){v}{x}(h:Wo O w v x):Wo O' w' v x:=by
 cases x<;>simp only[Wo]at h ⊢
 case d x=>exact h.mono k
 case lim sz xs=>exact⟨h.1.mono k,h.2⟩
theorem CI.mono(k:Cg O O' w w'){β b}{n a}(f:∀i,n i<a i\/(a i=n i/\b i=β i)){v}{c}(h:CI β n O w v c):CI b a O' w' v c:=by
 cases c with
 | d x=>exact⟨h.1.mono k,h.2⟩
 | sl id m=>
   simp only[CI]at h ⊢;grind
 | own sz e xs=>exact h
theorem NM.mono(k:Cg O O' w w'){β q}{n f}{tm b}{v}(c:∀i,n i<f i\/(f i=n i/\q i=β i)):∀{x},(∀u∈x.guards,b[u]?=tm[u]?)->NM β n O w tm v x->NM q f O' w' b v x:=by
 intro x
 induction x with
 | d x=>intro _ h;exact A5.mono k h
 | lim sz xs=>intro _ h;exact⟨A5.mono k h.1,h.2⟩
 | ptr id m o=>
   intro _ h;simp only[NM]at h ⊢;rcases c id with h1|⟨h1,h2⟩;exact⟨z0,λe=>z0⟩;rw[h1,h2];exact h
 | sl id m=>
   intro _ h;simp only[NM]at h ⊢;rcases c id with h1|⟨h1,h2⟩;exact⟨z0,λe=>z0⟩;rw[h1,h2];exact h
 | eptr id m sz i o=>
   intro _ h;simp only[NM]at h ⊢;rcases c id with h1|⟨h1,h2⟩;exact⟨z0,λe=>z0⟩;rw[h1,h2];exact h
 | tup xs=>
   intro _ h;have⟨vs,g,j,h⟩:=h;refine⟨vs,g,j,λi u x a hx=>?_⟩;have:=h i u x a hx
   cases x with
   | d y=>exact A5.mono k this
   | sl id m=>exact CI.mono k c this
   | own sz e xs=>exact this
 | cc s xs=>
   intro _ h;have⟨vs,g,j,h⟩:=h;exact⟨vs,g,j,λi u x a hx=>⟨CI.mono k c (h i u x a hx).1,(h i u x a hx).2⟩⟩
 | under t r x ih=>
   intro l h;refine⟨λp=>ih (λu a=>l u (by simp[AV.guards,a])) (h.1 ?_),λp=>h.2 ?_⟩;rw[<-l t (by simp[AV.guards])];exact p;rw[<-l t (by simp[AV.guards])];exact p
 | _=>intro _ h;exact h
end mono
theorem Ea:∀S d v i,An (GT S d v) i=if i=d/\d<Ξ S then⟨v,(An S d).box,(An S d).ver⟩else An S i
 | [],d,v,i=>by simp[GT,An]
 | s::r,0,v,0=>by simp[GT,An]
 | s::r,0,v,i+1=>by simp[GT,An]
 | s::r,d+1,v,0=>by simp[GT,An]
 | s::r,d+1,v,i+1=>by simp[GT,An,Ea r d v i]
theorem CG:∀S d b n i,An (Bp S d b n) i=if i=d/\d<Ξ S then⟨(An S d).av,b,n⟩else An S i
 | [],d,b,n,i=>by simp[Bp,An]
 | s::r,0,b,n,0=>by simp[Bp,An]
 | s::r,0,b,n,i+1=>by simp[Bp,An]
 | s::r,d+1,b,n,0=>by simp[Bp,An]
 | s::r,d+1,b,n,i+1=>by simp[Bp,An,CG r d b n i]
theorem L8:∀S d v,Ξ (GT S d v)=Ξ S
 | [],_,_=>rfl
 | _::_,0,_=>rfl
 | _::r,d+1,v=>by simp[GT,L8 r d v]
theorem Ef:∀S d b n,Ξ (Bp S d b n)=Ξ S
 | [],_,_,_=>rfl
 | _::_,0,_,_=>rfl
 | _::r,d+1,b,n=>by simp[Bp,Ef r d b n]
theorem Sq:∀S i,Ξ S<=i->An S i=oV
 | [],_,_=>rfl
 | _::r,0,h=>by grind
 | _::r,i+1,h=>by simp only[An];exact Sq r i z5
def Cg.refl O w:Cg O O w w:=⟨Zam _,λ_ _ h=>h,λ_ _ _=>rfl⟩
def Cg.world{O}{w w'}(h:Below w.heap.size w w'):Cg O O w w':=⟨h.size,λ_ _ h=>h,λb a _=>h.block b a⟩
def Cg.of_sub{O O'}{w}(h:∀b,O' b->O b):Cg O O' w w:=⟨Zam _,λb _ a=>h b a,λ_ _ _=>rfl⟩
def SimB.glob{x}{G}{β}{S}{a}{w}(h:SimB x G β S a w):Vo (OS β x S) w:=by
 intro g cs c;refine(x.glob g cs c).mono ⟨h.below.size,λb d ho=>?_,λb d ho=>h.below.block b z0 λe=>ho (.inr (.inr e))⟩;rcases ho with ho|ho|⟨i,h1,h2⟩;grind;exact .inr (h.rs b ho).1;exact .inr (h.mine i b h1 h2).1
def fU{O M:Nat->Prop}{w}(h:Vo (λb=>O b\/M b) w):Vo (λb=>O b\/w.heap.size<=b\/M b) w:=by
 intro g cs a;refine(h g cs a).mono ⟨Zam _,λb c ho=>?_,λ_ _ _=>rfl⟩;grind
def AG{α:Type}{l:Γ α}{i}{x}(h:l[i]?=θ x):i<Ξ l:=z5
def EF{α:Type}{l:Array α}{i}{x}(h:l[i]?=θ x):i<l.size:=z5
section sim
variable {x:Cx} {G:Nat->Prop} {β:Nat->Ψ} {S:AS} {a:Act} {w:Λ}
def BM.mono{w w'}{e}{sz n}{v}{vals}(h:BM w e sz v n vals)(l:∀b,b<w.heap.size->Ai v=θ b->w'.heap[b]?=w.heap[b]?):BM w' e sz v n vals:=by
 rcases h with⟨c,h⟩|h;rcases h with h|⟨g,cap,cur,d,m,j,o,p,q,r⟩;exact .inl ⟨c,.inl h⟩;by_cases k:cap=0;subst k;have f:n=0:=z0;subst f;exact .inr ⟨rfl,by simpa using c,_,d⟩;have i:=EF j;exact .inl ⟨c,.inr ⟨g,cap,cur,d,m,by rw[l g i (by rw[d];simp[Ai,k])];exact j,o,p,q,r⟩⟩;exact .inr h
def BM.lt{w}{e}{sz n}{v}{vals}(h:BM w e sz v n vals){b}(c:Ai v=θ b):b<w.heap.size:=by
 rcases h with⟨_,⟨d,_⟩|⟨g,cap,cur,d,_,f,_⟩⟩|⟨_,_,i,d⟩;rw[d]at c;simp[Ai]at c;rw[d]at c;simp[Ai]at c;grind;rw[d]at c;simp[Ai]at c
def LZ.lt{β}{n}{O}{w}{id}{B}(h:LZ β n O w id B)(ho:B.owned=ν){b}(c:Ai (β id)=θ b):b<w.heap.size:=by
 cases B<;>simp[Cq.owned]at ho
 case var cs=>
  have⟨g,vals,T,d,h1,_⟩:=h;rw[d]at c;simp[Ai]at c;subst c;exact EF h1
 case row sz e xs=>
  have⟨_,_,vals,hr,_⟩:=h;exact hr.lt c
 case map es=>
  have⟨g,vs,f,d,h1,_⟩:=h;rw[d]at c;simp[Ai]at c;subst c;exact EF h1
def SimB.blk(h:SimB x G β S a w){i b}(ho:(An S i).box.owned=ν)(c:Ai (β i)=θ b):b<w.heap.size:=(h.boxes i).lt ho c
def SimB.os_lt(h:SimB x G β S a w){b}(c:OS β x S b):b<w.heap.size:=by
 rcases c with c|c|⟨i,h1,h2⟩;exact Zbc (h.o₀ b c).1 h.hbase;exact(h.rs b c).2;exact h.blk h1 h2
theorem LZ.mono{O O'}{w w'}(k:Cg O O' w w'){β s}{n t}{id}{B}(y:∀i,n i<t i\/(t i=n i/\s i=β i))(m:s id=β id)(u:∀b,b<w.heap.size->B.owned=ν->Ai (β id)=θ b->w'.heap[b]?=w.heap[b]?)(h:LZ β n O w id B):LZ s t O' w' id B:=by
 cases B with
 | none=>exact h
 | var cs=>
   have⟨b,vals,T,h1,d,o,q⟩:=h;have f:=EF d;exact⟨b,vals,T,by rw[m];exact h1,by rw[u b f rfl (by rw[h1];rfl)];exact d,o,λj v c g r=>(q j v c g r).mono k y⟩
 | row sz e xs=>
   have⟨h1,h2,vals,d,o⟩:=h;exact⟨h1,h2,vals,by rw[m];exact d.mono λb z g=>u b z rfl g,o.mono k⟩
 | fvar cs=>exact⟨by rw[m];exact A5.mono k h.1,by rw[m];exact h.2⟩
 | frow sz xs=>simp only[LZ];rw[m];exact A5.mono k h
 | map es=>
   have⟨b,vs,l,h1,d,o,q⟩:=h;have f:=EF d;exact⟨b,vs,l,by rw[m];exact h1,by rw[u b f rfl (by rw[h1];rfl)];exact d,o,λi e p g r=>⟨(q i e p g r).1.mono k,(q i e p g r).2.1.mono k,(q i e p g r).2.2⟩⟩
def SimB.worldR(h:SimB x G β S a w){w'}(c:AC w.heap.size x.R w w'):SimB x G β S a w':=by
 have e:Cg (OS β x S) (OS β x S) w w':=⟨c.size,λ_ _ h=>h,λb d f=>c.block b d λhr=>f (.inr (.inl hr))⟩;refine⟨h.len,h.df,h.below.trans (c.weaken h.hbase λk e j hr=>?_),Zbl h.hbase c.size,h.o₀,λb d=>⟨(h.rs b d).1,Zbc (h.rs b d).2 c.size⟩,?_,?_,h.mine,h.inj,h.gds,h.ini⟩
 ·rcases(h.rs k hr).1 with h1|h1
  all_goals grind
 ·exact λt v g=>(h.slots t v g).mono e (λ_=>.inr ⟨rfl,rfl⟩) (λ_ _=>rfl)
 ·exact λi=>(h.boxes i).mono e (λ_=>.inr ⟨rfl,rfl⟩) rfl λb d ho g=>c.block b d (h.mine i b ho g).2
def SimB.world(h:SimB x G β S a w){w'}(b:Below w.heap.size w w'):SimB x G β S a w':=h.worldR (.of b)
def m6 d v:OS β x (GT S d v)=OS β x S:=by
 funext b;simp only[OS,Ea];grind
def XH d v:AU (GT S d v)=AU S:=by
 funext i;simp only[AU,Ea];grind
def UE d v i:(An (GT S d v) i).box=(An S i).box:=by
 rw[Ea];grind
def SimB.put(h:SimB x G β S a w){d:Nat}{v:Ψ}{y:AV}(hd:¬G d)(hr:NM β (AU S) (OS β x S) w a.tmps v y)(g:∀u∈y.guards,G u):
 SimB x G β (GT S d y) (a.put (θ d) v) w where
 len:=by simp[Act.put,L8,h.len]
 df:=h.df
 below:=h.below
 hbase:=h.hbase
 o₀:=h.o₀
 rs:=h.rs
 slots:=by
  intro t u c;rw[m6,XH,Ea]
  have keep:∀(y:AV),(∀u∈y.guards,G u)->∀z∈y.guards,(a.put (θ d) v).tmps[z]?=a.tmps[z]?:=by
   intro y hy z k;have:d≠z:=λe=>hd (e▸hy z k);simp[Act.put,Zbg this]
  simp only[Act.put,Zcr]at c;split at c;rename_i e;subst e;split at c;rename_i f
  cases c
  rw[Zai ⟨rfl,by rw[<-h.len];exact f⟩];exact hr.mono (Cg.refl _ _) (λ_=>.inr ⟨rfl,rfl⟩) (keep y g)
  cases c
  rename_i e;rw[Zah λl=>e l.1.symm];exact(h.slots t u c).mono (Cg.refl _ _) (λ_=>.inr ⟨rfl,rfl⟩) (keep _ (h.gds t))
 boxes:=by intro i;rw[m6,XH,UE];exact h.boxes i
 mine:=by intro i b;rw[UE];exact h.mine i b
 inj:=by intro i j b;rw[UE,UE];exact h.inj i j b
 gds:=by
  intro t u c;rw[Ea]at c;split at c;grind;exact h.gds t u c
 ini:=by
  intro i;rw[UE,show(An (GT S d y) i).ver=(An S i).ver from congrFun (XH d y) i];exact h.ini i
def Pn(β:Nat->Ψ)(id:Nat)(v:Ψ)(i:Nat):=if i=id then v else β i
def NJ{id}(hid:id<Ξ S)B n i:An (Bp S id B n) i=if i=id then⟨(An S id).av,B,n⟩else An S i:=by
 rw[CG];simp[hid]
def SimB.rebox(h:SimB x G β S a w){id}{B}{v}{n}{w'}{R'}(H:∀b,R' b->x.R b)(hid:id<Ξ S)(z:(An S id).ver<n\/(n=(An S id).ver/\v=β id/\(An S id).box≠.none))(L:w.heap.size<=w'.heap.size)(l:AC x.base x.M w w')(g:∀b,b<w.heap.size->((An S id).box.owned=ν->Ai (β id)≠θ b)->w'.heap[b]?=w.heap[b]?)(k:B.owned=ν->∀b,Ai v=θ b->((Ai (β id)=θ b/\(An S id).box.owned=ν)\/w.heap.size<=b\/x.R b)/\¬R' b)(O:Cg (OS β x S) (OS (Pn β id v) (x.less R') (Bp S id B n)) w w'->(∀i,AU S i<AU (Bp S id B n) i\/(AU (Bp S id B n) i=AU S i/\Pn β id v i=β i))->
  LZ (Pn β id v) (AU (Bp S id B n)) (OS (Pn β id v) (x.less R') (Bp S id B n)) w' id B):
 SimB (x.less R') G (Pn β id v) (Bp S id B n) a w':=by
 have e:=NJ (S:=S) hid B n
 have Q:∀b,b<w.heap.size->OS (Pn β id v) (x.less R') (Bp S id B n) b->OS β x S b:=by
  intro b l A;rcases A with A|A|⟨i,h1,h2⟩;exact .inl A;exact .inr (.inl (H b A));rw[e]at h1;by_cases c:i=id;subst c;simp[Pn]at h1 h2;rcases(k h1 b h2).1 with⟨f,C⟩|f|f;exact .inr (.inr ⟨i,C,f⟩);omega;exact .inr (.inl f);simp[Pn,c]at h1 h2;exact .inr (.inr ⟨i,h1,h2⟩)
 have P:Cg (OS β x S) (OS (Pn β id v) (x.less R') (Bp S id B n)) w w':=
  ⟨L,Q,λb l M=>g b l λho p=>M (.inr (.inr ⟨id,ho,p⟩))⟩
 have D:∀i,AU S i<AU (Bp S id B n) i\/(AU (Bp S id B n) i=AU S i/\Pn β id v i=β i):=by
  intro i;simp only[AU,e,Pn];grind
 refine⟨by rw[Ef];exact h.len,h.df,h.below.trans l,Zbl h.hbase L,h.o₀,λb l=>⟨(h.rs b (H b l)).1,Zbc (h.rs b (H b l)).2 L⟩,?_,?_,?_,?_,?_,?_⟩;intro t u I;have q:(An (Bp S id B n) t).av=(An S t).av:=z5;rw[q];exact(h.slots t u I).mono P D λ_ _=>rfl;intro i;rw[e];by_cases c:i=id;grind;simp only[c,if_false];refine(h.boxes i).mono P D (by simp[Pn,c]) λb l ho p=>g b l λN E=>c (h.inj i id b ho N p E);intro i b c d;rw[e]at c;by_cases y:i=id;subst y;simp[Pn]at c d;have⟨h1,h2⟩:=k c b d;refine⟨?_,h2⟩;rcases h1 with⟨f,C⟩|f|f;exact(h.mine i b C f).1;exact .inl (Zbl h.hbase f);exact(h.rs b f).1;simp[Pn,y]at c d;exact⟨(h.mine i b c d).1,λhr=>(h.mine i b c d).2 (H b hr)⟩;intro i j b c F d m;rw[e]at c F
 have key:∀j,j≠id->(An S j).box.owned=ν->Ai (β j)=θ b->B.owned=ν->Ai v=θ b->j=id:=by
  intro j R r s T U;rcases(k T b U).1 with⟨f,C⟩|f|f;exact h.inj j id b r C s f;have:=h.blk r s;omega;exact absurd f (h.mine j b r s).2
 by_cases y:i=id;by_cases J:j=id;grind;subst y;simp[Pn,J]at c F d m;grind;by_cases J:j=id;subst J;simp[Pn,y]at c F d m;grind;simp[Pn,y,J]at c F d m;exact h.inj i j b c F d m;intro t u I;have q:(An (Bp S id B n) t).av=(An S t).av:=z5;rw[q]at I;exact h.gds t u I;intro i K o;rw[e]at K o;by_cases c:i=id;subst c;simp only[if_true]at K o;rcases z with h1|⟨h1,h2,f⟩;omega;simp only[Pn,if_true];rw[h2];exact h.ini i z5 f;simp only[c,if_false]at K o;simp only[Pn,c,if_false];exact h.ini i K o
def HW β id:Pn β id (β id)=β:=by funext i;simp only[Pn];split<;>simp_all
theorem SimB.multi(h:SimB x G β S a w)(E:Nat->Δ (Cq×Nat×Ψ)){S':AS}{l:Nat->Ψ}{w':Λ}(J:∀i,An S' i=match E i with|θ (B,n,_)=>⟨(An S i).av,B,n⟩|κ=>An S i)
 (K:∀i,l i=match E i with|θ (_,_,v)=>v|κ=>β i) (L:Ξ S'=Ξ S) (W:w.heap.size<=w'.heap.size) (d:AC x.base x.M w w')
 (M:∀i B n v,E i=θ (B,n,v)->(An S i).ver<n\/(n=(An S i).ver/\v=β i/\(An S i).box≠.none))
 (f:∀b,b<w.heap.size->(∀i B n v,E i=θ (B,n,v)->(An S i).box.owned=ν->Ai (β i)≠θ b)->w'.heap[b]?=w.heap[b]?)
 (g:∀i B n v b,E i=θ (B,n,v)->B.owned=ν->Ai v=θ b->(∃j s A y,E j=θ (s,A,y)/\(An S j).box.owned=ν/\Ai (β j)=θ b)\/w.heap.size<=b)
 (hinj:∀i j B n v s A y b,E i=θ (B,n,v)->E j=θ (s,A,y)->B.owned=ν->s.owned=ν->Ai v=θ b->Ai y=θ b->i=j)
 (hbox:Cg (OS β x S) (OS l x S') w w'->(∀i,AU S i<AU S' i\/(AU S' i=AU S i/\l i=β i))->∀i B n v,E i=θ (B,n,v)->LZ l (AU S') (OS l x S') w' i B):
 SimB x G l S' a w':=by
 have hO:∀b,b<w.heap.size->OS l x S' b->OS β x S b:=by
  intro b d N;rcases N with N|N|⟨i,h1,h2⟩;exact .inl N;exact .inr (.inl N);rw[J]at h1;rw[K]at h2
  cases hE:E i with
  | none=>rw[hE]at h1 h2;exact .inr (.inr ⟨i,h1,h2⟩)
  | some q=>
    obtain⟨B,n,v⟩:=q;rw[hE]at h1 h2;rcases g i B n v b hE h1 h2 with⟨j,s,A,y,_,O,P⟩|Q;exact .inr (.inr ⟨j,O,P⟩);omega
 have hk:Cg (OS β x S) (OS l x S') w w':=⟨W,hO,λb d X=>f b d λi B n v _ ho C=>X (.inr (.inr ⟨i,ho,C⟩))⟩
 have R:∀i,AU S i<AU S' i\/(AU S' i=AU S i/\l i=β i):=by
  intro i;simp only[AU,J,K];grind
 have T:∀t,(An S' t).av=(An S t).av:=z5
 have z:∀i b,E i=κ->(An S i).box.owned=ν->Ai (β i)=θ b->∀j B n v,E j=θ (B,n,v)->(An S j).box.owned=ν->Ai (β j)≠θ b:=by
  intro i b hE ho d j B n v I e m;have:=h.inj i j b ho e d m;grind
 refine⟨by rw[L];exact h.len,h.df,h.below.trans d,Zbl h.hbase W,h.o₀,λb d=>⟨(h.rs b d).1,Zbc (h.rs b d).2 W⟩,?_,?_,?_,?_,?_,?_⟩;intro t u U;rw[T];exact(h.slots t u U).mono hk R λ_ _=>rfl;intro i
 cases hE:E i with
 | some q=>grind
 | none=>
   have:An S' i=An S i:=z5;rw[this];exact(h.boxes i).mono hk R z5 λb d ho C=>f b d λj B n v I e=>z i b hE ho C j B n v I e
 intro i b o c;rw[J]at o;rw[K]at c
 cases hE:E i with
 | none=>rw[hE]at o c;exact h.mine i b o c
 | some q=>
   obtain⟨B,n,v⟩:=q;rw[hE]at o c;rcases g i B n v b hE o c with⟨j,s,A,y,_,O,P⟩|Q;exact h.mine j b O P;exact⟨.inl (Zbl h.hbase Q),λhr=>by have:=(h.rs b hr).2;omega⟩
 intro i j b o I c D;rw[J]at o I;rw[K]at c D
 have Y:∀i j B n v,E i=θ (B,n,v)->E j=κ->B.owned=ν->Ai v=θ b->(An S j).box.owned=ν->Ai (β j)=θ b->False:=by
  intro i j B n v F H ho d e m;rcases g i B n v b F ho d with⟨k,s,A,y,Z,O,P⟩|Q;exact z j b H e m k s A y Z O P;have:=h.blk e m;omega
 cases F:E i with
 | none=>
   rw[F]at o c
   cases H:E j with
   | none=>rw[H]at I D;exact h.inj i j b o I c D
   | some q=>grind
 | some p=>
   obtain⟨B,n,v⟩:=p;grind
 intro t u U;rw[T]at U;exact h.gds t u U;intro i V r;rw[J]at V r;rw[K]
 cases hE:E i with
 | none=>rw[hE]at V r;exact h.ini i V r
 | some q=>
   obtain⟨B,n,v⟩:=q;rw[hE]at V r;rcases M i B n v hE with h1|⟨h1,h2,Q⟩;grind;simp only;rw[h2];exact h.ini i z5 Q
end sim
theorem UL:∀n K,Jh n K=K n
 | 0,_=>rfl
 | n+1,K=>by rw[Jh,UL n]
theorem Ct{α}:∀(l:Γ α) K,DY l K=K l
 | [],_=>rfl
 | x::r,K=>by rw[DY,Ct r]
theorem Wa:∀l K,m5 l K=K (l.map .d)
 | [],_=>rfl
 | x::r,K=>by rw[m5,Wa r];rfl
def norm1:D->D| .nil s=>.list s []| x=>x
def norm:D->D| .nil s=>.list s []| .agg xs=>.agg (xs.map norm1)| x=>x
theorem aK:∀l K,UX l K=K (l.map norm1)
 | [],_=>rfl
 | x::r,K=>by
   rw[UX,aK r]
   cases x<;>rfl
def WV x K:Y8 x K=K (norm x):=by
 cases x<;>simp only[Y8,aK,norm]
def Ya x(h:x.one=ν):(norm1 x).one=ν:=by cases x<;>first|rfl|exact h
section
variable {P:Η} {x:Cx} {G:Nat->Prop} {β:Nat->Ψ} {S:AS} {a:Act} {w:Λ}
def A5.norm1{O:Nat->Prop}{v:Ψ}{y:D}(h:A5 O w v y):A5 O w v (norm1 y):=by
 cases y<;>try exact h
 case nil s=>cases h;exact .emp _ _ _
def A5.norm{O:Nat->Prop}{v:Ψ}{y:D}(h:A5 O w v y):A5 O w v (norm y):=by
 cases y<;>try exact h
 case nil s=>cases h;exact .emp _ _ _
 case agg xs=>
  cases h with
  | agg vs _ c h1 h=>
    refine .agg vs _ (by simpa using c) (λy hy=>?_) (λi v y d hy=>?_)
    ·obtain⟨z,b,rfl⟩:=List.mem_map.1 hy;exact Ya z (h1 z b)
    ·simp only[Zaz]at hy
     cases b:xs[i]? with
     | none=>simp[b]at hy
     | some z=>simp[b]at hy;subst hy;exact(h i v z d b).norm1
theorem BC.norm{O}{vs}{ys}(h:BC O w vs ys):BC O w vs (ys.map norm1):=by
 refine⟨by simp[h.1],λj v y b hy=>?_⟩;simp only[Zaz]at hy
 cases hz:ys[j]? with
 | none=>simp[hz]at hy
 | some z=>simp[hz]at hy;subst hy;exact⟨(h.2 j v z b hz).1.norm1,Ya z (h.2 j v z b hz).2⟩
def U9(β:Nat->Ψ)(O:Nat->Prop)(S:AS)(w:Λ)(v:Ψ):RV->Prop
 | .any=>True
 | .bot=>False
 | .d x=>A5 O w v x
 | .lim sz xs=>A5 O w v (.list sz xs)/\Yx v=Ξ xs
 | .vptr id n o cs=>(An S id).box=.var cs/\(An S id).ver=n/\∃b,β id=.pointer (θ ⟨b,0,κ⟩)/\v=.pointer (θ ⟨b,o,κ⟩)
 | .row id n sz e xs=>(An S id).box=.row sz e xs/\(An S id).ver=n/\v=β id
 | .eptr id n sz e xs i o=>(An S id).box=.row sz e xs/\(An S id).ver=n/\∃b m cap,β id=.slice (θ ⟨b,0,κ⟩) m cap/\v=.pointer (θ ⟨b,i*sz+o,κ⟩)
 | .tup xs=>∃vs:Array Ψ,v=.tuple vs/\vs.size=Ξ xs/\∀(i:Nat) u x,vs[i]?=θ u->xs[i]?=θ x->match x with
  | .d y=>A5 O w u y
  | c=>CI β (AU S) O w u c
 | .mp id n es=>(An S id).box=.map es/\(An S id).ver=n/\v=β id
 | .cagg xs=>∃vs:Array Ψ,v=.agg vs/\vs.size=Ξ xs/\∀(i:Nat) u x,vs[i]?=θ u->xs[i]?=θ x->CI β (AU S) O w u x/\u.oneCell'=ν
 | .cfun f xs=>∃vs:Array Ψ,v=.func (.func f) #[] vs/\vs.size=Ξ xs/\∀(i:Nat) u x,vs[i]?=θ u->xs[i]?=θ x->CI β (AU S) O w u x/\u.oneCell'=ν
 | .clo f xs k id n rid rn=>(∃vs:Array Ψ,v=.func (.func f) #[] vs/\vs.size=Ξ xs/\∀(i:Nat) u x,vs[i]?=θ u->xs[i]?=θ x->CI β (AU S) O w u x/\u.oneCell'=ν) /\
  qz xs=θ (k,id,n)/\(An S id).box=.var [.sl rid rn]/\(An S id).ver=n
def UO{id}{B}(h:(An S id).box=B)(c:B≠.none):id<Ξ S:=by
 rcases Zbk id (Ξ S) with b|b;exact b;rw[Sq S id b]at h;exact absurd h.symm c
theorem A5.drop{O}{b off}{cs}(h:A5 O w (.pointer (θ ⟨b,off,κ⟩)) (.ptr cs))n:A5 O w (.pointer (θ ⟨b,off+n,κ⟩)) (.ptr (cs.drop n)):=by
 cases h with
 | ptr _ _ _ c g i h1 d hr=>
   have f:cs.drop n≠[]->cs≠[]:=by intro h e;subst e;simp at h
   refine .ptr b (off+n) _ (λj=>c (n+j)) (λh=>g (f h)) (λh=>i (f h)) (λy hy=>h1 y (Zdf hy)) (λj y hy=>?_) λj y hy=>?_;simp only[Zca]at hy;have:=d (n+j) y hy;rwa [<-Zfx]at this;simp only[Zca]at hy;exact hr (n+j) y hy
theorem kn(h:SimB x G β S a w){v}{y}(hx:NM β (AU S) (OS β x S) w a.tmps v y):U9 β (OS β x S) S w v (res S y):=by
 cases y with
 | any=>trivial
 | ptr id n o=>
   simp only[NM,AU]at hx;have g:=h.boxes id;simp only[res];generalize c:An S id=s at hx g;have⟨l,B,m⟩:=s
   cases B with
   | none=>trivial
   | row sz e xs=>trivial
   | frow sz xs=>trivial
   | map es=>trivial
   | var cs=>
     simp only at hx ⊢;split;rename_i e;exact⟨by rw[c],by rw[c];exact e.symm,hx.2 e⟩;trivial
   | fvar cs=>
     simp only at hx ⊢;split;rename_i e;have⟨b,h1,h2⟩:=hx.2 e;have⟨q,_⟩:=g;rw[h1]at q;have:=q.drop o;rw[Zbn]at this;show A5 _ _ _ _;rw[h2];exact this;trivial
 | sl id n=>
   simp only[NM,AU]at hx;have g:=h.boxes id;simp only[res];generalize c:An S id=s at hx g;have⟨l,B,m⟩:=s
   cases B with
   | none=>trivial
   | var cs=>trivial
   | fvar cs=>trivial
   | map es=>
     simp only at hx ⊢;split;rename_i e;exact⟨by rw[c],by rw[c];exact e.symm,hx.2 e⟩;trivial
   | row sz e xs=>
     simp only at hx ⊢;split;rename_i e;exact⟨by rw[c],by rw[c];exact e.symm,hx.2 e⟩;trivial
   | frow sz xs=>
     simp only at hx ⊢;split;rename_i e;show A5 _ _ _ _;rw[hx.2 e];exact g;trivial
 | eptr id n sz i o=>
   simp only[NM,AU]at hx;simp only[res];generalize c:An S id=s at hx;have⟨l,B,m⟩:=s
   cases B with
   | none=>trivial
   | var cs=>trivial
   | fvar cs=>trivial
   | frow sz xs=>trivial
   | map es=>trivial
   | row u e xs=>
     simp only at hx ⊢;split;rename_i e;obtain⟨e,rfl⟩:=e;exact⟨by rw[c],by rw[c];exact e.symm,hx.2 e⟩;trivial
 | own sz e xs=>trivial
 | optr cs=>trivial
 | under t r x=>trivial
 | cc k xs=>
   cases k with
   | none=>exact hx
   | some f=>
     simp only[res];split;rename_i j id n hat;split;rename_i l z A m c;split;rename_i p;exact⟨hx,hat,by rw[c],by rw[c];exact p.symm⟩;exact hx;exact hx;exact hx
 | _=>exact hx
def CZ(g:Δ (Nat×Ω))(a:Act):=∀t want,g=θ (t,want)->a.tmps[t]?=θ (.bool want)
def pq v{O}{n}{tm}:NM β n O w tm v (pp v):=by
 unfold pp;split;exact .int _ _;exact .bool _;exact .str _;exact .nil _;trivial
def vd{g}(b:CZ g a){O}{n}{v}{y}(h:NM β n O w a.tmps v y):NM β n O w a.tmps v (unw g y):=by
 cases y<;>try exact h
 case under t want x=>
  simp only[unw]
  cases g with
  | none=>trivial
  | some p=>
    have⟨c,w'⟩:=p;simp only;split;rename_i e;obtain⟨rfl,rfl⟩:=e;exact h.1 (b t want rfl);trivial
theorem ρ_sound(h:SimB x G β S a w){g}(c:CZ g a)y:U9 β (OS β x S) S w (a.eval y) (ρOf S g y):=by
 refine kn h (vd c ?_)
 cases y with
 | tmp t=>
   simp only[ev,Act.eval];by_cases b:t<a.tmps.size;have:=h.slots t a.tmps[t] (by simp[b]);simpa [Array.getD,b] using this;have e:An S t=oV:=Sq S t (by rw[<-h.len];exact Nat.le_of_not_lt b);rw[e];trivial
 | const v=>exact pq v
 | global q=>
   simp only[ev]
   cases hq:ze q with
   | none=>trivial
   | some cs=>exact h.glob q cs hq
 | func f=>exact .fn f #[] [] rfl (λ_ h=>by cases h) (λi v y h=>by simp at h)
def σ_sound(h:SimB x G β S a w){v}{id n}(b:CI β (AU S) (OS β x S) w v (.sl id n)):U9 β (OS β x S) S w v (σOf S id n):=
 kn (y:=.sl id n) h b
def Cq.isF:Cq->Ω| .frow _ _|.fvar _=>ν| _=>ξ
def Cq.isF_ne{B:Cq}(h:B.isF=ν):B≠.none:=by cases B<;>simp[Cq.isF]at h ⊢
theorem Cl b c:∀S,B5 (b++c) S=B5 c (B5 b S):=by
 induction b with
 | nil=>intro S;rfl
 | cons x r ih=>intro S;exact ih _
theorem Dx:∀b S,Ξ (B5 b S)=Ξ S
 | [],_=>rfl
 | x::r,S=>by simp only[B5];rw[Dx r,Ef]
theorem UK{sz}:∀(xs:Γ D),(∀x∈xs,Ξ x.cells=sz)->∀i x j y,xs[i]?=θ x->x.cells[j]?=θ y->(xs.flatMap D.cells)[i*sz+j]?=θ y
 | [],_,i,x,j,y,hx,_=>by simp at hx
 | z::r,hs,0,x,j,y,hx,hy=>by
   simp at hx;subst hx;simp[Zcf,Zba (AG hy),hy]
 | z::r,hs,i+1,x,j,y,hx,hy=>by
   have b:Ξ z.cells=sz:=hs z zs;have ih:=UK r (λx hx=>hs x (by simp[hx])) i x j y (by simpa using hx) hy;rw[Zcf,Zat (by rw[b,Zcu];omega),<-ih];congr 1;rw[b,Zcu];omega
theorem Gs{sz}:∀(xs:Γ D),(∀x∈xs,Ξ x.cells=sz)->Ξ (xs.flatMap D.cells)=Ξ xs*sz
 | [],_=>by simp
 | z::r,hs=>by
   rw[Zcf,Zar,hs z zs,Gs r (λx hx=>hs x (by simp[hx])),Zbq,Zcu];omega
def gZ{O}{w}{e}{sz}{v}{xs}{vals}(r:0<sz)(l:∀x∈xs,Ξ x.cells=sz)(hr:BM w e sz v (Ξ xs) vals)(m:BC O w vals (xs.flatMap D.cells))(s:∀b,Ai v=θ b->¬O b):
 A5 O w v (.list sz xs):=by
 by_cases hx:xs=[];subst hx;rcases hr with⟨_,⟨d,_⟩|⟨g,cap,cur,d,_⟩⟩|⟨_,_,H,d⟩<;>(rw[d];exact .emp _ _ _);have n:0<Ξ xs:=List.length_pos_iff.2 hx;rcases hr with⟨f,⟨d,t⟩|⟨g,cap,cur,d,z,o,A,I,B,C⟩⟩|⟨t,_⟩;omega;have h:cap≠0:=z0;have c:=EF o;subst d
 have key:∀(i:Nat) x (j:Nat) y,xs[i]?=θ x->x.cells[j]?=θ y->∃u,vals[i*sz+j]?=θ u/\w.cell? ⟨g,0+i*sz+j,κ⟩=θ u/\A5 O w u y/\y.one=ν:=by
  intro i x j y hx hy;have p:=UK xs l i x j y hx hy;have c:i*sz+j<Ξ vals:=by rw[m.1];exact AG p
  have k:vals[i*sz+j]?=θ vals[i*sz+j]:=Zaa c;refine⟨_,k,?_,m.2 _ _ _ k p⟩;rw[<-k,<-C,Zda (by rw[<-f];exact c)];simp[World.cell?,o]
 refine .list g 0 cap sz xs (λi j=>vals.getD (i*sz+j) undef) hx c (s g (by simp[Ai,h])) A l ?_ ?_ ?_;intro x hx y hy;have⟨i,E⟩:=List.mem_iff_getElem?.1 hx;have⟨j,F⟩:=List.mem_iff_getElem?.1 hy;have⟨u,_,_,_,h1⟩:=key i x j y E F;exact h1;intro i x j y hx hy;have⟨u,h1,h2,q,_⟩:=key i x j y hx hy;rw[h2];simp[List.getD,h1];intro i x j y hx hy;have⟨u,h1,h2,q,_⟩:=key i x j y hx hy;simpa [List.getD,h1] using q;omega
def Aae{O}{w}{b}{vals}{T}{cs}(f:w.heap[b]?=θ (.cells vals T (0,0)))(e:BC O w vals.toList cs)(h:¬O b)o:
 A5 O w (.pointer (θ ⟨b,o,κ⟩)) (.ptr (cs.drop o)):=by
 have base:A5 O w (.pointer (θ ⟨b,0,κ⟩)) (.ptr cs):=by
  refine .ptr b 0 cs (λj=>vals.toList.getD j undef) (λ_=>EF f) (λ_=>h) (λy hy=>?_) (λj y hy=>?_) λj y hy=>?_;have⟨j,g⟩:=List.mem_iff_getElem?.1 hy;have c:j<Ξ vals.toList:=by rw[e.1];exact AG g
  exact(e.2 j _ y (Zaa c) g).2;have c:j<Ξ vals.toList:=by rw[e.1];exact AG hy
  have d:j<vals.size:=by simpa using c
  simp[World.cell?,f,d];have c:j<Ξ vals.toList:=by rw[e.1];exact AG hy
  have:=(e.2 j _ y (Zaa c) hy).1;have d:j<vals.size:=by simpa using c
  simpa [d] using this
 have:=base.drop o;rwa [Zbn]at this
theorem XB{B}{n}:∀S id,(An S id).box=B->(An S id).ver=n->Bp S id B n=S
 | [],_,_,_=>rfl
 | ⟨_,_,_⟩::_,0,h1,h2=>by simp only[An]at h1 h2;subst h1;subst h2;rfl
 | s::r,id+1,h1,h2=>by rw[Bp,XB r id h1 h2]
def pJ(h:SimB x G β S a w){id n sz}{e}{xs}(c:(An S id).box=.row sz e xs)(o:(An S id).ver=n):
 SimB x G β (Bp S id (.frow sz xs) n) a w:=by
 have hid:=UO c zs
 have j:∀b,Ai (β id)=θ b->¬OS β x (Bp S id (.frow sz xs) n) b:=by
  intro b d f;have l:=h.mine id b (by rw[c];rfl) d;rcases f with f|f|⟨i,h1,h2⟩;have:=h.o₀ b f;rcases l.1 with m|m;omega;exact this.2 m;exact l.2 f;rw[CG]at h1;split at h1;simp[Cq.owned]at h1;rename_i e;exact e ⟨h.inj i id b h1 (by rw[c];rfl) h2 d,hid⟩
 have hr:=h.rebox (R':=x.R) (id:=id) (B:=.frow sz xs) (v:=β id) (n:=n) (w':=w) (λ_ h=>h) hid (.inr ⟨o.symm,rfl,by rw[c];simp⟩) (Zam _) (AC.refl _ _ _) (λ_ _ _=>rfl) (by simp[Cq.owned])
  (λk r=>by
   rw[HW]at k ⊢;have g:=h.boxes id;rw[c]at g;have⟨h1,h2,vals,p,q⟩:=g;exact gZ h1 h2 p (q.mono k) j)
 rw[HW]at hr;exact hr
def pK(h:SimB x G β S a w){id n}{cs}{ds}(d:(An S id).box=.var cs)(s:(An S id).ver=n)(hd:∀b vals T,β id=.pointer (θ ⟨b,0,κ⟩)->w.heap[b]?=θ (.cells vals T (0,0))->vals.size=Ξ cs->(∀(j:Nat) v c,vals[j]?=θ v->cs[j]?=θ c->CI β (AU S) (OS β x S) w v c)->BC (OS β x S) w vals.toList ds):
 SimB x G β (Bp S id (.fvar ds) n) a w:=by
 have hid:=UO d zs
 have o:∀b,Ai (β id)=θ b->¬OS β x (Bp S id (.fvar ds) n) b:=by
  intro b f g;have p:=h.mine id b (by rw[d];rfl) f;rcases g with g|g|⟨i,h1,h2⟩;have:=h.o₀ b g;rcases p.1 with q|q;omega;exact this.2 q;exact p.2 g;rw[CG]at h1;split at h1;simp[Cq.owned]at h1;rename_i e;exact e ⟨h.inj i id b h1 (by rw[d];rfl) h2 f,hid⟩
 have hr:=h.rebox (R':=x.R) (id:=id) (B:=.fvar ds) (v:=β id) (n:=n) (w':=w) (λ_ h=>h) hid (.inr ⟨s.symm,rfl,by rw[d];simp⟩) (Zam _) (AC.refl _ _ _) (λ_ _ _=>rfl) (by simp[Cq.owned])
  (λk y=>by
   rw[HW]at k ⊢;have l:=h.boxes id;rw[d]at l;have⟨b,vals,T,m,r,t,u⟩:=l;refine⟨?_,b,m⟩;rw[m];have:=Aae r ((hd b vals T m r t u).mono k) (o b (by rw[m];rfl)) 0;simpa using this)
 rw[HW]at hr;exact hr
end
def Pq(S:AS)(seen:Bx)(cs:Γ C)(ds:Γ D):Prop:=
 (Ξ cs)=Ξ ds/\∀(j:Nat) c y,cs[j]?=θ c->ds[j]?=θ y->match c with
  | .d x=>y=norm1 x
  | .sl id n=>∃sz xs,y=.list sz xs/\(An S id).ver=n/\(((∃e,(An S id).box=.row sz e xs)/\(id,Cq.frow sz xs,n)∈seen)\/(An S id).box=.frow sz xs)
  | .own _ _ _=>False
def qM(S:AS)(seen:Bx)(y:Nat×Cq×Nat):=(An S y.1).ver=y.2.2/\((∃sz e xs,(An S y.1).box=.row sz e xs/\y.2.1=.frow sz xs)\/(∃cs ds,(An S y.1).box=.var cs/\y.2.1=.fvar ds/\Pq S seen cs ds)\/((An S y.1).box=y.2.1/\y.2.1.isF=ν))
def FZ(S:AS):Bx->Bx->Prop| _,[]=>True| seen,y::r=>qM S seen y/\FZ S (seen++[y]) r
theorem Pq.mono{S}{seen seen'}(a:∀y∈seen,y∈seen'){cs}{ds}(h:Pq S seen cs ds):Pq S seen' cs ds:=by
 refine⟨h.1,λj c y b hy=>?_⟩;have:=h.2 j c y b hy
 cases c with
 | sl id n=>
   have⟨sz,xs,h1,h2,f⟩:=this;exact⟨sz,xs,h1,h2,f.imp (λh=>⟨h.1,a _ h.2⟩) λh=>h⟩
 | _=>exact this
def qM.mono{S}{seen seen'}(a:∀y∈seen,y∈seen'){y}(h:qM S seen y):qM S seen' y:=by
 refine⟨h.1,?_⟩;rcases h.2 with h|⟨cs,ds,h1,h2,b⟩|h;exact .inl h;exact .inr (.inl ⟨cs,ds,h1,h2,b.mono a⟩);exact .inr (.inr h)
theorem FZ.mono{S}:∀{b seen seen'},(∀y∈seen,y∈seen')->FZ S seen b->FZ S seen' b
 | [],_,_,_,_=>trivial
 | y::r,seen,seen',hs,h=>⟨h.1.mono hs,h.2.mono (by
     intro z a;rcases List.mem_append.1 a with a|a;exact List.mem_append.2 (.inl (hs z a));exact List.mem_append.2 (.inr a))⟩
theorem FZ.append{S}:∀{b c seen},FZ S seen b->FZ S [] c->FZ S seen (b++c)
 | [],c,seen,_,h=>h.mono zs
 | y::r,c,seen,h,h'=>⟨h.1,FZ.append h.2 h'⟩
theorem FZ.snoc{S}:∀{b seen}{y},FZ S seen b->qM S (seen++b) y->FZ S seen (b++[y])
 | [],seen,y,_,h=>⟨by simpa using h,trivial⟩
 | z::r,seen,y,h,h'=>⟨h.1,FZ.snoc h.2 (by simpa using h')⟩
theorem FZ.each{S}:∀{b seen},FZ S seen b->∀y∈b,qM S (seen++b) y
 | [],_,_,_,h=>by cases h
 | z::r,seen,h,y,hy=>by
   rcases List.mem_cons.1 hy with rfl|hy;exact h.1.mono (by intro q a;exact List.mem_append.2 (.inl a));have:=FZ.each h.2 y hy;simpa using this
theorem Pq.unique{S}{seen seen'}{cs}{ds b}(h:Pq S seen cs ds)(k:Pq S seen' cs b):ds=b:=by
 apply Zdv;intro j;rcases Zbk j (Ξ cs) with f|f;have o:cs[j]?=θ cs[j]:=Zaa f;have p:ds[j]?=θ (ds[j]'(by rw[<-h.1];exact f)):=Zaa _;have q:b[j]?=θ (b[j]'(by rw[<-k.1];exact f)):=Zaa _;have g:=h.2 j _ _ o p;have l:=k.2 j _ _ o q;rw[p,q];generalize cs[j]=c at g l
 cases c with
 | d x=>rw[g,l]
 | sl id n=>
   have⟨sz,xs,h1,_,i⟩:=g;have⟨r,s,m,_,a⟩:=l;rw[h1,m];rcases i with⟨⟨e,i⟩,_⟩|i<;>rcases a with⟨⟨t,a⟩,_⟩|a<;>rw[i]at a<;>simp at a
   rw[a.1,a.2.2];rw[a.1,a.2]
 | own sz e xs=>exact g.elim
 rw[Zbj (by rw[<-h.1];exact f),Zbj (by rw[<-k.1];exact f)]
def qM.unique{S}{seen seen'}{y y'}(h:qM S seen y)(d:qM S seen' y')(e:y.1=y'.1):y.2.1=y'.2.1:=by
 rcases h.2 with⟨sz,m,xs,h1,h2⟩|⟨cs,ds,h1,h2,f⟩|⟨h1,h2⟩<;>rcases d.2 with⟨g,i,j,a,b⟩|⟨k,l,a,b,c⟩|⟨a,b⟩<;>rw[<-e,h1]at a
 simp at a;rw[h2,b,a.1,a.2.2]
 cases a
 rw[<-a]at b;cases b
 cases a
 simp at a;subst a;rw[h2,b,f.unique c];rw[<-a]at b;cases b;rw[a]at h2;cases h2;rw[a]at h2;cases h2;exact a
structure Fr(S:AS)(seen:Bx)(T:AS):Prop where
 len:Ξ T=Ξ S
 ver:∀i,(An T i).ver=(An S i).ver
 av:∀i,(An T i).av=(An S i).av
 mem:∀y∈seen,(An T y.1).box=y.2.1
 other:∀i,(∀y∈seen,y.1≠i)->(An T i).box=(An S i).box
 keepF:∀i,(An S i).box.isF=true->(An T i).box=(An S i).box
def qM.lt{S}{seen}{y}(h:qM S seen y):y.1<Ξ S:=by
 have:(An S y.1).box≠.none:=by
  rcases h.2 with⟨sz,e,xs,h1,_⟩|⟨cs,ds,h1,_⟩|⟨h1,h2⟩;rw[h1];simp;rw[h1];simp;rw[h1];exact Cq.isF_ne h2
 exact UO rfl this
section
variable {P:Η} {x:Cx} {G:Nat->Prop} {β:Nat->Ψ} {S:AS} {a:Act} {w:Λ}
theorem FZ.run_:∀{b seen}{T},(∀y∈seen,qM S seen y)->FZ S seen b->Fr S seen T->SimB x G β T a w->(∀k,OS β x T k->OS β x S k)->
 SimB x G β (B5 b T) a w/\(∀k,OS β x (B5 b T) k->OS β x S k)/\Fr S (seen++b) (B5 b T)
 | [],seen,T,_,_,hf,h,hO=>⟨h,hO,by simpa [B5] using hf⟩
 | y::r,seen,T,hseen,hF,hf,h,hO=>by
   have hy:=hF.1;have I:y.1<Ξ T:=by rw[hf.len];exact hy.lt
   have l:SimB x G β (Bp T y.1 y.2.1 y.2.2) a w/\(∀k,OS β x (Bp T y.1 y.2.1 y.2.2) k->OS β x T k):=by
    by_cases m:∃z∈seen,z.1=y.1;have⟨z,f,e⟩:=m;have h1:=hf.mem z f;have h2:=(hseen z f).unique hy e;rw[XB T y.1 (by rw[<-e,h1,h2]) (by rw[hf.ver,hy.1])];exact⟨h,λ_ h=>h⟩;have B:(An T y.1).box=(An S y.1).box:=hf.other _ λz f e=>m ⟨z,f,e⟩;have o:(An T y.1).ver=y.2.2:=by rw[hf.ver,hy.1]
    have D:y.2.1.owned=ξ->∀k,OS β x (Bp T y.1 y.2.1 y.2.2) k->OS β x T k:=by
     intro J k C;rcases C with C|C|⟨i,h1,h2⟩;exact .inl C;exact .inr (.inl C);rw[CG]at h1;split at h1;rw[J]at h1;cases h1;exact .inr (.inr ⟨i,h1,h2⟩)
    rcases hy.2 with⟨sz,e,xs,h1,h2⟩|⟨cs,ds,h1,h2,F⟩|⟨h1,h2⟩;refine⟨?_,D (by rw[h2];rfl)⟩;rw[h2];exact pJ h (by rw[B];exact h1) o;refine⟨?_,D (by rw[h2];rfl)⟩;rw[h2];refine pK h (by rw[B];exact h1) o λb vals Y Z hh R U=>⟨by rw[Zbv,R];exact F.1,λj v z V f=>?_⟩;have Q:j<Ξ cs:=by rw[F.1];exact AG f
    have p:=U j v cs[j] (by simpa using V) (Zaa Q);have s:=F.2 j cs[j] z (Zaa Q) f;generalize cs[j]=c at p s
    cases c with
    | d q=>rw[s];exact⟨p.1.norm1,Ya q p.2⟩
    | sl id n=>
      have⟨sz,xs,K,H,u⟩:=s
      have L:(An T id).box=.frow sz xs:=by
       rcases u with⟨_,u⟩|u;exact hf.mem _ u;by_cases m:∃q∈seen,q.1=id;have⟨q,A,e⟩:=m;have W:=hf.mem q A;have X:=(hseen q A).unique (y':=(id,Cq.frow sz xs,n)) (seen':=seen) ⟨H,.inr (.inr ⟨u,rfl⟩)⟩ e;rw[<-e,W,X];rw[hf.other id λq A e=>m ⟨q,A,e⟩];exact u
      have E:=h.boxes id;rw[L]at E;have M:=p.2 (by simp only[AU];rw[hf.ver];exact H.symm);rw[K,M];exact⟨E,rfl⟩
    | own sz e xs=>exact s.elim
    rw[XB T y.1 (by rw[B,h1]) o];exact⟨h,λ_ h=>h⟩
   have g:=NJ I y.2.1 y.2.2
   have N:Fr S (seen++[y]) (Bp T y.1 y.2.1 y.2.2):=by
    refine⟨by rw[Ef];exact hf.len,λi=>?_,λi=>?_,λz f=>?_,λi t=>?_,λi t=>?_⟩;rw[g];split;rename_i e;rw[e];exact hy.1.symm;exact hf.ver i;rw[g];split;rename_i e;rw[e];exact hf.av _;exact hf.av i;rw[g];split;rename_i e;rcases List.mem_append.1 f with f|f;exact(hy.unique (hseen z f) e.symm);simp at f;rw[f];rename_i e;rcases List.mem_append.1 f with f|f;exact hf.mem z f;simp at f;exact absurd (by rw[f]) e;rw[g];split;rename_i e;exact absurd e.symm (t y zs);exact hf.other i λz f=>t z (by simp[f]);rw[g];split;rename_i e;rw[e]at t ⊢;rcases hy.2 with⟨sz,e',xs,h1,h2⟩|⟨cs,ds,h1,h2,F⟩|⟨h1,h2⟩;rw[h1]at t;cases t;rw[h1]at t;cases t;exact h1.symm;exact hf.keepF i t
   have O:∀z∈seen++[y],qM S (seen++[y]) z:=by
    intro z f;rcases List.mem_append.1 f with f|f;exact(hseen z f).mono λq A=>List.mem_append.2 (.inl A);simp at f;rw[f];exact hy.mono λq A=>List.mem_append.2 (.inl A)
   have⟨K,H,u⟩:=FZ.run_ O hF.2 N l.1 λk C=>hO k (l.2 k C);exact⟨K,H,by simpa [B5] using u⟩
def FZ.run(h:SimB x G β S a w){b}(c:FZ S [] b):SimB x G β (B5 b S) a w/\(∀k,OS β x (B5 b S) k->OS β x S k)/\Fr S b (B5 b S):=by
 have:=FZ.run_ (x:=x) (G:=G) (β:=β) (a:=a) (w:=w) (S:=S) (b:=b) (seen:=[]) (T:=S) (λ_ h=>by cases h) c ⟨rfl,λ_=>rfl,λ_=>rfl,(λ_ h=>by cases h),λ_ _=>rfl,λ_ _=>rfl⟩ h λ_ h=>h;simpa using this
def Pr(x:Cx)(G:Nat->Prop)(β:Nat->Ψ)(S:AS)(a:Act)(w:Λ)(b:Bx)(p:(Nat->Prop)->Prop):=∀B,(∀y∈b,y∈B)->Fr S B (B5 B S)->SimB x G β (B5 B S) a w->(∀k,OS β x (B5 B S) k->OS β x S k)->p (OS β x (B5 B S))
def Pr.mono{b c}{p q}(h:Pr x G β S a w b p)(d:∀y∈b,y∈c)(e:∀O,p O->q O):Pr x G β S a w c q:=
 λB f g i j=>e _ (h B (λy hy=>f y (d y hy)) g i j)
def Pr.and{b c}{p q}(h:Pr x G β S a w b p)(i:Pr x G β S a w c q):Pr x G β S a w (b++c) λO=>p O/\q O:=
 λB d e f g=>⟨h B (λy hy=>d y (by simp[hy])) e f g,i B (λy hy=>d y (by simp[hy])) e f g⟩
def Pr.now(c:SimB x G β S a w){b}{p}(h:Pr x G β S a w b p)(d:FZ S [] b):p (OS β x (B5 b S)):=by
 have⟨h1,h2,e⟩:=d.run c;exact h b (λ_ h=>h) e h1 h2
def Nt{r}{v}(hr:U9 β (OS β x S) S w v r){K}(hy:jo r K):
 ∃y b,K y b/\FZ S [] b/\(∀z∈b,∃sz xs,z.2.1=.frow sz xs)/\Pr x G β S a w b λO=>A5 O w v y:=by
 cases r<;>simp only[jo]at hy
 case d y=>exact⟨y,[],hy,trivial,(λ_ h=>by cases h),λB _ _ _ c=>A5.mono (Cg.of_sub c) hr⟩
 case lim sz xs=>exact⟨_,[],hy,trivial,(λ_ h=>by cases h),λB _ _ _ c=>A5.mono (Cg.of_sub c) hr.1⟩
 case row id n sz e xs=>
  have⟨h1,h2,i⟩:=hr;refine⟨_,_,hy,⟨⟨h2,.inl ⟨sz,e,xs,h1,rfl⟩⟩,trivial⟩,(λz f=>⟨sz,xs,by simp at f;subst f;rfl⟩),λB j k l _=>?_⟩;have:=k.mem (id,.frow sz xs,n) (j _ zs);have g:=l.boxes id;simp only at this;rw[this]at g;rw[i];exact g
def bD{r}{v}(hr:U9 β (OS β x S) S w v r){K}(hy:asN r K):
 ∃y b,K y b/\FZ S [] b/\(∀z∈b,∃sz xs,z.2.1=.frow sz xs)/\Pr x G β S a w b λO=>A5 O w v y:=by
 have⟨y,b,hK,d,c,e⟩:=Nt (x:=x) (G:=G) (a:=a) hr hy;rw[WV]at hK;exact⟨_,b,hK,d,c,e.mono (λ_ h=>h) λO h=>h.norm⟩
theorem NU(h:SimB x G β S a w):∀{cs:Γ C}{K:Γ D->Bx->Prop},EY (σOf S) cs K->
 ∃l b,K l b/\FZ S [] b/\(∀z∈b,∃sz xs,z.2.1=.frow sz xs)/\Ξ cs=Ξ l /\
  (∀(j:Nat) c y,cs[j]?=θ c->l[j]?=θ y->match c with
   | .d q=>y=q
   | .sl id n=>∃sz xs,y=.list sz xs/\(An S id).ver=n/\(((∃e,(An S id).box=.row sz e xs)/\(id,Cq.frow sz xs,n)∈b)\/(An S id).box=.frow sz xs)
   | .own _ _ _=>False) /\
  ∀vs:Γ Ψ,Ξ vs=Ξ cs->(∀(j:Nat) v c,vs[j]?=θ v->cs[j]?=θ c->CI β (AU S) (OS β x S) w v c)->Pr x G β S a w b λO=>BC O w vs l
 | [],K,hy=>⟨[],[],hy,trivial,(λ_ h=>by cases h),rfl,(λj c y h=>by simp at h),λvs k _ B _ _ _ _=>⟨by simpa using k,λj v y _ hy=>by simp at hy⟩⟩
 | .d q::r,K,hy=>by
   have hy:EY (σOf S) r λl b=>K (q::l) b:=hy;have⟨l,b,hK,U,A,V,E,W⟩:=NU h hy;refine⟨_,_,hK,U,A,by simp[V],λj c y g i=>?_,λvs k f=>?_⟩
   cases j with
   | zero=>simp at g i;subst g;exact i.symm
   | succ j=>exact E j c y (by simpa using g) (by simpa using i)
   cases vs with
   | nil=>simp at k
   | cons v vs=>
     have N:=f 0 v (.d q) rfl rfl;have hr:=W vs (by simpa using k) λj v c k E=>f (j+1) v c (by simpa using k) (by simpa using E);intro B Q I F R;have o:=hr B Q I F R;refine⟨by simp[o.1],λj u y H hy=>?_⟩
     cases j with
     | zero=>simp at H hy;subst H;subst hy;exact⟨N.1.mono (Cg.of_sub R),N.2⟩
     | succ j=>exact o.2 j u y (by simpa using H) (by simpa using hy)
 | .sl id n::r,K,hy=>by
   simp only[EY,σOf,res]at hy
   obtain⟨sz,xs,J,p,X,Y⟩:∃sz xs J,((An S id).ver=n/\(((∃e,(An S id).box=.row sz e xs)/\J=[(id,Cq.frow sz xs,n)])\/((An S id).box=.frow sz xs/\J=[])))/\FZ S [] J/\EY (σOf S) r λl b'=>K (.list sz xs::l) (J++b'):=by
    generalize F:An S id=s at hy;have⟨av,B,m⟩:=s
    cases B with
    | map es=>
      simp only at hy;split at hy<;>exact hy.elim
    | row sz e xs=>
      simp only at hy;split at hy;rename_i T;exact⟨sz,xs,_,⟨T.symm,.inl ⟨⟨e,rfl⟩,rfl⟩⟩,⟨⟨by rw[F];exact T.symm,.inl ⟨sz,e,xs,by rw[F],rfl⟩⟩,trivial⟩,hy⟩;exact hy.elim
    | frow sz xs=>
      simp only at hy;split at hy;rename_i T;exact⟨sz,xs,[],⟨T.symm,.inr ⟨rfl,rfl⟩⟩,trivial,hy⟩;exact hy.elim
    | _=>exact hy.elim
   have⟨l,b,hK,U,A,V,E,W⟩:=NU h Y;refine⟨_,_,hK,X.append U,λz t=>?_,by simp[V],λj c y g i=>?_,λvs k f=>?_⟩;rcases List.mem_append.1 t with t|t;rcases p.2 with⟨_,h2⟩|⟨_,h2⟩;rw[h2]at t;simp at t;exact⟨sz,xs,by rw[t]⟩;rw[h2]at t;cases t;exact A z t
   cases j with
   | zero=>
     simp at g i;subst g;refine⟨sz,xs,i.symm,p.1,?_⟩;rcases p.2 with⟨h1,h2⟩|⟨h1,h2⟩;exact .inl ⟨h1,by rw[h2];simp⟩;exact .inr h1
   | succ j=>
     have:=E j c y (by simpa using g) (by simpa using i)
     cases c with
     | sl id' n'=>
       have⟨Z,xs',h1,h2,h3⟩:=this;exact⟨Z,xs',h1,h2,h3.imp (λh=>⟨h.1,by simp[h.2]⟩) λh=>h⟩
     | _=>exact this
   cases vs with
   | nil=>simp at k
   | cons v vs=>
     have N:=f 0 v (.sl id n) rfl rfl;have hr:=W vs (by simpa using k) λj v c k E=>f (j+1) v c (by simpa using k) (by simpa using E);intro B Q I F R;have o:=hr B (λy hy=>Q y (by simp[hy])) I F R
     have L:(An (B5 B S) id).box=.frow sz xs:=by
      rcases p.2 with⟨_,h2⟩|⟨h1,h2⟩;exact I.mem (id,.frow sz xs,n) (Q _ (by rw[h2];simp));rw[I.keepF id (by rw[h1];rfl)];exact h1
     have M:=F.boxes id;rw[L]at M;have hv2:=N.2 (by simp only[AU];exact p.1.symm);refine⟨by simp[o.1],λj u y H hy=>?_⟩
     cases j with
     | zero=>simp at H hy;subst H;subst hy;rw[hv2];exact⟨M,rfl⟩
     | succ j=>exact o.2 j u y (by simpa using H) (by simpa using hy)
 | .own _ _ _::_,K,hy=>hy.elim
