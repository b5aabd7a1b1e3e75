/- RL -/
import Derived.Test.YthifolbledpmkaaGreatDoorM3
import Derived.Test.YthifolbledpmkaaGreatDoorM4
import Derived.Test.YthifolbledpmkaaGreatDoorChecked
import Derived.KernelRfl
import Derived.Test.YthifolbledpmkaaGreatDoorRows
import Derived.ProofKit
import Derived.LaidMore
import Derived.Stop.Joined
import Derived.Test.YthifolbledpmkaaGreatDoorWG
import Derived.Test.YthifolbledpmkaaGreatDoorWJ
import Derived.Test.YthifolbledpmkaaGreatDoorWI
import Derived.Test.YthifolbledpmkaaGreatDoorQE
import Derived.Lib.SmallJoins
import Derived.SevenTiedAt
open List renaming length → Ξ
set_option linter.all false
open Go.Proofs.Tryz
namespace Go.Abs
open Go.ChangeShapes Go.WideShapes
def rR(agg:Ω)(ys:Γ D):D:=if agg then .agg ys else ys.headD (.nil 0)
def Fq(P:Η)(t:Υ):Ω:=match P.underlying t with|some (.struct _)=>true|_=>false
def Ip(P:Η):Nat->Υ->Γ D->Prop
 | 0,_,_=>False
 | n+1,t,ys=>match P.underlying t with
   | some .bool=>∃b,ys=[.bool b]
   | some (.int k)=>∃m,ys=[.int k m]/\(Lit.int k m).wf=true
   | some .string=>∃s:Θ,ys=[.str s]/\s.size<=maxLen
   | some (.slice e)=>∃xs:Γ (Γ D),ys=[.list (P.cellsOf e) (xs.map (rR (Fq P e)))]/\Ξ xs<=maxLen/\∀x∈xs,Ip P n e x
   | some (.struct fs)=>Ξ ys=P.cellsOf t/\∀f∈fs.toList,Ip P n f.type ((ys.drop f.offset).take (P.cellsOf f.type))
   | _=>False
def gm(P:Η):Nat->Γ Field->Δ Nat| o,[]=>some o| o,f::r=>if f.offset=o then gm P (o+P.cellsOf f.type) r else none
def ZO(P:Η)(ts:Γ Υ):Ω:=ts.all λt=>match P.underlying t with
 | some .bool|some (.int _)|some .string=>P.cellsOf t==1
 | some (.slice e)=>P.cellsOf t==1&&(ts.contains e&&decide (0<P.cellsOf e))
 | some (.struct fs)=>fs.toList.all (λf=>ts.contains f.type)&&(gm P 0 fs.toList==some (P.cellsOf t))
 | _=>false
section
variable {H:Type} {enc:Υ×Ψ->H} {P:Η} {w:Λ} {base:Nat} {spare:Nat->Ω} {held:Ω}
theorem ZY{ts:Γ Υ}(a:ZO P ts=true){n:Nat}{t:Υ}(c:ts.contains t=true){ys:Γ D}(h:Ip P n t ys):Ξ ys=P.cellsOf t:=by
 have:=List.all_eq_true.1 a t (by simpa using c)
 cases n with
 | zero=>exact h.elim
 | succ n=>
   unfold Ip at h;split at h<;>rename_i d<;>simp only[d]at this
   ·obtain⟨b,rfl⟩:=h;simp at this;rw[this];rfl
   ·obtain⟨b,rfl,_⟩:=h;simp at this;rw[this];rfl
   ·obtain⟨b,rfl,_⟩:=h;simp at this;rw[this];rfl
   ·obtain⟨b,rfl,_⟩:=h;simp at this;rw[this.1];rfl
   ·exact h.1
   ·exact h.elim
def vU{ts:Γ Υ}(a:ZO P ts=true){n:Nat}{t:Υ}(b:ts.contains t=true){ys:Γ D}(h:Ip P n t ys)(h1:∀y∈ys,y.one=true):(rR (Fq P t) ys).cells=ys:=by
 have c:=ZY a b h;have:=List.all_eq_true.1 a t (by simpa using b);unfold rR Fq;split<;>rename_i d
 ·rfl
 ·have h2:Ξ ys=1:=by
   rw[c];split at this<;>simp_all
  match ys,h2 with
  | [y],_=>
    have:=h1 y zs
    cases y<;>first|rfl|cases this
theorem fM{ts:Γ Υ}(l:ZO P ts=true){n:Nat}(ih:∀t cs (x:DataW H×Γ MemPlace),ts.contains t=true->DataW.trod enc P w base spare held n t cs=some x->∃ys,BC (λ_=>False) w cs ys/\Ip P n t ys):
 ∀(d:Γ Field)(o m:Nat)(cs:Γ Ψ),gm P o d=some m->Ξ cs=m->(∀f∈d,ts.contains f.type=true)->
  (∀f∈d,∃x,DataW.trod enc P w base spare held n f.type ((cs.drop f.offset).take (P.cellsOf f.type))=some x)->
  ∃ys,o+Ξ ys=m/\BC (λ_=>False) w (cs.drop o) ys/\∀f∈d,o<=f.offset/\Ip P n f.type ((ys.drop (f.offset-o)).take (P.cellsOf f.type))
 | [],o,m,cs,hl,hm,_,_=>by
   simp only[gm,Option.some.injEq]at hl;subst hl;exact⟨[],rfl,by rw[Zfn z0];exact⟨rfl,λj v y q=>by simp at q⟩,λf h=>by simp at h⟩
 | f::r,o,m,cs,hl,hm,hT,hx=>by
   unfold gm at hl;split at hl
   ·rename_i ho
    obtain⟨x,i⟩:=hx f zs;obtain⟨p,k,b⟩:=ih _ _ _ (hT f zs) i;obtain⟨ys,e,hr,h⟩:=fM l ih r _ m cs hl hm (λg a=>hT g (by simp[a])) (λg a=>hx g (by simp[a]));have c:=ZY l (hT f zs) b;refine⟨p++ys,by rw[Zar,c];omega,?_,λg a=>?_⟩
    ·have:cs.drop o=(cs.drop f.offset).take (P.cellsOf f.type)++cs.drop (o+P.cellsOf f.type):=by
      rw[ho,<-List.drop_drop,Zdj]
     rw[this];exact k.append hr
    ·rcases List.mem_cons.1 a with rfl|a
     ·refine⟨z0,?_⟩;rw[ho,Zes,List.drop_zero,<-c,Zfd];exact b
     ·obtain⟨h1,h2⟩:=h g a;refine⟨z0,?_⟩;rw[show g.offset-o=Ξ p+(g.offset-(o+P.cellsOf f.type)) by omega,<-List.drop_drop,List.drop_left];exact h2
   ·cases hl
theorem lm{ts:Γ Υ}(C:ZO P ts=true):∀(n:Nat)(t:Υ)(cs:Γ Ψ)(x:DataW H×Γ MemPlace),ts.contains t=true->DataW.trod enc P w base spare held n t cs=some x->
 ∃ys,BC (λ_=>False) w cs ys/\Ip P n t ys
 | 0,_,_,_,_,h=>by simp[DataW.trod]at h
 | n+1,t,cs,x,ht,h=>by
   have o:=List.all_eq_true.1 C t (by simpa using ht)
   have one:∀(v:Ψ)(y:D),A5 (λ_=>False) w v y->y.one=true->BC (λ_=>False) w [v] [y]:=λv y h1 h2=>⟨rfl,λj v' y' T hy=>by
    cases j with
    | zero=>simp at T hy;subst T;subst hy;exact⟨h1,h2⟩
    | succ j=>simp at T⟩
   unfold Ip;split at o<;>rename_i G
   ·obtain⟨b,rfl,_⟩:=DataW.trod_bool G h;exact⟨_,one _ _ (.bool b) rfl,by exact⟨b,rfl⟩⟩
   ·obtain⟨m,rfl,_,U⟩:=DataW.trod_int G h;exact⟨_,one _ _ (.int _ m) rfl,by exact⟨m,rfl,U⟩⟩
   ·obtain⟨s,rfl,_,U⟩:=DataW.trod_string G h;exact⟨_,one _ _ (.str s) rfl,by exact⟨s,rfl,U⟩⟩
   ·rename_i e
    simp only[Zax,decide_eq_true_eq]at o;obtain⟨_,r,I⟩:=o;rcases DataW.trod_slice G h with⟨rfl,_⟩|⟨a,len,cap,V,rest,W,en,rfl,_,hb,hl,hm,u,X,_,_⟩
    ·exact⟨_,one _ _ (.emp _ 0 (P.cellsOf e)) rfl,by exact⟨[],rfl,by simp[maxLen],λx hx=>by simp at hx⟩⟩
    obtain rfl:n=W:=z0
    have J:∀i,i<len->∃cs ys,w.cells? base (a.add (i*P.cellsOf e)) (P.cellsOf e)=some cs/\BC (λ_=>False) w cs ys/\Ip P n e ys:=by
     intro i d;have h1:=X i d;rw[Zaa z0,Option.bind_eq_some_iff]at h1;obtain⟨cs,h2,g⟩:=h1;obtain⟨ys,A,F⟩:=lm C n e cs _ r g;exact⟨cs,ys,h2,A,F⟩
    have Y:∃xs:Γ (Γ D),Ξ xs=len/\∀i (d:i<Ξ xs),∃cs,w.cells? base (a.add (i*P.cellsOf e)) (P.cellsOf e)=some cs/\BC (λ_=>False) w cs xs[i]/\Ip P n e xs[i]:=by
     have:∀k,k<=len->∃xs:Γ (Γ D),Ξ xs=k/\∀i (d:i<Ξ xs),∃cs,w.cells? base (a.add (i*P.cellsOf e)) (P.cellsOf e)=some cs/\BC (λ_=>False) w cs xs[i]/\Ip P n e xs[i]:=by
      intro k
      induction k with
      | zero=>exact λ_=>⟨[],rfl,λi d=>by simp at d⟩
      | succ k ihk=>
        intro hk;obtain⟨xs,h1,h2⟩:=ihk z0;obtain⟨cs,ys,g,A,F⟩:=J k z0;refine⟨xs++[ys],by simp[h1],λi d=>?_⟩;by_cases K:i<Ξ xs
        ·rw[Zgl K];exact h2 i K
        ·have:i=k:=by simp at d;omega
         subst this;have he:(xs++[ys])[i]=ys:=by simp[Zgi,h1]
         rw[he];exact⟨cs,g,A,F⟩
     exact this len (Zam _)
    obtain⟨xs,E,p⟩:=Y
    have c:∀x∈xs,(∀y∈x,y.one=true)/\(rR (Fq P e) x).cells=x/\Ξ x=P.cellsOf e/\Ip P n e x:=by
     intro x hx;obtain⟨i,d,rfl⟩:=Zbi hx;obtain⟨cs,h1,h2,g⟩:=p i d
     have A:∀y∈xs[i],y.one=true:=by
      intro y hy;obtain⟨j,S,rfl⟩:=Zbi hy;exact(h2.2 j (cs[j]'(by rw[h2.1];exact S)) _ (Zaa _) (Zaa S)).2
     exact⟨A,vU C r g A,ZY C r g,g⟩
    refine⟨[.list (P.cellsOf e) (xs.map (rR (Fq P e)))],one _ _ ?_ rfl,by exact⟨xs,rfl,z0,λx hx=>(c x hx).2.2.2⟩⟩;by_cases h0:len=0
    ·subst h0;obtain rfl:xs=[]:=List.length_eq_zero_iff.1 E;exact .emp _ _ _
    obtain⟨b,off,L⟩:=a
    have Z:L=none:=by
     have l:0<Ξ xs:=z0
     obtain⟨cs,h1,_,_⟩:=p 0 l;obtain⟨_,F,M⟩:=World.cells?_some h1;have:=M 0 I;rw[Zaa z0]at this;have:=World.cell?_spot this
     simpa [Addr.add] using this
    subst Z
    have q:∀i (d:i<Ξ xs) (j:Nat) y,xs[i][j]?=some y->∃v,w.cell? ((⟨b,off,none⟩:Addr).add (i*P.cellsOf e+j))=some v/\A5 (λ_=>False) w v y:=by
     intro i d j y hy;obtain⟨cs,h1,h2,g⟩:=p i d;obtain⟨_,F,M⟩:=World.cells?_some h1
     have S:j<P.cellsOf e:=by
      have:=(List.getElem?_eq_some_iff.1 hy).1;rw[ZY C r g]at this;exact this
     have N:=M j S;rw[Zaa z0]at N;refine⟨cs[j],?_,(h2.2 j _ _ (Zaa z0) hy).1⟩;rw[<-N];rw[FC,FC,FC,Zfx]
    have hbl:b<w.heap.size:=by
     have l:0<Ξ xs:=z0
     obtain⟨cs,h1,_,_⟩:=p 0 l;obtain⟨_,F,M⟩:=World.cells?_some h1;have N:=M 0 I;rw[Zaa z0]at N;rcases Zbk b w.heap.size with h|h
     ·exact h
     ·simp[World.cell?,Addr.add,Zct h]at N
    have B:∀(i:Nat)(z:D),(xs.map (rR (Fq P e)))[i]?=some z->∃d:i<Ξ xs,z=rR (Fq P e) xs[i]/\z.cells=xs[i]:=by
     intro i z l;rw[Zaz]at l;obtain⟨x,hx,rfl⟩:=Option.map_eq_some_iff.1 l;obtain⟨d,rfl⟩:=List.getElem?_eq_some_iff.1 hx;exact⟨d,rfl,(c _ (Zae d)).2.1⟩
    have key:=A5.list (O:=λ_=>False) (w:=w) b off cap (P.cellsOf e) (xs.map (rR (Fq P e))) (λi j=>(w.cell? ⟨b,off+i*P.cellsOf e+j,none⟩).getD undef)
     (λh=>by have:=congrArg List.length h;rw[Zac,Zfs]at this;omega) hbl (λh=>h) zv
     (λz l=>by obtain⟨x,hx,rfl⟩:=List.mem_map.1 l;rw[(c x hx).2.1];exact(c x hx).2.2.1)
     (λz l y hy=>by obtain⟨x,hx,rfl⟩:=List.mem_map.1 l;rw[(c x hx).2.1]at hy;exact(c x hx).1 y hy)
     (λi z j y l hy=>by
      obtain⟨d,_,h2⟩:=B i z l;rw[h2]at hy;obtain⟨v,g,_⟩:=q i d j y hy;rw[FC,<-Zfx]at g;rw[g];rfl)
     (λi z j y l hy=>by
      obtain⟨d,_,h2⟩:=B i z l;rw[h2]at hy;obtain⟨v,g,A⟩:=q i d j y hy;rw[FC,<-Zfx]at g;rw[g];exact A)
    rw[show(Ξ (xs.map (rR (Fq P e))))=len by simp[E]]at key;exact key
   ·rename_i fs
    simp only[Zax,Zdk]at o;obtain⟨hT,Q⟩:=o;obtain⟨xs,W,en,_,u,E,p⟩:=DataW.trod_struct G h;obtain rfl:n=W:=z0
    obtain⟨ys,hy1,hy2,hy3⟩:=fM C (λt cs x=>lm C n t cs x) fs.toList 0 _ cs Q u (λf R=>List.all_eq_true.1 hT f R) (λf R=>by
     obtain⟨i,d,e⟩:=Zbi R;have hi':i<fs.size:=by simpa using d
     have:=p i f (by rw[<-e];simp[hi']);rw[Zaa z0]at this;exact⟨_,this⟩)
    refine⟨ys,by simpa using hy2,?_⟩;exact⟨z0,λf R=>by simpa using(hy3 f R).2⟩
   ·cases o
theorem qP{ts:Γ Υ}(c:ZO P ts=true){t:Υ}(e:ts.contains t=true){v:Ψ}(f:Fq P t=true->∃cs,v=.agg cs)(a:Fq P t=false->v.cells=#[v]){d:DataW H}{p:Γ MemPlace}(h:DataW.Trod enc P w base spare held t v d p):
 ∃n ys,Ip P n t ys/\A5 (λ_=>False) w v (rR (Fq P t) ys):=by
 obtain⟨n,h⟩:=h;obtain⟨ys,h1,h2⟩:=lm c n t _ _ e h;refine⟨n,ys,h2,?_⟩
 cases ha:Fq P t with
 | true=>
   obtain⟨cs,rfl⟩:=f ha;have h1:BC (λ_=>False) w cs.toList ys:=h1;refine .agg cs ys (by simpa using h1.1) (λy hy=>?_) λi v y g hy=>(h1.2 i v y (by simpa using g) hy).1;obtain⟨j,b,rfl⟩:=Zbi hy;exact(h1.2 j (cs.toList[j]'(by rw[h1.1];exact b)) _ (Zaa _) (Zaa b)).2
 | false=>
   have h1:BC (λ_=>False) w v.cells.toList ys:=h1;rw[a ha]at h1;have k:=h1.1
   match ys,k with
   | [y],_=>exact(h1.2 0 v y rfl rfl).1
theorem Vw{α:Type}{n:Nat}{t e:Υ}{ys:Γ D}(i:P.underlying t=some (.slice e))(h:Ip P n t ys){f:α->D}{p:α->Prop}(h1:∀m x,Ip P m e x->∃a,rR (Fq P e) x=f a/\p a):
 ∃l:Γ α,ys=[.list (P.cellsOf e) (l.map f)]/\Ξ l<=maxLen/\∀a∈l,p a:=by
 cases n with
 | zero=>exact h.elim
 | succ n=>
   unfold Ip at h;rw[i]at h;obtain⟨xs,rfl,j,hx⟩:=h
   have:∃l:Γ α,xs.map (rR (Fq P e))=l.map f/\Ξ l=Ξ xs/\∀a∈l,p a:=by
    clear j
    induction xs with
    | nil=>exact⟨[],rfl,rfl,λa k=>by simp at k⟩
    | cons x r ih=>
      obtain⟨a,h2,g⟩:=h1 n x (hx x zs);obtain⟨l,c,o,q⟩:=ih λy hy=>hx y (by simp[hy]);refine⟨a::l,by rw[Zas,h2,c];rfl,by simp[o],λb d=>?_⟩;rcases List.mem_cons.1 d with rfl|d
      ·exact g
      ·exact q b d
   obtain⟨l,h2,g,c⟩:=this;exact⟨l,by rw[h2],z0,c⟩
end
end Go.Abs
namespace Go.Proofs.YthifolbledpmkaaGreatDoor.P
open Go Go.Abs Go.Proofs
set_option maxRecDepth 100000 in
theorem JA{m:Nat}{x:Γ D}(h:Ip prog m 3 x):∃a:Int,x=[.int .i64 a]:=by
 cases m with
 | zero=>exact h.elim
 | succ m=>
   unfold Ip at h;rw[underlying3]at h;obtain⟨b,h,_⟩:=h;exact⟨b,h⟩
def ZZ{P:Η}{α:Type}{n:Nat}{t e:Υ}{ys:Γ D}(c:P.underlying t=some (.slice e))(h:Ip P (n+1) t ys){f:α->D}(h1:∀x,Ip P n e x->∃a,rR (Fq P e) x=f a):
 ∃l:Γ α,ys=[.list (P.cellsOf e) (l.map f)]:=by
 unfold Ip at h;rw[c]at h;obtain⟨xs,rfl,b,hx⟩:=h;clear b
 have:∃l:Γ α,xs.map (rR (Fq P e))=l.map f:=by
  induction xs with
  | nil=>exact⟨[],rfl⟩
  | cons x r ih=>
    obtain⟨a,h2⟩:=h1 x (hx x zs);obtain⟨l,d⟩:=ih λy hy=>hx y (by simp[hy]);exact⟨a::l,by rw[Zas,h2,d];rfl⟩
 obtain⟨l,h2⟩:=this;exact⟨l,by rw[h2]⟩
set_option maxRecDepth 100000 in
theorem bM:∀(m:Nat)(x:Γ D),Ip prog m 53 x->∃a:Ae,D.agg x=A8 a
 | 0,x,h=>h.elim
 | 1,x,h=>by
   unfold Ip at h;rw[underlying53]at h;exact(h.2 _ (Zdg)).elim
 | m+2,x,h=>by
   unfold Ip at h;rw[underlying53,show prog.cellsOf 53=6 from by kernel_rfl]at h;obtain⟨o,g⟩:=h
   match x,o with
   | [a,b,c,d,e,f],_=>
     simp only[Zdd,Zdc,or_false,forall_eq_or_imp,forall_eq,show prog.cellsOf 3=1 from by kernel_rfl,show prog.cellsOf 51=1 from by kernel_rfl]at g;obtain⟨p,h1⟩:=JA g.1;obtain⟨p2,h2⟩:=JA g.2.1;obtain⟨p3,i⟩:=JA g.2.2.1;obtain⟨q,j⟩:=JA g.2.2.2.1;obtain⟨r,k⟩:=JA g.2.2.2.2.1
     obtain⟨l,n⟩:=ZZ (f:=A8) underlying51 g.2.2.2.2.2 λy hy=>by
      obtain⟨a,s⟩:=bM m y hy;exact⟨a,by rw[show Fq prog 53=true from by kernel_rfl];exact s⟩
     simp at h1 h2 i j k n;refine⟨⟨p,p2,p3,q,r,l⟩,?_⟩;rw[h1,h2,i,j,k,n,AN,show prog.cellsOf 53=6 from by kernel_rfl];rfl
set_option maxRecDepth 100000 in
theorem fR{m:Nat}{x:Γ D}(h:Ip prog m 9 x):∃a:Θ,x=[.str a]:=by
 cases m with
 | zero=>exact h.elim
 | succ m=>
   unfold Ip at h;rw[underlying9]at h;obtain⟨b,h,_⟩:=h;exact⟨b,h⟩
def fD{a b c d e f:D}{x:Ae}(h:D.agg [a,b,c,d,e,f]=A8 x):a=.int .i64 x.Op/\b=.int .i64 x.B/\c=.int .i64 x.Af/\d=.int .i64 x.C/\e=.int .i64 x.E/\f=Aq 6 A8 x.D:=by
 rw[AN]at h;unfold Cc at h
 simpa using h
set_option maxRecDepth 100000 in
theorem tK{m:Nat}{x:Γ D}(h:Ip prog m 113 x):∃a:Ab,D.agg x=Af a:=by
 cases m with
 | zero=>exact h.elim
 | succ m=>
   unfold Ip at h;rw[underlying113,show prog.cellsOf 113=2 from by kernel_rfl]at h;obtain⟨d,c⟩:=h
   match x,d with
   | [a,b],_=>
     simp only[Zdd,Zdc,or_false,forall_eq_or_imp,forall_eq,show prog.cellsOf 3=1 from by kernel_rfl]at c;obtain⟨e,h1⟩:=JA c.1;obtain⟨p2,h2⟩:=JA c.2;simp at h1 h2;exact⟨⟨e,p2⟩,by rw[h1,h2];rfl⟩
set_option maxRecDepth 100000 in
theorem tJ{m:Nat}{x:Γ D}(h:Ip prog m 4 x):∃a:Ω,x=[.bool a]:=by
 cases m with
 | zero=>exact h.elim
 | succ m=>
   unfold Ip at h;rw[underlying4]at h;exact h
def jI{m:Nat}{x:Γ D}(h:Ip prog m 35 x):∃a:Γ Int,x=[Aq 1 (D.int .i64) a]:=by
 obtain⟨p,h,-⟩:=Vw (f:=D.int .i64) (p:=λ_=>True) underlying35 h λm y hy=>by
  obtain⟨a,b⟩:=JA hy;exact⟨a,by rw[show Fq prog 3=false from by kernel_rfl,b];rfl,trivial⟩
 exact⟨p,by rw[h,show prog.cellsOf 3=1 from by kernel_rfl]⟩
def fQ{m:Nat}{x:Γ D}(h:Ip prog m 24 x):∃a:Γ Ab,x=[Aq 2 Af a]:=by
 obtain⟨p,h,-⟩:=Vw (f:=Af) (p:=λ_=>True) underlying24 h λm y hy=>by
  obtain⟨a,b⟩:=tK hy;exact⟨a,by rw[show Fq prog 113=true from by kernel_rfl];exact b,trivial⟩
 exact⟨p,by rw[h,show prog.cellsOf 113=2 from by kernel_rfl]⟩
set_option maxRecDepth 100000 in
theorem jH:∀(m:Nat)(x:Γ D),Ip prog m 56 x->∃a:Ag,D.agg x=C8 a
 | 0,x,h=>h.elim
 | 1,x,h=>by
   unfold Ip at h;rw[underlying56]at h;exact(h.2 _ (Zdg)).elim
 | m+2,x,h=>by
   unfold Ip at h;rw[underlying56,show prog.cellsOf 56=19 from by kernel_rfl]at h;obtain⟨q,g⟩:=h
   match x,q with
   | [a,b,c,d,e,f,c1,c2,c3,c4,c5,c6,g1,g2,g3,g4,g5,g6,k],_=>
     simp only[Zdd,Zdc,or_false,forall_eq_or_imp,forall_eq,show prog.cellsOf 3=1 from by kernel_rfl,show prog.cellsOf 9=1 from by kernel_rfl,show prog.cellsOf 35=1 from by kernel_rfl,show prog.cellsOf 24=1 from by kernel_rfl,show prog.cellsOf 53=6 from by kernel_rfl,show prog.cellsOf 54=1 from by kernel_rfl]at g;obtain⟨r,s,t,u,v,w,z,A,B⟩:=g;obtain⟨C,h1⟩:=JA r;obtain⟨p2,h2⟩:=JA s;obtain⟨p3,i⟩:=fR t;obtain⟨E,j⟩:=JA u;obtain⟨F,n⟩:=jI v;obtain⟨G,o⟩:=fQ w;obtain⟨H,I⟩:=bM _ _ z;obtain⟨J,K⟩:=bM _ _ A
     obtain⟨l,p⟩:=ZZ (f:=C8) underlying54 B λy hy=>by
      obtain⟨a,L⟩:=jH m y hy;exact⟨a,by rw[show Fq prog 56=true from by kernel_rfl];exact L⟩
     obtain⟨rfl,rfl,rfl,rfl,rfl,rfl⟩:=fD I;obtain⟨rfl,rfl,rfl,rfl,rfl,rfl⟩:=fD K;simp at h1 h2 i j n o p;refine⟨⟨C,p2,p3,E,F,G,H,J,l⟩,?_⟩;rw[h1,h2,i,j,n,o,p,Be,show prog.cellsOf 56=19 from by kernel_rfl];rfl
def pF{a b c d e f g i j l m p q r s t u v k:D}{x:Ag}(h:D.agg [a,b,c,d,e,f,g,i,j,l,m,p,q,r,s,t,u,v,k]=C8 x)(n:Θ)(o:Ω):D.agg [.str n,.bool o,a,b,c,d,e,f,g,i,j,l,m,p,q,r,s,t,u,v,k]=Bf ⟨n,o,x⟩:=by
 rw[Be]at h;unfold AF at h;unfold Bf;simp at h;simp[h]
set_option maxRecDepth 100000 in
theorem tM{m:Nat}{x:Γ D}(h:Ip prog m 58 x):∃a:Az,D.agg x=Bf a:=by
 cases m with
 | zero=>exact h.elim
 | succ m=>
   unfold Ip at h;rw[underlying58,show prog.cellsOf 58=21 from by kernel_rfl]at h;obtain⟨i,g⟩:=h
   match x,i with
   | [n,o,a,b,c,d,e,f,c1,c2,c3,c4,c5,c6,g1,g2,g3,g4,g5,g6,k],_=>
     simp only[Zdd,Zdc,or_false,forall_eq_or_imp,forall_eq,show prog.cellsOf 4=1 from by kernel_rfl,show prog.cellsOf 9=1 from by kernel_rfl,show prog.cellsOf 56=19 from by kernel_rfl]at g;obtain⟨j,l,p⟩:=g;obtain⟨q,h1⟩:=fR j;obtain⟨p2,h2⟩:=tJ l;obtain⟨p3,r⟩:=jH _ _ p;simp at h1 h2;exact⟨⟨q,p2,p3⟩,by rw[h1,h2];exact pF r _ _⟩
def tL{m:Nat}{x:Γ D}(h:Ip prog m 25 x):∃a:Γ (Γ Int),x=[Aq 1 (Aq 1 (D.int .i64)) a]:=by
 obtain⟨p,h,-⟩:=Vw (f:=Aq 1 (D.int .i64)) (p:=λ_=>True) underlying25 h λm y hy=>by
  obtain⟨a,b⟩:=jI hy;exact⟨a,by rw[show Fq prog 35=false from by kernel_rfl,b];rfl,trivial⟩
 exact⟨p,by rw[h,show prog.cellsOf 35=1 from by kernel_rfl]⟩
def pH{m:Nat}{x:Γ D}(h:Ip prog m 23 x):∃a:Γ Az,x=[Aq 21 Bf a]:=by
 obtain⟨p,h,-⟩:=Vw (f:=Bf) (p:=λ_=>True) underlying23 h λm y hy=>by
  obtain⟨a,b⟩:=tM hy;exact⟨a,by rw[show Fq prog 58=true from by kernel_rfl];exact b,trivial⟩
 exact⟨p,by rw[h,show prog.cellsOf 58=21 from by kernel_rfl]⟩
set_option maxRecDepth 100000 in
theorem lj{m:Nat}{x:Γ D}(h:Ip prog m 27 x):∃a:Ad,D.agg x=Cm a:=by
 cases m with
 | zero=>exact h.elim
 | succ m=>
   unfold Ip at h;rw[underlying27,show prog.cellsOf 27=4 from by kernel_rfl]at h;obtain⟨i,e⟩:=h
   match x,i with
   | [a,b,c,d],_=>
     simp only[Zdd,Zdc,or_false,forall_eq_or_imp,forall_eq,show prog.cellsOf 3=1 from by kernel_rfl,show prog.cellsOf 9=1 from by kernel_rfl,show prog.cellsOf 24=1 from by kernel_rfl,show prog.cellsOf 25=1 from by kernel_rfl]at e;obtain⟨j,k,l,n⟩:=e;obtain⟨o,h1⟩:=fR j;obtain⟨p2,h2⟩:=JA k;obtain⟨p3,f⟩:=fQ l;obtain⟨p,g⟩:=tL n;simp at h1 h2 f g;exact⟨⟨o,p2,p3,p⟩,by rw[h1,h2,f,g];rfl⟩
section
open Go.ChangeShapes Go.WideShapes Go.ChangeAt Go.WideMaps Go.WideElems Go.RowKit Go.Abs Go.Proofs
set_option maxRecDepth 100000
def nP:Γ (String×DataW Unit):=[("math/bits.deBruijn32tab",Rows.laid_math_bits_deBruijn32tab),("math/bits.deBruijn64tab",Rows.laid_math_bits_deBruijn64tab),("internal/strconv.uint64pow10",Rows.laid_internal_strconv_uint64pow10)]
def Ae6:prog.globalNamed "math/bits.deBruijn64tab" = some 2:=by kernel_rfl
def Afs:(prog.globals[2]?).map (·.type)=some 364:=by kernel_rfl
def wt(os:Os)(args:Array Ψ):laidMetH prog nP ((World.doorLaid prog 400 os).forCall (λ_ _=>0) ⟨#[],args,[]⟩).memory:=
 laidMetH_of_parts3 (fuel:=8) (laidMet_of_run' 8 (by kernel_rfl) (by kernel_rfl)) (by kernel_rfl) (by kernel_rfl)
def tX:∀{H:Type},(Rows.laid_math_bits_deBruijn64tab:DataW H)=.agg (K7.map λn=>.lit (.int .u8 n)):=rfl
theorem lu{W:Λ}(h:laidMetH prog nP W):Vo (λ_=>False) W:=by
 rw[MakeChecks.laidMetH_plain _ _ _ (by kernel_rfl)]at h;obtain⟨G,⟨_,_,_,_,_,_,_,_,_,_,⟨H,I,f,J,K,L,d,m,o,p,_⟩,_⟩,_,_⟩:=h;obtain rfl:=Zaf (Ae6.symm.trans d);obtain rfl:=Zaf (Afs.symm.trans m);obtain⟨xs,M,rfl,c,u,z,q⟩:=DataW.trod_array underlying364 p;have A:prog.cellsOf 5=1:=by kernel_rfl
 have r:xs.map (λx=>x.1)=K7.map λn=>DataW.lit (.int .u8 n):=by
  rw[tX]at c;simp only[Prod.mk.injEq,DataW.agg.injEq]at c;exact c.1.symm
 have b:∀i (s:i<64),W.cell? ⟨2,i,none⟩=some (.int .u8 (K7.getD i 0)):=by
  intro i s;have h1:=q i s;have e:i<Ξ xs:=z0
  rw[Zaa e]at h1;obtain⟨k,v,B,_⟩:=DataW.trod_int underlying5 h1;have h2:=congrArg (λl=>l[i]?) r;have hd:i<Ξ K7:=s;simp only[Zaz,Zaa e,Zaa hd,Zer,Option.some.injEq]at h2;rw[B]at h2;rw[World.var?_cell d o i];rw[A,Zdu]at v
  have C:f.toList[i]?=some (.int .u8 k):=by
   have:=congrArg (λl=>l[0]?) v
   simpa using this
  rw[<-Zcp,C];have E:k=K7[i]:=by simpa using h2
  rw[E];simp[List.getD,hd]
 intro g cs a;unfold ze at a
 match g,a with
 | 0,a=>simp[rF]at a
 | 1,a=>simp[rF]at a
 | g+3,a=>simp[rF]at a
 | 2,a=>
   have a:some (K7.map λn=>D.int .u8 n)=some cs:=a;obtain rfl:=Zaf a;have w:=b 0 z0;refine A5.ptr 2 0 _ (λj=>.int .u8 (K7.getD j 0)) (λ_=>?_) (λ_ h=>h) (λx hx=>?_) (λj y hy=>?_) (λj y hy=>?_)
   ·rcases Zbk 2 W.heap.size with t|t
    ·exact t
    ·unfold World.cell? at w;have:W.heap[2]?=none:=Zct t;simp[this]at w
   ·obtain⟨n,_,rfl⟩:=List.mem_map.1 hx;rfl
   ·have F:j<64:=by have:=AG hy;simpa [K7] using this
    rw[Zbn];exact b j F
   ·rw[Zaz]at hy
    cases hq:K7[j]? with
    | none=>simp[hq]at hy
    | some n=>
      simp[hq]at hy;subst hy;simp only[List.getD,hq,Zel];exact .int _ _
end
section
open Go.Abs Go.Proofs
set_option maxRecDepth 100000
set_option maxHeartbeats 4000000
instance YaJ:jb 4 W0 QU:=⟨λd R h=>by
 refine zaC Tryz.func4 ?_;unfold QU at h
 conv=>whnf
 refine⟨.inr ?_⟩
 conv=>whnf
 refine⟨.inr ?_⟩;exact Ah⟩
instance gt:CS Tryz.prog 3 (∀(d:Nat)(c:Γ Int)(a:Γ Az)(p2:Ad)(R:Ω)(h:Is d c a p2=some R),A9 Tryz.prog 3 [.l 1 (D.int .u8) c,.l 21 Bf a,.d (Cm p2)] (.b R)):=⟨λd c a p2 R h=>by
 refine zaC Tryz.func3 ?_;unfold Is at h;refine Dn h (λh=>?_) λh=>?_
 ·refine E5 h (λ_=>YaJ.h _ _) λj h=>?_;exact Ah
 refine E5 h (λ_=>Yas.h _ _) λk h=>?_;refine iD h (λ_=>WR.h _ _ _ _) λb h=>?_;refine iD h (λ_=>YaO.h _ _ _ _ _) λx53 h=>?_
 conv=>whnf
 refine z11 h (λp=>C9 128 [(5,.ptr 5 1 0),(9,.ptr 9 1 0),(10,.ptr 10 1 0),(11,.l 21 Bf x53.1),(56,.sl 56 1),(57,.i (Ξ [x53.1,a]:Int)),(58,.i p)] [(5,Du p2,1),(9,Du b.2.1,1),(10,AI b.1.Bi,1),(56,.row 1 23 (List.map (Aq 21 Bf) [x53.1,a]),1)]) CC λ_ _ e h=>?_;simp only[Gl]at h;refine uJ h λh=>?_
 conv=>whnf
 try simp only[Jk]at h
 refine E5 h (λ_=>Yag.h _ _ _ _ _) λf h=>?_;refine E5 h (λ_=>YaT.h _ _ _ _ _) λg h=>?_;refine Dn h (λh=>?_) λh=>?_
 ·refine E5 h (λ_=>YaJ.h _ _) λi h=>?_;exact Ah
 exact Ah⟩
end
end Go.Proofs.YthifolbledpmkaaGreatDoor.P
namespace Go.Proofs.YthifolbledpmkaaGreatDoor.interpretRuns
open Go.ChangeShapes Go.WideShapes Go.ChangeAt Go.RowKit Go.Joins Go.Abs Go.Proofs.YthifolbledpmkaaGreatDoor.P
theorem own:ownKnob prog.godebug=none:=by kernel_rfl
theorem lD:laidOutB prog=true:=by kernel_rfl
set_option maxRecDepth 100000 in
theorem Ab2(os:Os)(f:os.Started)(H:Type)(enc:TypeId×Value->H):
 ReturnsInHanded {} checked os 3 .any (λw args=>(Rows.interpretRunsSpec.pre enc prog f3 [] false w args/\laidMetH prog nP w)/\sizedMet enc prog f3 (OpenSpec.ofChange Rows.interpretRunsSpec) false w args)
  (Rows.interpretRunsSpec.post enc prog f3 false true false false):=by
 refine returnsInHanded_of_change_and (C:=checked) (X:=λw _=>laidMetH prog nP w) (λ_ _ _ U h=>h.of_heap U) own f (by kernel_rfl) func3
  (ChangeSpec.witness_shaped (enc:=enc) (C:=checked) (os:=os) (X:=λw _=>laidMetH prog nP w) false (World.doorLaid prog 400 os) #[.slice none 0 0,.slice none 0 0,.agg #[.string ByteArray.empty,.int .i64 0,.slice none 0 0,.slice none 0 0]] 8 rfl (World.shaped_of_RefB (by kernel_rfl) (by kernel_rfl)) (by kernel_rfl) (by kernel_rfl) (by kernel_rfl) (wt os _)) ?_
 intro W base args ds gs r g N _ _ V _;have b:∀(j:Nat) t v,f3.params[j]?=some t->args[j]?=some v->Value.okWide prog W .any base t v:=g;have y:=N;obtain⟨p,q,l,Y,rfl,Z,hnd⟩:=N;have O:DataW.TrodAll enc prog W 0 (λ_=>true) true f3.params.toList args.toList ds p:=l;rw[params3]at O b;obtain⟨P,vs0,d0,ds0,p0,q0,z,rfl,rfl,Q,r0⟩:=trodAll_cons O;obtain⟨A,vs1,d1,ds1,p1,q1,rfl,rfl,rfl,h1,r1⟩:=trodAll_cons r0;obtain⟨B,vs2,d2,ds2,p2,q2,rfl,rfl,rfl,h2,r2⟩:=trodAll_cons r1;obtain⟨rfl,rfl,rfl⟩:=trodAll_nil r2;obtain rfl:args=#[P,A,B]:=by cases args;simp_all
 obtain⟨rfl,rfl⟩:=trodVars_none Y;have R:=Q;have D:∀x∈p0,x.block<W.heap.size:=by obtain⟨m,o⟩:=R;exact DataW.trod_lt m _ _ _ o
 obtain⟨E,F,G,I⟩:=wP underlying22 underlying5 (by kernel_rfl) (okWide_slice underlying22 (b 0 22 P rfl rfl)) Q;have b0:∀x∈E,0<=x/\x<=255:=λx hx=>by simpa [Lit.wf,IntKind.min,IntKind.max,IntKind.signed,IntKind.bits] using I x hx
 have S:=h1;have J:∀x∈p1,x.block<W.heap.size:=by obtain⟨m,o⟩:=S;exact DataW.trod_lt m _ _ _ o
 obtain⟨n1,y1,f1,s⟩:=qP (ts:=[23,58,56,54,24,113,35,9,4,53,51,3]) (by kernel_rfl) (by kernel_rfl) (λh=>by rw[show Fq prog 23=false from by kernel_rfl]at h;cases h) (λ_=>by obtain⟨a,n,c,rfl⟩:=okWide_slice underlying23 (b 1 23 A rfl rfl);rfl) h1;obtain⟨K,e1⟩:=pH f1;have s:A5 (λ_=>False) W A (Aq 21 Bf K):=by rw[show Fq prog 23=false from by kernel_rfl,e1]at s;exact s
 have T:=h2;have L:∀x∈p2,x.block<W.heap.size:=by obtain⟨m,o⟩:=T;exact DataW.trod_lt m _ _ _ o
 obtain⟨n2,y2,f2,u⟩:=qP (ts:=[27,24,113,25,35,9,3]) (by kernel_rfl) (by kernel_rfl) (λ_=>by obtain⟨cs,e,_⟩:=okWide_struct underlying27 (b 2 27 B rfl rfl);exact⟨cs,e⟩) (λh=>by rw[show Fq prog 27=true from by kernel_rfl]at h;cases h) h2;obtain⟨M,e2⟩:=lj f2;have u:A5 (λ_=>False) W B (Cm M):=by rw[show Fq prog 27=true from by kernel_rfl]at u;exact e2▸u
 clear l g;refine((gt.h DD E K M true (zQ E b0 (Zbl G (by unfold maxLen;omega)) K M)).2 (λ_=>False) W _ (λ_ h=>h.elim) (lu V) rfl λi v x d hx=>?_).mono λe W' ⟨v,he,k,hr⟩=>?_
 ·match i,d,hx with
  | 0,d,hx=>simp at d hx;subst d;subst hx;exact F
  | 1,d,hx=>simp at d hx;subst d;subst hx;exact s
  | 2,d,hx=>simp at d hx;subst d;subst hx;exact u
  | i+3,d,hx=>simp at d
 ·subst he;obtain rfl:v=.bool true:=FS hr;exact⟨_,rfl,_,_,_,[],_,[],y,trodAll_mk1 (shut_bool underlying4 _),(trodAll_cons_mk (Below.trod lD (by kernel_rfl) (Zal (by kernel_rfl)) R k D) (trodAll_cons_mk (Below.trod lD (by kernel_rfl) (Zal (by kernel_rfl)) S k J) (trodAll_cons_mk (Below.trod lD (by kernel_rfl) (Zal (by kernel_rfl)) T k L) trodAll_mk0))),rfl,k.frame _,λh=>by cases h⟩
