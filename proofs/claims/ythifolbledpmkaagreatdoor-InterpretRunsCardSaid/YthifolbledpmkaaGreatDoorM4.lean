/- M4 -/
import Derived.Test.YthifolbledpmkaaGreatDoorM3
import Derived.Lib.ItoaNum
import Derived.Deep.OwnRows
import Derived.Deep.Slices
open Option renaming some → θ, none → κ
open Bool renaming true → ν, false → ξ
open Decidable renaming decide → υ
open List renaming map → φ
open List renaming length → Ξ
open Go.IntKind (i64 u64)
set_option linter.all false
namespace Go.Abs
abbrev D.j(x:Int):D:=.int .i64 x
abbrev D.z:=D.int .i64
abbrev AV.i(x:Int):AV:=.d (.int .i64 x)
abbrev AV.l{α:Type}(n:Nat)(f:α->D)(x:Γ α):AV:=.d (.list n (x.map f))
abbrev AV.t(x:Θ):AV:=.d (.str x)
abbrev AV.b(x:Ω):AV:=.d (.bool x)
abbrev AV.n(x:Nat):AV:=.d (.nil x)
abbrev C.i(x:Int):C:=.d (.int .i64 x)
abbrev C.l{α:Type}(n:Nat)(f:α->D)(x:Γ α):C:=.d (.list n (x.map f))
abbrev C.t(x:Θ):C:=.d (.str x)
abbrev C.b(x:Ω):C:=.d (.bool x)
abbrev C.n(x:Nat):C:=.d (.nil x)
end Go.Abs
namespace Go.Proofs.YthifolbledpmkaaGreatDoor.P
open Go.Abs Go.Proofs
structure Fx where
 J:ByteArray:=ByteArray.empty
 Bt:Int:=0
structure Am where
 J:ByteArray:=ByteArray.empty
 X:List Fx:=[]
structure Ax where
 J:ByteArray:=ByteArray.empty
 (Kind Al C E:Int:=0)
 L:List Int:=[]
 An:Bool:=false
structure Aa where
 S:List Am:=[]
 A:List Ax:=[]
structure Ab where
 (B H:Int:=0)
structure Ad where
 Aq:ByteArray:=ByteArray.empty
 As:Int:=0
 I:List Ab:=[]
 G:List (List Int):=[]
structure Ae where
 (Op B Af C E:Int:=0)
 D:List Ae:=[]
structure Ag where
 (Op K:Int:=0)
 J:ByteArray:=ByteArray.empty
 B:Int:=0
 A:List Int:=[]
 V:List Ab:=[]
 (Q Y:Ae:={})
 D:List Ag:=[]
structure Az where
 J:ByteArray:=ByteArray.empty
 A8:Bool:=false
 At:Ag:={}
structure AX where
 (By Bz Bv B3 B4 Bg Bn:Bool:=false)
structure A1 where
 (K T:Int:=0)
structure Ap where
 X:List Int:=[]
 (Z Bc Be A7 Ba:Int:=0)
 G:List Int:=[]
structure BL where
 V:List Ab:=[]
 Ah:Int:=0
 Av:List Ap:=[]
structure Bd where
 Ah:Int:=0
 A0:List Int:=[]
 A9:List A1:=[]
 (A2 A3:A1:={})
 (Z Bf:Int:=0)
structure Aj where
 (Bh Bj Bk Bl:Int:=0)
 Bm:A1:={}
structure Co where
 (C Z:Int:=0)
structure K2 where
 (Z Bo Bp Bq Br Bs:Int:=0)
structure A4 where
 Kind:Int:=0
 Number:A1:={}
 Table:BL:={}
 Model:Bd:={}
 Curve:List Aj:=[]
 Hist:List Co:=[]
 Box:K2:={}
 Lineage:List Int:=[]
structure Ar where
 J:ByteArray:=ByteArray.empty
 A8:Bool:=false
 Ai:A4:={}
structure Fz where
 Ak:Aa:={}
 U:Ad:={}
structure A6 where
 N:Fz:={}
 A5:List Ar:=[]
structure Ao where
 (E C:Int:=0)
structure BF where
 J:ByteArray:=ByteArray.empty
 Kind:Int:=0
 Bu:Ae:={}
 V:List Ab:=[]
 Ah:Int:=0
 A0:List Int:=[]
 Y:Ae:={}
structure Ac where
 Ay:List Int:=[]
 Aw:Int:=0
structure CH where
 Bi:Aa:={}
 G:List (List Int):=[]
 B6:List Int:=[]
 As:Int:=0
structure Lt where
 (B0 Of B1:Int:=0)
structure B2 where
 (Aq B9:ByteArray:=ByteArray.empty)
 Bw:Ae:={}
 Bx:Lt:={}
 B5:List BF:=[]
structure Au where
 (E C:Int:=0)
structure C6 where
 (B7 Bb:Int:=0)
 B8:List Int:=[]
def FE(x:Fx):D:=.agg [.str x.J,.int .i64 x.Bt]
def q7 xs a0 a:xs.map FE++[D.agg [.str a0,.int .i64 a]]=(xs++[{ J:=a0,Bt:=a }]).map FE:=by simp[FE,Aq]
def Ak(x:Am):D:=.agg [.str x.J,Aq 2 FE x.X]
def Aw(x:Ax):D:=.agg [.str x.J,.int .i64 x.Kind,.int .i64 x.Al,.int .i64 x.C,.int .i64 x.E,Aq 1 (D.int .i64) x.L,.bool x.An]
def Sr xs a0 a b c d e f:xs.map Aw++[D.agg [.str a0,.int .i64 a,.int .i64 b,.int .i64 c,.int .i64 d,D.list 1 (φ (D.int .i64) e),.bool f]]=(xs++[{ J:=a0,Kind:=a,Al:=b,C:=c,E:=d,L:=e,An:=f }]).map Aw:=by simp[Aw,Aq]
def Cr(x:Aa):D:=.agg [Aq 2 Ak x.S,Aq 7 Aw x.A]
def Af(x:Ab):D:=.agg [.int .i64 x.B,.int .i64 x.H]
def VY xs a0 a:xs.map Af++[D.agg [.int .i64 a0,.int .i64 a]]=(xs++[{ B:=a0,H:=a }]).map Af:=by simp[Af,Aq]
def Cm(x:Ad):D:=.agg [.str x.Aq,.int .i64 x.As,Aq 2 Af x.I,Aq 1 (Aq 1 (D.int .i64)) x.G]
mutual
def A8:Ae->D| ⟨Op,Column,Code,Low,High,Kids⟩=>.agg [(.int .i64 Op),(.int .i64 Column),(.int .i64 Code),(.int .i64 Low),(.int .i64 High),(.list 6 (UH Kids))]
def UH:List Ae->List D| []=>[]| x::r=>A8 x::UH r
end
theorem ZV:∀l:Γ Ae,UH l=l.map A8
 | []=>by simp[UH]
 | x::r=>by simp[UH,ZV r]
def Cc(x:Ae):D:=.agg [.int .i64 x.Op,.int .i64 x.B,.int .i64 x.Af,.int .i64 x.C,.int .i64 x.E,Aq 6 A8 x.D]
def AN x:A8 x=Cc x:=by
 obtain⟨Op,a,Code,c,b,Kids⟩:=x;simp only[A8,ZV];rfl
mutual
def C8:Ag->D| ⟨Op,Num,Name,Column,Columns,Dims,Cond,Event,Kids⟩=>.agg [(.int .i64 Op),(.int .i64 Num),(.str Name),(.int .i64 Column),(Aq 1 (D.int .i64) Columns),(Aq 2 Af Dims),(.int .i64 Cond.Op),(.int .i64 Cond.B),(.int .i64 Cond.Af),(.int .i64 Cond.C),(.int .i64 Cond.E),(Aq 6 A8 Cond.D),(.int .i64 Event.Op),(.int .i64 Event.B),(.int .i64 Event.Af),(.int .i64 Event.C),(.int .i64 Event.E),(Aq 6 A8 Event.D),(.list 19 (UI Kids))]
def UI:List Ag->List D| []=>[]| x::r=>C8 x::UI r
end
theorem ZW:∀l:Γ Ag,UI l=l.map C8
 | []=>by simp[UI]
 | x::r=>by simp[UI,ZW r]
def AF(x:Ag):D:=.agg [.int .i64 x.Op,.int .i64 x.K,.str x.J,.int .i64 x.B,Aq 1 (D.int .i64) x.A,Aq 2 Af x.V,.int .i64 x.Q.Op,.int .i64 x.Q.B,.int .i64 x.Q.Af,.int .i64 x.Q.C,.int .i64 x.Q.E,Aq 6 A8 x.Q.D,.int .i64 x.Y.Op,.int .i64 x.Y.B,.int .i64 x.Y.Af,.int .i64 x.Y.C,.int .i64 x.Y.E,Aq 6 A8 x.Y.D,Aq 19 C8 x.D]
def Be x:C8 x=AF x:=by
 obtain⟨Op,f,c,b,a,d,e,Event,Kids⟩:=x;simp only[C8,ZW];rfl
def Bf(x:Az):D:=.agg [.str x.J,.bool x.A8,.int .i64 x.At.Op,.int .i64 x.At.K,.str x.At.J,.int .i64 x.At.B,Aq 1 (D.int .i64) x.At.A,Aq 2 Af x.At.V,.int .i64 x.At.Q.Op,.int .i64 x.At.Q.B,.int .i64 x.At.Q.Af,.int .i64 x.At.Q.C,.int .i64 x.At.Q.E,Aq 6 A8 x.At.Q.D,.int .i64 x.At.Y.Op,.int .i64 x.At.Y.B,.int .i64 x.At.Y.Af,.int .i64 x.At.Y.C,.int .i64 x.At.Y.E,Aq 6 A8 x.At.Y.D,Aq 19 C8 x.At.D]
def eC xs a0 l m n o p q r s t a b c d e f g h i j k:xs.map Bf++[D.agg [.str a0,.bool l,.int .i64 m,.int .i64 n,.str o,.int .i64 p,D.list 1 (φ (D.int .i64) q),D.list 2 (φ Af r),.int .i64 s,.int .i64 t,.int .i64 a,.int .i64 b,.int .i64 c,D.list 6 (φ A8 d),.int .i64 e,.int .i64 f,.int .i64 g,.int .i64 h,.int .i64 i,D.list 6 (φ A8 j),D.list 19 (φ C8 k)]]=(xs++[{ J:=a0,A8:=l,At:=({ Op:=m,K:=n,J:=o,B:=p,A:=q,V:=r,Q:=({ Op:=s,B:=t,Af:=a,C:=b,E:=c,D:=d }:Ae),Y:=({ Op:=e,B:=f,Af:=g,C:=h,E:=i,D:=j }:Ae),D:=k }:Ag) }]).map Bf:=by simp[Bf,Aq]
def I6(x:AX):D:=.agg [.bool x.By,.bool x.Bz,.bool x.Bv,.bool x.B3,.bool x.B4,.bool x.Bg,.bool x.Bn]
def De(x:A1):D:=.agg [.int .i64 x.K,.int .i64 x.T]
def qA xs a0 a:xs.map De++[D.agg [.int .i64 a0,.int .i64 a]]=(xs++[{ K:=a0,T:=a }]).map De:=by simp[De,Aq]
def A7(x:Ap):D:=.agg [Aq 1 (D.int .i64) x.X,.int .i64 x.Z,.int .i64 x.Bc,.int .i64 x.Be,.int .i64 x.A7,.int .i64 x.Ba,Aq 1 (D.int .i64) x.G]
def eE xs a0 a b c d e f:xs.map A7++[D.agg [D.list 1 (φ (D.int .i64) a0),.int .i64 a,.int .i64 b,.int .i64 c,.int .i64 d,.int .i64 e,D.list 1 (φ (D.int .i64) f)]]=(xs++[{ X:=a0,Z:=a,Bc:=b,Be:=c,A7:=d,Ba:=e,G:=f }]).map A7:=by simp[A7,Aq]
def JW(x:BL):D:=.agg [Aq 2 Af x.V,.int .i64 x.Ah,Aq 7 A7 x.Av]
def Sz(x:Bd):D:=.agg [.int .i64 x.Ah,Aq 1 (D.int .i64) x.A0,Aq 2 De x.A9,.int .i64 x.A2.K,.int .i64 x.A2.T,.int .i64 x.A3.K,.int .i64 x.A3.T,.int .i64 x.Z,.int .i64 x.Bf]
def AO(x:Aj):D:=.agg [.int .i64 x.Bh,.int .i64 x.Bj,.int .i64 x.Bk,.int .i64 x.Bl,.int .i64 x.Bm.K,.int .i64 x.Bm.T]
def e9 xs a0 a b c d e:xs.map AO++[D.agg [.int .i64 a0,.int .i64 a,.int .i64 b,.int .i64 c,.int .i64 d,.int .i64 e]]=(xs++[{ Bh:=a0,Bj:=a,Bk:=b,Bl:=c,Bm:=({ K:=d,T:=e }:A1) }]).map AO:=by simp[AO,Aq]
def C7(x:Co):D:=.agg [.int .i64 x.C,.int .i64 x.Z]
def cG xs a0 a:xs.map C7++[D.agg [.int .i64 a0,.int .i64 a]]=(xs++[{ C:=a0,Z:=a }]).map C7:=by simp[C7,Aq]
def bh(xs:Γ Co)i a0 a:(xs.map C7).set i (D.agg [.int .i64 a0,.int .i64 a])=(xs.set i { C:=a0,Z:=a }).map C7:=by rw[Zbr];rfl
def XR(x:K2):D:=.agg [.int .i64 x.Z,.int .i64 x.Bo,.int .i64 x.Bp,.int .i64 x.Bq,.int .i64 x.Br,.int .i64 x.Bs]
def Dg(x:A4):D:=.agg [.int .i64 x.Kind,.int .i64 x.Number.K,.int .i64 x.Number.T,Aq 2 Af x.Table.V,.int .i64 x.Table.Ah,Aq 7 A7 x.Table.Av,.int .i64 x.Model.Ah,Aq 1 (D.int .i64) x.Model.A0,Aq 2 De x.Model.A9,.int .i64 x.Model.A2.K,.int .i64 x.Model.A2.T,.int .i64 x.Model.A3.K,.int .i64 x.Model.A3.T,.int .i64 x.Model.Z,.int .i64 x.Model.Bf,Aq 6 AO x.Curve,Aq 2 C7 x.Hist,.int .i64 x.Box.Z,.int .i64 x.Box.Bo,.int .i64 x.Box.Bp,.int .i64 x.Box.Bq,.int .i64 x.Box.Br,.int .i64 x.Box.Bs,Aq 1 (D.int .i64) x.Lineage]
def A2(x:Ar):D:=.agg [.str x.J,.bool x.A8,.int .i64 x.Ai.Kind,.int .i64 x.Ai.Number.K,.int .i64 x.Ai.Number.T,Aq 2 Af x.Ai.Table.V,.int .i64 x.Ai.Table.Ah,Aq 7 A7 x.Ai.Table.Av,.int .i64 x.Ai.Model.Ah,Aq 1 (D.int .i64) x.Ai.Model.A0,Aq 2 De x.Ai.Model.A9,.int .i64 x.Ai.Model.A2.K,.int .i64 x.Ai.Model.A2.T,.int .i64 x.Ai.Model.A3.K,.int .i64 x.Ai.Model.A3.T,.int .i64 x.Ai.Model.Z,.int .i64 x.Ai.Model.Bf,Aq 6 AO x.Ai.Curve,Aq 2 C7 x.Ai.Hist,.int .i64 x.Ai.Box.Z,.int .i64 x.Ai.Box.Bo,.int .i64 x.Ai.Box.Bp,.int .i64 x.Ai.Box.Bq,.int .i64 x.Ai.Box.Br,.int .i64 x.Ai.Box.Bs,Aq 1 (D.int .i64) x.Ai.Lineage]
def je xs a0 q r s t u v w x y a b c d e f g h i j k l m n o p:xs.map A2++[D.agg [.str a0,.bool q,.int .i64 r,.int .i64 s,.int .i64 t,D.list 2 (φ Af u),.int .i64 v,D.list 7 (φ A7 w),.int .i64 x,D.list 1 (φ (D.int .i64) y),D.list 2 (φ De a),.int .i64 b,.int .i64 c,.int .i64 d,.int .i64 e,.int .i64 f,.int .i64 g,D.list 6 (φ AO h),D.list 2 (φ C7 i),.int .i64 j,.int .i64 k,.int .i64 l,.int .i64 m,.int .i64 n,.int .i64 o,D.list 1 (φ (D.int .i64) p)]]=(xs++[{ J:=a0,A8:=q,Ai:=({ Kind:=r,Number:=({ K:=s,T:=t }:A1),Table:=({ V:=u,Ah:=v,Av:=w }:BL),Model:=({ Ah:=x,A0:=y,A9:=a,A2:=({ K:=b,T:=c }:A1),A3:=({ K:=d,T:=e }:A1),Z:=f,Bf:=g }:Bd),Curve:=h,Hist:=i,Box:=({ Z:=j,Bo:=k,Bp:=l,Bq:=m,Br:=n,Bs:=o }:K2),Lineage:=p }:A4) }]).map A2:=by simp[A2,Aq]
def G6(x:Fz):D:=.agg [Aq 2 Ak x.Ak.S,Aq 7 Aw x.Ak.A,.str x.U.Aq,.int .i64 x.U.As,Aq 2 Af x.U.I,Aq 1 (Aq 1 (D.int .i64)) x.U.G]
def G7(x:A6):D:=.agg [Aq 2 Ak x.N.Ak.S,Aq 7 Aw x.N.Ak.A,.str x.N.U.Aq,.int .i64 x.N.U.As,Aq 2 Af x.N.U.I,Aq 1 (Aq 1 (D.int .i64)) x.N.U.G,Aq 26 A2 x.A5]
def DJ(x:Ao):D:=.agg [.int .u64 x.E,.int .u64 x.C]
def F3(x:BF):D:=.agg [.str x.J,.int .i64 x.Kind,.int .i64 x.Bu.Op,.int .i64 x.Bu.B,.int .i64 x.Bu.Af,.int .i64 x.Bu.C,.int .i64 x.Bu.E,Aq 6 A8 x.Bu.D,Aq 2 Af x.V,.int .i64 x.Ah,Aq 1 (D.int .i64) x.A0,.int .i64 x.Y.Op,.int .i64 x.Y.B,.int .i64 x.Y.Af,.int .i64 x.Y.C,.int .i64 x.Y.E,Aq 6 A8 x.Y.D]
def Lw(x:Ac):D:=.agg [Aq 1 (D.int .u8) x.Ay,.int .i64 x.Aw]
def Nk(x:CH):D:=.agg [Aq 2 Ak x.Bi.S,Aq 7 Aw x.Bi.A,Aq 1 (Aq 1 (D.int .i64)) x.G,Aq 1 (D.int .i64) x.B6,.int .i64 x.As]
def Pt(x:Lt):D:=.agg [.int .i64 x.B0,.int .i64 x.Of,.int .i64 x.B1]
def Hg(x:B2):D:=.agg [.str x.Aq,.str x.B9,.int .i64 x.Bw.Op,.int .i64 x.Bw.B,.int .i64 x.Bw.Af,.int .i64 x.Bw.C,.int .i64 x.Bw.E,Aq 6 A8 x.Bw.D,.int .i64 x.Bx.B0,.int .i64 x.Bx.Of,.int .i64 x.Bx.B1,Aq 17 F3 x.B5]
def Lx(x:Au):D:=.agg [.int .u64 x.E,.int .u64 x.C]
def EI(x:C6):D:=.agg [.int .i64 x.B7,.int .i64 x.Bb,Aq 1 (D.int .i64) x.B8]
def it xs a0 a b:xs.map EI++[D.agg [.int .i64 a0,.int .i64 a,D.list 1 (φ (D.int .i64) b)]]=(xs++[{ B7:=a0,Bb:=a,B8:=b }]).map EI:=by simp[EI,Aq]
def A0(p0:Γ Int):=bif rm 0 (Ξ p0) then θ p0 else κ
def Fy(xs:Γ Int):=xs.mergeSort λx y=>x<=y
def B1 p0:=bif rm 0 (Ξ p0) then θ (Fy p0)else κ
def FB(p0:Int):Δ Θ:=bif (0<=p0/\p0<100)then θ ⟨(Go.Lib.decDigits p0.toNat).toArray⟩else κ
def EN(p0:Γ Int)(p1:Int->Δ Ω):=bif(rm 0 (Ξ p0)&&p0.all λx=>(p1 x).isSome)then θ (p0.filter λx=>p1 x==θ ξ)else κ
open Go
def E4(p0:Γ Int):=bif Ξ p0<=1000000 then θ (Lib.compact p0)else κ
def Pk(m:Γ (Γ Int))r c:=(m.getD r []).getD c 0
structure eZ(w:World)(v:Value)(m:List (List Int))(ga:Option Addr)(gb go Gc:Nat)(A:Nat->Option Addr)(C RB RO:Nat->Nat):Prop where
 val:v=.slice ga m.length Gc
 ga:0<m.length->ga=some ⟨gb,go,none⟩
 row:∀r,r<m.length->w.cell? ⟨gb,go+r,none⟩=some (.slice (A r) ((m.getD r []).length) (C r))
 cell:∀r,r<m.length->∀c,c<(m.getD r []).length->A r=some ⟨RB r,RO r,none⟩/\w.cell? ⟨RB r,RO r+c,none⟩=some (.int .i64 (Pk m r c))
def JF{O}{w}{v}{l:Γ Int}(h:A5 O w v (D.list 1 (l.map (D.int .i64)))):
 ∃a cap b o,v=.slice a (Ξ l) cap/\∀c,c<Ξ l->a=θ ⟨b,o,κ⟩/\¬O b/\b<w.heap.size/\w.cell? ⟨b,o+c,κ⟩=θ (.int .i64 (l.getD c 0)):=by
 generalize hx:D.list 1 (l.map (D.int .i64))=x at h
 cases h<;>simp only[D.list.injEq,reduceCtorEq]at hx
 case emp a cap sz=>
  have:l=[]:=List.map_eq_nil_iff.1 hx.2;subst this;exact⟨a,cap,0,0,rfl,λc f=>absurd f (Zfu _)⟩
 case list b off cap sz xs c hne hb hO hcap hsz h1 hcell h=>
  obtain⟨rfl,rfl⟩:=hx;refine⟨θ ⟨b,off,κ⟩,cap,b,off,by rw[Zac],λk d=>⟨rfl,hO,hb,?_⟩⟩;have e:(l.map (D.int .i64))[k]?=θ (D.int .i64 l[k]):=by simp[d]
  have:=hcell k (D.int .i64 l[k]) 0 (D.int .i64 l[k]) e rfl;have r:=h k (D.int .i64 l[k]) 0 (D.int .i64 l[k]) e rfl;rw[Zdu,Zcy]at this;rw[this];generalize c k 0=q at r
  cases r
  simp[List.getD,d]
def Yb{O}{w}{v}{m}(h:A5 O w v (D.list 1 (m.map (Aq 1 (D.int .i64))))):
 ∃l gb go Gc A C RB RO,eZ w v m l gb go Gc A C RB RO/\(0<Ξ m->¬O gb/\gb<w.heap.size)/\∀r,r<Ξ m->∀c,c<Ξ (m.getD r [])->¬O (RB r)/\RB r<w.heap.size:=by
 generalize hx:D.list 1 (m.map (Aq 1 (D.int .i64)))=x at h
 cases h<;>simp only[D.list.injEq,reduceCtorEq]at hx
 case emp a cap sz=>
  have:m=[]:=List.map_eq_nil_iff.1 hx.2;subst this;exact⟨a,0,0,cap,λ_=>κ,λ_=>0,λ_=>0,λ_=>0,⟨rfl,λh=>absurd h (Nat.lt_irrefl _),λr h=>absurd h (Zfu _),λr h=>absurd h (Zfu _)⟩,λh=>absurd h (Nat.lt_irrefl _),λr h=>absurd h (Zfu _)⟩
 case list b off cap sz xs c hne hb hO hcap hsz h1 hcell h=>
  obtain⟨rfl,rfl⟩:=hx
  have hr:∀r,∃q:Δ Addr×Nat×Nat×Nat,r<m.length->w.cell? ⟨b,off+r,κ⟩=θ (.slice q.1 ((m.getD r []).length) q.2.1) /\
   ∀k,k<(m.getD r []).length->q.1=θ ⟨q.2.2.1,q.2.2.2,κ⟩/\¬O q.2.2.1/\q.2.2.1<w.heap.size/\w.cell? ⟨q.2.2.1,q.2.2.2+k,κ⟩=θ (.int .i64 (Pk m r k)):=by
   intro r;by_cases d:r<m.length
   ·have j:(m.map (Aq 1 (D.int .i64)))[r]?=θ ((Aq 1 (D.int .i64)) m[r]):=by simp[d]
    have g:m.getD r []=m[r]:=by simp[List.getD,d]
    have e:=hcell r ((Aq 1 (D.int .i64)) m[r]) 0 ((Aq 1 (D.int .i64)) m[r]) j rfl;have hd:=h r ((Aq 1 (D.int .i64)) m[r]) 0 ((Aq 1 (D.int .i64)) m[r]) j rfl;obtain⟨a,n,o,o',p,s⟩:=JF hd;refine⟨(a,n,o,o'),λ_=>⟨?_,?_⟩⟩
    ·rw[Zdu,Zcy]at e;rw[e,p,g]
    ·intro k f;rw[g]at f;obtain⟨t,u,y,z⟩:=s k f;refine⟨t,u,y,?_⟩;rw[z];unfold Pk;rw[g]
   ·exact⟨(κ,0,0,0),λh=>absurd h d⟩
  obtain⟨q,i⟩:=Classical.axiomOfChoice hr;refine⟨θ ⟨b,off,κ⟩,b,off,cap,λr=>(q r).1,λr=>(q r).2.1,λr=>(q r).2.2.1,λr=>(q r).2.2.2,⟨by rw[Zac],λ_=>rfl,λr hr=>(i r hr).1,λr hr c e=>?_⟩,λ_=>⟨hO,hb⟩,λr hr c e=>?_⟩
  ·obtain⟨h1,_,_,B⟩:=(i r hr).2 c e;exact⟨h1,B⟩
  ·obtain⟨_,h2,E,_⟩:=(i r hr).2 c e;exact⟨h2,E⟩
def mz z k i(h:i<k):(Builtin.zeroCells #[z] k)[i]?=θ z:=by
 simp[Builtin.zeroCells,h,Nat.mod_one]
structure Mx(w wr:World)(tO tI:TypeId)(n:Nat)(cp:Nat->Nat)(S:Nat->Nat->Int):Prop where
 since:w.Since w.heap.size wr
 size:wr.heap.size=w.heap.size+1+n
 cap:∀j,j<n->n<=cp j
 top:wr.rowIs w.heap.size tO n (λj=>.slice (some ⟨w.heap.size+1+j,0,none⟩) n (cp j))
 row:∀j,j<n->wr.rowIs (w.heap.size+1+j) tI (cp j) λc=>.int .i64 (S j c)
structure R6(w wr:World)(tO tI:TypeId)(n:Nat)(cp:Nat->Nat)(S:Nat->Nat->Int)(r:Nat):Prop where
 since:w.Since w.heap.size wr
 size:wr.heap.size=w.heap.size+1+r
 cap:∀j,j<r->n<=cp j
 top:wr.rowIs w.heap.size tO n (λj=>if j<r then .slice (some ⟨w.heap.size+1+j,0,none⟩) n (cp j)else .slice none 0 0)
 row:∀j,j<r->wr.rowIs (w.heap.size+1+j) tI (cp j) λc=>.int .i64 (S j c)
section
variable {w wr:Λ} {tO tI:Υ} {n r:Nat} {cp:Nat->Nat} {S S':Nat->Nat->Int}
def R6.start w tO tI n cp S:R6 w (w.alloc (.cells (madeCells #[.slice κ 0 0] n) tO)) tO tI n cp S 0:=
 ⟨(World.Since.refl _ _).alloc (Zam _) _,zs,λj a=>absurd a (Zfu _),(World.rowIs_made w _ n tO).congr λj _=>zs,λj a=>absurd a (Zfu _)⟩
def R6.step(h:R6 w wr tO tI n cp S r){u}{c}(m:n<=c)(a:wr.Since wr.heap.size u)(f:u.heap.size=wr.heap.size+1)(g:u.rowIs wr.heap.size tI c λc=>.int .i64 (S r c)):
 R6 w (u.setCell ⟨w.heap.size,r,κ⟩ (.slice (θ ⟨w.heap.size+1+r,0,κ⟩) n c)) tO tI n (λj=>if j=r then c else cp j) S (r+1):=by
 have d:w.Since w.heap.size u:=h.since.trans ⟨a.os,a.tape,a.output,a.size,λk i=>a.block k (by rw[h.size];omega)⟩;have l:∀k,k<w.heap.size+1+r->u.heap[k]?=wr.heap[k]?:=λk i=>a.block k (by rw[h.size];exact i);rw[h.size]at f g;refine⟨d.setCell (Zam _) _,by simp[f];omega,λj o=>?_,((h.top.of_block (l _ z0)).set r _).congr λj _=>?_,λj o=>?_⟩
 ·by_cases e:j=r
  ·simp only[e];simpa using m
  ·simp only[e,if_false];exact h.cap j z0
 ·by_cases e:j=r
  ·subst e;simp
  ·by_cases b:j<r
   ·rw[Zah e,Zai b,Zai z0,Zah e]
   ·rw[Zah e,Zah b,Zah z0]
 ·by_cases e:j=r
  ·subst e;simp only[if_true];exact g.setOther (by show w.heap.size+1+j≠w.heap.size;omega) _
  ·simp only[e,if_false];exact((h.row j z0).of_block (l _ z0)).setOther (by show w.heap.size+1+j≠w.heap.size;omega) _
def R6.cp_congr(h:R6 w wr tO tI n cp S r){b}(e:∀j,j<r->b j=cp j):R6 w wr tO tI n b S r:=
 ⟨h.since,h.size,λj a=>by rw[e j a];exact h.cap j a,h.top.congr λj _=>by
  by_cases a:j<r
  ·rw[Zai a,Zai a,e j a]
  ·rw[Zah a,Zah a],λj a=>by rw[e j a];exact h.row j a⟩
def R6.done(h:R6 w wr tO tI n cp S n):Mx w wr tO tI n cp S:=⟨h.since,h.size,h.cap,h.top.congr λj a=>by rw[Zai a],h.row⟩
def R6.congr(h:R6 w wr tO tI n cp S r)(e:∀i j,i<r->S i j=S' i j):R6 w wr tO tI n cp S' r:=⟨h.since,h.size,h.cap,h.top,λj a=>(h.row j a).congr λc _=>by rw[e j c a]⟩
def R6.drew(h:R6 w wr tO tI n cp S r):R6 w wr.drew tO tI n cp S r:=⟨h.since.drew,h.size,h.cap,h.top,h.row⟩
def R6.set(h:R6 w wr tO tI n cp S r){i j}v(e:∀a b,a<r->b<cp a->S' a b=if a=i/\b=j then v else S a b):R6 w (wr.setCell ⟨w.heap.size+1+i,j,κ⟩ (.int .i64 v)) tO tI n cp S' r:=by
 refine⟨h.since.setCell (by show w.heap.size<=w.heap.size+1+i;omega) _,by simp[h.size],h.cap,h.top.setOther (by show w.heap.size≠w.heap.size+1+i;omega) _,λa c=>?_⟩;by_cases g:a=i
 ·subst g;refine((h.row a c).set j _).congr λb d=>?_;rw[e a b c d];by_cases f:b=j
  ·simp[f]
  ·simp[f]
 ·refine((h.row a c).setOther (by show w.heap.size+1+a≠w.heap.size+1+i;omega) _).congr λb d=>?_;rw[e a b c d,Zah z0]
def Mx.congr(h:Mx w wr tO tI n cp S)(e:∀i j,i<n->j<cp i->S i j=S' i j):Mx w wr tO tI n cp S':=⟨h.since,h.size,h.cap,h.top,λj a=>(h.row j a).congr λc b=>by rw[e j c a b]⟩
def Mx.set(h:Mx w wr tO tI n cp S){i j}v(e:∀a b,a<n->b<cp a->S' a b=if a=i/\b=j then v else S a b):Mx w (wr.setCell ⟨w.heap.size+1+i,j,κ⟩ (.int .i64 v)) tO tI n cp S':=by
 refine⟨h.since.setCell (by show w.heap.size<=w.heap.size+1+i;omega) _,by simp[h.size],h.cap,h.top.setOther (by show w.heap.size≠w.heap.size+1+i;omega) _,λa c=>?_⟩;by_cases g:a=i
 ·subst g;refine((h.row a c).set j _).congr λb d=>?_;rw[e a b c d];by_cases f:b=j
  ·simp[f]
  ·simp[f]
 ·refine((h.row a c).setOther (by show w.heap.size+1+a≠w.heap.size+1+i;omega) _).congr λb d=>?_;rw[e a b c d,Zah z0]
def Mx.data(h:Mx w wr tO tI n cp S){O}(m:∀b,O b->b<w.heap.size)(p:0<n):A5 O wr (.slice (θ ⟨w.heap.size,0,κ⟩) n n) (D.list 1 (((List.range n).map λi=>(List.range n).map λj=>S i j).map (Aq 1 (D.int .i64)))):=by
 obtain⟨M,g⟩:∃M:Γ (Γ Int),M=(List.range n).map λi=>(List.range n).map λj=>S i j:=⟨_,rfl⟩;rw[<-g];have k:n=(M.map (Aq 1 (D.int .i64))).length:=by rw[g];simp
 have o:∀i x,(M.map (Aq 1 (D.int .i64)))[i]?=θ x->i<n/\x=Aq 1 (D.int .i64) ((List.range n).map λj=>S i j):=by
  intro i x hx;rw[g,Zfo,Zaz]at hx;by_cases c:i<n
  ·rw[Zeg c]at hx;exact⟨c,(Zaf hx).symm⟩
  ·rw[Zbj (by simpa using c)]at hx
   cases hx
 have:=A5.list (O:=O) (w:=wr) w.heap.size 0 n 1 (M.map (Aq 1 (D.int .i64))) (λi _=>.slice (θ ⟨w.heap.size+1+i,0,κ⟩) n (cp i)) (by intro e;rw[e]at k;simp at k;omega) (by rw[h.size];omega) (λl=>by have:=m _ l;omega) z0
  (λx hx=>by obtain⟨r,_,rfl⟩:=List.mem_map.1 hx;rfl) (λx hx y hy=>by obtain⟨r,_,rfl⟩:=List.mem_map.1 hx;simp[D.cells]at hy;subst hy;rfl)
  (λi x j y hx hy=>by
   obtain⟨c,rfl⟩:=o i x hx
   match j,hy with
   | 0,_=>rw[Zdu,Zcy,Zbn];exact h.top.cell c
   | j+1,hy=>simp[D.cells]at hy)
  (λi x j y hx hy=>by
   obtain⟨c,rfl⟩:=o i x hx
   match j,hy with
   | j+1,hy=>simp[D.cells]at hy
   | 0,hy=>
     simp[D.cells]at hy;subst hy;have d:n=(((List.range n).map λj=>S i j).map (D.int .i64)).length:=zs
     have:=A5.list (O:=O) (w:=wr) (w.heap.size+1+i) 0 (cp i) 1 (((List.range n).map λj=>S i j).map (D.int .i64)) (λj _=>.int .i64 (S i j)) (by intro e;rw[e]at d;simp at d;omega) (by rw[h.size];omega) (λl=>by have:=m _ l;omega) (by rw[<-d];exact h.cap i c)
      (λx hx=>by obtain⟨r,_,rfl⟩:=List.mem_map.1 hx;rfl) (λx hx y hy=>by obtain⟨r,_,rfl⟩:=List.mem_map.1 hx;simp[D.cells]at hy;subst hy;rfl)
      (λa x b y hx hy=>by
       rw[Zfo,Zaz]at hx;by_cases f:a<n
       ·rw[Zeg f]at hx;obtain rfl:=Zaf hx
        match b,hy with
        | 0,_=>rw[Zdu,Zcy,Zbn];exact(h.row i c).cell (Zbc f (h.cap i c))
        | b+1,hy=>simp[D.cells]at hy
       ·rw[Zbj (by simpa using f)]at hx
        cases hx)
      (λa x b y hx hy=>by
       rw[Zfo,Zaz]at hx;by_cases f:a<n
       ·rw[Zeg f]at hx;obtain rfl:=Zaf hx
        match b,hy with
        | 0,hy=>simp[D.cells]at hy;subst hy;exact .int _ _
        | b+1,hy=>simp[D.cells]at hy
       ·rw[Zbj (by simpa using f)]at hx
        cases hx)
     rw[<-d]at this;exact this)
 rw[<-k]at this;exact this
end
def Md:Γ (Γ Int)->Γ Ω->Int->Int
 | [],_,p=>p
 | r::rs,tk,p=>go rs tk r 0 p 0
where
 go (rs:Γ (Γ Int)) (tk:Γ Ω):Γ Int->Nat->Int->Int->Int
  | [],_,_,s=>s
  | x::xs,k,p,s=>bif tk.getD k ν then go rs tk xs (k+1) p s
      else go rs tk xs (k+1) (-p) (bif x==0 then s else s+Md rs (tk.set k ν) (p*x))
def WB m:=Md m (m.map λ_=>ξ) 1
def dV(g:Nat->Int):Γ Nat->Int| []=>0| c::cs=>g c-dV g cs
def g8:Γ (Γ Int)->Γ Nat->Int| [],_=>1| r::rs,cols=>dV (λc=>r.getD c 0*g8 rs (cols.erase c)) cols
def Rz(tk:Γ Ω)k:=(List.range' k (Ξ tk-k)).filter λc=>!(tk.getD c ν)
def pI a k(h:k<Ξ a):Rz a k=bif a.getD k ν then Rz a (k+1)else k::Rz a (k+1):=by
 unfold Rz;rw[show a.length-k=(a.length-(k+1))+1 by omega,List.range'_succ,Zfg]
 cases a.getD k ν<;>simp
def tQ a k(h:Ξ a<=k):Rz a k=[]:=by
 unfold Rz;rw[show a.length-k=0 by omega];rfl
def tR a k(h:k<Ξ a):Rz (a.set k ν) 0=(Rz a 0).erase k:=by
 have b:(Rz a 0).Nodup:=(List.nodup_range' (step:=1)).filter _;rw[b.erase_eq_filter];unfold Rz;rw[List.filter_filter,Zdo];apply Zgd;intro c f;by_cases e:k=c
 ·subst e;simp[Zao,h]
 ·have d:c≠k:=λx=>e x.symm;simp[Zao,e,d]
theorem wI n rs(ih:∀a p,Ξ a=n->Md rs a p=p*g8 rs (Rz a 0))(r:Γ Int)(hr:Ξ r=n)a(b:Ξ a=n):
 ∀j k,k+j=n->∀p s,Md.go rs a (r.drop k) k p s=s+p*dV (λc=>r.getD c 0*g8 rs ((Rz a 0).erase c)) (Rz a k)
 | 0,k,hj,p,s=>by
   rw[Zfn z0,tQ a k z0];simp[Md.go,dV]
 | j+1,k,hj,p,s=>by
   have d:k<r.length:=z0
   rw[Zgj d,pI a k z0];simp only[Md.go]
   cases hb:a.getD k ν with
   | true=>simp only[Zav];exact wI n rs ih r hr a b j (k+1) z0 p s
   | false=>
     simp only[Zaq,dV];rw[wI n rs ih r hr a b j (k+1) z0,show r.getD k 0=r[k] by simp[Zao,d]]
     cases hx:(r[k]==0)with
     | true=>
       have e:r[k]=0:=by simpa using hx
       simp only[Zav,e,Int.zero_mul,Int.zero_sub,Int.mul_neg,Int.neg_mul]
     | false=>
       simp only[Zaq];rw[ih _ _ (by simp[b]),tR a k z0,Int.mul_sub,Int.mul_assoc,Int.neg_mul];omega
theorem sI n:∀rs,(∀r∈rs,Ξ r=n)->∀a p,Ξ a=n->Md rs a p=p*g8 rs (Rz a 0)
 | [],_,a,p,_=>by simp[Md,g8]
 | r::rs,h,a,p,b=>by
   have:=wI n rs (λa p b=>sI n rs (λr hr=>h r (Zdn _ hr)) a p b) r (h r (Zdg)) a b n 0 z0 p 0;simp only[List.drop_zero,Int.zero_add]at this;simp only[Md,g8,this]
def nF n:Rz (List.replicate n ξ) 0=List.range n:=by
 unfold Rz;rw[Zdw,Nat.sub_zero,List.range_eq_range',List.filter_eq_self];intro c a;have:c<n:=by simpa using a
 simp[Zao,this]
def yV m(h:∀r∈m,Ξ r=Ξ m):WB m=g8 m (List.range (Ξ m)):=by
 unfold WB;rw[sI m.length m h _ _ zs,Int.one_mul,<-nF,List.map_const']
def Pm:Γ Int->Nat| []=>0| x::xs=>x.natAbs+Pm xs
def gH:Γ (Γ Int)->Nat| []=>1| r::rs=>Pm r*gH rs
theorem wJ B rs(ih:∀a p,(Md rs a p).natAbs<=p.natAbs*B)a:
 ∀xs k p s,(Md.go rs a xs k p s).natAbs<=s.natAbs+p.natAbs*(Pm xs*B)
 | [],k,p,s=>by simp[Md.go]
 | x::xs,k,p,s=>by
   have e:(x.natAbs+Pm xs)*B=x.natAbs*B+Pm xs*B:=Zcu _ _ _;simp only[Md.go,Pm,e,Nat.mul_add]
   cases a.getD k ν with
   | true=>simp only[Zav];have:=wJ B rs ih a xs (k+1) p s;omega
   | false=>
     simp only[Zaq];have h:=wJ B rs ih a xs (k+1) (-p) (bif x==0 then s else s+Md rs (a.set k ν) (p*x));rw[Int.natAbs_neg]at h;have h2:=ih (a.set k ν) (p*x);rw[Int.natAbs_mul,Zde]at h2
     cases hx:(x==0)with
     | true=>rw[hx]at h;simp only[Zav]at h ⊢;omega
     | false=>
       rw[hx]at h;simp only[Zaq]at h ⊢;have:=Int.natAbs_add_le s (Md rs (a.set k ν) (p*x));omega
theorem sJ:∀rs a p,(Md rs a p).natAbs<=p.natAbs*gH rs
 | [],a,p=>by simp[Md,gH]
 | r::rs,a,p=>by
   have:=wJ (gH rs) rs (sJ rs) a r 0 p 0
   simpa [Md,gH] using this
def yW m:(WB m).natAbs<=gH m:=by
 have:=sJ m (m.map λ_=>ξ) 1
 simpa [WB] using this
end Go.Proofs.YthifolbledpmkaaGreatDoor.P
namespace Go.Proofs.YthifolbledpmkaaGreatDoor.P.F
def Hi(z:Int):=z/18446744073709551616%18446744073709551616
def Lo(z:Int):=z%18446744073709551616
def pU(x:Int):Γ Int->Γ Int| []=>[x]| y::r=>bif υ (x<y)then x::y::r else bif x==y then y::r else y::pU x r
def setU(xs:Γ Int):=xs.foldr pU []
end Go.Proofs.YthifolbledpmkaaGreatDoor.P.F
namespace Go.Proofs.YthifolbledpmkaaGreatDoor.P
def Ng(m:Γ (Γ Int)):Nat->Nat->Nat->Int| 0,_,_=>0| k+1,a,b=>Go.IntKind.i64.wrap (Ng m k a b+Go.IntKind.i64.wrap (Pk m k a*Pk m k b))
def Vk m col(b:Γ Int)i c:=if c=col then b.getD i 0 else Pk m i c
def ek n(S:Nat->Nat->Int):=(List.range n).map λi=>(List.range n).map λj=>S i j
def lenM(m:Γ (Γ Int))n:=m.all λr=>Ξ r==n
def Pa p0:=bif (0<Ξ p0/\Ξ p0<=1000000/\0<Ξ (p0.getD 0 [])/\Ξ (p0.getD 0 [])<=1000000)&&lenM p0 (Ξ (p0.getD 0 [])) then θ (ek (Ξ (p0.getD 0 [])) (Ng p0 (Ξ p0)))else κ
def JE p0(p1:Int)p2:=bif (0<=p1/\p1<Ξ p0/\Ξ p0<=1000000/\Ξ p0<=Ξ p2)&&lenM p0 (Ξ p0) then θ (ek (Ξ p0) (Vk p0 p1.toNat p2))else κ
def Aas n:=υ (-9223372036854775808<=n/\n<=9223372036854775807)
def LY(z:Int):Ao:={ E:=F.Hi z,C:=F.Lo z }
def bp(n:Int):=υ (0<=n/\n<18446744073709551616)
def Ev p0:=bif (0<Ξ p0/\Ξ p0<=1000)&&(lenM p0 (Ξ p0)&&p0.all λr=>r.all Aas)then θ (LY (WB p0))else κ
def BX p0 p1:=bif bp p0&&bp p1 then θ (p0*p1/18446744073709551616,p0*p1%18446744073709551616)else κ
def BI p0 p1 p2:=bif(bp p0&&bp p1)&&(p2==0||p2==1)then θ ((p0+p1+p2)%18446744073709551616,(p0+p1+p2)/18446744073709551616)else κ
def MC(p0 p1 p2:Int):Δ (Int×Int):=bif(bp p0&&bp p1)&&(p2==0||p2==1)then θ ((p0-p1-p2)%18446744073709551616,if p0<p1+p2 then 1 else 0)else κ
def EJ x:=if x=0 then 0 else x.log2+1
def tzN:Nat->Nat->Nat| 0,_=>0| k+1,x=>if x%2=1 then 0 else tzN k (x/2)+1
def MB(p0:Int):Δ Int:=bif bp p0 then θ (EJ p0.toNat)else κ
def Fc(p0:Int):Δ Int:=bif bp p0&&p0 != 0 then θ (tzN 64 p0.toNat)else κ
def F6 p0 p1:=bif (Ξ p0<=100000/\Ξ p1<=100000)then θ (F.setU (p0++p1))else κ
open Go.Abs Go.Proofs
abbrev Uv(a:Θ):=bif a.toList==({ data:=#[97,108,108] }:Θ).toList then θ ξ else bif a.toList==({ data:=#[97,110,100] }:Θ).toList then θ ξ else bif a.toList==({ data:=#[101,118,101,110,116] }:Θ).toList then θ ξ else bif a.toList==({ data:=#[102,114,111,109] }:Θ).toList then θ ξ else bif a.toList==({ data:=#[109,105,115,115,105,110,103] }:Θ).toList then θ ξ else bif a.toList==({ data:=#[110,111,116] }:Θ).toList then θ ξ else bif a.toList==({ data:=#[111,110] }:Θ).toList then θ ξ else bif a.toList==({ data:=#[111,114] }:Θ).toList then θ ξ else bif a.toList==({ data:=#[116,111] }:Θ).toList then θ ξ else bif a.toList==({ data:=#[117,110,100,101,114] }:Θ).toList then θ ξ else bif a.toList==({ data:=#[119,104,101,114,101] }:Θ).toList then θ ξ else θ ν
abbrev Ib c(e f:Int->Δ Ω)(b:Int):=bif b<(Ξ (Lu c))then(idx (Lu c) b).bind λa=>bif bif bif bif a<97 then ν else(a>122)then(bif a<48 then ν else(a>57))else ξ then(a != 95)else ξ then θ ξ else f (i64.wrap (b+1))else e b
def JV a:=iter (λb s=>Ib a (λc=>Uv a) b s) Ay 0
def CQ a:=bif bif (a.size:Int)<1 then ν else((a.size:Int)>16)then θ ξ else bif (0<=(0:Int)/\(0:Int).toNat<a.size)then bif (Gi a 0)<97 then θ ξ else bif (0<=(0:Int)/\(0:Int).toNat<a.size)then bif (Gi a 0)>122 then θ ξ else JV a else κ else κ
abbrev We(c:Am)(f:Int->Γ Int->Δ (Γ Int))(e:Int×Γ Int->Δ (Γ Int))(a:Int)b:=bif a<Ξ c.X then(idx c.X a).bind λg=>bif a>0 then(idx b g.Bt).bind λh=>(idx b a).bind λi=>e (i64.wrap (a+1),b.set a.toNat (i64.wrap (h+1)))else e (i64.wrap (a+1),b)else f a b
def IZ a:=bif 0<=(Ξ a.X:Int)&&rm (Ξ a.X:Int).toNat 0 then iter (λb s=>We a (λe c=>θ c) b s.1 s.2) Ay (0,List.replicate (Ξ a.X:Int).toNat 0)else κ
abbrev W8 c g(h:Int->Int->Δ Int)(e:Int×Int->Δ Int)b a:=bif a<c.length then(idx c a).bind λf=>(idx g a).bind λi=>bif i then e (b,i64.wrap (a+1))else bif bif b>=0 then(f != b)else ξ then θ 5 else e (f,i64.wrap (a+1))else h b a
abbrev W9 a b:=(IZ a).bind λc=>iter (λe s=>W8 c b (λf g=>θ 0) e s.1 s.2) Ay ((-1),0)
def W7(f:Am)(h:Int->Γ (Θ×Ω)->Γ Ω->Δ Int)(g:Int×Γ (Θ×Ω)×Γ Ω->Δ Int)(a:Int)c e:=bif a<Ξ f.X then(idx f.X a).bind λb=>(CQ b.J).bind λi=>bif !i then θ 3 else bif(lr b.J c).getD ξ then θ 10 else bif bif bif a==0 then(b.Bt != (-1))else ξ then ν else(bif a>0 then(bif b.Bt<0 then ν else(b.Bt>=a))else ξ)then θ 6 else bif a>0 then(idx e b.Bt).bind λj=>g (i64.wrap (a+1),yv b.J ν c,e.set b.Bt.toNat ν)else g (i64.wrap (a+1),yv b.J ν c,e)else h a c e
def IN a:=(CQ a.J).bind λb=>bif !b then θ 3 else bif(Ξ a.X:Int)==0 then θ 5 else bif (Ξ a.X:Int)>60 then θ 1 else bif 0<=(Ξ a.X:Int)&&rm (Ξ a.X:Int).toNat 0 then iter (λc s=>W7 a (λf g e=>W9 a e) c s.1 s.2.1 s.2.2) Ay (0,[],List.replicate (Ξ a.X:Int).toNat ξ)else κ
abbrev Em b(c:Am->Δ Ω)(e f:Int->Δ Int)a:=bif a<b.length then(idx b a).bind λg=>(c g).bind λh=>bif h then θ a else f (i64.wrap (a+1))else e a
def BZ a b:=iter (λc s=>Em a b (λe=>θ (-1)) c s) Ay 0
def Bz a b:=(BZ a b).bind λc=>θ (υ (c>=0))
def Rv(a b:Am):=θ (a.J.toList==b.J.toList)
abbrev EO b(c:Ax->Δ Ω)(e f:Int->Δ Int)a:=bif a<b.length then(idx b a).bind λg=>(c g).bind λh=>bif h then θ a else f (i64.wrap (a+1))else e a
def Cp a b:=iter (λc s=>EO a b (λe=>θ (-1)) c s) Ay 0
def BA a b:=(Cp a b).bind λc=>θ (υ (c>=0))
def Kk(a b:Ax):=θ (a.J.toList==b.J.toList)
abbrev Jw(e:Ax)(g:Int->Int->Δ Int)(f:Int×Int->Δ Int)(c a:Int):=bif a<Ξ e.L then(idx e.L a).bind λb=>bif bif a==0 then(b != 1)else ξ then θ 2 else bif a>0 then bif b<=c then θ 2 else bif c≠0 then bif bif(Int.tmod b c) != 0 then ν else(b>1000000)then θ 2 else f (b,i64.wrap (a+1))else κ else f (b,i64.wrap (a+1))else g c a
def Gg a:=bif bif bif a.C<(-1000000)then ν else(a.E>1000000)then ν else(a.C>a.E)then θ 2 else bif bif(Ξ a.L:Int)==0 then ν else((Ξ a.L:Int)>4)then θ 1 else iter (λb s=>Jw a (λc e=>θ 0) b s.1 s.2) Ay (1,0)
def G4(a:Ax):=bif bif a.Kind != 2 then(a.Al != 0)else ξ then θ ξ else θ (bif a.Kind==3 then ν else(bif bif bif a.C==0 then(a.E==0)else ξ then((Ξ a.L:Int)==0)else ξ then(!a.An)else ξ))
def GR(e:Aa)b:=(idx e.A b).bind λa=>(CQ a.J).bind λg=>bif !g then θ 3 else bif (0<=(0:Int)/\0<=b/\b<=Ξ e.A)then(BA (Ia e.A 0 b) λa0=>Kk a0 a).bind λh=>bif h then θ 10 else bif a.Kind==1 then bif b>0 then θ 4 else(G4 a).bind λc=>bif !c then θ 11 else θ 0 else bif a.Kind==2 then bif bif a.Al<0 then ν else(a.Al>=Ξ e.S)then θ 5 else(G4 a).bind λc=>bif !c then θ 11 else θ 0 else bif a.Kind==3 then(Gg a).bind λf=>bif f != 0 then θ f else(G4 a).bind λc=>bif !c then θ 11 else θ 0 else θ 4 else κ
abbrev MU b(e f:Int->Δ Int)a:=bif a<b.A.length then(GR b a).bind λc=>bif c != 0 then θ c else f (i64.wrap (a+1))else e a
abbrev Rw a:=bif(Ξ a.A:Int)==0 then θ 7 else(idx a.A 0).bind λb=>bif b.Kind != 1 then θ 7 else iter (λc s=>MU a (λe=>θ 0) c s) Ay 0
abbrev MR(b:Aa)(f g:Int->Δ Int)(a:Int):=bif a<Ξ b.S then(idx b.S a).bind λc=>(IN c).bind λe=>bif e != 0 then θ e else bif (0<=(0:Int)/\0<=a/\a<=Ξ b.S)then(Bz (Ia b.S 0 a) λa0=>Rv a0 c).bind λh=>bif h then θ 10 else g (i64.wrap (a+1))else κ else f a
def DT a:=bif bif (Ξ a.S:Int)>6 then ν else((Ξ a.A:Int)>8)then θ 1 else iter (λb s=>MR a (λc=>Rw a) b s) Ay 0
abbrev Pf c(f:Int->Int->Δ Int)(g:Int×Int->Δ Int)b a:=bif a<c.length then(idx c a).bind λe=>g (if e>b then e else b,i64.wrap (a+1))else f b a
def Mc a:=bif (Ξ a:Int)<1 then κ else(idx a 0).bind λb=>iter (λc s=>Pf a (λe f=>θ e) c s.1 s.2) Ay (b,1)
def Hr a:=(IN a).bind λb=>bif b != 0 then θ (-1)else(IZ a).bind λc=>(Mc c).bind λe=>θ (i64.wrap (e+1))
def G2(a:Aa)(b:Int):=bif bif b<1 then ν else(b>=Ξ a.A)then θ (-1)else(idx a.A b).bind λc=>bif c.Kind==2 then(idx a.S c.Al).bind λe=>(Hr e).bind λf=>θ (i64.wrap (f-1))else θ (Ξ c.L)
def G3(c:Aa)(a:Ab):Δ Int:=(G2 c a.B).bind λb=>bif b<0 then θ 7 else bif bif a.H<0 then ν else(a.H>b)then θ 8 else θ 0
abbrev MW b g(h c:Int->Δ Int)a:=bif a<b.length then(idx b a).bind λe=>(G3 g e).bind λf=>bif f != 0 then θ f else bif a>0 then(idx b (i64.wrap (a-1))).bind λi=>bif e.B<=i.B then θ 10 else c (i64.wrap (a+1))else c (i64.wrap (a+1))else h a
def HQ a c:=(DT a).bind λb=>bif b != 0 then θ b else iter (λe s=>MW c a (λf=>θ 0) e s) Ay 0
def Jy(a:Ax)b:=(idx a.L (i64.wrap (Ξ a.L-b))).bind λc=>θ c
def G1(a b:Int):=bif b≠0 then bif (Int.tmod a b)<0 then θ (i64.wrap (a-(i64.wrap (Int.tmod a b+b))))else θ (i64.wrap (a-(Int.tmod a b)))else κ
def IU b e a:=bif e==0 then θ (b.C,b.E,a==0)else bif bif a<(-2000000)then ν else(a>1000000)then θ (0,0,ξ)else(Jy b e).bind λc=>(G1 a c).bind λf=>θ (if b.C>a then b.C else a,if b.E<(i64.wrap ((i64.wrap (a+c))-1))then b.E else(i64.wrap ((i64.wrap (a+c))-1)),bif f==a then((if b.C>a then b.C else a)<=(if b.E<(i64.wrap ((i64.wrap (a+c))-1))then b.E else(i64.wrap ((i64.wrap (a+c))-1))))else ξ)
abbrev de c(f:Int)(g:Int->Γ Int->Δ (Γ Int))(e:Int×Γ Int->Δ (Γ Int))a b:=bif a<c.length then(idx c a).bind λh=>bif h==f then bif rm (Ξ b) (Ξ [a]) then e (i64.wrap (a+1),b++[a])else κ else e (i64.wrap (a+1),b)else g a b
def Ex a b:=(IN a).bind λc=>bif c != 0 then θ []else(IZ a).bind λe=>iter (λf s=>de e b (λh g=>θ g) f s.1 s.2) Ay (0,[])
def UF a(b:Int):=bif bif b>=0 then(b<Ξ a.X)else ξ then(IN a).bind λc=>θ (c==0)else θ ξ
abbrev dh c(e:Am)(f:Int->Int->Δ Int)(g:Int×Int->Δ Int)b a:=bif a>=c then bif a==c then θ b else(idx e.X b).bind λh=>g (h.Bt,i64.wrap (a-1))else f b a
def J5 a b c:=(UF a b).bind λe=>bif bif !e then ν else(c<0)then θ (-1)else(IZ a).bind λf=>(idx f b).bind λg=>iter (λh s=>dh c a (λi j=>θ (-1)) h s.1 s.2) Ay (b,g)
abbrev T7 b e f g(h i:Int->Δ (Int×Ω))a:=bif a<b.length then(idx b a).bind λc=>(J5 e c f).bind λj=>bif j==g then θ (c,ν)else i (i64.wrap (a+1))else h a
def Bi(f:Aa)h c a:=(idx f.A h).bind λb=>bif b.Kind==3 then bif bif c>0 then(a==(-1099511627776))else ξ then θ (a,b.An)else(IU b c a).bind λg=>θ (g.1,g.2.2)else(idx f.S b.Al).bind λe=>(Hr e).bind λi=>(Ex e (i64.wrap (i-1))).bind λj=>iter (λk s=>T7 j e c a (λl=>θ (0,ξ)) k s) Ay 0
abbrev Hh(b:Γ Ab)e f(g h:Int->Δ Ω)(a:Int):=bif a<Ξ b then(idx b a).bind λc=>(idx e (i64.wrap (a+1))).bind λi=>(Bi f c.B c.H i).bind λj=>bif !j.2 then θ ξ else h (i64.wrap (a+1))else g a
abbrev J9 a b c:=iter (λe s=>Hh a b c (λf=>θ ν) e s) Ay 0
def L1 c b a:=bif Ξ a != (i64.wrap (Ξ b+1))then θ ξ else(idx a 0).bind λe=>bif e<0 then θ ξ else(idx a 0).bind λf=>bif f>1048575 then θ ξ else J9 b a c
abbrev Lz(b:Ad)f(g c:Int->Δ Int)(a:Int):=bif a<Ξ b.G then(idx b.G a).bind λe=>(L1 f b.I e).bind λh=>bif !h then θ 9 else bif a>0 then(idx e 0).bind λi=>(idx b.G (i64.wrap (a-1))).bind λj=>(idx j 0).bind λk=>bif i<=k then θ 10 else c (i64.wrap (a+1))else c (i64.wrap (a+1))else g a
def DK b a:=(DT b).bind λc=>bif c != 0 then θ c else(CQ a.Aq).bind λf=>bif !f then θ 3 else bif bif a.As<0 then ν else(a.As>300)then θ 13 else(HQ b a.I).bind λe=>bif e != 0 then θ e else bif (Ξ a.G:Int)>200 then θ 1 else iter (λg s=>Lz a b (λh=>θ 0) g s) Ay 0
abbrev DV b(c:Az->Δ Ω)(e f:Int->Δ Int)a:=bif a<b.length then(idx b a).bind λg=>(c g).bind λh=>bif h then θ a else f (i64.wrap (a+1))else e a
def BS a b:=iter (λc s=>DV a b (λe=>θ (-1)) c s) Ay 0
def Bj a b:=(BS a b).bind λc=>θ (υ (c>=0))
def Gm(a:Az)(b:Θ):=θ (a.J.toList==b.toList)
def EP a b:=(Bj b λa0=>Gm a0 a).bind λc=>θ c
abbrev P6(c:Ag)e(g:Ag->Int->Δ Int)(f:Int->Int->Δ Int)(h:Int×Int->Δ Int)(a b:Int):=bif b<Ξ c.D then(idx c.D b).bind λi=>bif a>e then f a b else(g i (i64.wrap (e-a))).bind λj=>h (i64.wrap (a+j),i64.wrap (b+1))else f a b
def JG(d:Nat)a b c:=iter (λe s=>P6 b c a (λf g=>θ f) e s.1 s.2) Ay (1,0)
def Ka:Nat->Ag->Int->Δ Int| 0,_,_=>κ| d+1,a,b=>JG d (Ka d) a b
abbrev MD(c:Ag)(f:Ag->Δ Int)(g:Int->Int->Δ Int)(h:Int×Int->Δ Int)(b a:Int):=bif a<Ξ c.D then(idx c.D a).bind λi=>(f i).bind λe=>h (if e>b then e else b,i64.wrap (a+1))else g b a
def IB(d:Nat)a b:=iter (λc s=>MD b a (λe f=>θ (i64.wrap (e+1))) c s.1 s.2) Ay (0,0)
def Gp:Nat->Ag->Δ Int| 0,_=>κ| d+1,a=>IB d (Gp d) a
abbrev GH(c:Ae)e(g:Ae->Int->Δ Int)(f:Int->Int->Δ Int)(h:Int×Int->Δ Int)(a b:Int):=bif b<Ξ c.D then(idx c.D b).bind λi=>bif a>e then f a b else(g i (i64.wrap (e-a))).bind λj=>h (i64.wrap (a+j),i64.wrap (b+1))else f a b
def EG(d:Nat)a b c:=iter (λe s=>GH b c a (λf g=>θ f) e s.1 s.2) Ay (1,0)
def EQ:Nat->Ae->Int->Δ Int| 0,_,_=>κ| d+1,a,b=>EG d (EQ d) a b
abbrev FP(c:Ae)(f:Ae->Δ Int)(g:Int->Int->Δ Int)(h:Int×Int->Δ Int)(b a:Int):=bif a<Ξ c.D then(idx c.D a).bind λi=>(f i).bind λe=>h (if e>b then e else b,i64.wrap (a+1))else g b a
def Ey(d:Nat)a b:=iter (λc s=>FP b a (λe f=>θ (i64.wrap (e+1))) c s.1 s.2) Ay (0,0)
def D6:Nat->Ae->Δ Int| 0,_=>κ| d+1,a=>Ey d (D6 d) a
def NV(a:Int):Δ Int:=bif a==5 then θ 2 else bif a==6 then θ 2 else bif a==7 then θ 1 else θ 0
def DN(a:Ae):=bif bif !(bif bif a.Op==2 then ν else(a.Op==3)then ν else(a.Op==4))then(a.B != 0)else ξ then θ ξ else bif bif a.Op != 2 then(a.Af != 0)else ξ then θ ξ else θ (bif a.Op==3 then ν else(bif a.C==0 then(a.E==0)else ξ))
abbrev Bh(c:Aa)(a:Ae):Δ Int:=(idx c.A a.B).bind λb=>bif a.Op==2 then bif b.Kind != 2 then θ 7 else bif a.Af<0 then θ 6 else(idx c.S b.Al).bind λe=>bif a.Af>=Ξ e.X then θ 6 else θ 0 else bif a.Op==3 then bif b.Kind != 3 then θ 7 else bif bif bif a.C>a.E then ν else(a.C<(-1000000))then ν else(a.E>1000000)then θ 2 else θ 0 else bif a.Op==4 then bif bif b.Kind != 3 then ν else(!b.An)then θ 7 else θ 0 else θ 0
def Bn b a:=bif bif a.Op<1 then ν else(a.Op>7)then θ 4 else(NV a.Op).bind λc=>bif Ξ a.D != c then θ 11 else(DN a).bind λe=>bif !e then θ 11 else bif bif bif a.Op != 2 then(a.Op != 3)else ξ then(a.Op != 4)else ξ then θ 0 else bif bif a.B<0 then ν else(a.B>=Ξ b.A)then θ 7 else Bh b a
abbrev BV(b:Ae)(e:Aa->Ae->Δ Int)f(g h:Int->Δ Int)(a:Int):=bif a<Ξ b.D then(idx b.D a).bind λi=>(e f i).bind λc=>bif c != 0 then θ c else h (i64.wrap (a+1))else g a
def Cv(d:Nat)e a b:=(Bn a b).bind λc=>bif c != 0 then θ c else iter (λf s=>BV b e a (λg=>θ 0) f s) Ay 0
def C3:Nat->Aa->Ae->Δ Int| 0,_,_=>κ| d+1,a,b=>Cv d (C3 d) a b
def Bm d b a:=(DT b).bind λc=>bif c != 0 then θ c else(EQ d a 40).bind λe=>bif e>40 then θ 1 else(D6 d a).bind λf=>bif f>10 then θ 22 else(C3 d b a).bind λg=>θ g
abbrev FM b(c:Ag->Δ Ω)(e f:Int->Δ Int)a:=bif a<b.length then(idx b a).bind λg=>(c g).bind λh=>bif h then θ a else f (i64.wrap (a+1))else e a
def Da a b:=iter (λc s=>FM a b (λe=>θ (-1)) c s) Ay 0
def A3 a b:=(Da a b).bind λc=>θ (υ (c>=0))
abbrev H8:=θ (({}:AX),ξ)
def EK(a:Int):=bif a==1 then θ ({ By:=ν },ν)else bif a==2 then θ ({ Bz:=ν },ν)else bif a==3 then θ ({ Bg:=ν },ν)else bif a==4 then θ ({ Bv:=ν,Bg:=ν },ν)else bif a==5 then θ ({ Bv:=ν,Bg:=ν },ν)else bif a==14 then θ ({ Bv:=ν,Bg:=ν },ν)else bif a==6 then θ ({},ν)else bif a==7 then θ ({},ν)else bif a==8 then θ ({},ν)else bif a==9 then θ ({},ν)else bif a==10 then θ ({ Bv:=ν,B4:=ν,Bg:=ν },ν)else bif a==11 then θ ({ Bv:=ν,B3:=ν,Bg:=ν },ν)else bif a==12 then θ ({ Bv:=ν,Bg:=ν,Bn:=ν },ν)else bif a==13 then θ ({ By:=ν,Bv:=ν,Bg:=ν },ν)else H8
def D3(a:Int):=θ (bif a>=6 then(υ (a<=9))else ξ)
def Kb(a:Ae):=θ (bif bif bif bif bif a.Op==0 then(a.B==0)else ξ then(a.Af==0)else ξ then(a.C==0)else ξ then(a.E==0)else ξ then((Ξ a.D:Int)==0)else ξ)
def KJ(a:Ag)(b:AX):=bif bif bif bif bif bif b.By then ν else(a.K==0)then(bif b.Bz then ν else(a.J.toList==({ data:=#[] }:Θ).toList))else ξ then(bif b.Bv then ν else(a.B==0))else ξ then(bif b.B3 then ν else((Ξ a.A:Int)==0))else ξ then(bif b.B4 then ν else((Ξ a.V:Int)==0))else ξ then bif b.Bg then bif b.Bn then(D3 a.Op).bind λc=>θ (bif c then ν else((Ξ a.D:Int)==0))else(Kb a.Y).bind λe=>bif e then(D3 a.Op).bind λc=>θ (bif c then ν else((Ξ a.D:Int)==0))else θ ξ else(Kb a.Q).bind λf=>bif f then bif b.Bn then(D3 a.Op).bind λc=>θ (bif c then ν else((Ξ a.D:Int)==0))else(Kb a.Y).bind λe=>bif e then(D3 a.Op).bind λc=>θ (bif c then ν else((Ξ a.D:Int)==0))else θ ξ else θ ξ else θ ξ
abbrev M1 b(c:Int)(e f:Int->Δ Int)a:=bif a<b.length then(idx b a).bind λg=>bif c==g then θ a else f (i64.wrap (a+1))else e a
def GY a b:=iter (λc s=>M1 a b (λe=>θ (-1)) c s) Ay 0
def Cd a b:=(GY a b).bind λc=>θ (υ (c>=0))
def BJ(b:Aa)(a:Int):=bif bif a>=0 then(a<Ξ b.A)else ξ then(idx b.A a).bind λc=>θ (c.Kind==3)else θ ξ
abbrev FN b(c:Ab->Δ Ω)(e f:Int->Δ Int)a:=bif a<b.length then(idx b a).bind λg=>(c g).bind λh=>bif h then θ a else f (i64.wrap (a+1))else e a
def AZ a b:=iter (λc s=>FN a b (λe=>θ (-1)) c s) Ay 0
def AD a b:=(AZ a b).bind λc=>θ (υ (c>=0))
def NI a c:=(DT a).bind λb=>bif b != 0 then θ b else(G3 a c).bind λe=>θ e
def ME(a b:Ab):=θ (a.B==b.B)
abbrev Wi b e(f g:Int->Δ Ω)a:=bif a<b.length then(idx b a).bind λc=>(NI e c).bind λh=>bif h != 0 then θ ξ else(idx e.A c.B).bind λi=>bif i.Kind != 2 then θ ξ else bif (0<=(0:Int)/\0<=a/\a<=Ξ b)then(AD (Ia b 0 a) λa0=>ME a0 c).bind λj=>bif j then θ ξ else g (i64.wrap (a+1))else κ else f a
def Oh b a:=iter (λc s=>Wi a b (λe=>θ (bif (Ξ a:Int)>=1 then((Ξ a:Int)<=3)else ξ)) c s) Ay 0
abbrev Va b e f(g h:Int->Δ Ω)a:=bif a<b.length then(idx b a).bind λc=>(BJ e c).bind λi=>bif bif !i then ν else(c==f)then θ ξ else bif (0<=(0:Int)/\0<=a/\a<=Ξ b)then(Cd (Ia b 0 a) c).bind λj=>bif j then θ ξ else h (i64.wrap (a+1))else κ else g a
def Mi b c a:=iter (λe s=>Va a b c (λf=>θ (bif (Ξ a:Int)>=1 then((Ξ a:Int)<=3)else ξ)) e s) Ay 0
def Oi b(a:Ag):=bif a.Op==1 then θ (bif a.K>=(-1099511627776)then(υ (a.K<=1099511627776))else ξ)else bif a.Op==2 then(CQ a.J).bind λe=>θ e else bif a.Op==4 then(BJ b a.B).bind λc=>θ c else bif a.Op==5 then(BJ b a.B).bind λc=>θ c else bif a.Op==14 then(BJ b a.B).bind λc=>θ c else bif a.Op==10 then(Oh b a.V).bind λf=>bif f then bif a.B==(-1)then θ ν else(BJ b a.B).bind λg=>θ g else θ ξ else bif a.Op==11 then(BJ b a.B).bind λh=>bif h then(Mi b a.B a.A).bind λi=>θ i else θ ξ else bif a.Op==12 then(BJ b a.B).bind λj=>bif j then(idx b.A a.B).bind λk=>θ (k.C>=0)else θ ξ else bif a.Op==13 then(BJ b a.B).bind λl=>bif l then(idx b.A a.B).bind λm=>(Cd m.L a.K).bind λn=>θ n else θ ξ else θ ν
def I9(a:Int):=θ (bif a>=1 then(υ (a<=9))else ξ)
def LB(g:AX×Ω)d b(a:Ag)(f:Ag->Aa->Δ Ω):=bif g.1.Bg then(Bm d b a.Q).bind λi=>bif i != 0 then θ ξ else bif g.1.Bn then(Bm d b a.Y).bind λh=>bif h != 0 then θ ξ else(D3 a.Op).bind λc=>bif bif c then((Ξ a.D:Int) != 2)else ξ then θ ξ else(A3 a.D λa0=>f a0 b).bind λe=>θ (!e)else(D3 a.Op).bind λc=>bif bif c then((Ξ a.D:Int) != 2)else ξ then θ ξ else(A3 a.D λa0=>f a0 b).bind λe=>θ (!e)else bif g.1.Bn then(Bm d b a.Y).bind λh=>bif h != 0 then θ ξ else(D3 a.Op).bind λc=>bif bif c then((Ξ a.D:Int) != 2)else ξ then θ ξ else(A3 a.D λa0=>f a0 b).bind λe=>θ (!e)else(D3 a.Op).bind λc=>bif bif c then((Ξ a.D:Int) != 2)else ξ then θ ξ else(A3 a.D λa0=>f a0 b).bind λe=>θ (!e)
def JI d(h:Aa->Ag->Δ Ω)e c a:=(EK a.Op).bind λb=>bif !b.2 then θ ξ else(KJ a b.1).bind λf=>bif !f then θ ξ else(Oi c a).bind λg=>bif !g then θ ξ else LB b d c a e
def GP(d:Nat)(b:Aa->Ag->Δ Ω)(g:Ag->Aa->Δ Ω)a c:=(I9 a.Op).bind λe=>bif !e then θ ν else(b c a).bind λf=>θ (!f)
mutual
def Gu:Nat->Aa->Ag->Option Bool| 0,_,_=>κ| d+1,a,b=>JI d (Gu d) (Dr d) a b
def Dr:Nat->Ag->Aa->Option Bool| 0,_,_=>κ| d+1,a,b=>GP d (Gu d) (Dr d) a b
end
def Eg d a b:=(DT a).bind λc=>bif c==0 then(Gu d a b).bind λe=>θ e else θ ξ
def JH(d:Nat)(g e:Ag->(Θ->Δ Ω)->Δ Ω)(a:Ag)b:=bif a.Op==2 then(b a.J).bind λf=>bif !f then θ ξ else(A3 a.D λa0=>e a0 b).bind λc=>θ (!c)else(A3 a.D λa0=>e a0 b).bind λc=>θ (!c)
def GO(d:Nat)(a f:Ag->(Θ->Δ Ω)->Δ Ω)b c:=(a b c).bind λe=>θ (!e)
mutual
def Gt:Nat->Ag->(ByteArray->Option Bool)->Option Bool| 0,_,_=>κ| d+1,a,b=>JH d (Gt d) (Fu d) a b
def Fu:Nat->Ag->(ByteArray->Option Bool)->Option Bool| 0,_,_=>κ| d+1,a,b=>GO d (Gt d) (Fu d) a b
end
def IA(d:Nat)(c:Aa)(b:Γ Az)(a:Az):Δ Int:=(CQ a.J).bind λe=>bif !e then θ 3 else(EP a.J b).bind λf=>bif f then θ 10 else(Ka d a.At 60).bind λg=>bif g>60 then θ 1 else(Gp d a.At).bind λh=>bif h>10 then θ 22 else(Eg d c a.At).bind λi=>bif !i then θ 11 else(Gt d a.At λa0=>EP a0 b).bind λj=>bif !j then θ 24 else θ 0
abbrev UY b d e(f g:Int->Δ (Int×Int))a:=bif a<b.length then(idx b a).bind λh=>bif (0<=(0:Int)/\0<=a/\a<=Ξ b)then(IA d e (Ia b 0 a) h).bind λc=>bif c != 0 then θ (a,c)else g (i64.wrap (a+1))else κ else f a
def JZ d b a:=(DT b).bind λc=>bif c != 0 then θ ((-1),c)else bif (Ξ a:Int)>30 then θ ((-1),1)else iter (λe s=>UY a d b (λf=>θ (Ξ a,0)) e s) Ay 0
def Gj(a b:Ab):=θ (bif a.B==b.B then(υ (a.H>=b.H))else ξ)
def Iq a b:=(AD b λa0=>Gj a0 a).bind λc=>θ (!c)
def CU a b:=(AD b λa0=>Iq a0 a).bind λc=>θ (!c)
abbrev Ja(c:Ae)(f:Ae->Δ (Γ Ae))(g:Int->Γ Ae->Δ (Γ Ae))(h:Int×Γ Ae->Δ (Γ Ae))(a:Int)b:=bif a<Ξ c.D then(idx c.D a).bind λi=>(f i).bind λe=>bif rm (Ξ b) (Ξ e) then h (i64.wrap (a+1),b++e)else κ else g a b
def Hs(d:Nat)b a:=bif bif bif a.Op==2 then ν else(a.Op==3)then ν else(a.Op==4)then θ [a]else iter (λc s=>Ja a b (λf e=>θ e) c s.1 s.2) Ay (0,[])
def Hc:Nat->Ae->Δ (Γ Ae)| 0,_=>κ| d+1,a=>Hs d (Hc d) a
def ER a:=bif a then θ 1 else θ (-1)
def QI a c b:=(UF a c).bind λe=>bif !e then θ ξ else(UF a b).bind λf=>bif !f then θ ξ else(IZ a).bind λg=>(idx g b).bind λh=>(J5 a c h).bind λi=>θ (i==b)
def Ca(c:Aa)(a:Ae)b:=bif a.Op==2 then(idx c.A a.B).bind λe=>(idx c.S e.Al).bind λf=>(QI f b a.Af).bind λg=>(ER g).bind λh=>θ h else bif a.Op==4 then(ER (b==(-1099511627776))).bind λi=>θ i else bif b==(-1099511627776)then θ 0 else(ER (bif b>=a.C then(b<=a.E)else ξ)).bind λj=>θ j
def J7(a:Ax)b:=(idx a.L (i64.wrap (Ξ a.L-b))).bind λc=>θ c
def FD(a b:Int):=bif b≠0 then bif (Int.tmod a b)<0 then θ (i64.wrap (a-(i64.wrap (Int.tmod a b+b))))else θ (i64.wrap (a-(Int.tmod a b)))else κ
def Ki e h i j k(l:Int->Γ (Int×Int)->Δ Ω)(m:Int×Γ (Int×Int)->Δ Ω)a b:=bif a<e.length then(idx e a).bind λf=>(J5 h f i).bind λc=>(Ca j k f).bind λg=>bif bif(NZ c b).isSome then(((NZ c b).getD 0) != g)else ξ then θ ξ else m (i64.wrap (a+1),iz c g b)else l a b
def B7 e b c:=(idx e.A b.B).bind λa=>bif b.Op==2 then(idx e.S a.Al).bind λf=>(Hr f).bind λi=>(Ex f (i64.wrap (i-1))).bind λj=>iter (λk s=>Ki j f c e b (λm n=>θ ν) k s.1 s.2) Ay (0,[])else bif bif c==0 then a.An else ξ then θ ξ else bif b.Op==4 then θ ν else bif (if a.C>b.C then a.C else b.C)>(if a.E<b.E then a.E else b.E)then θ ν else bif c==0 then θ (bif(if a.C>b.C then a.C else b.C)==a.C then((if a.E<b.E then a.E else b.E)==a.E)else ξ)else(J7 a c).bind λg=>bif(if a.C>b.C then a.C else b.C)==a.C then bif(if a.E<b.E then a.E else b.E)==a.E then θ ν else(FD (i64.wrap ((if a.E<b.E then a.E else b.E)+1)) g).bind λh=>θ (h==(i64.wrap ((if a.E<b.E then a.E else b.E)+1)))else(FD (if a.C>b.C then a.C else b.C) g).bind λl=>bif l==(if a.C>b.C then a.C else b.C)then bif(if a.E<b.E then a.E else b.E)==a.E then θ ν else(FD (i64.wrap ((if a.E<b.E then a.E else b.E)+1)) g).bind λh=>θ (h==(i64.wrap ((if a.E<b.E then a.E else b.E)+1)))else θ ξ
abbrev SQ a(b:Ae)(f:Int×Γ Int->Δ (Γ Ab))g c:=(idx a b.B).bind λe=>(idx a b.B).bind λh=>f (i64.wrap (g+1),a.set b.B.toNat (if c>e then c else e))
abbrev Nf b c(e f:Int->Δ (Γ Ab))a:=(B7 b c a).bind λg=>bif !g then f (i64.wrap (a+1))else e a
abbrev Jc e(g:Int->Γ Ab->Δ (Γ Ab))(f:Int×Γ Ab->Δ (Γ Ab))a b:=bif a<e.length then(idx e a).bind λc=>bif c>0 then bif rm (Ξ b) (Ξ [({ B:=a,H:=c }:Ab)]) then f (i64.wrap (a+1),b++[{ B:=a,H:=c }])else κ else f (i64.wrap (a+1),b)else g a b
abbrev Jb b f(g:Int->Γ Int->Δ (Γ Ab))h a c:=bif a<b.length then(idx b a).bind λe=>iter (λi s=>Nf f e (SQ c e h a) i s) Ay 0 else g a c
def CP d a b:=(Bm d a b).bind λc=>bif c != 0 then θ []else bif 0<=(Ξ a.A:Int)&&rm (Ξ a.A:Int).toNat 0 then(Hc d b).bind λe=>iter (λf s=>Jb e a (λj g=>iter (λh s=>Jc g (λk i=>θ i) h s.1 s.2) Ay (0,[])) f s.1 s.2) Ay (0,List.replicate (Ξ a.A:Int).toNat 0)else κ
abbrev PX(b:Ax)c(e f:Int->Δ Int)(a:Int):=bif a<Ξ b.L then(idx b.L a).bind λg=>bif g==c then θ (i64.wrap (Ξ b.L-a))else f (i64.wrap (a+1))else e a
def G5(a:Aa)b c:=(idx a.A b).bind λe=>iter (λf s=>PX e c (λg=>θ 0) f s) Ay 0
def Ek a b:=(DT a).bind λc=>bif c != 0 then θ (-1)else(G2 a b).bind λe=>θ e
def FA(e:Aa)h c:=(idx e.A h).bind λa=>bif a.Kind==2 then(idx e.S a.Al).bind λi=>(Ex i c).bind λj=>θ (Ξ j:Int)else bif c==0 then θ 1 else(Jy a c).bind λb=>(G1 a.E b).bind λf=>(G1 a.C b).bind λg=>bif b≠0 then bif a.An then θ (i64.wrap (i64.wrap (i64.wrap (Int.tdiv (i64.wrap (f-g)) b)+1)+1))else θ (i64.wrap (i64.wrap (Int.tdiv (i64.wrap (f-g)) b)+1))else κ
abbrev JR b c(e f:Int->Δ Int)a:=bif a>0 then(FA b c (i64.wrap (a-1))).bind λg=>(FA b c a).bind λh=>bif g==h then f (i64.wrap (a-1))else e a else e a
def CO b c a:=(Ek b c).bind λe=>bif bif a<0 then ν else(a>e)then θ (-1)else iter (λf s=>JR b c (λg=>θ g) f s) Ay a
def Es a(b:Γ Ab)c:=(Ek c a).bind λf=>(CO c a f).bind λe=>bif rm (Ξ b) (Ξ [({ B:=a,H:=e }:Ab)]) then θ (b++[{ B:=a,H:=e }])else κ
def Su(b:Ag)e(f:Int->Γ Ab->Δ (Γ Ab))(g:Int×Γ Ab->Δ (Γ Ab))(a:Int)c:=bif a<Ξ b.A then(idx b.A a).bind λh=>(Es h c e).bind λi=>g (i64.wrap (a+1),i)else f a c
def BK a b c:=iter (λe s=>Su a b (λg f=>θ f) e s.1 s.2) Ay (0,c)
def Sv a b c:=bif a.Op==4 then bif a.B>0 then(Es a.B c b).bind λe=>BK a b e else BK a b c else bif a.Op==5 then bif a.B>0 then(Es a.B c b).bind λe=>BK a b e else BK a b c else bif a.Op==10 then bif a.B>0 then(Es a.B c b).bind λe=>BK a b e else BK a b c else bif a.Op==11 then bif a.B>0 then(Es a.B c b).bind λe=>BK a b e else BK a b c else bif a.Op==12 then bif a.B>0 then(Es a.B c b).bind λe=>BK a b e else BK a b c else bif a.Op==14 then bif a.B>0 then(Es a.B c b).bind λe=>BK a b e else BK a b c else bif a.Op==13 then(G5 b a.B a.K).bind λg=>(CO b a.B g).bind λf=>bif rm (Ξ c) (Ξ [({ B:=a.B,H:=f }:Ab)]) then BK a b (c++[{ B:=a.B,H:=f }])else κ else BK a b c
def Ss(e:Ag)g(h:Int->Γ Ab->Δ (Γ Ab))(i:Int×Γ Ab->Δ (Γ Ab))(a:Int)c:=bif a<Ξ e.V then(idx e.V a).bind λb=>(CO g b.B b.H).bind λf=>bif rm (Ξ c) (Ξ [({ B:=b.B,H:=f }:Ab)]) then i (i64.wrap (a+1),c++[{ B:=b.B,H:=f }])else κ else h a c
def Vl a b:=iter (λc s=>Ss b a (λf e=>Sv b a e) c s.1 s.2) Ay (0,[])
def Jn(f:Γ Ab)(g:Int->Int->Γ (Int×Int)->Δ (Γ Ab))(h:Int×Int×Γ (Int×Int)->Δ (Γ Ab))(e b:Int)c:=bif b<Ξ f then(idx f b).bind λa=>h (if a.B>e then a.B else e,i64.wrap (b+1),iz a.B (if a.H>((NZ a.B c).getD 0)then a.H else((NZ a.B c).getD 0)) c)else g e b c
def Jo f c(g:Int->Γ Ab->Δ (Γ Ab))(e:Int×Γ Ab->Δ (Γ Ab))a b:=bif a<(i64.wrap (f+1))then bif ((NZ a c).getD 0)>0 then bif rm (Ξ b) (Ξ [({ B:=a,H:=((NZ a c).getD 0) }:Ab)]) then e (i64.wrap (a+1),b++[{ B:=a,H:=((NZ a c).getD 0) }])else κ else e (i64.wrap (a+1),b)else g a b
def Jm b(f:Int->Int->Γ (Int×Int)->Δ (Γ Ab))(g:Int×Int×Γ (Int×Int)->Δ (Γ Ab))c a e:=bif a<b.length then(idx b a).bind λh=>iter (λi s=>Jn h (λj l k=>g (j,i64.wrap (a+1),k)) i s.1 s.2.1 s.2.2) Ay (c,0,e)else f c a e
def JJ a:=iter (λb s=>Jm a (λc h e=>iter (λf s=>Jo c e (λi g=>θ g) f s.1 s.2) Ay (0,[])) b s.1 s.2.1 s.2.2) Ay (0,0,[])
abbrev Ph(c:Ag)(f:Aa->Ag->Δ (Γ Ab))g(h:Int->Γ (Γ Ab)->Δ (Γ Ab))(i:Int×Γ (Γ Ab)->Δ (Γ Ab))(a:Int)b:=bif a<Ξ c.D then(idx c.D a).bind λj=>(f g j).bind λe=>bif rm (Ξ b) (Ξ [e]) then i (i64.wrap (a+1),b++[e])else κ else h a b
def M2 d c a b:=(Vl a b).bind λe=>(CP d a b.Q).bind λf=>(CP d a b.Y).bind λg=>iter (λh s=>Ph b c a (λk i=>(JJ i).bind λj=>θ j) h s.1 s.2) Ay (0,[e,f,g])
def IX:Nat->Aa->Ag->Δ (Γ Ab)| 0,_,_=>κ| d+1,a,b=>M2 d (IX d) a b
abbrev QC(b:Γ Ar)(c:Ag)(e f:Int->Δ (Int×Int))a:=bif a>=0 then(idx b a).bind λg=>bif g.J.toList==c.J.toList then(idx b a).bind λh=>θ (h.Ai.Kind,0)else f (i64.wrap (a-1))else e a
abbrev Kh a b c:=bif a.Op==2 then iter (λe s=>QC b a (λg=>θ (0,24)) e s) Ay (i64.wrap (Ξ b-1))else bif !c then θ (0,16)else(I9 a.Op).bind λf=>bif f then θ (1,0)else θ (i64.wrap (i64.wrap (a.Op-10)+2),0)
abbrev QB(c:Ag)(f:Γ Ar->Ag->Δ (Int×Int))g(h:Ω->Int->Δ (Int×Int))(i:Ω×Int->Δ (Int×Int))e(a:Int):=bif a<Ξ c.D then(idx c.D a).bind λj=>(f g j).bind λb=>bif b.2 != 0 then θ (0,b.2)else i (bif e then(b.1==1)else ξ,i64.wrap (a+1))else h e a
def Gr(d:Nat)c a b:=iter (λe s=>QB b c a (λf g=>Kh b a f) e s.1 s.2) Ay (ν,0)
def J3:Nat->(Γ Ar)->Ag->Δ (Int×Int)| 0,_,_=>κ| d+1,a,b=>Gr d (J3 d) a b
def TA d a c f b:=(Eg d a b).bind λg=>bif !g then θ (0,11)else(HQ a c).bind λh=>bif h != 0 then θ (0,23)else(IX d a b).bind λi=>(CU c i).bind λj=>bif !j then θ (0,23)else(J3 d f b).bind λe=>θ (e.1,e.2)
abbrev LU(g:Γ Az)d h i(j:Int->Γ Int->Γ Ar->Δ (Γ Int×Int×Int))(k:Int×Γ Int×Γ Ar->Δ (Γ Int×Int×Int))(b:Int)e c:=bif b<Ξ g then(idx g b).bind λf=>(TA d h i c f.At).bind λa=>bif a.2 != 0 then θ ([],b,a.2)else bif rm (Ξ e) (Ξ [a.1]) then bif rm (Ξ c) (Ξ ([({ J:=f.J,Ai:={ Kind:=a.1 } }:Ar)])) then k (i64.wrap (b+1),e++[a.1],c++[{ J:=f.J,Ai:={ Kind:=a.1 } }])else κ else κ else j b e c
def Il d c e a:=(JZ d c a).bind λb=>bif b.2 != 0 then θ ([],b.1,b.2)else iter (λf s=>LU a d c e (λh g i=>θ (g,Ξ a,0)) f s.1 s.2.1 s.2.2) Ay (0,[],[])
def CB(a:Γ Ab):=bif rm 0 (Ξ a) then θ a else κ
def Dq(a:Γ Ap):=bif rm 0 (Ξ a) then θ a else κ
def Fa(a:Γ A1):=bif rm 0 (Ξ a) then θ a else κ
def Dp(a:Γ Aj):=bif rm 0 (Ξ a) then θ a else κ
def FL(a:Γ Co):=bif rm 0 (Ξ a) then θ a else κ
def Wy(cs:Γ Ap):=bif Ξ cs<=1000000&&cs.all (λc=>rm 0 (Ξ c.X)&&rm 0 (Ξ c.G))then θ cs else κ
def ES(a:A4):=(CB a.Table.V).bind λb=>(Dq a.Table.Av).bind λc=>(Wy c).bind λe=>(A0 a.Model.A0).bind λf=>(Fa a.Model.A9).bind λg=>(Dp a.Curve).bind λh=>(FL a.Hist).bind λi=>(A0 a.Lineage).bind λj=>θ ({ Kind:=a.Kind,Number:=a.Number,Table:={ V:=b,Ah:=a.Table.Ah,Av:=e },Model:={ Ah:=a.Model.Ah,A0:=f,A9:=g,A2:=a.Model.A2,A3:=a.Model.A3,Z:=a.Model.Z,Bf:=a.Model.Bf },Curve:=h,Hist:=i,Box:=a.Box,Lineage:=j }:A4)
abbrev I7(a:Int):=θ ({}:A4)
abbrev E1(b:A6)(c:Θ)(e f:Int->Δ A4)a:=bif a>=0 then(idx b.A5 a).bind λg=>bif g.J.toList==c.toList then(idx b.A5 a).bind λh=>(ES h.Ai).bind λi=>θ i else f (i64.wrap (a-1))else e a
def D7 a b:=iter (λc s=>E1 a b I7 c s) Ay (i64.wrap (Ξ a.A5-1))
def Ce(d:Nat)(c:Ae->(Ae->Δ Int)->Δ Int)a b:=bif a.Op==1 then θ 1 else bif a.Op==5 then(idx a.D 0).bind λi=>(c i b).bind λe=>(idx a.D 1).bind λj=>(c j b).bind λf=>θ (if f<e then f else e)else bif a.Op==6 then(idx a.D 0).bind λk=>(c k b).bind λg=>(idx a.D 1).bind λl=>(c l b).bind λh=>θ (if h>g then h else g)else bif a.Op==7 then(idx a.D 0).bind λm=>(c m b).bind λn=>θ (i64.wrap (0-n))else(b a).bind λo=>θ o
def B8:Nat->Ae->(Ae->Δ Int)->Δ Int| 0,_,_=>κ| d+1,a,b=>Ce d (B8 d) a b
def Dh a b c:=(idx c a.B).bind λe=>(Ca b a e).bind λf=>θ f
def J6 d a b c:=(B8 d b λa0=>Dh a0 a c).bind λe=>θ e
abbrev Hu(e:Γ Ab)g h(i:Int->Γ Int->Δ Int)(j:Int×Γ Int->Δ Int)(a:Int)c:=bif a<Ξ e then(idx e a).bind λb=>(idx g a).bind λk=>(Bi h b.B b.H k).bind λf=>bif !f.2 then θ 0 else(idx c b.B).bind λl=>j (i64.wrap (a+1),c.set b.B.toNat f.1)else i a c
abbrev Kn b c a d e f:=iter (λg s=>Hu b c a (λj h=>(J6 d a e h).bind λi=>θ i) g s.1 s.2) Ay (0,f)
abbrev Ht c(e:Int->Γ Int->Δ Int)(f:Int×Γ Int->Δ Int)a b:=bif a<b.length then(Bi c a 0 0).bind λg=>(idx b a).bind λh=>f (i64.wrap (a+1),b.set a.toNat g.1)else e a b
def GG d a b c e:=bif 0<=(Ξ a.A:Int)&&rm (Ξ a.A:Int).toNat 0 then iter (λf s=>Ht a (λh g=>Kn c e a d b g) f s.1 s.2) Ay (1,List.replicate (Ξ a.A:Int).toNat 0)else κ
def Iv(e:Ad)d g h(i:Int->Γ Int->Δ (Γ Int))(f:Int×Γ Int->Δ (Γ Int))a c:=bif a<(Ξ e.G:Int)then(idx e.G a).bind λb=>bif (0<=(1:Int)/\1<=(Ξ b:Int)/\Ξ b<=(Ξ b:Int))then(GG d g h e.I (Ia b 1 (Ξ b))).bind λj=>bif j==1 then bif rm (Ξ c) (Ξ [a]) then f (i64.wrap (a+1),c++[a])else κ else f (i64.wrap (a+1),c)else κ else i a c
def Iw a d b c:=iter (λe s=>Iv a d b c (λg f=>θ f) e s.1 s.2) Ay (0,[])
def Dt d a c b:=(Bm d a b).bind λe=>bif e != 0 then θ []else(CP d a b).bind λf=>(CU c.I f).bind λg=>bif !g then θ []else Iw c d a b
abbrev LO c(f:Ad)(g:Int->Γ Int->Δ (Γ Int))(h:Int×Γ Int->Δ (Γ Int))a b:=bif a<c.length then(idx c a).bind λi=>(idx f.G i).bind λj=>(idx j 0).bind λe=>bif rm (Ξ b) (Ξ [e]) then h (i64.wrap (a+1),b++[e])else κ else g a b
def Db a b:=iter (λc s=>LO b a (λf e=>θ e) c s.1 s.2) Ay (0,[])
abbrev JS b(c:Int->Δ Ω)(e f:Int->Δ Int)a:=bif a<b.length then(idx b a).bind λg=>(c g).bind λh=>bif h then θ a else f (i64.wrap (a+1))else e a
def DX a b:=iter (λc s=>JS a b (λe=>θ (-1)) c s) Ay 0
def AR a b:=(DX a b).bind λc=>θ (υ (c>=0))
def G8(a:Ab)b:=θ (a.B==b)
abbrev T8 e f j k l(m:Int->Ω->Int->Δ (Int×Ω))(g:Int×Ω×Int->Δ (Int×Ω))b c a:=bif a<e.length then(idx e a).bind λh=>(J5 f h j).bind λn=>bif n != k then g (b,c,i64.wrap (a+1))else(J5 f h l).bind λi=>bif bif c then(i != b)else ξ then θ (0,ξ)else g (i,ν,i64.wrap (a+1))else m b c a
def MY a b c e:=(Hr a).bind λf=>(Ex a (i64.wrap (f-1))).bind λg=>iter (λh s=>T8 g a b c e (λi j k=>θ (i,j)) h s.1 s.2.1 s.2.2) Ay (0,ξ,0)
def DI a c e f:=bif bif c>0 then(e==(-1099511627776))else ξ then bif f==0 then θ (0,a.An)else θ (e,a.An)else(IU a c e).bind λb=>bif !b.2.2 then θ (0,ξ)else bif f==0 then θ (0,ν)else bif bif c==0 then a.An else ξ then θ (0,ξ)else(Jy a f).bind λg=>(G1 b.1 g).bind λh=>(G1 b.1 g).bind λi=>(G1 b.2.1 g).bind λj=>θ (h,i==j)
def F9 c f a g b:=(G2 c f).bind λh=>bif bif bif bif a<0 then ν else(a>h)then ν else(b<0)then ν else(b>h)then θ (0,ξ)else(idx c.A f).bind λe=>bif e.Kind==2 then(idx c.S e.Al).bind λk=>(MY k a g b).bind λi=>bif !i.2 then θ (0,ξ)else θ (i.1,ν)else(DI e a g b).bind λj=>bif !j.2 then θ (0,ξ)else θ (j.1,ν)
def Bg e(a:Ad)i b f:=(AZ a.I λa0=>G8 a0 b).bind λc=>bif c<0 then(F9 e b 0 0 f).bind λg=>θ (g.1,g.2)else(idx a.I c).bind λj=>(idx a.G i).bind λk=>(idx k (i64.wrap (c+1))).bind λl=>(F9 e b j.H l f).bind λh=>θ (h.1,h.2)
def Fj a b e f:=(Ek b a).bind λg=>(Bg b e f a g).bind λc=>θ (bif !c.2 then ν else(c.1==(-1099511627776)))
def Jz a b c e:=(AR b λa0=>Fj a0 c e a).bind λf=>θ f
def Ep d a b c e:=(DK a b).bind λf=>bif f != 0 then θ []else(Dt d a b c).bind λg=>(EN g λa0=>Jz a0 e a b).bind λh=>θ h
abbrev J0 c e f h(i:Int->Γ Int->Δ (Γ Int))(j:Int×Γ Int->Δ (Γ Int))a b:=bif a<c.length then(idx c a).bind λk=>(Ek e f).bind λl=>(Bg e h k f l).bind λg=>bif rm (Ξ b) (Ξ [g.1]) then j (i64.wrap (a+1),b++[g.1])else κ else i a b
def Cu a b c e:=iter (λf s=>J0 c a e b (λh g=>θ g) f s.1 s.2) Ay (0,[])
def Ci(a:Ao):=bif(Int.fdiv a.E (2^(min (63:Int).toNat u64.bits)))==1 then θ (-1)else bif(a.E==0)&&((a.C==0)&&ν)then θ 0 else θ 1
def Dj(a b:Ao):=(BI a.C b.C 0).bind λc=>(BI a.E b.E c.2).bind λe=>θ ({ E:=e.1,C:=c.1 }:Ao)
def Cw(a:Ao):=(Dj { E:=(u64.wrap (((BitVec.ofInt u64.bits (if u64.signed then -1 else u64.max) ^^^ BitVec.ofInt u64.bits a.E).toNat:Nat):Int)),C:=(u64.wrap (((BitVec.ofInt u64.bits (if u64.signed then -1 else u64.max) ^^^ BitVec.ofInt u64.bits a.C).toNat:Nat):Int)) } { C:=1 }).bind λb=>θ b
def CJ a b:=(Cw b).bind λc=>(Dj a c).bind λe=>θ e
def Dv(a:Ao):=bif a.C==0 then(Fc a.E).bind λb=>θ (i64.wrap (64+b))else(Fc a.C).bind λc=>θ c
def DZ(b:Ao)a:=bif a>=64 then bif 0<=(i64.wrap (a-64))then θ ({ C:=(Int.fdiv b.E (2^(min ((i64.wrap (a-64)):Int).toNat u64.bits))) }:Ao)else κ else bif 0<=a then bif 0<=a then bif 0<=(i64.wrap (64-a))then θ { E:=(Int.fdiv b.E (2^(min (a:Int).toNat u64.bits))),C:=(u64.wrap (((BitVec.ofInt u64.bits (Int.fdiv b.C (2^(min (a:Int).toNat u64.bits)))|||BitVec.ofInt u64.bits (u64.wrap (b.E*2^(min ((i64.wrap (64-a)):Int).toNat u64.bits)))).toNat:Nat):Int)) } else κ else κ else κ
def Fo(b:Ao)a:=bif a>=64 then bif 0<=(i64.wrap (a-64))then θ ({ E:=(u64.wrap (b.C*2^(min ((i64.wrap (a-64)):Int).toNat u64.bits))) }:Ao)else κ else bif 0<=a then bif 0<=(i64.wrap (64-a))then bif 0<=a then θ { E:=(u64.wrap (((BitVec.ofInt u64.bits (u64.wrap (b.E*2^(min (a:Int).toNat u64.bits)))|||BitVec.ofInt u64.bits (Int.fdiv b.C (2^(min ((i64.wrap (64-a)):Int).toNat u64.bits)))).toNat:Nat):Int)),C:=(u64.wrap (b.C*2^(min (a:Int).toNat u64.bits))) } else κ else κ else κ
abbrev Nm(g:Ao->Ao->Δ Ao)(f:Ao×Ao->Δ Ao)a b:=bif !((b.E==0)&&((b.C==0)&&ν))then(Dv b).bind λh=>(DZ b h).bind λc=>(CJ c a).bind λi=>(Ci i).bind λj=>bif j<0 then(CJ a c).bind λe=>f (c,e)else(CJ c a).bind λe=>f (a,e)else g a b
def JB a b:=bif(b.E==0)&&((b.C==0)&&ν)then θ a else(Dv a).bind λc=>(Dv b).bind λe=>(Dv a).bind λf=>(DZ a f).bind λg=>iter (λh s=>Nm (λi k=>(Fo i (if e<c then e else c)).bind λj=>θ j) h s.1 s.2) Ay (g,b)
def Fp a:=(Ci a).bind λb=>bif b<0 then(Cw a).bind λc=>θ c else θ a
def E0(a:Ao):=bif a.E>0 then(MB a.E).bind λb=>θ (i64.wrap (64+b))else(MB a.C).bind λc=>θ c
abbrev UM g(h:Int->Int->Ao->Δ (Int×Ω))(e:Int×Int×Ao->Δ (Int×Ω))b a c:=bif a>=0 then(Fo g a).bind λi=>(CJ c i).bind λf=>(Ci f).bind λj=>bif j>=0 then e (i64.wrap (i64.wrap (b*2)+1),i64.wrap (a-1),f)else e (i64.wrap (b*2),i64.wrap (a-1),c)else h b a c
def JX a b:=(E0 a).bind λc=>(E0 b).bind λe=>bif (i64.wrap (c-e))>61 then θ (0,ξ)else iter (λg s=>UM b (λf h i=>θ (f,f<=1152921504606846976)) g s.1 s.2.1 s.2.2) Ay (0,i64.wrap (c-e),a)
abbrev Gd(a b:Ao):Δ (A1×Int):=(Fp a).bind λg=>(JB b g).bind λc=>(Fp a).bind λh=>(JX h c).bind λe=>(JX b c).bind λf=>bif bif !e.2 then ν else(!f.2)then θ ({},14)else(Ci a).bind λi=>θ ({ K:=(i64.wrap (e.1*i)),T:=f.1 },0)
def Cf b a:=(Ci a).bind λc=>bif c<0 then(Cw b).bind λe=>(Cw a).bind λf=>Gd e f else Gd b a
def BN a:=θ ({ E:=(u64.wrap (Int.fdiv a (2^(min (63:Int).toNat i64.bits)))),C:=(u64.wrap a) }:Ao)
def Eb c a:=bif a==0 then θ ({},18)else(BN c).bind λe=>(BN a).bind λf=>(Cf e f).bind λb=>θ (b.1,b.2)
abbrev Fi(g:Ag)b(e:A6)f:=bif g.Op==5 then(Eb f (Ξ b)).bind λa=>bif a.2 != 0 then θ (({}:A4),a.2)else(Db e.N.U b).bind λc=>θ ({ Kind:=1,Number:=a.1,Lineage:=c },0)else(Eb f 1).bind λa=>bif a.2 != 0 then θ ({},a.2)else(Db e.N.U b).bind λc=>θ ({ Kind:=1,Number:=a.1,Lineage:=c },0)
abbrev Fh b(e:Int->Int->Δ (A4×Int))(f:Int×Int->Δ (A4×Int))c a:=bif a<b.length then(idx b a).bind λg=>f (i64.wrap (c+g),i64.wrap (a+1))else e c a
def Cj d a b:=(Ep d a.N.Ak a.N.U b.Q [b.B]).bind λc=>(Cu a.N.Ak a.N.U c b.B).bind λe=>iter (λf s=>Fh e (λg h=>Fi b c a g) f s.1 s.2) Ay (0,0)
def Ch(b:Aa)(a:Int):=bif bif a<0 then ν else(a>=Ξ b.A)then θ 0 else(idx b.A a).bind λc=>θ c.Kind
def Hx(a b:Ab):=θ (a.B==b.B)
def FQ(a:Ae):=θ (bif bif bif bif bif a.Op==0 then(a.B==0)else ξ then(a.Af==0)else ξ then(a.C==0)else ξ then(a.E==0)else ξ then((Ξ a.D:Int)==0)else ξ)
abbrev K8(a:BF)(c:Aa):Δ Int:=bif a.Ah != (-1)then(Ch c a.Ah).bind λe=>bif e != 3 then θ 7 else bif (Ξ a.A0:Int)>0 then θ 11 else(FQ a.Y).bind λb=>bif !b then θ 11 else θ 0 else bif (Ξ a.A0:Int)>0 then θ 11 else(FQ a.Y).bind λb=>bif !b then θ 11 else θ 0
abbrev Hw(b:BF)e(g h:Int->Δ Int)(a:Int):=bif a<Ξ b.V then(idx b.V a).bind λc=>(NI e c).bind λf=>bif f != 0 then θ f else(Ch e c.B).bind λi=>bif i != 2 then θ 7 else bif (0<=(0:Int)/\0<=a/\a<=Ξ b.V)then(AD (Ia b.V 0 a) λa0=>Hx a0 c).bind λj=>bif j then θ 10 else h (i64.wrap (a+1))else κ else g a
def Ko b a:=bif bif (Ξ a.V:Int)<1 then ν else((Ξ a.V:Int)>3)then θ 1 else iter (λc s=>Hw a b (λe=>K8 a b) c s) Ay 0
abbrev WA(a:BF)(c:Int):Δ Int:=bif (Ξ a.V:Int)>0 then θ 11 else(FQ a.Y).bind λb=>bif !b then θ 11 else θ 0
abbrev QK(b:BF)e(f g:Int->Δ Int)(a:Int):=bif a<Ξ b.A0 then(idx b.A0 a).bind λc=>(Ch e c).bind λh=>bif h != 3 then θ 7 else bif c==b.Ah then θ 10 else bif (0<=(0:Int)/\0<=a/\a<=Ξ b.A0)then(Cd (Ia b.A0 0 a) c).bind λi=>bif i then θ 10 else g (i64.wrap (a+1))else κ else f a
def NX b a:=(Ch b a.Ah).bind λc=>bif c != 3 then θ 7 else bif bif (Ξ a.A0:Int)<1 then ν else((Ξ a.A0:Int)>3)then θ 1 else iter (λe s=>QK a b (WA a) e s) Ay 0
def NW d b(a:BF):=(Ch b a.Ah).bind λe=>bif e != 3 then θ 7 else(idx b.A a.Ah).bind λf=>bif f.C<0 then θ 2 else(Bm d b a.Y).bind λc=>bif c != 0 then θ c else bif bif (Ξ a.V:Int)>0 then ν else((Ξ a.A0:Int)>0)then θ 11 else θ 0
def Hv d b a:=(DT b).bind λc=>bif c != 0 then θ c else(CQ a.J).bind λf=>bif !f then θ 3 else bif bif a.Kind<1 then ν else(a.Kind>3)then θ 4 else(Bm d b a.Bu).bind λe=>bif e != 0 then θ e else bif a.Kind==1 then(Ko b a).bind λg=>θ g else bif a.Kind==2 then(NX b a).bind λh=>θ h else(NW d b a).bind λi=>θ i
def Pg d a b c e:=(Hv d a { J:={ data:=#[116] },Kind:=1,Bu:=e,V:=b,Ah:=c }).bind λf=>θ f
def IW d a b:=(DT a).bind λc=>bif c != 0 then θ []else(Eg d a b).bind λe=>bif !e then θ []else(IX d a b).bind λf=>θ f
def Ab3:Δ (Γ (Γ Int)):=θ [[]]
def Kx f g(h:Int->Γ (Γ Int)->Δ (Γ (Γ Int)×Ω))(i:Int×Γ (Γ Int)->Δ (Γ (Γ Int)×Ω))(a:Int)b:=bif a<(Ξ ([(-1)]++f))then(idx ([(-1)]++f) a).bind λc=>(A0 g).bind λe=>bif rm (Ξ e) (Ξ [c]) then bif rm (Ξ b) (Ξ ([e++[c]])) then i (i64.wrap (a+1),b++[e++[c]])else κ else κ else h a b
def Kw b e(f:Int->Γ (Γ Int)->Δ (Γ (Γ Int)×Ω))(g:Int×Γ (Γ Int)->Δ (Γ (Γ Int)×Ω))a c:=bif a<b.length then(idx b a).bind λh=>iter (λi s=>Kx e h (λk j=>g (i64.wrap (a+1),j)) i s.1 s.2) Ay (0,c)else f a c
def Kv(e:Γ Ab)(f:Aa)(h:Γ (Γ Int)->Int->Δ (Γ (Γ Int)×Ω))(i:Γ (Γ Int)×Int->Δ (Γ (Γ Int)×Ω))b(a:Int):=bif a<Ξ e then(idx e a).bind λg=>(idx f.A g.B).bind λj=>(idx f.S j.Al).bind λk=>(Ex k g.H).bind λc=>bif rm (Ξ [(-1)]) (Ξ c) then bif (i64.wrap (Ξ b*(Ξ ([(-1)]++c))))>2000 then θ ([],ξ)else iter (λl s=>Kw b c (λn m=>i (m,i64.wrap (a+1))) l s.1 s.2) Ay (0,[])else κ else h b a
def Lr a b:=(Ab3 ).bind λc=>iter (λe s=>Kv b a (λf g=>θ (f,ν)) e s.1 s.2) Ay (c,0)
abbrev J1 b f(g c:Int->Δ Ω)a:=bif a<b.length then(idx b a).bind λe=>bif e != (-1)then(idx f a).bind λh=>bif e != h then θ ξ else c (i64.wrap (a+1))else c (i64.wrap (a+1))else g a
def DL a b:=iter (λc s=>J1 b a (λe=>θ ν) c s) Ay 0
def BD(c:Ap)key value measured:=bif measured then bif c.A7<max value (i64.wrap (-value))then{ c with Z:=i64.wrap (c.Z+1),G:=c.G++[key],Bc:=i64.wrap (c.Bc+value),Be:=i64.wrap (c.Be+max value (i64.wrap (-value))),A7:=max value (i64.wrap (-value)),Ba:=c.A7 }else bif c.Ba<max value (i64.wrap (-value))then{ c with Z:=i64.wrap (c.Z+1),G:=c.G++[key],Bc:=i64.wrap (c.Bc+value),Be:=i64.wrap (c.Be+max value (i64.wrap (-value))),Ba:=max value (i64.wrap (-value)) }else{ c with Z:=i64.wrap (c.Z+1),G:=c.G++[key],Bc:=i64.wrap (c.Bc+value),Be:=i64.wrap (c.Be+max value (i64.wrap (-value))) }else{ c with Z:=i64.wrap (c.Z+1),G:=c.G++[key] }
def FO(own:Γ Int)(key value:Int)(measured:Ω):(Γ Ap)->Δ (Γ Ap)| []=>θ []| c::r=>bif υ (c.G.length<=1000000)then(DL own c.X).bind λb=>(FO own key value measured r).bind λcs=>θ ((bif b then BD c key value measured else c)::cs)else κ
def J2(a:Aa)(b:Ad)(row:Int):(Γ Ab)->Δ (Γ Int)| []=>θ []| p::r=>(Bg a b row p.B p.H).bind λv=>(J2 a b row r).bind λvs=>θ (v.1::vs)
def Ls b c a row:=bif 0<=a then(Cu b c [row] a).bind λv=>idx v 0 else θ 0
def GU(b:Aa)(a:Ad)(e:Γ Ab)(c:Int):(Γ Int)->(Γ Ap)->Δ (Γ Ap)| [],cs=>θ cs| row::r,cs=>(Ls b a c row).bind λv=>(J2 b a row e).bind λown=>(idx a.G row).bind λl=>(idx l 0).bind λkey=>(FO own key v (υ (0<=c)) cs).bind λcs=>GU b a e c r cs
def QA b e a f l cs:=bif (Ξ l<=1000000/\Ξ a<=1000000/\Ξ cs<=1000000/\0<Ξ cs)&&cs.all λc=>c.G.isEmpty then GU b e a f l cs else κ
def mO(b:Γ Ap)l:=bif Ξ b<=1000000 then θ (b++[{ X:=l,Z:=0,Bc:=0,Be:=0,A7:=0,Ba:=0,G:=[] }])else κ
def C4(c:Ap):D:=.agg [(Aq 1 (D.int .i64)) c.X,.int .i64 c.Z,.int .i64 c.Bc,.int .i64 c.Be,.int .i64 c.A7,.int .i64 c.Ba,.nil 1]
def IL(d:Nat)(a:Aa)(b:Ad)(e:Ae)(f:Γ Ab)(c:Int)(g:Γ Ap)(h:Γ Ab)(i:Γ Int):Δ (BL×Int):=(Ep d a b e i).bind λj=>(QA a b f c j g).bind λk=>θ ({ V:=h,Ah:=c,Av:=k },0)
def LR a d b c e f g h:=bif a>=0 then IL d b c e f a h g [a]else IL d b c e f a h g []
def LQ(b:Γ (Γ Int)×Ω)(e:Int->Γ Ap->Δ (BL×Int))(f:Int×Γ Ap->Δ (BL×Int))(a:Int)c:=bif a<Ξ b.1 then(idx b.1 a).bind λg=>(mO c g).bind λh=>f (i64.wrap (a+1),h)else e a c
def Ik d a c b e f:=(DK a c).bind λg=>bif g != 0 then θ ({},g)else(Pg d a b e f).bind λh=>bif h != 0 then θ ({},h)else(IW d a { Op:=10,B:=e,V:=b,Q:=f }).bind λj=>(CU c.I j).bind λk=>bif !k then θ ({},23)else(Lr a b).bind λi=>bif !i.2 then θ ({},1)else(CB b).bind λl=>iter (λm s=>LQ i (λo n=>LR e d a c f b l n) m s.1 s.2) Ay (0,[])
def Iu a:=θ (bif a<(-1000000)then ν else(a>1000000))
abbrev It b(e f:Int->Δ Ω)a:=bif a<b.length then(idx b a).bind λc=>(idx b 0).bind λg=>bif Ξ c != (Ξ g:Int)then θ ξ else(AR c Iu).bind λh=>bif h then θ ξ else f (i64.wrap (a+1))else e a
abbrev Mb a:=iter (λb s=>It a (λc=>θ ν) b s) Ay 0
def IH a:=bif bif(Ξ a:Int)==0 then ν else((Ξ a:Int)>200)then θ ξ else(idx a 0).bind λb=>bif (Ξ b:Int)<1 then θ ξ else(idx a 0).bind λc=>bif (Ξ c:Int)>5 then θ ξ else Mb a
def JD(e:Ao)(g:Int×Ao->Δ Ω)h a:=(BX e.C (u64.wrap (if 1>a then 1 else a))).bind λc=>(BX e.E (u64.wrap (if 1>a then 1 else a))).bind λf=>(BI f.2 c.1 0).bind λb=>bif bif bif (u64.wrap (f.1+b.2))>0 then ν else(b.1>72057594037927936)then ν else(bif b.1==72057594037927936 then(c.2>0)else ξ)then θ ν else g (i64.wrap (h+1),{ E:=b.1,C:=c.2 })
abbrev MA c(f:Int->Int->Δ Ω)(g:Int×Int->Δ Ω)e a:=bif a<c.length then(idx c a).bind λb=>g (i64.wrap (e+(if(i64.wrap (0-b))>b then(i64.wrap (0-b))else b)),i64.wrap (a+1))else f e a
def M9 b(e:Int->Ao->Δ Ω)f a c:=bif a<b.length then(idx b a).bind λg=>iter (λh s=>MA g (λi j=>JD c f a i) h s.1 s.2) Ay (0,0)else e a c
def Oe a:=(BN 1).bind λb=>iter (λc s=>M9 a (λe f=>θ ξ) c s.1 s.2) Ay (0,b)
abbrev M6 b(e f:Int->Δ Int)a:=bif a<b.length then(idx b a).bind λc=>bif bif c<(-2147483648)then ν else(c>2147483648)then θ 2 else f (i64.wrap (a+1))else e a
abbrev M5 b(c e:Int->Δ Int)a:=bif a<b.length then(idx b a).bind λf=>iter (λg s=>M6 f (λh=>e (i64.wrap (a+1))) g s) Ay 0 else c a
abbrev Ro a:=iter (λb s=>M5 a (λe=>(Oe a).bind λc=>bif c then θ 14 else θ 0) b s) Ay 0
abbrev M4(b:Γ (Γ Int))(c e:Int->Δ Int)(a:Int):=bif a<Ξ b then(idx b a).bind λf=>bif Ξ f != (Ξ b:Int)then θ 17 else e (i64.wrap (a+1))else c a
def H6 a:=bif(Ξ a:Int)==0 then θ 18 else bif (Ξ a:Int)>5 then θ 1 else iter (λb s=>M4 a (λc=>Ro a) b s) Ay 0
abbrev M8 e f g(h:Int->Γ A1->Δ (Γ A1×Int))(i:Int×Γ A1->Δ (Γ A1×Int))a c:=bif a<e.length then(JE e a f).bind λj=>(Ev j).bind λk=>(Cf k g).bind λb=>bif b.2 != 0 then θ ([],b.2)else bif rm (Ξ c) (Ξ [b.1]) then i (i64.wrap (a+1),c++[b.1])else κ else h a c
abbrev Rp a c:=(Ev a).bind λb=>(Ci b).bind λe=>bif e==0 then θ ([],15)else iter (λf s=>M8 a c b (λh g=>θ (g,0)) f s.1 s.2) Ay (0,[])
abbrev M7 b e(f g:Int->Δ (Γ A1×Int))a:=bif a<b.length then(JE b a e).bind λh=>(H6 h).bind λc=>bif c != 0 then θ ([],c)else g (i64.wrap (a+1))else f a
def LA a b:=(H6 a).bind λc=>bif c != 0 then θ ([],c)else bif(Ξ b:Int) != Ξ a then θ ([],17)else iter (λe s=>M7 a b (λf=>Rp a b) e s) Ay 0
def L9 a b:=(H6 a).bind λc=>bif c != 0 then θ ({},c)else(H6 b).bind λe=>bif e != 0 then θ ({},e)else(Ev b).bind λf=>(Ci f).bind λh=>bif h==0 then θ ({},15)else(Ev a).bind λi=>(Cf i f).bind λg=>θ (g.1,g.2)
abbrev Vj(a:Γ (Γ Int))(b e f:Int):=(Eb (i64.wrap ((i64.wrap (Ξ a*e))-(i64.wrap (b*b)))) (Ξ a)).bind λc=>θ (c.1,c.2)
abbrev LI c(g:Int->Int->Int->Δ (A1×Int))(h:Int×Int×Int->Δ (A1×Int))e f a:=bif a<c.length then(idx c a).bind λb=>(idx b 0).bind λi=>(idx b 0).bind λj=>(idx b 0).bind λk=>h (i64.wrap (e+i),i64.wrap (f+i64.wrap (j*k)),i64.wrap (a+1))else g e f a
def M0 a:=iter (λb s=>LI a (Vj a) b s.1 s.2.1 s.2.2) Ay (0,0,0)
def OY b g h i:=(Pa g).bind λf=>(LA f i).bind λa=>bif a.2 != 0 then θ ({},a.2)else(Pa h).bind λj=>(L9 j f).bind λc=>bif c.2 != 0 then θ ({},c.2)else(M0 b).bind λe=>bif e.2 != 0 then θ (({}:Bd),e.2)else θ ({ A9:=a.1,A2:=c.1,A3:=e.1,Z:=(Ξ b:Int),Bf:=(i64.wrap ((Ξ b:Int)-(Ξ a.1:Int))) },0)
def OZ(b:Int×Γ (Γ Int)×Γ (Γ Int)×Γ Int->Δ (Bd×Int))c e a f g(h j:Int)i:=b (i64.wrap (c+1),e++[[1]++(Ia a 1 (Ξ a))],f++[g++[h]],i)
def OW b(e:Int->Γ Int->Δ (Bd×Int))(f:Int×Γ Int->Δ (Bd×Int))a c:=bif a<(([1]++Ia b 1 (b.length:Int)).length)then(idx ([1]++Ia b 1 (Ξ b)) a).bind λg=>(idx c a).bind λh=>(idx b 0).bind λi=>(idx c a).bind λj=>f (i64.wrap (a+1),c.set a.toNat (i64.wrap (h+i64.wrap (g*i))))else e a c
def OV h(j:Int->Γ (Γ Int)->Γ (Γ Int)->Γ Int->Δ (Bd×Int))k b c e i:=bif b<h.length then(idx h b).bind λa=>bif (0<=(1:Int)/\1<=(Ξ a:Int)/\Ξ a<=(Ξ a:Int))then bif rm (Ξ [1]) (Ξ (Ia a 1 a.length)) then bif rm (Ξ c) (Ξ ([[1]++(Ia a 1 a.length)])) then(A0 ([1]++Ia a 1 (Ξ a))).bind λf=>(idx a 0).bind λg=>bif rm (Ξ f) (Ξ [g]) then bif rm (Ξ e) (Ξ ([f++[g]])) then iter (λl s=>OW a (OZ k b c a e f g) l s.1 s.2) Ay (0,i)else κ else κ else κ else κ else κ else j b c e i
def OX a:=(idx a 0).bind λb=>bif 0<=(Ξ b:Int)&&rm (Ξ b:Int).toNat 0 then iter (λc s=>OV a (λh e f g=>OY a e f g) c s.1 s.2.1 s.2.2.1 s.2.2.2) Ay (0,[],[],List.replicate (Ξ b:Int).toNat 0)else κ
def Rj a:=(IH a).bind λb=>bif !b then θ ({},11)else(idx a 0).bind λc=>bif (Ξ c:Int)<2 then θ ({},11)else(idx a 0).bind λe=>bif (Ξ e:Int)>4 then θ ({},11)else OX a
def Ju(a:Aa)(b:Ad)(rows:Γ Int):(Γ Int)->(Γ (Γ Int))->Δ (Γ (Γ Int))| [],cs=>θ cs| c::r,cs=>(Cu a b rows c).bind λv=>bif v.length==cs.length then Ju a b rows r (cs.zipWith (λl x=>l++[x]) v)else κ
def YQ(p q:Γ Int):Δ (Γ (Γ Int)):=bif (Ξ p<=1000000/\Ξ q<=1000000)then θ (List.replicate (Ξ p) [])else κ
def LH d e f a b g:=(DK e f).bind λi=>bif i != 0 then θ ({},[],i)else(Eg d e { Op:=11,B:=a,A:=b,Q:=g }).bind λj=>bif !j then θ ({},[],11)else(IW d e { Op:=11,B:=a,A:=b,Q:=g }).bind λk=>(CU f.I k).bind λl=>bif !l then θ (({}:Bd),[],23)else bif rm (Ξ [a]) (Ξ b) then(Ep d e f g ([a]++b)).bind λh=>(YQ h ([a]++b)).bind λm=>(Ju e f h ([a]++b) m).bind λn=>(Rj n).bind λc=>bif c.2 != 0 then θ ({},[],c.2)else(A0 b).bind λo=>(Db f h).bind λp=>θ ({ Ah:=a,A0:=o,A9:=c.1.A9,A2:=c.1.A2,A3:=c.1.A3,Z:=c.1.Z,Bf:=c.1.Bf },p,0)else κ
abbrev M3(c:Int->Int->Δ Int)(e:Int×Int->Δ Int)(b a:Int):=bif a != 0 then bif a≠0 then e (a,Int.tmod b a)else κ else c b a
def RD b c:=iter (λe s=>M3 (λa f=>θ (if(i64.wrap (0-a))>a then(i64.wrap (0-a))else a)) e s.1 s.2) Ay (b,c)
def Ee(a:A1):=bif bif bif bif a.T>=1 then(a.T<=1152921504606846976)else ξ then(a.K>=(-1152921504606846976))else ξ then(a.K<=1152921504606846976)else ξ then(RD a.K a.T).bind λb=>θ (b==1)else θ ξ
def CK(a b:Ao):=(BX a.C b.C).bind λc=>θ ({ E:=(u64.wrap (u64.wrap (c.1+u64.wrap (a.E*b.C))+u64.wrap (a.C*b.E))),C:=c.2 }:Ao)
def H4 a b:=(Ee a).bind λe=>bif !e then θ ({},11)else(Ee b).bind λf=>bif !f then θ ({},11)else(BN a.K).bind λg=>(BN b.K).bind λh=>(CK g h).bind λi=>(BN a.T).bind λj=>(BN b.T).bind λk=>(CK j k).bind λl=>(Cf i l).bind λc=>θ (c.1,c.2)
def LM(a:Int):=θ (bif a<0 then ν else(a>1000000))
abbrev PU c f e(g:Int×Int×Γ Aj×A1->Δ (Γ Aj×Int))h(a:Aj):=(Eb (i64.wrap (c-a.Bk)) c).bind λi=>(H4 f i.1).bind λb=>bif b.2 != 0 then θ ([],b.2)else bif rm (Ξ e) (Ξ [({ Bh:=a.Bh,Bj:=a.Bj,Bk:=a.Bk,Bl:=a.Bl,Bm:=b.1 }:Aj)]) then g (i64.wrap (c-(i64.wrap (a.Bk+a.Bl))),i64.wrap (h+1),e++[{ Bh:=a.Bh,Bj:=a.Bj,Bk:=a.Bk,Bl:=a.Bl,Bm:=b.1 }],b.1)else κ
abbrev IK e(f:Int)g(h:Int->Aj->Δ (Γ Aj×Int))(c:Int×Aj->Δ (Γ Aj×Int))b a:=bif b<e.length then(idx e b).bind λi=>bif i != f then c (i64.wrap (b+1),a)else(idx g b).bind λj=>bif j then c (i64.wrap (b+1),{ Bh:=a.Bh,Bj:=a.Bj,Bk:=(i64.wrap (a.Bk+1)),Bl:=a.Bl,Bm:=a.Bm })else c (i64.wrap (b+1),{ Bh:=a.Bh,Bj:=a.Bj,Bk:=a.Bk,Bl:=(i64.wrap (a.Bl+1)),Bm:=a.Bm })else h b a
def LK c h i(j:Int->Int->Γ Aj->A1->Δ (Γ Aj×Int))k b a e f:=bif a<c.length then(idx c a).bind λg=>iter (λl s=>IK h g i (λn m=>PU b f e k a m) l s.1 s.2) Ay (0,{ Bh:=g,Bj:=b })else j b a e f
def Ij a b:=bif Ξ a != (Ξ b:Int)then θ ([],17)else bif (Ξ a:Int)>200 then θ ([],1)else(AR a LM).bind λc=>bif c then θ ([],2)else(A0 a).bind λe=>(B1 e).bind λf=>(E4 f).bind λg=>iter (λh s=>LK g a b (λj k i l=>θ (i,0)) h s.1 s.2.1 s.2.2.1 s.2.2.2) Ay (Ξ a,0,[],{ K:=1,T:=1 })
abbrev Na e b c(f j:Int)g:=(Cu e b c f).bind λh=>(Ij h g).bind λa=>bif a.2 != 0 then θ ([],[],a.2)else(Db b c).bind λi=>θ (a.1,i,0)
abbrev Hn c e(f:Int->Γ Ω->Δ (Γ Aj×Γ Int×Int))(g:Int×Γ Ω->Δ (Γ Aj×Γ Int×Int))a b:=bif a<c.length then(idx c a).bind λh=>(Cd e h).bind λi=>(idx b a).bind λj=>g (i64.wrap (a+1),b.set a.toNat i)else f a b
def LJ d a b e f g:=(DK a b).bind λh=>bif h != 0 then θ ([],[],h)else(Eg d a { Op:=12,B:=e,Q:=g,Y:=f }).bind λi=>bif !i then θ ([],[],11)else(IW d a { Op:=12,B:=e,Q:=g,Y:=f }).bind λj=>(CU b.I j).bind λk=>bif !k then θ ([],[],23)else(Ep d a b g [e]).bind λc=>(Dt d a b f).bind λl=>bif 0<=(Ξ c:Int)&&rm (Ξ c:Int).toNat 0 then iter (λm s=>Hn c l (Na a b c e) m s.1 s.2) Ay (0,List.replicate (Ξ c:Int).toNat ξ)else κ
def N2 d a b c:=(DK a b).bind λe=>bif e != 0 then θ e else(Eg d a c).bind λf=>bif !f then θ 11 else(IW d a c).bind λg=>(CU b.I g).bind λh=>bif !h then θ 23 else θ 0
def Nn a:=θ (bif a<(-1000000)then ν else(a>1000000))
def Yd(a b:Int):=bif b≠0 then bif (Int.tmod a b)<0 then θ (i64.wrap (a-(i64.wrap (Int.tmod a b+b))))else θ (i64.wrap (a-(Int.tmod a b)))else κ
def RN h i(j:Int->Γ Co->Δ (Γ Co×Int))(g:Int×Γ Co->Δ (Γ Co×Int))c a:=bif c<h.length then(idx h c).bind λk=>(Yd k i).bind λb=>bif(Ξ a:Int)==0 then bif rm (Ξ a) (Ξ [({ C:=b }:Co)]) then(idx (a++[{ C:=b }]) (i64.wrap ((Ξ (a++[({ C:=b }:Co)]))-1))).bind λe=>(idx (a++[{ C:=b }]) (i64.wrap ((Ξ (a++[({ C:=b }:Co)]))-1))).bind λf=>g (i64.wrap (c+1),(a++[({ C:=b }:Co)]).set (i64.wrap ((Ξ (a++[({ C:=b }:Co)]):Int)-1)).toNat { C:=f.C,Z:=(i64.wrap (e.Z+1)) })else κ else(idx a (i64.wrap (Ξ a-1))).bind λl=>bif l.C != b then bif rm (Ξ a) (Ξ [({ C:=b }:Co)]) then(idx (a++[{ C:=b }]) (i64.wrap ((Ξ (a++[({ C:=b }:Co)]))-1))).bind λe=>(idx (a++[{ C:=b }]) (i64.wrap ((Ξ (a++[({ C:=b }:Co)]))-1))).bind λf=>g (i64.wrap (c+1),(a++[({ C:=b }:Co)]).set (i64.wrap ((Ξ (a++[({ C:=b }:Co)]):Int)-1)).toNat { C:=f.C,Z:=(i64.wrap (e.Z+1)) })else κ else(idx a (i64.wrap (Ξ a-1))).bind λe=>(idx a (i64.wrap (Ξ a-1))).bind λf=>g (i64.wrap (c+1),a.set (i64.wrap ((Ξ a:Int)-1)).toNat { C:=f.C,Z:=(i64.wrap (e.Z+1)) })else j c a
def RP a b:=(A0 a).bind λc=>(B1 c).bind λe=>iter (λf s=>RN e b (λh g=>θ (g,0)) f s.1 s.2) Ay (0,[])
def N1 a b:=bif (Ξ a:Int)>200 then θ ([],1)else bif bif b<1 then ν else(b>1000000)then θ ([],2)else(AR a Nn).bind λc=>bif c then θ ([],2)else RP a b
abbrev VI b c(h:Int)e f:=(N1 f b).bind λa=>bif a.2 != 0 then θ ([],[],a.2)else(Db c e).bind λg=>θ (a.1,g,0)
abbrev Og g h i k l(m:Int->Γ Int->Γ Int->Δ (Γ Co×Γ Int×Int))(j:Int×Γ Int×Γ Int->Δ (Γ Co×Γ Int×Int))a b c:=bif a<g.length then(idx g a).bind λf=>(G5 h i k).bind λn=>(Bg h l f i n).bind λe=>bif bif e.2 then(e.1 != (-1099511627776))else ξ then bif rm (Ξ b) (Ξ [f]) then bif rm (Ξ c) (Ξ [e.1]) then j (i64.wrap (a+1),b++[f],c++[e.1])else κ else κ else j (i64.wrap (a+1),b,c)else m a b c
def S4 d b a e c f:=(N2 d b a { Op:=13,K:=c,B:=e,Q:=f }).bind λg=>bif g != 0 then θ ([],[],g)else(Dt d b a f).bind λh=>iter (λi s=>Og h b e c a (VI c a) i s.1 s.2.1 s.2.2) Ay (0,[],[])
def FH(a:Γ Int):Δ (K2×Int):=bif (Ξ a:Int)>200 then θ ({},1)else(AR a Nn).bind λc=>bif c then θ ({},2)else bif(Ξ a:Int)==0 then θ ({},18)else(A0 a).bind λe=>(B1 e).bind λb=>(idx b 0).bind λf=>(idx b (i64.wrap (Int.tdiv (i64.wrap (Ξ a-1)) 4))).bind λg=>(idx b (i64.wrap (Int.tdiv (i64.wrap (Ξ a-1)) 2))).bind λh=>(idx b (i64.wrap (Int.tdiv (i64.wrap (3*i64.wrap (Ξ a-1))) 4))).bind λi=>(idx b (i64.wrap (Ξ a-1))).bind λj=>θ ({ Z:=(Ξ a:Int),Bo:=f,Bp:=g,Bq:=h,Br:=i,Bs:=j },0)
def Tf d b a c f:=(N2 d b a { Op:=14,B:=c,Q:=f }).bind λg=>bif g != 0 then θ ({},[],g)else(Ep d b a f [c]).bind λh=>(Cu b a h c).bind λi=>(FH i).bind λe=>bif e.2 != 0 then θ ({},[],e.2)else(Db a h).bind λj=>θ (e.1,j,0)
def GA(a b:A1):=(BN a.K).bind λc=>(BN b.T).bind λe=>(CK c e).bind λf=>(BN b.K).bind λg=>(BN a.T).bind λh=>(CK g h).bind λi=>θ (f,i)
def G9 a b(f:Ao->Ao->Δ Ao):=(Ee a).bind λg=>bif !g then θ ({},11)else(Ee b).bind λh=>bif !h then θ ({},11)else(GA a b).bind λc=>(f c.1 c.2).bind λi=>(BN a.T).bind λj=>(BN b.T).bind λk=>(CK j k).bind λl=>(Cf i l).bind λe=>θ (e.1,e.2)
def L2 b c:=(G9 b c Dj).bind λa=>θ (a.1,a.2)
def L3 b c:=(G9 b c CJ).bind λa=>θ (a.1,a.2)
def Ji b a:=(Ee b).bind λf=>bif !f then θ ({},11)else(Ee a).bind λg=>bif !g then θ ({},11)else bif a.K==0 then θ ({},18)else(GA b a).bind λc=>(Cf c.1 c.2).bind λe=>θ (e.1,e.2)
def AL(a b:Int)c e f g h i j k l m n o p q r t u v w x y:=bif a != 0 then θ (({}:A4),a)else θ ({ Kind:=b,Table:={ V:=c,Ah:=e,Av:=f },Model:={ Ah:=g,A0:=h,A9:=i,A2:={ K:=j,T:=k },A3:={ K:=l,T:=m },Z:=n,Bf:=o },Curve:=p,Hist:=q,Box:={ Z:=r,Bo:=t,Bp:=u,Bq:=v,Br:=w,Bs:=x },Lineage:=y },0)
def Cb d(q l:A6->Ag->Δ (A4×Int))b a:=bif a.Op==1 then θ ({ Kind:=1,Number:={ K:=a.K,T:=1 } },0)else bif a.Op==2 then(D7 b a.J).bind λm=>θ (m,0)else bif a.Op==3 then(Dt d b.N.Ak b.N.U a.Q).bind λj=>(Db b.N.U j).bind λn=>θ ({ Kind:=1,Number:={ K:=(Ξ j:Int),T:=1 },Lineage:=n },0)else bif a.Op==4 then(Cj d b a).bind λg=>θ (g.1,g.2)else bif a.Op==5 then(Cj d b a).bind λg=>θ (g.1,g.2)else bif a.Op==10 then(Ik d b.N.Ak b.N.U a.V a.B a.Q).bind λe=>bif e.2==0 then(idx e.1.Av 0).bind λo=>(A0 o.G).bind λp=>AL e.2 2 e.1.V e.1.Ah e.1.Av 0 [] [] 0 0 0 0 0 0 [] [] 0 0 0 0 0 0 p else AL e.2 2 e.1.V e.1.Ah e.1.Av 0 [] [] 0 0 0 0 0 0 [] [] 0 0 0 0 0 0 []else bif a.Op==11 then(LH d b.N.Ak b.N.U a.B a.A a.Q).bind λc=>AL c.2.2 3 [] 0 [] c.1.Ah c.1.A0 c.1.A9 c.1.A2.K c.1.A2.T c.1.A3.K c.1.A3.T c.1.Z c.1.Bf [] [] 0 0 0 0 0 0 c.2.1 else bif a.Op==12 then(LJ d b.N.Ak b.N.U a.B a.Y a.Q).bind λh=>AL h.2.2 4 [] 0 [] 0 [] [] 0 0 0 0 0 0 h.1 [] 0 0 0 0 0 0 h.2.1 else bif a.Op==13 then(S4 d b.N.Ak b.N.U a.B a.K a.Q).bind λi=>AL i.2.2 5 [] 0 [] 0 [] [] 0 0 0 0 0 0 [] i.1 0 0 0 0 0 0 i.2.1 else bif a.Op==14 then(Tf d b.N.Ak b.N.U a.B a.Q).bind λf=>AL f.2.2 6 [] 0 [] 0 [] [] 0 0 0 0 0 0 [] [] f.1.Z f.1.Bo f.1.Bp f.1.Bq f.1.Br f.1.Bs f.2.1 else(l b a).bind λk=>θ (k.1,k.2)
def Dz(d:Nat)(g k:A6->Ag->Δ (A4×Int))h(f:Ag):=(idx f.D 0).bind λi=>(g h i).bind λb=>bif b.2 != 0 then θ ({},b.2)else(idx f.D 1).bind λj=>(g h j).bind λc=>bif c.2 != 0 then θ (({}:A4),c.2)else bif f.Op==7 then(L3 b.1.Number c.1.Number).bind λa=>bif a.2 != 0 then θ ({},a.2)else(F6 b.1.Lineage c.1.Lineage).bind λe=>θ ({ Kind:=1,Number:=a.1,Lineage:=e },0)else bif f.Op==8 then(H4 b.1.Number c.1.Number).bind λa=>bif a.2 != 0 then θ ({},a.2)else(F6 b.1.Lineage c.1.Lineage).bind λe=>θ ({ Kind:=1,Number:=a.1,Lineage:=e },0)else bif f.Op==9 then(Ji b.1.Number c.1.Number).bind λa=>bif a.2 != 0 then θ ({},a.2)else(F6 b.1.Lineage c.1.Lineage).bind λe=>θ ({ Kind:=1,Number:=a.1,Lineage:=e },0)else(L2 b.1.Number c.1.Number).bind λa=>bif a.2 != 0 then θ ({},a.2)else(F6 b.1.Lineage c.1.Lineage).bind λe=>θ ({ Kind:=1,Number:=a.1,Lineage:=e },0)
mutual
def Bq:Nat->A6->Ag->Option (A4×Int)| 0,_,_=>κ| d+1,a,b=>Cb d (Bq d) (Dw d) a b
def Dw:Nat->A6->Ag->Option (A4×Int)| 0,_,_=>κ| d+1,a,b=>Dz d (Bq d) (Dw d) a b
end
def L4(f:Γ Az)d g h(i:Int->Γ Ar->Δ (Γ Ar×Int×Int))(j:Int×Γ Ar->Δ (Γ Ar×Int×Int))(a:Int)c:=bif a<Ξ f then(idx f a).bind λb=>(Bq d { N:={ Ak:=g,U:=h },A5:=c } b.At).bind λe=>bif e.2 != 0 then θ ([],a,e.2)else bif rm (Ξ c) (Ξ [({ J:=b.J,A8:=b.A8,Ai:=e.1 }:Ar)]) then j (i64.wrap (a+1),c++[{ J:=b.J,A8:=b.A8,Ai:=e.1 }])else κ else i a c
def F5 d a c b:=(DK a c).bind λg=>bif g != 0 then θ ([],(-1),g)else(JZ d a b).bind λe=>bif e.2 != 0 then θ ([],e.1,e.2)else(Il d a c.I b).bind λf=>bif f.2.2 != 0 then θ ([],f.2.1,f.2.2)else iter (λh s=>L4 b d a c (λj i=>θ (i,Ξ b,0)) h s.1 s.2) Ay (0,[])
abbrev Kr(e:Γ Ar)(h:Int->Γ Ar->Δ (Γ Ar))(f:Int×Γ Ar->Δ (Γ Ar))(b:Int)c:=bif b<Ξ e then(idx e b).bind λa=>bif a.A8 then(ES a.Ai).bind λg=>bif rm (Ξ c) (Ξ [({ J:=a.J,A8:=a.A8,Ai:=g }:Ar)]) then f (i64.wrap (b+1),c++[{ J:=a.J,A8:=a.A8,Ai:=g }])else κ else f (i64.wrap (b+1),c)else h b c
def GN a:=iter (λb s=>Kr a (λe c=>θ c) b s.1 s.2) Ay (0,[])
abbrev Y9(b c:Γ Int)(e f:Int->Δ Ω)(a:Int):=bif a<Ξ b then(idx b a).bind λg=>(idx c a).bind λh=>bif g != h then θ ξ else f (i64.wrap (a+1))else e a
def KL a b:=bif Ξ a != (Ξ b:Int)then θ ξ else iter (λc s=>Y9 a b (λe=>θ ν) c s) Ay 0
abbrev Sa c e(i:Ω->Int->Γ (Γ Int)->Δ (Γ (Γ Int)))(h:Ω×Int×Γ (Γ Int)->Δ (Γ (Γ Int)))g a b:=bif a<c.length then(idx c a).bind λj=>(idx j 0).bind λk=>(idx e 0).bind λl=>bif k==l then h (g,i64.wrap (a+1),b)else(idx c a).bind λm=>(idx m 0).bind λn=>(idx e 0).bind λo=>bif bif n>o then(!g)else ξ then bif rm (Ξ b) (Ξ [e]) then(idx c a).bind λf=>bif rm (Ξ (b++[e])) (Ξ [f]) then h (ν,i64.wrap (a+1),(b++[e])++[f])else κ else κ else(idx c a).bind λf=>bif rm (Ξ b) (Ξ [f]) then h (g,i64.wrap (a+1),b++[f])else κ else i g a b
def S5 c a:=iter (λe s=>Sa c a (λf g b=>bif !f then bif rm (Ξ b) (Ξ [a]) then θ (b++[a]) else κ else θ b) e s.1 s.2.1 s.2.2) Ay (ξ,0,[])
abbrev YA(a:Θ):=bif a.toList==({ data:=#[97,108,108] }:Θ).toList then θ ξ else bif a.toList==({ data:=#[97,110,100] }:Θ).toList then θ ξ else bif a.toList==({ data:=#[101,118,101,110,116] }:Θ).toList then θ ξ else bif a.toList==({ data:=#[102,114,111,109] }:Θ).toList then θ ξ else bif a.toList==({ data:=#[109,105,115,115,105,110,103] }:Θ).toList then θ ξ else bif a.toList==({ data:=#[110,111,116] }:Θ).toList then θ ξ else bif a.toList==({ data:=#[111,110] }:Θ).toList then θ ξ else bif a.toList==({ data:=#[111,114] }:Θ).toList then θ ξ else bif a.toList==({ data:=#[116,111] }:Θ).toList then θ ξ else bif a.toList==({ data:=#[117,110,100,101,114] }:Θ).toList then θ ξ else bif a.toList==({ data:=#[119,104,101,114,101] }:Θ).toList then θ ξ else θ ν
abbrev Ml b(e c:Int->Δ Ω)a:=bif a<b.size then bif (0<=a/\a.toNat<b.size)then bif (Gi b a)>=97 then bif (0<=a/\a.toNat<b.size)then bif (Gi b a)<=122 then c (i64.wrap (a+1))else bif (0<=a/\a.toNat<b.size)then bif (Gi b a)>=48 then bif (0<=a/\a.toNat<b.size)then bif (Gi b a)<=57 then c (i64.wrap (a+1))else bif (0<=a/\a.toNat<b.size)then bif !((Gi b a)==95)then θ ξ else c (i64.wrap (a+1))else κ else κ else bif (0<=a/\a.toNat<b.size)then bif !((Gi b a)==95)then θ ξ else c (i64.wrap (a+1))else κ else κ else κ else bif (0<=a/\a.toNat<b.size)then bif (Gi b a)>=48 then bif (0<=a/\a.toNat<b.size)then bif (Gi b a)<=57 then c (i64.wrap (a+1))else bif (0<=a/\a.toNat<b.size)then bif !((Gi b a)==95)then θ ξ else c (i64.wrap (a+1))else κ else κ else bif (0<=a/\a.toNat<b.size)then bif !((Gi b a)==95)then θ ξ else c (i64.wrap (a+1))else κ else κ else κ else e a
def Mm a:=iter (λb s=>Ml a (λc=>YA a) b s) Ay 0
def D8 a:=bif bif (a.size:Int)<1 then ν else((a.size:Int)>16)then θ ξ else bif (0<=(0:Int)/\(0:Int).toNat<a.size)then bif (Gi a 0)<97 then θ ξ else bif (0<=(0:Int)/\(0:Int).toNat<a.size)then bif (Gi a 0)>122 then θ ξ else Mm a else κ else κ
abbrev Xf(b:Am)(e:Int->Int->Δ Int)(f:Int×Int->Δ Int)a c:=(idx b.X a).bind λg=>bif g.Bt>=0 then(idx b.X a).bind λh=>f (h.Bt,i64.wrap (c+1))else e a c
def Gv a b:=iter (λc s=>Xf a (λf e=>θ e) c s.1 s.2) Ay (b,0)
abbrev YB(b:Am)c(e f:Int->Δ Ω)(a:Int):=bif a<Ξ b.X then(idx b.X a).bind λg=>bif g.Bt==c then θ ξ else f (i64.wrap (a+1))else e a
def Zq a b:=iter (λc s=>YB a b (λe=>θ ν) c s) Ay 0
abbrev Xd b(g:Int->Int->Δ Int)(e:Int×Int->Δ Int)c a:=bif a<b.X.length then(Zq b a).bind λh=>bif h then bif c>=0 then(Gv b a).bind λi=>bif i != c then θ 5 else(Gv b a).bind λf=>e (f,i64.wrap (a+1))else(Gv b a).bind λf=>e (f,i64.wrap (a+1))else e (c,i64.wrap (a+1))else g c a
abbrev Xe a:=iter (λb s=>Xd a (λc e=>θ 0) b s.1 s.2) Ay ((-1),0)
abbrev gL(c:Am)a(e:Int->Δ Int)(f:Int):=(idx c.X a).bind λb=>bif bif bif a==0 then(b.Bt != (-1))else ξ then ν else(bif a>0 then(bif b.Bt<0 then ν else(b.Bt>=a))else ξ)then θ 6 else e (i64.wrap (a+1))
abbrev Xb b(c:Am)(e f:Int->Δ Int)a:=bif a<b then(idx c.X a).bind λg=>(idx c.X b).bind λh=>bif g.J.toList==h.J.toList then θ 10 else f (i64.wrap (a+1))else e a
abbrev Xa b(c e:Int->Δ Int)a:=bif a<b.X.length then(idx b.X a).bind λf=>(D8 f.J).bind λg=>bif !g then θ 3 else iter (λh s=>Xb a b (gL b a e) h s) Ay 0 else c a
def H9 a:=(D8 a.J).bind λb=>bif !b then θ 3 else bif(Ξ a.X:Int)==0 then θ 5 else bif (Ξ a.X:Int)>60 then θ 1 else iter (λc s=>Xa a (λe=>Xe a) c s) Ay 0
def HA a:=(H9 a).bind λb=>bif b != 0 then θ (-1)else(Gv a (i64.wrap (Ξ a.X-1))).bind λc=>θ (i64.wrap (c+1))
abbrev dJ c f(g:Int->Γ Int->Δ (Γ Int))(e:Int×Γ Int->Δ (Γ Int))a b:=bif a<c.X.length then(Gv c a).bind λh=>bif h==f then bif rm (Ξ b) (Ξ [a]) then e (i64.wrap (a+1),b++[a])else κ else e (i64.wrap (a+1),b)else g a b
def Mk a b:=(H9 a).bind λc=>bif c != 0 then θ []else iter (λe s=>dJ a b (λg f=>θ f) e s.1 s.2) Ay (0,[])
def Dk(a:Aa)c:=(idx a.A c).bind λe=>(idx a.S e.Al).bind λb=>(HA b).bind λf=>(Mk b (i64.wrap (f-1))).bind λg=>θ g
def EL(a b c:Int):=θ (bif b<=a then(υ (a<=c))else ξ)
abbrev Vb(b:Ax)(g e:Int->Δ Int)(a:Int):=bif a<Ξ b.L then(idx b.L a).bind λc=>bif bif a==0 then(c != 1)else ξ then θ 2 else bif a>0 then(idx b.L (i64.wrap (a-1))).bind λh=>bif bif c<=h then ν else(c>1000000)then θ 2 else(idx b.L (i64.wrap (a-1))).bind λf=>bif f≠0 then bif(Int.tmod c f) != 0 then θ 2 else e (i64.wrap (a+1))else κ else e (i64.wrap (a+1))else g a
abbrev PD a:=bif bif (Ξ a.L:Int)<1 then ν else((Ξ a.L:Int)>4)then θ 1 else iter (λb s=>Vb a (λc=>θ 0) b s) Ay 0
def Mn a:=(EL a.C (-1000000) 1000000).bind λb=>bif !b then θ 2 else(EL a.E (-1000000) 1000000).bind λc=>bif bif !c then ν else(a.C>a.E)then θ 2 else PD a
abbrev JK a:=bif a.Kind==3 then(Mn a).bind λb=>bif b != 0 then θ b else bif bif bif a.Kind != 2 then(a.Al != 0)else ξ then ν else(bif a.Kind != 3 then(bif bif bif a.C != 0 then ν else(a.E != 0)then ν else((Ξ a.L:Int)>0)then ν else a.An)else ξ)then θ 11 else θ 0 else bif bif bif a.Kind != 2 then(a.Al != 0)else ξ then ν else(bif a.Kind != 3 then(bif bif bif a.C != 0 then ν else(a.E != 0)then ν else((Ξ a.L:Int)>0)then ν else a.An)else ξ)then θ 11 else θ 0
def MG a(b:Int)(c:Aa):=(EL a.Kind 1 3).bind λe=>bif bif !e then ν else(bif b>0 then(a.Kind==1)else ξ)then θ 4 else bif a.Kind==2 then(EL a.Al 0 (i64.wrap (Ξ c.S-1))).bind λf=>bif !f then θ 5 else JK a else JK a
abbrev MF b(c:Aa)(e:Ax)(f g:Int->Δ Int)a:=bif a<b then(idx c.A a).bind λh=>bif h.J.toList==e.J.toList then θ 10 else g (i64.wrap (a+1))else f a
def Oo a b:=(idx a.A b).bind λc=>(D8 c.J).bind λe=>bif !e then θ 3 else iter (λf s=>MF b a c (λg=>MG c b a) f s) Ay 0
abbrev On b(e f:Int->Δ Int)a:=bif a<b.A.length then(Oo b a).bind λc=>bif c != 0 then θ c else f (i64.wrap (a+1))else e a
abbrev Tg a:=bif(Ξ a.A:Int)==0 then θ 7 else(idx a.A 0).bind λb=>bif b.Kind != 1 then θ 7 else iter (λc s=>On a (λe=>θ 0) c s) Ay 0
abbrev Om b(c:Aa)(e f:Int->Δ Int)a:=bif a<b then(idx c.S a).bind λg=>(idx c.S b).bind λh=>bif g.J.toList==h.J.toList then θ 10 else f (i64.wrap (a+1))else e a
abbrev Ol b(e f:Int->Δ Int)a:=bif a<b.S.length then(idx b.S a).bind λg=>(H9 g).bind λc=>bif c != 0 then θ c else iter (λh s=>Om a b (λi=>f (i64.wrap (a+1))) h s) Ay 0 else e a
def D9 a:=bif bif (Ξ a.S:Int)>6 then ν else((Ξ a.A:Int)>8)then θ 1 else iter (λb s=>Ol a (λc=>Tg a) b s) Ay 0
def B3 a(b:Int):=(D9 a).bind λe=>bif bif bif e != 0 then ν else(b<1)then ν else(b>=Ξ a.A)then θ (-1)else(idx a.A b).bind λc=>bif c.Kind==2 then(idx a.S c.Al).bind λf=>(HA f).bind λg=>θ (i64.wrap (g-1))else θ (Ξ c.L)
abbrev U1(b:CH)e(f c:Int->Δ Int)(a:Int):=bif a<Ξ b.G then(idx b.G a).bind λg=>bif (Ξ g:Int)>0 then(idx b.G a).bind λh=>(idx h 0).bind λi=>bif i==e then θ a else c (i64.wrap (a+1))else c (i64.wrap (a+1))else f a
def No a b:=iter (λc s=>U1 a b (λe=>θ (-1)) c s) Ay 0
def KN a(b:Int):=(H9 a).bind λc=>bif bif bif c != 0 then ν else(b<0)then ν else(b>=Ξ a.X)then θ (-1)else(Gv a b).bind λe=>θ e
def N5(e:Aa)f b:=(idx e.A f).bind λa=>bif a.Kind==1 then(EL b 1 1048575).bind λg=>θ g else bif a.Kind==2 then(idx e.S a.Al).bind λc=>(EL b 0 (i64.wrap (Ξ c.X-1))).bind λh=>bif h then(KN c b).bind λi=>(HA c).bind λj=>θ (i==(i64.wrap (j-1)))else θ ξ else bif bif a.An then(b==(-1099511627776))else ξ then θ ν else(EL b a.C a.E).bind λk=>θ k
abbrev RZ b c(e f:Int->Δ Int)a:=bif a<b.length then(idx b a).bind λg=>(N5 c a g).bind λh=>bif !h then θ 9 else f (i64.wrap (a+1))else e a
def P7 a b:=(D9 a).bind λc=>bif c != 0 then θ c else bif(Ξ b:Int) != Ξ a.A then θ 9 else iter (λe s=>RZ b a (λf=>θ 0) e s) Ay 0
abbrev Tj b(g f:Int->Δ Ω)a:=bif a<b.B6.length then(idx b.B6 a).bind λh=>bif h<1 then θ ξ else(idx b.B6 a).bind λi=>bif i>1048575 then θ ξ else bif a>0 then(idx b.B6 a).bind λj=>(idx b.B6 (i64.wrap (a-1))).bind λk=>bif j<=k then θ ξ else(idx b.B6 a).bind λc=>(No b c).bind λe=>bif e>=0 then θ ξ else f (i64.wrap (a+1))else(idx b.B6 a).bind λc=>(No b c).bind λe=>bif e>=0 then θ ξ else f (i64.wrap (a+1))else g a
abbrev Tk a:=iter (λb s=>Tj a (λc=>θ ν) b s) Ay 0
abbrev Oq(b:CH)(e c:Int->Δ Ω)(a:Int):=bif a<Ξ b.G then(idx b.G a).bind λf=>(P7 b.Bi f).bind λg=>bif g != 0 then θ ξ else bif a>0 then(idx b.G a).bind λh=>(idx h 0).bind λi=>(idx b.G (i64.wrap (a-1))).bind λj=>(idx j 0).bind λk=>bif i<=k then θ ξ else c (i64.wrap (a+1))else c (i64.wrap (a+1))else e a
def N6 a:=(D9 a.Bi).bind λb=>bif bif bif bif bif b != 0 then ν else((Ξ a.G:Int)>200)then ν else((Ξ a.B6:Int)>300)then ν else(a.As<0)then ν else(a.As>300)then θ ξ else iter (λc s=>Oq a (λe=>Tk a) c s) Ay 0
def FW b(a:Ab):=(D9 b).bind λc=>bif c != 0 then θ c else bif bif a.B<1 then ν else(a.B>=Ξ b.A)then θ 7 else(B3 b a.B).bind λe=>(EL a.H 0 e).bind λf=>bif !f then θ 8 else θ 0
abbrev IC b f(g c:Int->Δ Int)a:=bif a<b.length then(idx b a).bind λh=>(FW f h).bind λe=>bif e != 0 then θ e else bif a>0 then(idx b a).bind λi=>(idx b (i64.wrap (a-1))).bind λj=>bif i.B<=j.B then θ 10 else c (i64.wrap (a+1))else c (i64.wrap (a+1))else g a
def DC a c:=(D9 a).bind λb=>bif b != 0 then θ b else iter (λe s=>IC c a (λf=>θ 0) e s) Ay 0
abbrev KQ(c:Ae)e(f:Ae->Int->Δ Int)(g:Int->Int->Δ Int)(h:Int×Int->Δ Int)(a b:Int):=bif bif b<Ξ c.D then(a<e)else ξ then(idx c.D b).bind λi=>(f i (i64.wrap (e-a))).bind λj=>h (i64.wrap (a+j),i64.wrap (b+1))else g a b
def Ic(d:Nat)a b c:=iter (λe s=>KQ b c a (λf g=>θ f) e s.1 s.2) Ay (1,0)
def IQ:Nat->Ae->Int->Δ Int| 0,_,_=>κ| d+1,a,b=>Ic d (IQ d) a b
abbrev Xk(c:Ae)(f:Ae->Δ Int)(g:Int->Int->Δ Int)(h:Int×Int->Δ Int)(b a:Int):=bif a<Ξ c.D then(idx c.D a).bind λi=>(f i).bind λe=>h (if e>b then e else b,i64.wrap (a+1))else g b a
def Qg(d:Nat)a b:=iter (λc s=>Xk b a (λe f=>θ (i64.wrap (e+1))) c s.1 s.2) Ay (0,0)
def IR:Nat->Ae->Δ Int| 0,_=>κ| d+1,a=>Qg d (IR d) a
def ID(b:Aa)(a c:Int):=bif bif a>=0 then(a<Ξ b.A)else ξ then(idx b.A a).bind λe=>θ (e.Kind==c)else θ ξ
def Ie(b:Ae)(e:Aa->Ae->Δ Int)f(g h:Int->Δ Int)(a:Int):=bif a<Ξ b.D then(idx b.D a).bind λi=>(e f i).bind λc=>bif c != 0 then θ c else h (i64.wrap (a+1))else g a
def C5 a b c:=bif bif a.Op==3 then(bif bif a.C<(-1000000)then ν else(a.E>1000000)then ν else(a.C>a.E))else ξ then θ 2 else iter (λe s=>Ie a b c (λf=>θ 0) e s) Ay 0
def BW a b c:=bif a.Op==2 then bif a.Af<0 then θ 6 else(idx b.A a.B).bind λe=>(idx b.S e.Al).bind λf=>bif a.Af>=f.X.length then θ 6 else C5 a c b else C5 a c b
def AH a b c(e f g h i:Int):=bif bif bif bif bif Ξ a.D != e then ν else(f != a.B)then ν else(g != a.Af)then ν else(h != a.C)then ν else(i != a.E)then θ 11 else bif a.Op==2 then(ID b a.B 2).bind λj=>bif !j then θ 7 else BW a b c else bif a.Op==3 then(ID b a.B 3).bind λk=>bif !k then θ 7 else BW a b c else bif a.Op==4 then(ID b a.B 3).bind λl=>bif !l then θ 7 else(idx b.A a.B).bind λm=>bif !m.An then θ 7 else BW a b c else BW a b c
def Eo(d:Nat)b c a:=bif a.Op==1 then AH a c b 0 0 0 0 0 else bif a.Op==2 then AH a c b 0 a.B a.Af 0 0 else bif a.Op==3 then AH a c b 0 a.B 0 a.C a.E else bif a.Op==4 then AH a c b 0 a.B 0 0 0 else bif a.Op==5 then AH a c b 2 0 0 0 0 else bif a.Op==6 then AH a c b 2 0 0 0 0 else bif a.Op==7 then AH a c b 1 0 0 0 0 else θ 4
def Fv:Nat->Aa->Ae->Δ Int| 0,_,_=>κ| d+1,a,b=>Eo d (Fv d) a b
def BY d b a:=(D9 b).bind λc=>bif c != 0 then θ c else(IQ d a 41).bind λe=>bif e>40 then θ 1 else(IR d a).bind λf=>bif f>10 then θ 22 else(Fv d b a).bind λg=>θ g
def Mp(b:Aa)(a c:Int):=bif bif a>=0 then(a<Ξ b.A)else ξ then(idx b.A a).bind λe=>θ (e.Kind==c)else θ ξ
abbrev Ig b(c:Γ Ab)(e f:Int->Δ Int)a:=bif a<b then(idx c a).bind λg=>(idx c b).bind λh=>bif g.B==h.B then θ 10 else f (i64.wrap (a+1))else e a
abbrev Qi b c(f g:Int->Δ Int)a:=bif a<b.length then(idx b a).bind λh=>(FW c h).bind λe=>bif e != 0 then θ e else(idx b a).bind λi=>(Mp c i.B 2).bind λj=>bif !j then θ 7 else iter (λk s=>Ig a b (λl=>g (i64.wrap (a+1))) k s) Ay 0 else f a
def KT b a:=bif bif (Ξ a:Int)<1 then ν else((Ξ a:Int)>3)then θ 1 else iter (λc s=>Qi a b (λe=>θ 0) c s) Ay 0
abbrev RU b(c:Int)(e f:Int->Δ Ω)a:=bif a<b.length then(idx b a).bind λg=>bif g==c then θ ν else f (i64.wrap (a+1))else e a
def N3 a b:=iter (λc s=>RU a b (λe=>θ ξ) c s) Ay 0
abbrev Xo b c e(f g:Int->Δ Int)a:=bif a<b.length then(idx b a).bind λh=>(Mp c h 3).bind λi=>bif !i then θ 7 else(idx b a).bind λj=>bif j==e then θ 10 else bif (0<=(0:Int)/\0<=a/\a<=Ξ b)then(idx b a).bind λk=>(N3 (Ia b 0 a) k).bind λl=>bif l then θ 10 else g (i64.wrap (a+1))else κ else f a
def NB b c a:=bif bif (Ξ a:Int)<1 then ν else((Ξ a:Int)>3)then θ 1 else iter (λe s=>Xo a b c (λf=>θ 0) e s) Ay 0
def Ra d b(a:BF):=(Mp b a.Ah 3).bind λc=>bif a.Kind==1 then(KT b a.V).bind λe=>bif e != 0 then θ e else bif bif a.Ah != (-1)then(!c)else ξ then θ 7 else θ 0 else bif a.Kind==2 then bif !c then θ 7 else(NB b a.Ah a.A0).bind λf=>θ f else bif !c then θ 7 else(idx b.A a.Ah).bind λg=>bif g.C<0 then θ 2 else(BY d b a.Y).bind λh=>θ h
abbrev YC(b c:Ae)(e:Ae->Ae->Δ Ω)(f g:Int->Δ Ω)(a:Int):=bif a<Ξ b.D then(idx b.D a).bind λh=>(idx c.D a).bind λi=>(e h i).bind λj=>bif !j then θ ξ else g (i64.wrap (a+1))else f a
def Ow(d:Nat)c a b:=bif bif bif bif bif bif a.Op != b.Op then ν else(a.B != b.B)then ν else(a.Af != b.Af)then ν else(a.C != b.C)then ν else(a.E != b.E)then ν else((Ξ a.D:Int) != Ξ b.D)then θ ξ else iter (λe s=>YC a b c (λf=>θ ν) e s) Ay 0
def PE:Nat->Ae->Ae->Δ Ω| 0,_,_=>κ| d+1,a,b=>Ow d (PE d) a b
def Zs d a:=(PE d a {}).bind λb=>θ b
def Ei d b a:=(D9 b).bind λc=>bif c != 0 then θ c else(D8 a.J).bind λg=>bif !g then θ 3 else bif bif a.Kind<1 then ν else(a.Kind>3)then θ 4 else(BY d b a.Bu).bind λe=>bif e != 0 then θ e else(Ra d b a).bind λf=>bif f != 0 then θ f else bif bif bif a.Kind != 1 then((Ξ a.V:Int)>0)else ξ then ν else(bif a.Kind != 2 then((Ξ a.A0:Int)>0)else ξ)then θ 11 else bif a.Kind != 3 then(Zs d a.Y).bind λh=>bif !h then θ 11 else θ 0 else θ 0
abbrev Tq b(c:B2)(e f:Int->Δ Int)a:=bif a<b then(idx c.B5 a).bind λg=>(idx c.B5 b).bind λh=>bif g.J.toList==h.J.toList then θ 10 else f (i64.wrap (a+1))else e a
abbrev O6 b d e(f g:Int->Δ Int)a:=bif a<b.B5.length then(idx b.B5 a).bind λh=>(Ei d e h).bind λc=>bif c != 0 then θ c else iter (λi s=>Tq a b (λj=>g (i64.wrap (a+1))) i s) Ay 0 else f a
abbrev Tr d b a:=(BY d b a.Bw).bind λc=>bif c != 0 then θ c else bif bif bif bif bif bif a.Bx.Of<1 then ν else(a.Bx.Of>1000)then ν else(a.Bx.B0<1)then ν else(a.Bx.B0>a.Bx.Of)then ν else(a.Bx.B1<0)then ν else(a.Bx.B1>1099511627776)then θ 2 else bif bif (Ξ a.B5:Int)<1 then ν else((Ξ a.B5:Int)>8)then θ 1 else iter (λe s=>O6 a d b (λf=>θ 0) e s) Ay 0
def NA d b a:=(D9 b).bind λc=>bif c != 0 then θ c else(D8 a.Aq).bind λe=>bif !e then θ 3 else(D8 a.B9).bind λf=>bif !f then θ 3 else Tr d b a
abbrev MK(b e:Γ Ab)f(h:Ω->Int->Δ Ω)(c:Ω×Int->Δ Ω)g(a:Int):=bif a<Ξ b then bif g then c (ν,i64.wrap (a+1))else(idx b a).bind λi=>(idx e f).bind λj=>bif i.B==j.B then(idx b a).bind λk=>(idx e f).bind λl=>c (k.H>=l.H,i64.wrap (a+1))else c (ξ,i64.wrap (a+1))else h g a
abbrev MJ b c(e f:Int->Δ Ω)a:=bif a<b.length then iter (λg s=>MK c b a (λh i=>bif !h then θ ξ else f (i64.wrap (a+1))) g s.1 s.2) Ay (ξ,0)else e a
def F8 a b:=iter (λc s=>MJ a b (λe=>θ ν) c s) Ay 0
abbrev Xi b c e(f:Int)(a:Γ Ab):=bif !e then bif rm (Ξ a) (Ξ [({ B:=b,H:=c }:Ab)]) then θ (a++[{ B:=b,H:=c }])else κ else θ a
abbrev Ov i e b(j:Ω->Int->Γ Ab->Δ (Γ Ab))(g:Ω×Int×Γ Ab->Δ (Γ Ab))h f c:=bif f<i.length then(idx i f).bind λa=>bif bif a.B>e then(!h)else ξ then bif rm (Ξ c) (Ξ [({ B:=e,H:=b }:Ab)]) then bif a.B==e then bif rm (Ξ (c++[({ B:=e,H:=b }:Ab)])) (Ξ [({ B:=a.B,H:=(if b>a.H then b else a.H) }:Ab)]) then g (ν,i64.wrap (f+1),(c++[{ B:=e,H:=b }])++[{ B:=a.B,H:=(if b>a.H then b else a.H) }])else κ else bif rm (Ξ (c++[({ B:=e,H:=b }:Ab)])) (Ξ [a]) then g (ν,i64.wrap (f+1),(c++[{ B:=e,H:=b }])++[a])else κ else κ else bif a.B==e then bif rm (Ξ c) (Ξ [({ B:=a.B,H:=(if b>a.H then b else a.H) }:Ab)]) then g (ν,i64.wrap (f+1),c++[{ B:=a.B,H:=(if b>a.H then b else a.H) }])else κ else bif rm (Ξ c) (Ξ [a]) then g (h,i64.wrap (f+1),c++[a])else κ else j h f c
def DG c b a:=iter (λe s=>Ov c b a (Xi b a) e s.1 s.2.1 s.2.2) Ay (a<=0,0,[])
abbrev dL b c(e f:Int->Δ Int)a:=(Gv b a).bind λg=>bif g>c then(idx b.X a).bind λh=>f h.Bt else e a
def Oj a(b c:Int):=(H9 a).bind λe=>bif bif bif bif e != 0 then ν else(b<0)then ν else(b>=Ξ a.X)then ν else(c<0)then θ (-1)else(Gv a b).bind λf=>bif c>f then θ (-1)else iter (λg s=>dL a c (λh=>θ h) g s) Ay b
def Ec(a:Ax)b:=(idx a.L (i64.wrap (Ξ a.L-b))).bind λc=>θ c
def Gx(b a:Int):=bif a≠0 then bif a≠0 then bif (Int.tmod b a)<0 then θ (i64.wrap ((i64.wrap (Int.tdiv b a))-1))else θ (i64.wrap (Int.tdiv b a))else κ else κ
def Bt e g b a:=(B3 e g).bind λi=>(EL b 0 i).bind λj=>bif !j then θ (-1)else(idx e.A g).bind λf=>bif f.Kind==2 then(N5 e g a).bind λk=>bif !k then θ (-1)else(idx e.S f.Al).bind λl=>(Oj l a b).bind λm=>θ m else bif a != (-1099511627776)then(EL a (-1000000) 1000000).bind λn=>bif !n then θ (-1)else bif b==0 then θ 0 else bif a==(-1099511627776)then θ a else(Ec f b).bind λc=>(Gx a c).bind λh=>θ (i64.wrap (h*c))else bif b==0 then θ 0 else bif a==(-1099511627776)then θ a else(Ec f b).bind λc=>(Gx a c).bind λh=>θ (i64.wrap (h*c))
abbrev P9 f b c e g h(j i:Int->Δ Ω)a:=bif a<f then(idx b f).bind λk=>(Bt c e g k).bind λl=>(idx b a).bind λm=>(Bt c e g m).bind λn=>bif l != n then(idx b f).bind λo=>(Bt c e h o).bind λp=>(idx b a).bind λq=>(Bt c e h q).bind λr=>bif p==r then θ ξ else i (i64.wrap (a+1))else i (i64.wrap (a+1))else j a
abbrev P8 b c e f g(h i:Int->Δ Ω)a:=bif a<b.length then iter (λj s=>P9 a b c e f g (λk=>i (i64.wrap (a+1))) j s) Ay 0 else h a
abbrev PC(c:Ax)f g(h:Int->Int->Δ Ω)(i:Int×Int->Δ Ω)a b:=bif bif b<2 then(a<=c.E)else ξ then(Ec c f).bind λe=>bif e≠0 then bif(Int.tmod a e) != 0 then θ ξ else i (i64.wrap (a+g),i64.wrap (b+1))else κ else h a b
def F7 f g b c:=(idx f.A g).bind λa=>bif bif c==0 then ν else(b>=c)then θ ν else bif a.Kind==2 then(Dk f g).bind λi=>iter (λj s=>P8 i f g c b (λl=>θ ν) j s) Ay 0 else(Ec a c).bind λe=>(Gx a.C e).bind λh=>bif b==0 then θ (bif !a.An then((i64.wrap (i64.wrap (h+1)*e))>a.E)else ξ)else iter (λk s=>PC a b e (λm n=>θ ν) k s.1 s.2) Ay (i64.wrap (i64.wrap (h+1)*e),0)
abbrev GQ b c e(f g:Int->Δ Int)a:=(F7 b c a e).bind λh=>bif !h then g (i64.wrap (a+1))else f a
def CE a b c:=(B3 a b).bind λe=>(EL c 0 e).bind λf=>bif !f then θ (-1)else iter (λg s=>GQ a b c (λh=>θ h) g s) Ay 0
abbrev Ot(c:Ae)(f:Ae->Δ (Γ Ae))(g:Int->Γ Ae->Δ (Γ Ae))(h:Int×Γ Ae->Δ (Γ Ae))(a:Int)b:=bif a<Ξ c.D then(idx c.D a).bind λi=>(f i).bind λe=>bif rm (Ξ b) (Ξ e) then h (i64.wrap (a+1),b++e)else κ else g a b
def Mo(d:Nat)b a:=bif bif bif a.Op==2 then ν else(a.Op==3)then ν else(a.Op==4)then θ [a]else iter (λc s=>Ot a b (λf e=>θ e) c s.1 s.2) Ay (0,[])
def N7:Nat->Ae->Δ (Γ Ae)| 0,_=>κ| d+1,a=>Mo d (N7 d) a
def Uk a c e:=(KN a e).bind λb=>bif b>=0 then(KN a c).bind λf=>bif f>=b then(Oj a c b).bind λg=>θ (g==e)else θ ξ else θ ξ
def CX(c:Aa)(a:Ae)b:=bif a.Op==2 then(idx c.A a.B).bind λe=>(idx c.S e.Al).bind λf=>(Uk f b a.Af).bind λg=>bif g then θ 1 else θ (-1)else bif a.Op==3 then bif b==(-1099511627776)then θ 0 else bif bif a.C<=b then(b<=a.E)else ξ then θ 1 else θ (-1)else bif a.Op==4 then bif b==(-1099511627776)then θ 1 else θ (-1)else θ (-1)
abbrev PH f b c e g(i h:Int->Δ Ω)a:=bif a<f then(idx b f).bind λj=>(Bt c e.B g j).bind λk=>(idx b a).bind λl=>(Bt c e.B g l).bind λm=>bif k==m then(idx b f).bind λn=>(CX c e n).bind λo=>(idx b a).bind λp=>(CX c e p).bind λq=>bif o != q then θ ξ else h (i64.wrap (a+1))else h (i64.wrap (a+1))else i a
abbrev PF b c e f(g h:Int->Δ Ω)a:=bif a<b.length then iter (λi s=>PH a b c e f (λj=>h (i64.wrap (a+1))) i s) Ay 0 else g a
def Eh f a e:=(idx f.A a.B).bind λb=>bif a.Op==2 then(Dk f a.B).bind λg=>iter (λh s=>PF g f a e (λi=>θ ν) h s) Ay 0 else bif a.Op==4 then θ (e>0)else bif e==0 then θ (bif bif !b.An then(!(bif a.C>b.C then(a.C<=b.E)else ξ))else ξ then(!(bif a.E>=b.C then(a.E<b.E)else ξ))else ξ)else(Ec b e).bind λc=>bif !(bif a.C>b.C then(a.C<=b.E)else ξ)then bif !(bif a.E>=b.C then(a.E<b.E)else ξ)then θ ν else bif c≠0 then θ ((Int.tmod (i64.wrap (a.E+1)) c)==0)else κ else bif c≠0 then bif(Int.tmod a.C c)==0 then bif !(bif a.E>=b.C then(a.E<b.E)else ξ)then θ ν else bif c≠0 then θ ((Int.tmod (i64.wrap (a.E+1)) c)==0)else κ else θ ξ else κ
abbrev Xh(b:Γ Ae)a c(e:Γ Ab×Int->Δ (Γ Ab))f:=(idx b a).bind λg=>(DG c g.B f).bind λh=>e (h,i64.wrap (a+1))
abbrev Tm b c e(f g:Int->Δ (Γ Ab))a:=(idx b c).bind λh=>(Eh e h a).bind λi=>bif !i then g (i64.wrap (a+1))else f a
abbrev Ou b e(f:Γ Ab->Int->Δ (Γ Ab))g c a:=bif a<b.length then iter (λh s=>Tm b a e (Xh b a c g) h s) Ay 0 else f c a
def DF d a b:=(BY d a b).bind λc=>bif c != 0 then θ []else(N7 d b).bind λe=>iter (λf s=>Ou e a (λg h=>θ g) f s.1 s.2) Ay ([],0)
def VO(a:BF)b:=bif a.Ah==b then θ ν else(N3 a.A0 b).bind λc=>θ c
abbrev O8 b f(g:Γ Ab->Int->Δ (Γ Ab))(e:Γ Ab×Int->Δ (Γ Ab))c a:=bif a<b.A.length then(VO f a).bind λh=>bif h then(B3 b a).bind λi=>(CE b a i).bind λj=>(DG c a j).bind λk=>e (k,i64.wrap (a+1))else e (c,i64.wrap (a+1))else g c a
abbrev O7(b:BF)e(f:Γ Ab->Int->Δ (Γ Ab))(g:Γ Ab×Int->Δ (Γ Ab))c(a:Int):=bif a<Ξ b.V then(idx b.V a).bind λh=>(idx b.V a).bind λi=>(idx b.V a).bind λj=>(CE e i.B j.H).bind λk=>(DG c h.B k).bind λl=>g (l,i64.wrap (a+1))else f c a
abbrev O9 a b c:=iter (λe s=>O7 a b (λf i=>iter (λg s=>O8 b a (λh j=>θ h) g s.1 s.2) Ay (f,1)) e s.1 s.2) Ay (c,0)
abbrev Xp(b:Γ Ab)(e:Γ Ab->Int->Δ (Γ Ab))(f:Γ Ab×Int->Δ (Γ Ab))c(a:Int):=bif a<Ξ b then(idx b a).bind λg=>(idx b a).bind λh=>(DG c g.B h.H).bind λi=>f (i,i64.wrap (a+1))else e c a
def Rb d b a:=(Ei d b a).bind λe=>bif e != 0 then θ []else(DF d b a.Bu).bind λc=>bif a.Kind==3 then(DF d b a.Y).bind λf=>iter (λg s=>Xp f (λh i=>O9 a b h) g s.1 s.2) Ay (c,0)else O9 a b c
def Qj d a b c:=(Ei d a b).bind λe=>bif e==0 then(DC a c).bind λf=>bif f==0 then(Rb d a b).bind λg=>(F8 g c).bind λh=>θ h else θ ξ else θ ξ
abbrev OA(b:B2)d c e(f g:Int->Δ Int)(a:Int):=bif a<Ξ b.B5 then(idx b.B5 a).bind λh=>(Qj d c h e).bind λi=>bif !i then θ 23 else g (i64.wrap (a+1))else f a
def Rc d a b c:=(NA d a b).bind λe=>bif e != 0 then θ e else(DC a c).bind λf=>bif f != 0 then θ f else iter (λg s=>OA b d a c (λh=>θ 0) g s) Ay 0
def Jq(b:Int)a:=bif b==7 then(idx a 0).bind λh=>θ (i64.wrap (0-h))else bif b==5 then(idx a 0).bind λc=>(idx a 1).bind λe=>θ (if e<c then e else c)else bif b==6 then(idx a 0).bind λf=>(idx a 1).bind λg=>θ (if g>f then g else f)else θ 1
abbrev YE(c:Ae)(f:Aa->Ae->Γ Int->Δ Int)g h(i:Int->Γ Int->Δ Int)(j:Int×Γ Int->Δ Int)(a:Int)b:=bif a<Ξ c.D then(idx c.D a).bind λk=>(f g k h).bind λe=>bif rm (Ξ b) (Ξ [e]) then j (i64.wrap (a+1),b++[e])else κ else i a b
def VM(d:Nat)e b a c:=bif bif bif a.Op==2 then ν else(a.Op==3)then ν else(a.Op==4)then(idx c a.B).bind λf=>(CX b a f).bind λg=>θ g else iter (λh s=>YE a e b c (λk i=>(Jq a.Op i).bind λj=>θ j) h s.1 s.2) Ay (0,[])
def VL:Nat->Aa->Ae->(Γ Int)->Δ Int| 0,_,_,_=>κ| d+1,a,b,c=>VM d (VL d) a b c
def Tl d a b c:=(BY d a b).bind λe=>bif e != 0 then θ 0 else(P7 a c).bind λf=>bif f != 0 then θ 0 else(VL d a b c).bind λg=>θ g
def Xq(a:Lt):Δ Int:=bif bif bif bif bif bif a.Of<1 then ν else(a.Of>1000)then ν else(a.B0<1)then ν else(a.B0>a.Of)then ν else(a.B1<0)then ν else(a.B1>1099511627776)then θ 2 else θ 0
abbrev YJ(c:Int->Int->Δ Int)(e:Int×Int->Δ Int)a b:=bif b<3 then e (u64.wrap ((BitVec.ofInt u64.bits (u64.wrap (u64.wrap (a*6364136223846793005)+1442695040888963407)) ^^^ BitVec.ofInt u64.bits (Int.fdiv (u64.wrap (u64.wrap (a*6364136223846793005)+1442695040888963407)) (2^(min (29:Int).toNat u64.bits)))).toNat:Nat),i64.wrap (b+1))else c a b
def VP a b:=iter (λc s=>YJ (λe f=>θ (i64.wrap (Int.fdiv e (2^(min (32:Int).toNat u64.bits))))) c s.1 s.2) Ay (u64.wrap (u64.wrap (u64.wrap ((u64.wrap a)*2654435761)+u64.wrap ((u64.wrap b)*40503))+97),0)
def Xr a b:=(Xq a).bind λc=>bif bif bif c==0 then(b>=1)else ξ then(b<=1048575)else ξ then(VP a.B1 b).bind λe=>bif a.Of≠0 then θ (υ ((Int.tmod e a.Of)<a.B0))else κ else θ ξ
abbrev ML(b:CH)d(f:B2)(h:Int->Γ Int->Δ (Γ Int))(e:Int×Γ Int->Δ (Γ Int))(a:Int)c:=bif a<Ξ b.G then(idx b.G a).bind λi=>(Tl d b.Bi f.Bw i).bind λj=>bif j==1 then(idx b.G a).bind λk=>(idx k 0).bind λl=>(Xr f.Bx l).bind λm=>bif m then(idx b.G a).bind λn=>(idx n 0).bind λg=>bif rm (Ξ c) (Ξ [g]) then e (i64.wrap (a+1),c++[g])else κ else e (i64.wrap (a+1),c)else e (i64.wrap (a+1),c)else h a c
abbrev Rt a d b:=iter (λc s=>ML a d b (λf e=>θ e) c s.1 s.2) Ay (0,[])
def OF d a b:=(N6 a).bind λc=>bif !c then θ []else(NA d a.Bi b).bind λe=>bif e != 0 then θ []else Rt a d b
def Ul(a b:Int):=θ (bif bif bif a>=0 then(a<1152921504606846976)else ξ then(b>=0)else ξ then(υ (b<1048576))else ξ)
abbrev OB(c:Int->Int->Δ Int)(e:Int×Int->Δ Int)a b:=bif b<3 then e (u64.wrap (u64.wrap ((BitVec.ofInt u64.bits a ^^^ BitVec.ofInt u64.bits (Int.fdiv a (2^(min (31:Int).toNat u64.bits)))).toNat:Nat)*13787848793156543929),i64.wrap (b+1))else c a b
def Re a b c:=bif bif bif bif bif bif a<0 then ν else(a>=1152921504606846976)then ν else(b<0)then ν else(b>7)then ν else(c<0)then ν else(c>1023)then θ 0 else iter (λe s=>OB (λf g=>θ (i64.wrap (Int.fdiv f (2^(min (54:Int).toNat u64.bits))))) e s.1 s.2) Ay (u64.wrap (u64.wrap (u64.wrap a+u64.wrap ((u64.wrap b)*11400714819323198485))+u64.wrap (u64.wrap c*14029467366897019727)),0)
abbrev Sc e(f:Int->Int->Int->Δ Int)(g:Int×Int×Int->Δ Int)c b a:=bif a<=7 then(Re e a b).bind λh=>g (b,i64.wrap ((BitVec.ofInt i64.bits c ^^^ BitVec.ofInt i64.bits h).toNat:Nat),i64.wrap (a+1))else f c b a
def Vg b a:=(Ul b a).bind λc=>bif !c then θ (-1)else iter (λe s=>Sc b (λf g h=>θ (i64.wrap (i64.wrap (f*1024)+g))) e s.1 s.2.1 s.2.2) Ay (i64.wrap (Int.tdiv a 1024),Int.tmod a 1024,0)
abbrev OC(b:Γ Ab)f(g:CH)(h:Int->Γ Int->Δ (Ad×Int))(i:Int×Γ Int->Δ (Ad×Int))(a:Int)c:=bif a<Ξ b then(idx b a).bind λj=>(idx b a).bind λk=>(idx b a).bind λl=>(idx f l.B).bind λm=>(Bt g.Bi j.B k.H m).bind λe=>bif rm (Ξ c) (Ξ [e]) then i (i64.wrap (a+1),c++[e])else κ else h a c
abbrev Ts b c f g(h:Int->Γ (Γ Int)->Δ (Ad×Int))(i:Int×Γ (Γ Int)->Δ (Ad×Int))a e:=bif a<b.length then(idx b a).bind λj=>(No c j).bind λk=>(idx c.G k).bind λl=>(idx b a).bind λm=>(Vg f m).bind λn=>iter (λo s=>OC g l c (λr p=>(S5 e p).bind λq=>i (i64.wrap (a+1),q)) o s.1 s.2) Ay (0,[n])else h a e
def Rf d a c b e:=(N6 a).bind λg=>bif !g then θ ({},13)else(Rc d a.Bi c b).bind λf=>bif f != 0 then θ ({},f)else bif bif e<0 then ν else(e>=1152921504606846976)then θ ({},2)else bif rm 0 (Ξ b) then(OF d a c).bind λh=>iter (λi s=>Ts h a e b (λk j=>θ ({ Aq:=c.Aq,As:=a.As,I:=b,G:=j },0)) i s.1 s.2) Ay (0,[])else κ
abbrev KO a(b:Ax)c:=θ (if a>b.C then a else b.C,if(i64.wrap ((i64.wrap (a+c))-1))<b.E then(i64.wrap ((i64.wrap (a+c))-1))else b.E,υ ((if a>b.C then a else b.C)<=(if(i64.wrap ((i64.wrap (a+c))-1))<b.E then(i64.wrap ((i64.wrap (a+c))-1))else b.E)))
def Gw b e a:=bif e==0 then θ (b.C,b.E,a==0)else(Ec b e).bind λc=>bif a==(-1099511627776)then θ (0,0,ξ)else(EL a (-2000000) 2000000).bind λf=>bif !f then θ (0,0,ξ)else bif c≠0 then bif(Int.tmod a c) != 0 then θ (0,0,ξ)else KO a b c else κ
abbrev VK b c e f g(h i:Int->Δ Ω)a:=bif a<b.length then(idx b a).bind λj=>(Bt c e f j).bind λk=>bif k==g then θ ν else i (i64.wrap (a+1))else h a
def D5 a b c e:=(B3 a b).bind λg=>(EL c 0 g).bind λh=>bif !h then θ ξ else(idx a.A b).bind λf=>bif f.Kind==2 then(Dk a b).bind λi=>iter (λj s=>VK i a b c e (λl=>θ ξ) j s) Ay 0 else bif bif c>0 then(e==(-1099511627776))else ξ then θ f.An else(Gw f c e).bind λk=>θ k.2.2
abbrev OE a c(e:Ad)(b:Int->Δ Int)(i:Int):=bif a>0 then(idx c 0).bind λf=>(idx e.G (i64.wrap (a-1))).bind λg=>(idx g 0).bind λh=>bif f<=h then θ 10 else b (i64.wrap (a+1))else b (i64.wrap (a+1))
abbrev IF(b:Ad)c e(f g:Int->Δ Int)(a:Int):=bif a<Ξ b.I then(idx b.I a).bind λh=>(idx b.I a).bind λi=>(idx c (i64.wrap (a+1))).bind λj=>(D5 e h.B i.H j).bind λk=>bif !k then θ 9 else g (i64.wrap (a+1))else f a
abbrev KU a b c e f:=iter (λg s=>IF a b c (OE e b a f) g s) Ay 0
def OD a e(f g:Int->Δ Int)b:=bif b<a.G.length then(idx a.G b).bind λc=>bif Ξ c != (i64.wrap (Ξ a.I+1))then θ 9 else(idx c 0).bind λh=>bif h<0 then θ 9 else(idx c 0).bind λi=>bif i>1048575 then θ 9 else KU a c e b g else f b
def FI b a:=(D9 b).bind λc=>bif c != 0 then θ c else(D8 a.Aq).bind λf=>bif !f then θ 3 else bif bif a.As<0 then ν else(a.As>300)then θ 13 else(DC b a.I).bind λe=>bif e != 0 then θ e else bif (Ξ a.G:Int)>200 then θ 1 else iter (λg s=>OD a b (λh=>θ 0) g s) Ay 0
def Nq d a:=(PE d a {}).bind λb=>θ b
abbrev C0(a:Ag)d e c f(g:Θ)h(i:Γ Int)(j:Γ Ab):=bif bif bif bif bif f==a.K then(g.toList==a.J.toList)else ξ then(h==a.B)else ξ then(Ξ i==(Ξ a.A:Int))else ξ then((Ξ j:Int)==Ξ a.V)else ξ then bif e then bif c then θ ν else(Nq d a.Y).bind λb=>θ b else(Nq d a.Q).bind λk=>bif k then bif c then θ ν else(Nq d a.Y).bind λb=>θ b else θ ξ else θ ξ
def DR d a:=bif a.Op==1 then C0 a d ξ ξ a.K ByteArray.empty 0 [] []else bif a.Op==2 then C0 a d ξ ξ 0 a.J 0 [] []else bif a.Op==3 then C0 a d ν ξ 0 ByteArray.empty 0 [] []else bif a.Op==4 then C0 a d ν ξ 0 ByteArray.empty a.B [] []else bif a.Op==5 then C0 a d ν ξ 0 ByteArray.empty a.B [] []else bif a.Op==14 then C0 a d ν ξ 0 ByteArray.empty a.B [] []else bif a.Op==6 then C0 a d ξ ξ 0 ByteArray.empty 0 [] []else bif a.Op==7 then C0 a d ξ ξ 0 ByteArray.empty 0 [] []else bif a.Op==8 then C0 a d ξ ξ 0 ByteArray.empty 0 [] []else bif a.Op==9 then C0 a d ξ ξ 0 ByteArray.empty 0 [] []else bif a.Op==10 then C0 a d ν ξ 0 ByteArray.empty a.B [] a.V else bif a.Op==11 then C0 a d ν ξ 0 ByteArray.empty a.B a.A []else bif a.Op==12 then C0 a d ν ν 0 ByteArray.empty a.B [] []else bif a.Op==13 then C0 a d ν ξ a.K ByteArray.empty a.B [] []else θ ξ
abbrev BP(a:Int)d b(c:Ag)e:=bif e then bif a>0 then θ ν else(BY d b c.Q).bind λf=>θ (f==0)else θ ξ
def La b a c d:=(Mp b a.B 3).bind λe=>bif a.Op==1 then θ (bif a.K>=(-1099511627776)then(υ (a.K<=1099511627776))else ξ)else bif a.Op==2 then(D8 a.J).bind λf=>θ f else bif a.Op==3 then BP c d b a ν else bif a.Op==6 then BP c d b a ν else bif a.Op==7 then BP c d b a ν else bif a.Op==8 then BP c d b a ν else bif a.Op==9 then BP c d b a ν else bif a.Op==10 then(KT b a.V).bind λg=>bif g != 0 then θ ξ else BP c d b a (bif e then ν else(a.B==(-1)))else bif a.Op==11 then(NB b a.B a.A).bind λh=>bif h != 0 then θ ξ else BP c d b a e else bif a.Op==12 then bif !e then θ ξ else(idx b.A a.B).bind λi=>bif i.C<0 then θ ξ else(BY d b a.Y).bind λj=>bif j != 0 then θ ξ else BP c d b a e else bif a.Op==13 then bif !e then θ ξ else(idx b.A a.B).bind λk=>(N3 k.L a.K).bind λl=>bif !l then θ ξ else BP c d b a e else BP c d b a e
abbrev KY(b:Ag)(c:Aa->Ag->Δ Ω)e(f g:Int->Δ Ω)(a:Int):=bif a<Ξ b.D then(idx b.D a).bind λh=>bif h.Op>=10 then θ ξ else(idx b.D a).bind λi=>(c e i).bind λj=>bif !j then θ ξ else g (i64.wrap (a+1))else f a
def KZ a e b d c:=bif a.D.length != c then θ ξ else iter (λf s=>KY a e b (λg=>La b a c d) f s) Ay 0
def OG a b c d:=bif bif a.Op>=6 then(a.Op<=9)else ξ then KZ a b c d 2 else KZ a b c d 0
def Mr d c a b:=(D9 a).bind λe=>bif e != 0 then θ ξ else(DR d b).bind λf=>bif !f then θ ξ else OG b c a d
def FK:Nat->Aa->Ag->Δ Ω| 0,_,_=>κ| d+1,a,b=>Mr d (FK d) a b
abbrev MM b(c:Γ Az)(e:Θ)(f g:Int->Δ Ω)a:=bif a<b then(idx c a).bind λh=>bif h.J.toList==e.toList then θ ν else g (i64.wrap (a+1))else f a
def LE a b c:=iter (λe s=>MM b a c (λf=>θ ξ) e s) Ay 0
abbrev Tt(c:Ag)e(f:Ag->Int->Δ Int)(g:Int->Int->Δ Int)(h:Int×Int->Δ Int)(a b:Int):=bif bif b<Ξ c.D then(a<e)else ξ then(idx c.D b).bind λi=>(f i (i64.wrap (e-a))).bind λj=>h (i64.wrap (a+j),i64.wrap (b+1))else g a b
def Mt(d:Nat)a b c:=iter (λe s=>Tt b c a (λf g=>θ f) e s.1 s.2) Ay (1,0)
def ND:Nat->Ag->Int->Δ Int| 0,_,_=>κ| d+1,a,b=>Mt d (ND d) a b
abbrev Xx(c:Ag)(f:Ag->Δ Int)(g:Int->Int->Δ Int)(h:Int×Int->Δ Int)(b a:Int):=bif a<Ξ c.D then(idx c.D a).bind λi=>(f i).bind λe=>h (if e>b then e else b,i64.wrap (a+1))else g b a
def Qk(d:Nat)a b:=iter (λc s=>Xx b a (λe f=>θ (i64.wrap (e+1))) c s.1 s.2) Ay (0,0)
def Lb:Nat->Ag->Δ Int| 0,_=>κ| d+1,a=>Qk d (Lb d) a
abbrev KX(c:Ag)(f:Ag->Δ (Γ Θ))(g:Int->Γ Θ->Δ (Γ Θ))(h:Int×Γ Θ->Δ (Γ Θ))(a:Int)b:=bif a<Ξ c.D then(idx c.D a).bind λi=>(f i).bind λe=>bif rm (Ξ b) (Ξ e) then h (i64.wrap (a+1),b++e)else κ else g a b
def Mq(d:Nat)b a:=bif a.Op==2 then θ [a.J]else iter (λc s=>KX a b (λf e=>θ e) c s.1 s.2) Ay (0,[])
def KW:Nat->Ag->Δ (Γ Θ)| 0,_=>κ| d+1,a=>Mq d (KW d) a
abbrev Jr b c e(f g:Int->Δ Int)a:=bif a<b.length then(idx b a).bind λh=>(LE c e h).bind λi=>bif !i then θ 24 else g (i64.wrap (a+1))else f a
def JN d e b c:=(idx b c).bind λa=>(D8 a.J).bind λf=>bif !f then θ 3 else(LE b c a.J).bind λg=>bif g then θ 10 else(ND d a.At 61).bind λh=>bif h>60 then θ 1 else(Lb d a.At).bind λi=>bif i>10 then θ 22 else(FK d e a.At).bind λj=>bif !j then θ 11 else(KW d a.At).bind λk=>iter (λl s=>Jr k b c (λm=>θ 0) l s) Ay 0
abbrev Xt b d e(f g:Int->Δ (Int×Int))a:=bif a<b.length then(JN d e b a).bind λc=>bif c != 0 then θ (a,c)else g (i64.wrap (a+1))else f a
def Rh d b a:=(D9 b).bind λc=>bif c != 0 then θ ((-1),c)else bif (Ξ a:Int)>30 then θ ((-1),1)else iter (λe s=>Xt a d b (λf=>θ (Ξ a,0)) e s) Ay 0
abbrev VQ(b:Γ Ab)(e:Γ Ab->Int->Δ (Γ Ab))(f:Γ Ab×Int->Δ (Γ Ab))c(a:Int):=bif a<Ξ b then(idx b a).bind λg=>(idx b a).bind λh=>(DG c g.B h.H).bind λi=>f (i,i64.wrap (a+1))else e c a
def NE d a b c:=(DF d a c).bind λe=>iter (λf s=>VQ e (λg h=>θ g) f s.1 s.2) Ay (b,0)
def EX b c a:=(B3 b a).bind λe=>(CE b a e).bind λf=>(DG c a f).bind λg=>θ g
abbrev Tu(b:Ax)c(e f:Int->Δ Int)(a:Int):=bif a<Ξ b.L then(idx b.L a).bind λg=>bif g==c then θ (i64.wrap (Ξ b.L-a))else f (i64.wrap (a+1))else e a
def Lf(a:Aa)b c:=(idx a.A b).bind λe=>iter (λf s=>Tu e c (λg=>θ (-1)) f s) Ay 0
abbrev Xz(b:Γ Ab)(e:Γ Ab->Int->Δ (Γ Ab))(f:Γ Ab×Int->Δ (Γ Ab))c(a:Int):=bif a<Ξ b then(idx b a).bind λg=>(idx b a).bind λh=>(DG c g.B h.H).bind λi=>f (i,i64.wrap (a+1))else e c a
abbrev OJ(b:Ag)(e:Aa->Ag->Δ (Γ Ab))f(g:Γ Ab->Int->Δ (Γ Ab))(h:Γ Ab×Int->Δ (Γ Ab))c(a:Int):=bif a<Ξ b.D then(idx b.D a).bind λi=>(e f i).bind λj=>iter (λk s=>Xz j (λl m=>h (l,i64.wrap (a+1))) k s.1 s.2) Ay (c,0)else g c a
abbrev OL a b c e:=iter (λf s=>OJ a b c (λg h=>θ g) f s.1 s.2) Ay (e,0)
abbrev OI(b:Ag)e(f:Γ Ab->Int->Δ (Γ Ab))(g:Γ Ab×Int->Δ (Γ Ab))c(a:Int):=bif a<Ξ b.A then(idx b.A a).bind λh=>(EX e c h).bind λi=>g (i,i64.wrap (a+1))else f c a
def Ck a b c e:=iter (λf s=>OI a b (λg h=>OL a c b g) f s.1 s.2) Ay (e,0)
def OK a b c e:=bif a.Op==4 then(EX b e a.B).bind λf=>Ck a b c f else bif a.Op==5 then(EX b e a.B).bind λf=>Ck a b c f else bif a.Op==11 then(EX b e a.B).bind λf=>Ck a b c f else bif a.Op==12 then(EX b e a.B).bind λf=>Ck a b c f else bif a.Op==14 then(EX b e a.B).bind λf=>Ck a b c f else bif a.Op==10 then bif a.B>=0 then(EX b e a.B).bind λg=>Ck a b c g else Ck a b c e else bif a.Op==13 then(Lf b a.B a.K).bind λh=>(CE b a.B h).bind λi=>(DG e a.B i).bind λj=>Ck a b c j else Ck a b c e
abbrev OH(b:Ag)e(f:Γ Ab->Int->Δ (Γ Ab))(g:Γ Ab×Int->Δ (Γ Ab))c(a:Int):=bif a<Ξ b.V then(idx b.V a).bind λh=>(idx b.V a).bind λi=>(idx b.V a).bind λj=>(CE e i.B j.H).bind λk=>(DG c h.B k).bind λl=>g (l,i64.wrap (a+1))else f c a
def Mu d c a b:=(FK d a b).bind λe=>bif !e then θ []else(NE d a [] b.Q).bind λf=>(NE d a f b.Y).bind λg=>iter (λh s=>OH b a (λi j=>OK b a c i) h s.1 s.2) Ay (g,0)
def G0:Nat->Aa->Ag->Δ (Γ Ab)| 0,_,_=>κ| d+1,a,b=>Mu d (G0 d) a b
abbrev Mw(b:Γ Ar)(c:Θ)(e f:Int->Δ Int)a:=bif a>=0 then(idx b a).bind λg=>bif g.J.toList==c.toList then θ a else f (i64.wrap (a-1))else e a
def VR a b:=iter (λc s=>Mw a b (λe=>θ (-1)) c s) Ay (i64.wrap (Ξ a-1))
abbrev Ih(a:Ag)(b:Γ Ar)(e:Int):Δ (Int×Int):=bif bif(Ξ a.D:Int)==2 then(e != 1)else ξ then θ (0,16)else bif a.Op==2 then(VR b a.J).bind λc=>bif c<0 then θ (0,24)else(idx b c).bind λf=>θ (f.Ai.Kind,0)else bif a.Op==10 then θ (2,0)else bif a.Op==11 then θ (3,0)else bif a.Op==12 then θ (4,0)else bif a.Op==13 then θ (5,0)else bif a.Op==14 then θ (6,0)else θ (1,0)
abbrev Ql(c:Ag)(g:Γ Ar->Ag->Δ (Int×Int))h(i:Int->Int->Δ (Int×Int))(e:Int×Int->Δ (Int×Int))(f a:Int):=bif a<Ξ c.D then(idx c.D a).bind λj=>(g h j).bind λb=>bif b.2 != 0 then θ (0,b.2)else bif a==0 then bif bif b.1 != 1 then(a==(i64.wrap (Ξ c.D-1)))else ξ then θ (0,16)else e (b.1,i64.wrap (a+1))else bif bif b.1 != 1 then(a==(i64.wrap (Ξ c.D-1)))else ξ then θ (0,16)else e (f,i64.wrap (a+1))else i f a
def Gq(d:Nat)c a b:=iter (λe s=>Ql b c a (λf g=>Ih b a f) e s.1 s.2) Ay (1,0)
def Js:Nat->(Γ Ar)->Ag->Δ (Int×Int)| 0,_,_=>κ| d+1,a,b=>Gq d (Js d) a b
def Ld d a c f b:=(FK d a b).bind λg=>bif !g then θ (0,11)else(DC a c).bind λh=>bif h != 0 then θ (0,23)else(G0 d a b).bind λi=>(F8 i c).bind λj=>bif !j then θ (0,23)else(Js d f b).bind λe=>θ (e.1,e.2)
abbrev LF(e:Γ Az)d h i(j:Int->Γ Int->Γ Ar->Δ (Γ Int×Int×Int))(k:Int×Γ Int×Γ Ar->Δ (Γ Int×Int×Int))(a:Int)f c:=bif a<Ξ e then(idx e a).bind λl=>(Ld d h i c l.At).bind λb=>bif b.2 != 0 then θ ([],a,b.2)else bif rm (Ξ f) (Ξ [b.1]) then(idx e a).bind λg=>bif rm (Ξ c) (Ξ ([({ J:=g.J,Ai:={ Kind:=b.1 } }:Ar)])) then k (i64.wrap (a+1),f++[b.1],c++[{ J:=g.J,Ai:={ Kind:=b.1 } }])else κ else κ else j a f c
def Mv d c e a:=(Rh d c a).bind λb=>bif b.2 != 0 then θ ([],b.1,b.2)else iter (λf s=>LF a d c e (λh g i=>θ (g,Ξ a,0)) f s.1 s.2.1 s.2.2) Ay (0,[],[])
def Ri a b:=θ ({ Kind:=1,Number:={ K:=a,T:=1 },Lineage:=b }:A4)
abbrev Qe c e f i j k(l:Int->Int->Δ (Int×Ω))(g:Int×Int->Δ (Int×Ω))b a:=bif a<c.length then(idx c a).bind λm=>(Bt e f i m).bind λn=>bif n != j then g (b,i64.wrap (a+1))else(idx c a).bind λo=>(Bt e f k o).bind λh=>bif bif b>=0 then(h != b)else ξ then θ (0,ξ)else g (h,i64.wrap (a+1))else l b a
abbrev Qf a b c f e:=(idx a.A b).bind λg=>bif g.Kind==2 then(Dk a b).bind λj=>iter (λk s=>Qe j a b c f e (λl n=>θ (l,ν)) k s.1 s.2) Ay ((-1),0)else bif e==0 then θ (0,ν)else bif bif c>0 then(f==(-1099511627776))else ξ then θ ((-1099511627776),ν)else bif bif c==0 then g.An else ξ then θ (0,ξ)else(Gw g c f).bind λh=>(Bt a b e h.1).bind λi=>(Bt a b e h.2.1).bind λm=>bif i != m then θ (0,ξ)else θ (i,ν)
def KP a b c e f:=(D5 a b c e).bind λg=>bif !g then θ (0,ξ)else(B3 a b).bind λh=>(EL f 0 h).bind λi=>bif !i then θ (0,ξ)else Qf a b c e f
abbrev FJ(b:Ad)c f g h(i j:Int->Δ (Int×Ω))(a:Int):=bif a<Ξ b.I then(idx b.I a).bind λk=>bif k.B==c then(idx b.I a).bind λl=>(idx b.G f).bind λm=>(idx m (i64.wrap (a+1))).bind λn=>(KP g c l.H n h).bind λe=>θ (e.1,e.2)else j (i64.wrap (a+1))else i a
def Cz b e c a f:=bif bif bif bif c<0 then ν else(c>=e.G.length)then ν else(a<1)then ν else(a>=b.A.length)then θ (0,ξ)else iter (λh s=>FJ e a c b f (λi=>(KP b a 0 0 f).bind λg=>θ (g.1,g.2)) h s) Ay 0
abbrev U2 b c e f g(h i:Int->Δ Int)a:=bif a<b.length then(idx b a).bind λj=>(Bt c e f j).bind λk=>bif k==g then(idx b a).bind λl=>θ l else i (i64.wrap (a+1))else h a
def Ew b c e a:=(idx b.A c).bind λf=>bif f.Kind==2 then(Dk b c).bind λg=>iter (λh s=>U2 g b c e a (λj=>θ (-1)) h s) Ay 0 else bif bif e>0 then(a==(-1099511627776))else ξ then θ a else(Gw f e a).bind λi=>θ i.1
abbrev JL(b:Γ Ab)(g:Ae)h(i:Int->Int->Int->Δ Int)(c:Int×Int×Int->Δ Int)(e f a:Int):=bif a<Ξ b then(idx b a).bind λj=>bif j.B==g.B then(idx b a).bind λk=>(idx h a).bind λl=>c (k.H,l,i64.wrap (a+1))else c (e,f,i64.wrap (a+1))else i e f a
abbrev EW(c:Ae)(f:Aa->Ae->Γ Ab->Γ Int->Δ Int)g h i(j:Int->Γ Int->Δ Int)(k:Int×Γ Int->Δ Int)(a:Int)b:=bif a<Ξ c.D then(idx c.D a).bind λl=>(f g l h i).bind λe=>bif rm (Ξ b) (Ξ [e]) then k (i64.wrap (a+1),b++[e])else κ else j a b
def Cy(d:Nat)f b a c e:=bif bif bif a.Op==2 then ν else(a.Op==3)then ν else(a.Op==4)then iter (λg s=>JL c a e (λh i o=>(Ew b a.B h i).bind λj=>(CX b a j).bind λk=>θ k) g s.1 s.2.1 s.2.2) Ay (0,0,0)else iter (λl s=>EW a f b c e (λp m=>(Jq a.Op m).bind λn=>θ n) l s.1 s.2) Ay (0,[])
def B9:Nat->Aa->Ae->(Γ Ab)->(Γ Int)->Δ Int| 0,_,_,_,_=>κ| d+1,a,b,c,e=>Cy d (B9 d) a b c e
abbrev MH(b:Γ Ab)c e(f g:Int->Δ Int)(a:Int):=bif a<Ξ b then(idx b a).bind λh=>(idx b a).bind λi=>(idx c a).bind λj=>(D5 e h.B i.H j).bind λk=>bif !k then θ 0 else g (i64.wrap (a+1))else f a
abbrev Rs a b c d e:=iter (λf s=>MH a b c (λh=>(B9 d c e a b).bind λg=>θ g) f s) Ay 0
def Jp d a c b e:=(BY d a c).bind λf=>bif f != 0 then θ 0 else(DC a b).bind λg=>bif bif g != 0 then ν else((Ξ e:Int) != Ξ b)then θ 0 else(DF d a c).bind λh=>(F8 h b).bind λi=>bif !i then θ 0 else Rs b e a d c
abbrev MO b a(c:Int×Γ Int->Δ (Γ Int))e(f:Int):=bif e then bif rm (Ξ b) (Ξ [a]) then c (i64.wrap (a+1),b++[a])else κ else c (i64.wrap (a+1),b)
abbrev MN b c g h(i:Ω->Int->Δ (Γ Int))(j:Ω×Int->Δ (Γ Int))e a:=bif bif a<b.length then e else ξ then(idx b a).bind λk=>(idx b a).bind λl=>(B3 c l).bind λm=>(Cz c g h k m).bind λf=>j (bif f.2 then(f.1 != (-1099511627776))else ξ,i64.wrap (a+1))else i e a
abbrev Hk c d e g h(i:Int->Γ Int->Δ (Γ Int))j a f:=bif a<c.G.length then(idx c.G a).bind λb=>bif (0<=(1:Int)/\1<=(Ξ b:Int)/\(Ξ b:Int)<=Ξ b)then(Jp d e g c.I (Ia b 1 (Ξ b))).bind λk=>iter (λl s=>MN h e c a (MO f a j) l s.1 s.2) Ay (k==1,0)else κ else i a f
def Dl d a b c e:=(FI a b).bind λf=>bif f != 0 then θ []else iter (λg s=>Hk b d a c e (λi h=>θ h) g s.1 s.2) Ay (0,[])
abbrev YM c(f:Ad)(g:Int->Γ Int->Δ (Γ Int))(h:Int×Γ Int->Δ (Γ Int))a b:=bif a<c.length then(idx c a).bind λi=>(idx f.G i).bind λj=>(idx j 0).bind λe=>bif rm (Ξ b) (Ξ [e]) then h (i64.wrap (a+1),b++[e])else κ else g a b
def Jt a b:=iter (λc s=>YM b a (λf e=>θ e) c s.1 s.2) Ay (0,[])
def IE(a:Au):=θ ((Int.fdiv a.E (2^(min (63:Int).toNat u64.bits)))==1)
def E2(a b:Au):=(MC a.C b.C 0).bind λc=>(MC a.E b.E c.2).bind λe=>θ ({ E:=e.1,C:=c.1 }:Au)
def Tn a:=(IE a).bind λb=>bif b then(E2 {} a).bind λc=>θ c else θ a
def Gy(a b:Au):=θ (bif a.E<b.E then ν else(bif a.E==b.E then(a.C<b.C)else ξ))
def IS(a:Au):=θ ({ E:=(u64.wrap (((BitVec.ofInt u64.bits (u64.wrap (a.E*2^(min (1:Int).toNat u64.bits)))|||BitVec.ofInt u64.bits (Int.fdiv a.C (2^(min (63:Int).toNat u64.bits)))).toNat:Nat):Int)),C:=(u64.wrap (a.C*2^(min (1:Int).toNat u64.bits))) }:Au)
abbrev YH(e f:Au)(l:Int->Au->Au->Δ (Au×Au))(g:Int×Au×Au->Δ (Au×Au))(a:Int)h k:=bif a>=0 then(IS k).bind λb=>bif 0<=(u64.wrap (Int.tmod a 64))then bif a<64 then bif 0<=(u64.wrap a)then(IS h).bind λc=>(Gy { E:=b.E,C:=(u64.wrap (((BitVec.ofInt u64.bits b.C|||BitVec.ofInt u64.bits (u64.wrap (((BitVec.ofInt u64.bits (Int.fdiv e.C (2^(min ((u64.wrap a):Int).toNat u64.bits)))&&&BitVec.ofInt u64.bits 1).toNat:Nat):Int))).toNat:Nat):Int)) } f).bind λi=>bif !i then(E2 { E:=b.E,C:=(u64.wrap (((BitVec.ofInt u64.bits b.C|||BitVec.ofInt u64.bits (u64.wrap (((BitVec.ofInt u64.bits (Int.fdiv e.C (2^(min ((u64.wrap a):Int).toNat u64.bits)))&&&BitVec.ofInt u64.bits 1).toNat:Nat):Int))).toNat:Nat):Int)) } f).bind λj=>g (i64.wrap (a-1),{ E:=c.E,C:=(u64.wrap (((BitVec.ofInt u64.bits c.C|||BitVec.ofInt u64.bits 1).toNat:Nat):Int)) },j)else g (i64.wrap (a-1),c,{ E:=b.E,C:=(u64.wrap (((BitVec.ofInt u64.bits b.C|||BitVec.ofInt u64.bits (u64.wrap (((BitVec.ofInt u64.bits (Int.fdiv e.C (2^(min ((u64.wrap a):Int).toNat u64.bits)))&&&BitVec.ofInt u64.bits 1).toNat:Nat):Int))).toNat:Nat):Int)) })else κ else(IS h).bind λc=>(Gy { E:=b.E,C:=(u64.wrap (((BitVec.ofInt u64.bits b.C|||BitVec.ofInt u64.bits (u64.wrap (((BitVec.ofInt u64.bits (Int.fdiv e.E (2^(min ((u64.wrap (Int.tmod a 64)):Int).toNat u64.bits)))&&&BitVec.ofInt u64.bits 1).toNat:Nat):Int))).toNat:Nat):Int)) } f).bind λi=>bif !i then(E2 { E:=b.E,C:=(u64.wrap (((BitVec.ofInt u64.bits b.C|||BitVec.ofInt u64.bits (u64.wrap (((BitVec.ofInt u64.bits (Int.fdiv e.E (2^(min ((u64.wrap (Int.tmod a 64)):Int).toNat u64.bits)))&&&BitVec.ofInt u64.bits 1).toNat:Nat):Int))).toNat:Nat):Int)) } f).bind λj=>g (i64.wrap (a-1),{ E:=c.E,C:=(u64.wrap (((BitVec.ofInt u64.bits c.C|||BitVec.ofInt u64.bits 1).toNat:Nat):Int)) },j)else g (i64.wrap (a-1),c,{ E:=b.E,C:=(u64.wrap (((BitVec.ofInt u64.bits b.C|||BitVec.ofInt u64.bits (u64.wrap (((BitVec.ofInt u64.bits (Int.fdiv e.E (2^(min ((u64.wrap (Int.tmod a 64)):Int).toNat u64.bits)))&&&BitVec.ofInt u64.bits 1).toNat:Nat):Int))).toNat:Nat):Int)) })else κ else l a h k
def KR a b:=iter (λc s=>YH a b (λg e f=>θ (e,f)) c s.1 s.2.1 s.2.2) Ay (127,{},{})
def PK(a:Au):=θ ((a.E==0)&&((a.C==0)&&ν))
abbrev Wk(c:Au->Au->Δ Au)(e:Au×Au->Δ Au)b a:=(PK a).bind λf=>bif !f then(KR b a).bind λg=>e (a,g.2)else c b a
def Ox a b:=iter (λc s=>Wk (λe f=>θ e) c s.1 s.2) Ay (a,b)
abbrev JM(c e:Au):Δ (A1×Int):=(Tn c).bind λf=>(Ox e f).bind λg=>(KR f g).bind λa=>(KR e g).bind λb=>(Gy { C:=1152921504606846976 } a.1).bind λh=>bif h then θ ({},14)else(Gy { C:=1152921504606846976 } b.1).bind λi=>bif i then θ ({},14)else(IE c).bind λj=>bif j then θ ({ K:=(i64.wrap (0-(i64.wrap a.1.C))),T:=(i64.wrap b.1.C) },0)else θ ({ K:=(i64.wrap a.1.C),T:=(i64.wrap b.1.C) },0)
def DO b a:=(IE a).bind λc=>bif c then(E2 {} b).bind λe=>(E2 {} a).bind λf=>JM e f else JM b a
def BG a:=bif a<0 then θ { E:=18446744073709551615,C:=(u64.wrap a) } else θ ({ C:=(u64.wrap a) }:Au)
def QY c a:=bif a==0 then θ ({},18)else(BG c).bind λe=>(BG a).bind λf=>(DO e f).bind λb=>θ (b.1,b.2)
abbrev Wl e(f:Ag)(g:Γ Int)(c h:Int):=(Ri c e).bind λa=>bif f.Op==5 then(QY c (Ξ g)).bind λb=>bif b.2 != 0 then θ ({},b.2)else θ ({ Kind:=a.Kind,Number:=b.1,Table:=a.Table,Model:=a.Model,Curve:=a.Curve,Hist:=a.Hist,Box:=a.Box,Lineage:=a.Lineage },0)else θ (a,0)
abbrev MQ b c(e:Ag)g(h:Int->Int->Δ (A4×Int))(i:Int×Int->Δ (A4×Int))f a:=bif a<b.length then(idx b a).bind λj=>(B3 c e.B).bind λk=>(Cz c g j e.B k).bind λl=>i (i64.wrap (f+l.1),i64.wrap (a+1))else h f a
abbrev Hl d e c a g:=(Dl d e c a.Q g).bind λb=>(Jt c b).bind λf=>bif a.Op==3 then(Ri (Ξ b) f).bind λh=>θ (h,0)else iter (λi s=>MQ b e a c (Wl f a b) i s.1 s.2) Ay (0,0)
def Dm d b c a:=bif a.Op != 3 then bif rm 0 (Ξ [a.B]) then Hl d b c a ([]++[a.B])else κ else Hl d b c a []
def OP f g h(i:Int->Γ (Γ Int)->Δ (Γ (Γ Int)))(j:Int×Γ (Γ Int)->Δ (Γ (Γ Int)))a b:=bif a<f.length then(idx ([(-1)]++g) h).bind λc=>(idx f a).bind λe=>bif rm (Ξ [c]) (Ξ e) then bif rm (Ξ b) (Ξ ([[c]++e])) then j (i64.wrap (a+1),b++[[c]++e])else κ else κ else i a b
def ON b e(f:Int->Γ (Γ Int)->Δ (Γ (Γ Int)))(g:Int×Γ (Γ Int)->Δ (Γ (Γ Int)))(a:Int)c:=bif a<(Ξ ([(-1)]++b))then iter (λh s=>OP e b a (λj i=>g (i64.wrap (a+1),i)) h s.1 s.2) Ay (0,c)else f a c
def My(d:Nat)(e:Aa->Γ Ab->Δ (Γ (Γ Int)))b a:=bif(Ξ a:Int)==0 then θ ([[]])else bif (0<=(1:Int)/\1<=(Ξ a:Int)/\(Ξ a:Int)<=Ξ a)then(e b (Ia a 1 (Ξ a))).bind λf=>(idx a 0).bind λg=>(idx b.A g.B).bind λh=>(idx b.S h.Al).bind λi=>(idx a 0).bind λj=>(Mk i j.H).bind λc=>bif rm (Ξ [(-1)]) (Ξ c) then iter (λk s=>ON c f (λm l=>θ l) k s.1 s.2) Ay (0,[])else κ else κ
def NF:Nat->Aa->(Γ Ab)->Δ (Γ (Γ Int))| 0,_,_=>κ| d+1,a,b=>My d (NF d) a b
abbrev Qu(i:Int×Int×Int×Int×Int×Int×Γ Int->Δ Ap)c j k l e f g(h:Γ C6)o:=bif !o then i (i64.wrap (c+1),j,k,l,e,f,g)else(idx h c).bind λm=>bif rm (Ξ g) (Ξ [m.B7]) then(idx h c).bind λn=>(idx h c).bind λa=>(idx h c).bind λb=>bif (if(i64.wrap (0-b.Bb))>a.Bb then(i64.wrap (0-b.Bb))else a.Bb)>e then i (i64.wrap (c+1),i64.wrap (j+1),i64.wrap (k+n.Bb),i64.wrap (l+(if(i64.wrap (0-b.Bb))>a.Bb then(i64.wrap (0-b.Bb))else a.Bb)),if(i64.wrap (0-b.Bb))>a.Bb then(i64.wrap (0-b.Bb))else a.Bb,if e>f then e else f,g++[m.B7])else i (i64.wrap (c+1),i64.wrap (j+1),i64.wrap (k+n.Bb),i64.wrap (l+(if(i64.wrap (0-b.Bb))>a.Bb then(i64.wrap (0-b.Bb))else a.Bb)),e,if(if(i64.wrap (0-b.Bb))>a.Bb then(i64.wrap (0-b.Bb))else a.Bb)>f then(if(i64.wrap (0-b.Bb))>a.Bb then(i64.wrap (0-b.Bb))else a.Bb)else f,g++[m.B7])else κ
abbrev Qt b(f:Γ C6)g(h:Ω->Int->Δ Ap)(c:Ω×Int->Δ Ap)e a:=bif a<b.length then bif e then(idx b a).bind λi=>bif i==(-1)then c (ν,i64.wrap (a+1))else(idx b a).bind λj=>(idx f g).bind λk=>(idx k.B8 a).bind λl=>c (j==l,i64.wrap (a+1))else c (ξ,i64.wrap (a+1))else h e a
abbrev YL a(i b c e f g:Int)h:=θ ({ X:=a,Z:=b,Bc:=c,Be:=e,A7:=f,Ba:=g,G:=h }:Ap)
def Qs b j(k:Int->Int->Int->Int->Int->Int->Γ Int->Δ Ap)l a c e f g h i:=bif a<b.length then iter (λm s=>Qt j b a (λn o=>Qu l a c e f g h i b n) m s.1 s.2) Ay (ν,0)else k a c e f g h i
def Tv b a:=iter (λc s=>Qs b a (YL a) c s.1 s.2.1 s.2.2.1 s.2.2.2.1 s.2.2.2.2.1 s.2.2.2.2.2.1 s.2.2.2.2.2.2) Ay (0,0,0,0,0,0,[])
def Ke e j f g k a b(h:Int×Γ C6->Δ (BL×Int))(n:Int)c:=bif e>=0 then(idx j f).bind λl=>(B3 g e).bind λm=>(Cz g k l e m).bind λi=>bif rm (Ξ a) (Ξ [({ B7:=b,Bb:=i.1,B8:=c }:C6)]) then h (i64.wrap (f+1),a++[{ B7:=b,Bb:=i.1,B8:=c }])else κ else bif rm (Ξ a) (Ξ [({ B7:=b,B8:=c }:C6)]) then h (i64.wrap (f+1),a++[{ B7:=b,B8:=c }])else κ
def Qo(b:Γ Ab)f g h i(j:Int->Γ Int->Δ (BL×Int))(k:Int×Γ Int->Δ (BL×Int))(a:Int)c:=bif a<Ξ b then(idx f g).bind λl=>(idx b a).bind λm=>(idx b a).bind λn=>(Cz h i l m.B n.H).bind λe=>bif rm (Ξ c) (Ξ [e.1]) then k (i64.wrap (a+1),c++[e.1])else κ else j a c
def Qp c f(g:Int->Γ Ap->Δ (BL×Int))(h:Int×Γ Ap->Δ (BL×Int))a b:=bif a<c.length then(idx c a).bind λi=>(Tv f i).bind λe=>bif rm (Ξ b) (Ξ [e]) then h (i64.wrap (a+1),b++[e])else κ else g a b
def Kf d b a(c i:Int)e:=(NF d b a).bind λf=>iter (λg s=>Qp f e (λj h=>θ ({ V:=a,Ah:=c,Av:=h },0)) g s.1 s.2) Ay (0,[])
def Qn b c g e h(i:Int->Γ C6->Δ (BL×Int))j a f:=bif a<b.length then(idx b a).bind λk=>(idx c.G k).bind λl=>(idx l 0).bind λm=>iter (λn s=>Qo g b a e c (Ke h b a e c f m j) n s.1 s.2) Ay (0,[])else i a f
def Kd d a b f c e g:=(Dl d a b f g).bind λh=>iter (λi s=>Qn h b c a e (Kf d a c e) i s.1 s.2) Ay (0,[])
def Qq a d b c e f(g:Int):=bif g>2000 then θ ({},1)else bif a>=0 then bif rm 0 (Ξ [a]) then Kd d b c e f a ([]++[a])else κ else Kd d b c e f a []
def Qm(b:Γ Ab)(c:Aa)(f:Int->Int->Δ (BL×Int))(g:Int×Int->Δ (BL×Int))(e a:Int):=bif a<Ξ b then(idx b a).bind λh=>(idx c.A h.B).bind λi=>(idx c.S i.Al).bind λj=>(idx b a).bind λk=>(Mk j k.H).bind λl=>g (i64.wrap (e*i64.wrap (Ξ l+1)),i64.wrap (a+1))else f e a
def Nr d a c b e f:=(FI a c).bind λg=>bif g != 0 then θ ({},g)else(Ei d a { J:={ data:=#[116] },Kind:=1,Bu:=f,V:=b,Ah:=e }).bind λh=>bif h != 0 then θ ({},h)else(G0 d a { Op:=10,B:=e,V:=b,Q:=f }).bind λi=>(F8 i c.I).bind λj=>bif !j then θ ({},23)else iter (λk s=>Qm b a (λl m=>Qq e d a c f b l) k s.1 s.2) Ay (1,0)
def Lg d a b c:=(FI a b).bind λe=>bif e != 0 then θ e else(FK d a c).bind λf=>bif !f then θ 11 else(G0 d a c).bind λg=>(F8 g b.I).bind λh=>bif !h then θ 23 else θ 0
abbrev Qz e b f(g:Int->Γ Int->Δ (Γ (Γ Int)))(h:Int×Γ Int->Δ (Γ (Γ Int)))a c:=bif a<e.length then(idx c b).bind λi=>(idx e a).bind λj=>(idx j f).bind λk=>(idx e a).bind λl=>(idx l b).bind λm=>(idx c b).bind λn=>h (i64.wrap (a+1),c.set b.toNat (i64.wrap (i+i64.wrap (k*m))))else g a c
abbrev Qy c e(f:Int->Γ Int->Δ (Γ (Γ Int)))(g:Int×Γ Int->Δ (Γ (Γ Int)))a b:=bif a<b.length then iter (λh s=>Qz c a e (λj i=>g (i64.wrap (a+1),i)) h s.1 s.2) Ay (0,b)else f a b
def Qx b(g:Int->Γ (Γ Int)->Δ (Γ (Γ Int)))(h:Int×Γ (Γ Int)->Δ (Γ (Γ Int)))a c:=(idx b 0).bind λi=>bif a<i.length then(idx b 0).bind λe=>bif 0<=(Ξ e:Int)&&rm (Ξ e:Int).toNat 0 then iter (λj s=>Qy b a (λk f=>bif rm (Ξ c) (Ξ [f]) then h (i64.wrap (a+1),c++[f])else κ) j s.1 s.2) Ay (0,List.replicate (Ξ e:Int).toNat 0)else κ else g a c
def Q1 b:=iter (λc s=>Qx b (λe a=>bif !a.isEmpty then θ a else κ) c s.1 s.2) Ay (0,[])
abbrev Qw b c(e f:Int->Δ (Γ (Γ Int)))a:=(idx b c).bind λg=>bif a<g.length then(idx b c).bind λh=>(idx h a).bind λi=>bif i<(-1000000)then θ []else(idx b c).bind λj=>(idx j a).bind λk=>bif k>1000000 then θ []else f (i64.wrap (a+1))else e a
abbrev Qv b(c e:Int->Δ (Γ (Γ Int)))a:=bif a<b.length then(idx b a).bind λf=>(idx b 0).bind λg=>bif Ξ f != (Ξ g:Int)then θ []else iter (λh s=>Qw b a (λi=>e (i64.wrap (a+1))) h s) Ay 0 else c a
def Q0 a:=iter (λb s=>Qv a (λc=>Q1 a) b s) Ay 0
def Ns a:=bif bif(Ξ a:Int)==0 then ν else((Ξ a:Int)>200)then θ []else(idx a 0).bind λb=>bif (Ξ b:Int)<1 then θ []else(idx a 0).bind λc=>bif (Ξ c:Int)>5 then θ []else Q0 a
def Ed(a b:Au):=(BX a.C b.C).bind λc=>θ ({ E:=(u64.wrap (u64.wrap (c.1+u64.wrap (a.E*b.C))+u64.wrap (a.C*b.E))),C:=c.2 }:Au)
abbrev Xn(c:Int×Au->Δ Ω)e a(b k:Int):=bif b==0 then c (i64.wrap (e+1),a)else(BG b).bind λf=>(KR { E:=72057594037927936 } f).bind λg=>(Gy g.1 a).bind λh=>bif h then θ ξ else(BG b).bind λi=>(Ed a i).bind λj=>c (i64.wrap (e+1),j)
abbrev O5 b c(h:Int->Int->Δ Ω)(i:Int×Int->Δ Ω)e a:=(idx b c).bind λj=>bif a<j.length then(idx b c).bind λk=>(idx k a).bind λf=>(idx b c).bind λl=>(idx l a).bind λg=>i (i64.wrap (e+(if(i64.wrap (0-g))>f then(i64.wrap (0-g))else f)),i64.wrap (a+1))else h e a
abbrev O4 b(e:Int->Au->Δ Ω)f a c:=bif a<b.length then iter (λg s=>O5 b a (Xn f a c) g s.1 s.2) Ay (0,0)else e a c
def QZ a:=(BG 1).bind λb=>iter (λc s=>O4 a (λe f=>θ ν) c s.1 s.2) Ay (0,b)
abbrev O0 b c(e f:Int->Δ Int)a:=bif a<b.length then(idx b c).bind λg=>(idx g a).bind λh=>bif h<(-2147483648)then θ 2 else(idx b c).bind λi=>(idx i a).bind λj=>bif j>2147483648 then θ 2 else f (i64.wrap (a+1))else e a
abbrev Oz b(c e:Int->Δ Int)a:=bif a<b.length then iter (λf s=>O0 b a (λg=>e (i64.wrap (a+1))) f s) Ay 0 else c a
abbrev To a:=iter (λb s=>Oz a (λe=>(QZ a).bind λc=>bif !c then θ 14 else θ 0) b s) Ay 0
abbrev Oy(b:Γ (Γ Int))(c e:Int->Δ Int)(a:Int):=bif a<Ξ b then(idx b a).bind λf=>bif Ξ f != (Ξ b:Int)then θ 17 else e (i64.wrap (a+1))else c a
def IT a:=bif(Ξ a:Int)==0 then θ 18 else bif (Ξ a:Int)>5 then θ 1 else iter (λb s=>Oy a (λc=>To a) b s) Ay 0
abbrev Sb f h c(i:Int->Γ (Γ Int)->Δ (Γ (Γ Int)))(j:Int×Γ (Γ Int)->Δ (Γ (Γ Int)))a e:=bif a<f.length then(idx f a).bind λb=>bif rm 0 (Ξ b) then(idx h a).bind λg=>(idx b c).bind λk=>bif rm (Ξ e) (Ξ [b.set c.toNat g]) then j (i64.wrap (a+1),e++[b.set c.toNat g])else κ else κ else i a e
def S8 a b c:=iter (λe s=>Sb a b c (λg f=>θ f) e s.1 s.2) Ay (0,[])
def Np(a b:Au):=(BI a.C b.C 0).bind λc=>(BI a.E b.E c.2).bind λe=>θ ({ E:=e.1,C:=c.1 }:Au)
abbrev O3 b c g(j:Γ (Γ Int)->Γ Int->Γ Int->Δ Au)(k:Int->Au->Δ Au)(h:Int×Au->Δ Au)a e:=bif a<b.length then bif (0<=(0:Int)/\0<=a/\a<=b.length)then bif rm 0 (Ξ (Ia b 0 a)) then bif (0<=(i64.wrap (a+1))/\(i64.wrap (a+1))<=Ξ b/\(Ξ b:Int)<=Ξ b)then bif rm (Ξ (Ia b 0 a)) (Ξ (Ia b (i64.wrap (a+1)) b.length)) then(idx c 0).bind λl=>(idx g l).bind λm=>(idx b a).bind λn=>(idx m n).bind λo=>(BG o).bind λp=>bif (0<=(1:Int)/\1<=(Ξ c:Int)/\Ξ c<=(Ξ c:Int))then(j g (Ia c 1 (Ξ c)) (Ia b 0 a++Ia b (i64.wrap (a+1)) (Ξ b))).bind λq=>(Ed p q).bind λi=>bif(Int.tmod a 2)==1 then(E2 {} i).bind λr=>(Np e r).bind λf=>h (i64.wrap (a+1),f)else(Np e i).bind λf=>h (i64.wrap (a+1),f)else κ else κ else κ else κ else κ else k a e
def If(d:Nat)b c a e:=bif(Ξ a:Int)==0 then(BG 1).bind λf=>θ f else iter (λg s=>O3 e a c b (λi h=>θ h) g s.1 s.2) Ay (0,{})
def KS:Nat->(Γ (Γ Int))->(Γ Int)->(Γ Int)->Δ Au| 0,_,_,_=>κ| d+1,a,b,c=>If d (KS d) a b c
abbrev LD c(e:Int->Γ Int->Δ (Γ Int))(f:Int×Γ Int->Δ (Γ Int))a b:=bif a<c then bif rm (Ξ b) (Ξ [a]) then f (i64.wrap (a+1),b++[a])else κ else e a b
def Kc a:=iter (λb s=>LD a (λe c=>θ c) b s.1 s.2) Ay (0,[])
def LC d a:=(Kc (Ξ a)).bind λb=>(Kc (Ξ a)).bind λc=>(KS d a b c).bind λe=>θ e
abbrev O2 e f d g(h:Int->Γ A1->Δ (Γ A1×Int))(i:Int×Γ A1->Δ (Γ A1×Int))a c:=bif a<e.length then(S8 e f a).bind λj=>(LC d j).bind λk=>(DO k g).bind λb=>bif b.2 != 0 then θ ([],b.2)else bif rm (Ξ c) (Ξ [b.1]) then i (i64.wrap (a+1),c++[b.1])else κ else h a c
abbrev Tp d a c:=(LC d a).bind λb=>(PK b).bind λe=>bif e then θ ([],15)else iter (λf s=>O2 a c d b (λh g=>θ (g,0)) f s.1 s.2) Ay (0,[])
abbrev O1 b e(f g:Int->Δ (Γ A1×Int))a:=bif a<b.length then(S8 b e a).bind λh=>(IT h).bind λc=>bif c != 0 then θ ([],c)else g (i64.wrap (a+1))else f a
def N9 d a b:=(IT a).bind λc=>bif c != 0 then θ ([],c)else bif Ξ b != (Ξ a:Int)then θ ([],17)else iter (λe s=>O1 a b (λf=>Tp d a b) e s) Ay 0
def N8 d b a:=(IT b).bind λc=>bif c != 0 then θ ({},c)else(IT a).bind λe=>bif e != 0 then θ ({},e)else(LC d a).bind λg=>(PK g).bind λh=>bif h then θ ({},15)else(LC d b).bind λi=>(LC d a).bind λj=>(DO i j).bind λf=>θ (f.1,f.2)
def Sj d(f i a:Γ (Γ Int))j g k:=(N9 d f k).bind λb=>bif b.2 != 0 then θ ({},b.2)else(Ns i).bind λh=>bif !h.isEmpty then(N8 d h f).bind λc=>bif c.2 != 0 then θ (({}:Bd),c.2)else(QY (i64.wrap ((i64.wrap (Ξ a*j))-(i64.wrap (g*g)))) (Ξ a)).bind λe=>bif e.2 != 0 then θ ({},e.2)else θ ({ A9:=b.1,A2:=c.1,A3:=e.1,Z:=(Ξ a:Int),Bf:=(i64.wrap ((Ξ a:Int)-(Ξ b.1:Int))) },0)else κ
abbrev Sf e c f(g:Int->Γ Int->Δ (Bd×Int))(h:Int×Γ Int->Δ (Bd×Int))a b:=bif a<b.length then(idx b a).bind λi=>(idx e c).bind λj=>(idx j a).bind λk=>(idx f c).bind λl=>(idx l 0).bind λm=>(idx b a).bind λn=>h (i64.wrap (a+1),b.set a.toNat (i64.wrap (i+i64.wrap (k*m))))else g a b
abbrev Se b e(f:Int->Γ Int->Δ (Bd×Int))(g:Int×Γ Int->Δ (Bd×Int))a c:=bif a<b.length then iter (λh s=>Sf e a b (λj i=>g (i64.wrap (a+1),i)) h s.1 s.2) Ay (0,c)else f a c
def Si b d e f c g:=(Ns c).bind λa=>bif !a.isEmpty then bif 0<=(Ξ a:Int)&&rm (Ξ a:Int).toNat 0 then iter (λh s=>Se b c (λj i=>Sj d a g b f e i) h s.1 s.2) Ay (0,List.replicate (Ξ a:Int).toNat 0)else κ else κ
def Sd e(j:Int->Int->Int->Γ (Γ Int)->Γ (Γ Int)->Δ (Bd×Int))(k:Int×Int×Int×Γ (Γ Int)×Γ (Γ Int)->Δ (Bd×Int))h i c f g:=bif c<e.length then(idx e c).bind λl=>(idx l 0).bind λb=>(idx e c).bind λa=>bif (0<=(1:Int)/\1<=(Ξ a:Int)/\Ξ a<=(Ξ a:Int))then bif rm (Ξ [1]) (Ξ (Ia a 1 a.length)) then bif rm (Ξ f) (Ξ ([[1]++(Ia a 1 a.length)])) then bif rm 0 (Ξ ([1]++Ia a 1 a.length)) then bif rm (Ξ ([1]++Ia a 1 a.length)) (Ξ [b]) then bif rm (Ξ g) (Ξ ([([1]++Ia a 1 a.length)++[b]])) then k (i64.wrap (h+b),i64.wrap (i+i64.wrap (b*b)),i64.wrap (c+1),f++[[1]++(Ia a 1 (Ξ a))],g++[([1]++Ia a 1 (Ξ a))++[b]])else κ else κ else κ else κ else κ else κ else j h i c f g
def Sg a d:=iter (λb s=>Sd a (λc e h f g=>Si a d c e f g) b s.1 s.2.1 s.2.2.1 s.2.2.2.1 s.2.2.2.2) Ay (0,0,0,[],[])
def Vh d a:=(Ns a).bind λb=>bif b.isEmpty then θ ({},11)else(idx a 0).bind λc=>bif (Ξ c:Int)<2 then θ ({},11)else(idx a 0).bind λe=>bif (Ξ e:Int)>4 then θ ({},11)else Sg a d
abbrev Q3 b c h i f j(k:Int->Γ Int->Δ (Bd×Γ Int×Int))(l:Int×Γ Int->Δ (Bd×Γ Int×Int))(a:Int)e:=bif a<(Ξ ([b]++c))then(idx h i).bind λm=>(idx ([b]++c) a).bind λn=>(idx ([b]++c) a).bind λo=>(B3 f o).bind λp=>(Cz f j m n p).bind λg=>bif rm (Ξ e) (Ξ [g.1]) then l (i64.wrap (a+1),e++[g.1])else κ else k a e
abbrev YN d b c e(f i:Int)g:=(Vh d g).bind λa=>bif a.2 != 0 then θ (({}:Bd),[],a.2)else bif rm 0 (Ξ b) then(Jt c e).bind λh=>θ ({ Ah:=f,A0:=b,A9:=a.1.A9,A2:=a.1.A2,A3:=a.1.A3,Z:=a.1.Z,Bf:=a.1.Bf },h,0)else κ
abbrev Q2 c f g h i(j:Int->Γ (Γ Int)->Δ (Bd×Γ Int×Int))(k:Int×Γ (Γ Int)->Δ (Bd×Γ Int×Int))a b:=bif a<c.length then iter (λl s=>Q3 f g c a h i (λm e=>bif rm (Ξ b) (Ξ [e]) then k (i64.wrap (a+1),b++[e])else κ) l s.1 s.2) Ay (0,[])else j a b
def PL d e c a b f:=(Lg d e c { Op:=11,B:=a,A:=b,Q:=f }).bind λg=>bif g != 0 then θ ({},[],g)else bif rm (Ξ [a]) (Ξ b) then(Dl d e c f ([a]++b)).bind λh=>iter (λi s=>Q2 h a b e c (YN d b c h a) i s.1 s.2) Ay (0,[])else κ
abbrev Vf(c:Int->Int->Δ Int)(e:Int×Int->Δ Int)(b a:Int):=bif a != 0 then bif a≠0 then e (a,Int.tmod b a)else κ else c b a
def Qh a b:=iter (λc s=>Vf (λe f=>θ e) c s.1 s.2) Ay (a,b)
def Gz(a:A1):=bif bif bif bif a.T<1 then ν else(a.T>1152921504606846976)then ν else(a.K<(-1152921504606846976))then ν else(a.K>1152921504606846976)then θ ξ else(Qh a.T (if(i64.wrap (0-a.K))>a.K then(i64.wrap (0-a.K))else a.K)).bind λb=>θ (b==1)
def PI a b:=(Gz a).bind λe=>bif !e then θ ({},11)else(Gz b).bind λf=>bif !f then θ ({},11)else(BG a.K).bind λg=>(BG b.K).bind λh=>(Ed g h).bind λi=>(BG a.T).bind λj=>(BG b.T).bind λk=>(Ed j k).bind λl=>(DO i l).bind λc=>θ (c.1,c.2)
abbrev RY e f(i:Ω->Int->Γ Int->Δ (Γ Int))(h:Ω×Int×Γ Int->Δ (Γ Int))g a b:=bif a<e.length then(idx e a).bind λj=>bif bif j>f then(!g)else ξ then bif rm (Ξ b) (Ξ [f]) then(idx e a).bind λc=>bif rm (Ξ (b++[f])) (Ξ [c]) then h (ν,i64.wrap (a+1),(b++[f])++[c])else κ else κ else(idx e a).bind λc=>bif rm (Ξ b) (Ξ [c]) then h (g,i64.wrap (a+1),b++[c])else κ else i g a b
def N4 b a:=(N3 b a).bind λe=>bif e then θ b else iter (λf s=>RY b a (λg h c=>bif !g then bif rm (Ξ c) (Ξ [a]) then θ (c++[a]) else κ else θ c) f s.1 s.2.1 s.2.2) Ay (ξ,0,[])
abbrev Tw e c(f:Int×Γ Aj×A1->Δ (Γ Aj×Int))g(a:Aj):=(QY (i64.wrap (a.Bj-a.Bk)) a.Bj).bind λh=>(PI e h.1).bind λb=>bif b.2 != 0 then θ ([],b.2)else bif rm (Ξ c) (Ξ [({ Bh:=a.Bh,Bj:=a.Bj,Bk:=a.Bk,Bl:=a.Bl,Bm:=b.1 }:Aj)]) then f (i64.wrap (g+1),c++[{ Bh:=a.Bh,Bj:=a.Bj,Bk:=a.Bk,Bl:=a.Bl,Bm:=b.1 }],b.1)else κ
abbrev Lk(a:Int×Aj->Δ (Γ Aj×Int))b c:=a (i64.wrap (b+1),c)
abbrev Ll e b f c a:=(idx e b).bind λg=>bif g==a.Bh then(idx f b).bind λh=>bif !h then Lk c b { Bh:=a.Bh,Bj:=a.Bj,Bk:=a.Bk,Bl:=(i64.wrap (a.Bl+1)),Bm:=a.Bm } else Lk c b a else Lk c b a
def IG c b e f a:=(idx c b).bind λg=>bif g==a.Bh then(idx e b).bind λh=>bif h then Ll c b e f { Bh:=a.Bh,Bj:=a.Bj,Bk:=(i64.wrap (a.Bk+1)),Bl:=a.Bl,Bm:=a.Bm } else Ll c b e f a else Ll c b e f a
def Lj c e(g:Int->Aj->Δ (Γ Aj×Int))f b a:=bif b<c.length then(idx c b).bind λh=>bif h>=a.Bh then IG c b e f { Bh:=a.Bh,Bj:=(i64.wrap (a.Bj+1)),Bk:=a.Bk,Bl:=a.Bl,Bm:=a.Bm } else IG c b e f a else g b a
def OQ b f g(h:Int->Γ Aj->A1->Δ (Γ Aj×Int))i a c e:=bif a<b.length then(idx b a).bind λj=>iter (λk s=>Lj f g (λm l=>Tw e c i a l) k s.1 s.2) Ay (0,{ Bh:=j })else h a c e
def OR a b c:=iter (λe s=>OQ c a b (λg f h=>θ (f,0)) e s.1 s.2.1 s.2.2) Ay (0,[],{ K:=1,T:=1 })
abbrev Li b(e:Γ Int->Int->Δ (Γ Aj×Int))(f:Γ Int×Int->Δ (Γ Aj×Int))c a:=bif a<b.length then(idx b a).bind λg=>bif g<0 then θ ([],2)else(idx b a).bind λh=>bif h>1000000 then θ ([],2)else(idx b a).bind λi=>(N4 c i).bind λj=>f (j,i64.wrap (a+1))else e c a
def Lh a b:=bif Ξ a != (Ξ b:Int)then θ ([],17)else bif (Ξ a:Int)>200 then θ ([],1)else iter (λc s=>Li a (λe f=>OR a b e) c s.1 s.2) Ay ([],0)
abbrev Q4 b c(h:Int)e f:=(Lh e f).bind λa=>bif a.2 != 0 then θ ([],[],a.2)else(Jt b c).bind λg=>θ (a.1,g,0)
abbrev Kg c e i f d l(m:Int->Γ Int->Γ Ω->Δ (Γ Aj×Γ Int×Int))(n:Int×Γ Int×Γ Ω->Δ (Γ Aj×Γ Int×Int))a g h:=bif a<c.length then(idx c a).bind λo=>(B3 e i).bind λp=>(Cz e f o i p).bind λj=>bif rm (Ξ g) (Ξ [j.1]) then(idx c a).bind λq=>(idx f.G q).bind λb=>bif (0<=(1:Int)/\1<=(Ξ b:Int)/\Ξ b<=(Ξ b:Int))then(Jp d e l f.I (Ia b 1 (Ξ b))).bind λk=>bif rm (Ξ h) (Ξ [k==1]) then n (i64.wrap (a+1),g++[j.1],h++[k==1])else κ else κ else κ else m a g h
def PM d b a c e f:=(Lg d b a { Op:=12,B:=c,Q:=f,Y:=e }).bind λg=>bif g != 0 then θ ([],[],g)else(Dl d b a f [c]).bind λh=>iter (λi s=>Kg h b c a d e (Q4 a h) i s.1 s.2.1 s.2.2) Ay (0,[],[])
abbrev OT b(c e:Int->Δ Int)a:=bif a<b.length then(idx b a).bind λf=>bif f<(-1000000)then θ 2 else(idx b a).bind λg=>bif g>1000000 then θ 2 else e (i64.wrap (a+1))else c a
def NG a(b:Int):=bif (Ξ a:Int)>200 then θ 1 else bif bif b<1 then ν else(b>1000000)then θ 2 else iter (λc s=>OT a (λe=>θ 0) c s) Ay 0
abbrev Q7 c f(g:Int->Co->Δ (Γ Co×Int))(e:Int×Co->Δ (Γ Co×Int))a b:=bif a<c.length then(idx c a).bind λh=>bif h>=b.C then(idx c a).bind λi=>bif i<(i64.wrap (b.C+f))then e (i64.wrap (a+1),{ C:=b.C,Z:=(i64.wrap (b.Z+1)) })else e (i64.wrap (a+1),b)else e (i64.wrap (a+1),b)else g a b
abbrev Q6 c f g(h:Int->Γ Co->Δ (Γ Co×Int))(i:Int×Γ Co->Δ (Γ Co×Int))a b:=bif a<c.length then(idx c a).bind λj=>iter (λk s=>Q7 f g (λl e=>bif rm (Ξ b) (Ξ [e]) then i (i64.wrap (a+1),b++[e])else κ) k s.1 s.2) Ay (0,{ C:=j })else h a b
abbrev U3 a b c:=iter (λe s=>Q6 c a b (λg f=>θ (f,0)) e s.1 s.2) Ay (0,[])
abbrev Q5 b c(f:Γ Int->Int->Δ (Γ Co×Int))(g:Γ Int×Int->Δ (Γ Co×Int))e a:=bif a<b.length then(idx b a).bind λh=>(Gx h c).bind λi=>(N4 e (i64.wrap (i*c))).bind λj=>g (j,i64.wrap (a+1))else f e a
def Lm a b:=(NG a b).bind λc=>bif c != 0 then θ ([],c)else iter (λe s=>Q5 a b (λf g=>U3 a b f) e s.1 s.2) Ay ([],0)
abbrev U4 b c(h:Int)e f:=(Lm f b).bind λa=>bif a.2 != 0 then θ ([],[],a.2)else(Jt c e).bind λg=>θ (a.1,g,0)
abbrev Mz f g h k l(m:Int->Γ Int->Γ Int->Δ (Γ Co×Γ Int×Int))(i:Int×Γ Int×Γ Int->Δ (Γ Co×Γ Int×Int))a b c:=bif a<f.length then(idx f a).bind λn=>(Lf g h k).bind λo=>(Cz g l n h o).bind λe=>bif bif e.2 then(e.1 != (-1099511627776))else ξ then(idx f a).bind λj=>bif rm (Ξ b) (Ξ [j]) then bif rm (Ξ c) (Ξ [e.1]) then i (i64.wrap (a+1),b++[j],c++[e.1])else κ else κ else i (i64.wrap (a+1),b,c)else m a b c
def PO d b a e c f:=(Lg d b a { Op:=13,K:=c,B:=e,Q:=f }).bind λg=>bif g != 0 then θ ([],[],g)else(Dl d b a f []).bind λh=>iter (λi s=>Mz h b e c a (U4 c a) i s.1 s.2.1 s.2.2) Ay (0,[],[])
abbrev JO a f e(g:Γ Int×Int->Δ (Γ Int))b:=bif (0<=(0:Int)/\0<=b/\b<=a.length/\b=b)then(idx f e).bind λc=>bif (0<=b/\b<=a.length/\Ξ a<=(Ξ a:Int))then bif rm (Ξ [c]) (Ξ (Ia a b a.length)) then bif rm (Ξ (Ia a 0 b)) (Ξ ([c]++Ia a b a.length))&&!([c]++Ia a b (Ξ a)).isEmpty then g (Ia a 0 b++([c]++Ia a b (Ξ a)),i64.wrap (e+1))else κ else κ else κ else κ
def Ru(c e:Γ Int)f(b g:Int->Δ (Γ Int))a:=bif a>0 then(idx c (i64.wrap (a-1))).bind λh=>(idx e f).bind λi=>bif h>i then g (i64.wrap (a-1))else b a else b a
def MP c(e:Γ Int->Int->Δ (Γ Int))f a b:=bif b<c.length then iter (λg s=>Ru a c b (JO a c b f) g s) Ay (Ξ a) else e a b
def OU a:=iter (λb s=>MP a (λc e=>θ c) b s.1 s.2) Ay ([],0)
def FX a:=(NG a 1).bind λc=>bif c != 0 then θ ({},c)else bif(Ξ a:Int)==0 then θ (({}:K2),18)else(OU a).bind λb=>(idx b 0).bind λe=>(idx b (i64.wrap (Int.tdiv (i64.wrap (Ξ a-1)) 4))).bind λf=>(idx b (i64.wrap (Int.tdiv (i64.wrap (Ξ a-1)) 2))).bind λg=>(idx b (i64.wrap (Int.tdiv (i64.wrap (3*i64.wrap (Ξ a-1))) 4))).bind λh=>(idx b (i64.wrap (Ξ a-1))).bind λi=>θ ({ Z:=(Ξ a:Int),Bo:=e,Bp:=f,Bq:=g,Br:=h,Bs:=i },0)
abbrev Sk b c(g:Int)e:=(FX e).bind λa=>bif a.2 != 0 then θ ({},[],a.2)else(Jt b c).bind λf=>θ (a.1,f,0)
abbrev LG c e f h(i:Int->Γ Int->Δ (K2×Γ Int×Int))(j:Int×Γ Int->Δ (K2×Γ Int×Int))a b:=bif a<c.length then(idx c a).bind λk=>(B3 e f).bind λl=>(Cz e h k f l).bind λg=>bif rm (Ξ b) (Ξ [g.1]) then j (i64.wrap (a+1),b++[g.1])else κ else i a b
def PN d b a c e:=(Lg d b a { Op:=14,B:=c,Q:=e }).bind λf=>bif f != 0 then θ ({},[],f)else(Dl d b a e [c]).bind λg=>iter (λh s=>LG g b c a (Sk a g) h s.1 s.2) Ay (0,[])
abbrev VN(a b:A1)h:=(BG a.K).bind λi=>(BG b.T).bind λj=>(Ed i j).bind λc=>(BG b.K).bind λk=>(BG a.T).bind λl=>(Ed k l).bind λe=>bif h then(E2 c e).bind λm=>(BG a.T).bind λn=>(BG b.T).bind λo=>(Ed n o).bind λp=>(DO m p).bind λf=>θ (f.1,f.2)else(Np c e).bind λq=>(BG a.T).bind λr=>(BG b.T).bind λt=>(Ed r t).bind λu=>(DO q u).bind λg=>θ (g.1,g.2)
def S7 a b c:=(Gz a).bind λe=>bif !e then θ ({},11)else(Gz b).bind λf=>bif !f then θ ({},11)else VN a b c
def Vd b c:=(S7 b c ξ).bind λa=>θ (a.1,a.2)
def Ve b c:=(S7 b c ν).bind λa=>θ (a.1,a.2)
def S6 b a:=(Gz b).bind λe=>bif !e then θ ({},11)else(Gz a).bind λf=>bif !f then θ ({},11)else bif a.K==0 then θ ({},18)else(BG b.K).bind λg=>(BG a.T).bind λh=>(Ed g h).bind λi=>(BG b.T).bind λj=>(BG a.K).bind λk=>(Ed j k).bind λl=>(DO i l).bind λc=>θ (c.1,c.2)
abbrev Um b(e:Γ Int->Int->Δ (Γ Int))(f:Γ Int×Int->Δ (Γ Int))c a:=bif a<b.length then(idx b a).bind λg=>(N4 c g).bind λh=>f (h,i64.wrap (a+1))else e c a
def Xs a:=iter (λb s=>Um a (λc e=>θ c) b s.1 s.2) Ay ([],0)
def NC a b:=bif rm 0 (Ξ a) then bif rm (Ξ a) (Ξ b) then(Xs (a++b)).bind λc=>θ c else κ else κ
abbrev Ej(b c:A4)(a:Int)e:=bif a != 0 then θ (({}:A4),a)else(NC b.Lineage c.Lineage).bind λf=>θ ({ Kind:=1,Number:=e,Lineage:=f },0)
def Tz(c:Int)a b:=bif c==6 then(Vd a.Number b.Number).bind λe=>Ej a b e.2 e.1 else bif c==7 then(Ve a.Number b.Number).bind λf=>Ej a b f.2 f.1 else bif c==8 then(PI a.Number b.Number).bind λg=>Ej a b g.2 g.1 else(S6 a.Number b.Number).bind λh=>Ej a b h.2 h.1
abbrev CY(a b:Int)c e f g h i j k l m n o p q r t u v w x y:=bif a != 0 then θ (({}:A4),a)else θ ({ Kind:=b,Table:={ V:=c,Ah:=e,Av:=f },Model:={ Ah:=g,A0:=h,A9:=i,A2:={ K:=j,T:=k },A3:={ K:=l,T:=m },Z:=n,Bf:=o },Curve:=p,Hist:=q,Box:={ Z:=r,Bo:=t,Bp:=u,Bq:=v,Br:=w,Bs:=x },Lineage:=y },0)
abbrev Lp(b:Γ Ar)(c:Ag)(e f:Int->Δ (A4×Int))a:=bif a>=0 then(idx b a).bind λg=>bif g.J.toList==c.J.toList then(idx b a).bind λh=>θ (h.Ai,0)else f (i64.wrap (a-1))else e a
def Ii d(n:Aa->Ad->Γ Ar->Ag->Δ (A4×Int))c e i a:=bif a.Op==1 then(Ri a.K []).bind λp=>θ (p,0)else bif a.Op==2 then iter (λq s=>Lp i a (λv=>CY 0 0 [] 0 [] 0 [] [] 0 0 0 0 0 0 [] [] 0 0 0 0 0 0 []) q s) Ay (i64.wrap (Ξ i-1))else bif a.Op==3 then(Dm d c e a).bind λg=>θ (g.1,g.2)else bif a.Op==4 then(Dm d c e a).bind λg=>θ (g.1,g.2)else bif a.Op==5 then(Dm d c e a).bind λg=>θ (g.1,g.2)else bif a.Op==10 then(Nr d c e a.V a.B a.Q).bind λf=>bif f.2==0 then(idx f.1.Av 0).bind λr=>CY f.2 2 f.1.V f.1.Ah f.1.Av 0 [] [] 0 0 0 0 0 0 [] [] 0 0 0 0 0 0 r.G else CY f.2 2 f.1.V f.1.Ah f.1.Av 0 [] [] 0 0 0 0 0 0 [] [] 0 0 0 0 0 0 []else bif a.Op==11 then(PL d c e a.B a.A a.Q).bind λb=>CY b.2.2 3 [] 0 [] b.1.Ah b.1.A0 b.1.A9 b.1.A2.K b.1.A2.T b.1.A3.K b.1.A3.T b.1.Z b.1.Bf [] [] 0 0 0 0 0 0 b.2.1 else bif a.Op==12 then(PM d c e a.B a.Y a.Q).bind λj=>CY j.2.2 4 [] 0 [] 0 [] [] 0 0 0 0 0 0 j.1 [] 0 0 0 0 0 0 j.2.1 else bif a.Op==13 then(PO d c e a.B a.K a.Q).bind λk=>CY k.2.2 5 [] 0 [] 0 [] [] 0 0 0 0 0 0 [] k.1 0 0 0 0 0 0 k.2.1 else bif a.Op==14 then(PN d c e a.B a.Q).bind λh=>CY h.2.2 6 [] 0 [] 0 [] [] 0 0 0 0 0 0 [] [] h.1.Z h.1.Bo h.1.Bp h.1.Bq h.1.Br h.1.Bs h.2.1 else(idx a.D 0).bind λt=>(n c e i t).bind λl=>bif l.2 != 0 then θ ({},l.2)else(idx a.D 1).bind λu=>(n c e i u).bind λm=>bif m.2 != 0 then θ ({},m.2)else(Tz a.Op l.1 m.1).bind λo=>θ (o.1,o.2)
def E3:Nat->Aa->Ad->(Γ Ar)->Ag->Δ (A4×Int)| 0,_,_,_,_=>κ| d+1,a,b,c,e=>Ii d (E3 d) a b c e
def Tx d a b c e:=(FI a b).bind λf=>bif f != 0 then θ ({},f)else(Ld d a b.I c e).bind λg=>bif g.2 != 0 then θ ({},g.2)else(E3 d a b c e).bind λh=>θ (h.1,h.2)
abbrev Sn(b:Γ Az)d h i(j:Int->Γ Ar->Δ (Γ Ar×Int×Int))(k:Int×Γ Ar->Δ (Γ Ar×Int×Int))(a:Int)c:=bif a<Ξ b then(idx b a).bind λl=>(Tx d h i c l.At).bind λe=>bif e.2 != 0 then θ ([],a,e.2)else(idx b a).bind λf=>(idx b a).bind λg=>bif rm (Ξ c) (Ξ [({ J:=f.J,A8:=g.A8,Ai:=e.1 }:Ar)]) then k (i64.wrap (a+1),c++[{ J:=f.J,A8:=g.A8,Ai:=e.1 }])else κ else j a c
def NH d a b c:=(FI a b).bind λf=>bif f != 0 then θ ([],(-1),f)else(Mv d a b.I c).bind λe=>bif e.2.2 != 0 then θ ([],e.2.1,e.2.2)else iter (λg s=>Sn c d a b (λi h=>θ (h,Ξ c,0)) g s.1 s.2) Ay (0,[])
abbrev Ti(b f:Γ Ab)(g h:Int->Δ Ω)(a:Int):=bif a<Ξ b then(idx b a).bind λc=>(idx f a).bind λe=>bif !((c.B==e.B)&&((c.H==e.H)&&ν))then θ ξ else h (i64.wrap (a+1))else g a
def Rr a b:=bif Ξ a != (Ξ b:Int)then θ ξ else iter (λc s=>Ti a b (λe=>θ ν) c s) Ay 0
def OM(a b:Ap):=(KL a.X b.X).bind λc=>bif bif bif bif bif bif c then(a.Z==b.Z)else ξ then(a.Bc==b.Bc)else ξ then(a.Be==b.Be)else ξ then(a.A7==b.A7)else ξ then(a.Ba==b.Ba)else ξ then(KL a.G b.G).bind λe=>θ e else θ ξ
abbrev Qr(b c:BL)(e f:Int->Δ Ω)(a:Int):=bif a<Ξ b.Av then(idx b.Av a).bind λg=>(idx c.Av a).bind λh=>(OM g h).bind λi=>bif !i then θ ξ else f (i64.wrap (a+1))else e a
def VT a b:=(Rr a.V b.V).bind λc=>bif bif bif !c then ν else(a.Ah != b.Ah)then ν else((Ξ a.Av:Int) != Ξ b.Av)then θ ξ else iter (λe s=>Qr a b (λf=>θ ν) e s) Ay 0
abbrev YI(b f:Γ A1)(g h:Int->Δ Ω)(a:Int):=bif a<Ξ b then(idx b a).bind λc=>(idx f a).bind λe=>bif !((c.K==e.K)&&((c.T==e.T)&&ν))then θ ξ else h (i64.wrap (a+1))else g a
def Zr a b:=bif Ξ a != (Ξ b:Int)then θ ξ else iter (λc s=>YI a b (λe=>θ ν) c s) Ay 0
def VU(a b:Bd):=bif a.Ah==b.Ah then(KL a.A0 b.A0).bind λc=>bif c then(Zr a.A9 b.A9).bind λe=>θ (bif bif bif bif e then((a.A2.K==b.A2.K)&&((a.A2.T==b.A2.T)&&ν))else ξ then((a.A3.K==b.A3.K)&&((a.A3.T==b.A3.T)&&ν))else ξ then(a.Z==b.Z)else ξ then(a.Bf==b.Bf)else ξ)else θ ξ else θ ξ
abbrev YO(e f:Γ Aj)(g h:Int->Δ Ω)(c:Int):=bif c<Ξ e then(idx e c).bind λa=>(idx f c).bind λb=>bif !((a.Bh==b.Bh)&&((a.Bj==b.Bj)&&((a.Bk==b.Bk)&&((a.Bl==b.Bl)&&(((a.Bm.K==b.Bm.K)&&((a.Bm.T==b.Bm.T)&&ν))&&ν)))))then θ ξ else h (i64.wrap (c+1))else g c
def Zt a b:=bif Ξ a != (Ξ b:Int)then θ ξ else iter (λc s=>YO a b (λe=>θ ν) c s) Ay 0
abbrev YP(b f:Γ Co)(g h:Int->Δ Ω)(a:Int):=bif a<Ξ b then(idx b a).bind λc=>(idx f a).bind λe=>bif !((c.C==e.C)&&((c.Z==e.Z)&&ν))then θ ξ else h (i64.wrap (a+1))else g a
def Zu a b:=bif Ξ a != (Ξ b:Int)then θ ξ else iter (λc s=>YP a b (λe=>θ ν) c s) Ay 0
def JP(a b:A4):=bif bif a.Kind==b.Kind then((a.Number.K==b.Number.K)&&((a.Number.T==b.Number.T)&&ν))else ξ then(VT a.Table b.Table).bind λc=>bif c then(VU a.Model b.Model).bind λe=>bif e then(Zt a.Curve b.Curve).bind λf=>bif f then(Zu a.Hist b.Hist).bind λg=>bif bif g then((a.Box.Z==b.Box.Z)&&((a.Box.Bo==b.Box.Bo)&&((a.Box.Bp==b.Box.Bp)&&((a.Box.Bq==b.Box.Bq)&&((a.Box.Br==b.Box.Br)&&((a.Box.Bs==b.Box.Bs)&&ν))))))else ξ then(KL a.Lineage b.Lineage).bind λh=>θ h else θ ξ else θ ξ else θ ξ else θ ξ else θ ξ
abbrev Q9(b c:Γ Ar)(e f:Int->Δ Ω)(a:Int):=bif a<Ξ b then(idx b a).bind λg=>(idx c a).bind λh=>bif !(g.J.toList==h.J.toList)then θ ξ else(idx b a).bind λi=>(idx c a).bind λj=>bif !(i.A8==j.A8)then θ ξ else(idx b a).bind λk=>(idx c a).bind λl=>(JP k.Ai l.Ai).bind λm=>bif !m then θ ξ else f (i64.wrap (a+1))else e a
def PP a b:=bif Ξ a != (Ξ b:Int)then θ ξ else iter (λc s=>Q9 a b (λe=>θ ν) c s) Ay 0
abbrev Q8 c(g:Int->Γ Ar->Δ (Γ Ar))(e:Int×Γ Ar->Δ (Γ Ar))a b:=bif a<c.length then(idx c a).bind λh=>bif h.A8 then(idx c a).bind λf=>bif rm (Ξ b) (Ξ [f]) then e (i64.wrap (a+1),b++[f])else κ else e (i64.wrap (a+1),b)else g a b
def Ty a:=iter (λb s=>Q8 a (λe c=>θ c) b s.1 s.2) Ay (0,[])
def WF a:=bif (0<=(0:Int)/\0<=(if 400<(Ξ a:Int)then 400 else(Ξ a:Int))/\(if 400<(Ξ a:Int)then 400 else(Ξ a:Int))<=Ξ a)then θ ({ Ay:=(Ia a 0 (if 400<(Ξ a:Int)then 400 else(Ξ a:Int))) }:Ac)else κ
abbrev Nj(a:Ac)(b:Int):=(idx a.Ay (i64.wrap ((i64.wrap (a.Aw+1))-1))).bind λc=>bif b>256 then bif (i64.wrap (a.Aw+1))<Ξ a.Ay then(idx a.Ay (i64.wrap (a.Aw+1))).bind λe=>bif b≠0 then θ (Int.tmod (i64.wrap (i64.wrap (i64.wrap c*256)+i64.wrap e)) b,{ Ay:=a.Ay,Aw:=(i64.wrap (i64.wrap (a.Aw+1)+1)) })else κ else bif b≠0 then θ (Int.tmod (i64.wrap c) b,{ Ay:=a.Ay,Aw:=(i64.wrap (a.Aw+1)) })else κ else bif b≠0 then θ (Int.tmod (i64.wrap c) b,({ Ay:=a.Ay,Aw:=(i64.wrap (a.Aw+1)) }:Ac))else κ
def AB a b:=bif b<1 then θ (0,a)else bif a.Aw>=a.Ay.length then θ (0,a)else Nj a b
def CW c a:=(AB c a).bind λb=>θ (b.1==(i64.wrap (a-1)),b.2)
def Bw c a e:=(AB c (i64.wrap (i64.wrap (e-a)+1))).bind λb=>θ (i64.wrap (a+b.1),b.2)
abbrev Nh e(f:Int->Γ Fx->Δ (Am×Ac))(g:Int×Γ Fx->Δ (Am×Ac))b a:=bif b>0 then(FB (Ξ a)).bind λc=>bif ({ data:=#[108] }:Θ).size+c.size<=9223372036854775807 then bif rm (Ξ a) (Ξ ([({ J:=(({ data:=#[108] }:Θ)++c),Bt:=(i64.wrap (1+e)) }:Fx)])) then g (i64.wrap (b-1),a++[{ J:=(({ data:=#[108] }:Θ)++c),Bt:=(i64.wrap (1+e)) }])else κ else κ else f b a
abbrev Jg(f:Int×Ac)(g:Int->Ac->Γ Fx->Δ (Am×Ac))(h:Int×Ac×Γ Fx->Δ (Am×Ac))a b c:=bif a<f.1 then(Bw b 1 2).bind λe=>iter (λi s=>Nh a (λk j=>h (i64.wrap (a+1),e.2,j)) i s.1 s.2) Ay (e.1,c)else g a b c
abbrev Ni b c e:=(CW b.2 2).bind λa=>bif a.1 then θ ({ J:=c,X:=e },a.2)else iter (λf s=>Jg b (λi g h=>θ ({ J:=c,X:=h },g)) f s.1 s.2.1 s.2.2) Ay (0,a.2,e)
abbrev Jf(e:Int×Ac)(f:Int->Γ Fx->Δ (Am×Ac))(g:Int×Γ Fx->Δ (Am×Ac))a b:=bif a<e.1 then(FB a).bind λc=>bif ({ data:=#[107] }:Θ).size+c.size<=9223372036854775807 then bif rm (Ξ b) (Ξ ([({ J:=(({ data:=#[107] }:Θ)++c) }:Fx)])) then g (i64.wrap (a+1),b++[{ J:=(({ data:=#[107] }:Θ)++c) }])else κ else κ else f a b
def He b c:=(Bw b 1 3).bind λa=>iter (λe s=>Jf a (λg f=>Ni a c f) e s.1 s.2) Ay (0,[{ J:={ data:=#[116,111,112] },Bt:=(-1) }])
def Fl f g:=(Bw f (-4) 2).bind λa=>(AB a.2 4).bind λb=>(idx ([[1],[1,5],[1,5,20],[1,2,4,12]]) b.1).bind λh=>(CW b.2 3).bind λc=>(AB c.2 45).bind λe=>θ (({ J:=g,Kind:=3,C:=a.1,E:=(i64.wrap (a.1+e.1)),L:=h,An:=c.1 }:Ax),e.2)
def Hz(g:Int->Ac->Γ Ax->Δ (Aa×Ac))(h:Int×Ac×Γ Ax->Δ (Aa×Ac))b e a:=bif b>0 then(FB (Ξ a)).bind λf=>bif ({ data:=#[109] }:Θ).size+f.size<=9223372036854775807 then(Fl e ({ data:=#[109] }++f)).bind λc=>bif rm (Ξ a) (Ξ [c.1]) then h (i64.wrap (b-1),c.2,a++[c.1])else κ else κ else g b e a
def QM(g:Int->Ac->Γ Ax->Δ (Aa×Ac))(h:Int×Ac×Γ Ax->Δ (Aa×Ac))b e a:=bif b>0 then(FB (Ξ a)).bind λf=>bif ({ data:=#[109] }:Θ).size+f.size<=9223372036854775807 then(Fl e ({ data:=#[109] }++f)).bind λc=>bif rm (Ξ a) (Ξ [c.1]) then h (i64.wrap (b-1),c.2,a++[c.1])else κ else κ else g b e a
def Hy f:=(He f { data:=#[111,110,101] }).bind λb=>(He b.2 { data:=#[116,119,111] }).bind λc=>(CW c.2 2).bind λe=>bif e.1 then bif rm (Ξ ([({ J:={ data:=#[119,104,111] },Kind:=1 }:Ax),{ J:={ data:=#[115,101,120] },Kind:=2 }])) (Ξ ([({ J:={ data:=#[106,111,98] },Kind:=2,Al:=1 }:Ax)])) then(Bw e.2 1 3).bind λa=>iter (λg s=>Hz (λm h i=>θ ({ S:=[b.1,c.1],A:=i },h)) g s.1 s.2.1 s.2.2) Ay (a.1,a.2,[{ J:={ data:=#[119,104,111] },Kind:=1 },{ J:={ data:=#[115,101,120] },Kind:=2 }]++[{ J:={ data:=#[106,111,98] },Kind:=2,Al:=1 }])else κ else(Bw e.2 1 3).bind λa=>iter (λj s=>QM (λn k l=>θ ({ S:=[b.1,c.1],A:=l },k)) j s.1 s.2.1 s.2.2) Ay (a.1,a.2,[{ J:={ data:=#[119,104,111] },Kind:=1 },{ J:={ data:=#[115,101,120] },Kind:=2 }])
def I4 c f g:=(idx f.A g).bind λa=>bif a.Kind==1 then(Bw c 1 60).bind λh=>θ (h.1,h.2)else bif a.Kind==2 then(Dk f g).bind λi=>(AB c (Ξ i)).bind λj=>(idx i j.1).bind λk=>θ (k,j.2)else bif a.An then(CW c 4).bind λe=>bif e.1 then θ ((-1099511627776),e.2)else(Bw e.2 a.C a.E).bind λb=>θ (b.1,b.2)else(Bw c a.C a.E).bind λb=>θ (b.1,b.2)
def Kq e(g:Int->Ac->Γ Int->Δ (Γ Int×Ac))(h:Int×Ac×Γ Int->Δ (Γ Int×Ac))a f b:=bif a<e.A.length then(I4 f e a).bind λc=>bif rm (Ξ b) (Ξ [c.1]) then h (i64.wrap (a+1),c.2,b++[c.1])else κ else g a f b
def K9 a b:=iter (λc s=>Kq b (λg e f=>θ (f,e)) c s.1 s.2.1 s.2.2) Ay (0,a,[])
abbrev KA(f:Aa×Ac)(g:Int->Ac->Γ (Γ Int)->Δ (CH×Ac))(h:Int×Ac×Γ (Γ Int)->Δ (CH×Ac))a b c:=bif a>0 then(K9 b f.1).bind λe=>(S5 c e.1).bind λi=>h (i64.wrap (a-1),e.2,i)else g a b c
def H3 c e:=(Hy c).bind λa=>(AB a.2 (i64.wrap (e+1))).bind λb=>iter (λf s=>KA a (λi g h=>θ ({ Bi:=a.1,G:=h },g)) f s.1 s.2.1 s.2.2) Ay (b.1,b.2,[])
abbrev np(b:Int)(a:Γ Ab):=θ (({ Aq:={ data:=#[97,108,108,95,114,111,119,115] },B9:={ data:=#[115,114,99] },Bw:={ Op:=1 },Bx:={ B0:=1,Of:=1 },B5:=[({ J:={ data:=#[113] },Kind:=1,Bu:={ Op:=1 },V:=[({ B:=1 }:Ab)],Ah:=(-1) }:BF)] }:B2),a)
abbrev TP c(f:Int->Γ Ab->Δ (B2×Γ Ab))(g:Int×Γ Ab->Δ (B2×Γ Ab))a b:=bif a<c.A.length then(B3 c a).bind λe=>bif rm (Ξ b) (Ξ [({ B:=a,H:=e }:Ab)]) then g (i64.wrap (a+1),b++[{ B:=a,H:=e }])else κ else f a b
def WC a:=iter (λb s=>TP a np b s.1 s.2) Ay (1,[])
def H1 e:=(AB e 60000).bind λa=>(AB a.2 60000).bind λb=>(AB b.2 7).bind λc=>θ (i64.wrap (i64.wrap (a.1*b.1)+c.1),c.2)
def I5 d e f:=(H3 e f).bind λa=>(WC a.1.Bi).bind λb=>(H1 a.2).bind λc=>(Rf d a.1 b.1 b.2 c.1).bind λg=>θ (a.1,g.1,c.2)
abbrev Hf(c:Aa)f(g:Int->Γ Int->Δ (Γ Int))(e:Int×Γ Int->Δ (Γ Int))(a:Int)b:=bif a<Ξ c.A then(idx c.A a).bind λh=>bif h.Kind==f then bif rm (Ξ b) (Ξ [a]) then e (i64.wrap (a+1),b++[a])else κ else e (i64.wrap (a+1),b)else g a b
def F1 a b:=iter (λc s=>Hf a b (λf e=>θ e) c s.1 s.2) Ay (0,[])
def BH c e:=(F1 e 3).bind λa=>(AB c (Ξ a)).bind λb=>(idx a b.1).bind λf=>θ (f,b.2)
abbrev Jd a(c:Int×Ac)i(j:Int->Ac->Γ Ab->Δ (Γ Ab×Ac))(k:Int×Ac×Γ Ab->Δ (Γ Ab×Ac))(b:Int)g e:=bif b<(Ξ (Ia a c.1 (a.length:Int)))then(idx (Ia a c.1 (Ξ a)) b).bind λh=>(idx (Ia a c.1 (Ξ a)) b).bind λl=>(B3 i l).bind λm=>(AB g (i64.wrap (m+1))).bind λf=>bif rm (Ξ e) (Ξ [({ B:=h,H:=f.1 }:Ab)]) then k (i64.wrap (b+1),f.2,e++[{ B:=h,H:=f.1 }])else κ else j b g e
abbrev Je b h(i:Int->Ac->Γ Ab->Δ (Γ Ab×Ac))(j:Int×Ac×Γ Ab->Δ (Γ Ab×Ac))a f c:=bif a<b.length then(idx b a).bind λg=>(idx b a).bind λk=>(B3 h k).bind λl=>(AB f (i64.wrap (l+1))).bind λe=>bif rm (Ξ c) (Ξ [({ B:=g,H:=e.1 }:Ab)]) then j (i64.wrap (a+1),e.2,c++[{ B:=g,H:=e.1 }])else κ else i a f c
def Hd f c:=(F1 c 2).bind λa=>(CW f 2).bind λe=>bif e.1 then(AB e.2 (Ξ a)).bind λb=>bif (0<=b.1/\b.1<=Ξ a/\Ξ a<=(Ξ a:Int))then iter (λg s=>Jd a b c (λm h i=>θ (i,h)) g s.1 s.2.1 s.2.2) Ay (0,b.2,[])else κ else iter (λj s=>Je a c (λn k l=>θ (l,k)) j s.1 s.2.1 s.2.2) Ay (0,e.2,[])
def I1 c e:=(F1 e 2).bind λa=>(AB c (Ξ a)).bind λb=>(idx a b.1).bind λf=>θ (f,b.2)
abbrev GI a k:=(AB k 5).bind λb=>bif b.1==1 then(I1 b.2 a).bind λi=>(idx a.A i.1).bind λl=>(idx a.S l.Al).bind λm=>(AB i.2 (Ξ m.X)).bind λj=>θ ({ Op:=2,B:=i.1,Af:=j.1 },j.2)else bif b.1==2 then(BH b.2 a).bind λc=>(idx a.A c.1).bind λf=>(Bw c.2 (-3) 40).bind λe=>(AB e.2 30).bind λg=>θ ({ Op:=3,B:=c.1,C:=(i64.wrap (f.C+e.1)),E:=(i64.wrap (i64.wrap (f.C+e.1)+g.1)) },g.2)else bif b.1==3 then(BH b.2 a).bind λc=>(idx a.A c.1).bind λf=>(Bw c.2 (-3) 40).bind λe=>(AB e.2 30).bind λg=>θ ({ Op:=3,B:=c.1,C:=(i64.wrap (f.C+e.1)),E:=(i64.wrap (i64.wrap (f.C+e.1)+g.1)) },g.2)else bif b.1==4 then(BH b.2 a).bind λh=>(idx a.A h.1).bind λn=>bif n.An then θ ({ Op:=4,B:=h.1 },h.2)else θ ({ Op:=1 },h.2)else θ (({ Op:=1 }:Ae),b.2)
def EH(d:Nat)(e:Ac->Aa->Int->Δ (Ae×Ac))f a c:=bif c>0 then(AB f 5).bind λb=>bif b.1==2 then(e b.2 a (i64.wrap (c-1))).bind λg=>θ ({ Op:=7,D:=[g.1] },g.2)else bif b.1==3 then(e b.2 a (i64.wrap (c-1))).bind λh=>(e h.2 a (i64.wrap (c-1))).bind λi=>θ ({ Op:=5,D:=[h.1,i.1] },i.2)else bif b.1==4 then(e b.2 a (i64.wrap (c-1))).bind λj=>(e j.2 a (i64.wrap (c-1))).bind λk=>θ ({ Op:=6,D:=[j.1,k.1] },k.2)else GI a b.2 else GI a f
def B4:Nat->Ac->Aa->Int->Δ (Ae×Ac)| 0,_,_,_=>κ| d+1,a,b,c=>EH d (B4 d) a b c
abbrev Ir e i(j:Int->Ac->Γ Int->Δ (Γ Int×Ac))(f:Int×Ac×Γ Int->Δ (Γ Int×Ac))a g b:=bif a<e.length then(idx e a).bind λk=>bif k != i then bif(Ξ b:Int)==0 then(idx e a).bind λc=>bif rm (Ξ b) (Ξ [c]) then f (i64.wrap (a+1),g,b++[c])else κ else(CW g 2).bind λh=>bif h.1 then(idx e a).bind λc=>bif rm (Ξ b) (Ξ [c]) then f (i64.wrap (a+1),h.2,b++[c])else κ else f (i64.wrap (a+1),h.2,b)else f (i64.wrap (a+1),g,b)else j a g b
def I3 a b c:=(F1 b 3).bind λe=>iter (λf s=>Ir e c (λi g h=>θ (h,g)) f s.1 s.2.1 s.2.2) Ay (0,a,[])
def Ez e d b l:=(AB l 6).bind λa=>bif a.1==1 then(Bw a.2 (-9) 30).bind λf=>θ ({ Op:=1,K:=f.1 },f.2)else bif a.1==2 then bif (Ξ e:Int)>0 then(AB a.2 (Ξ e)).bind λg=>(idx e g.1).bind λm=>θ (({ Op:=2,J:=m }:Ag),g.2)else(B4 d a.2 b 2).bind λc=>θ ({ Op:=3,Q:=c.1 },c.2)else bif a.1==3 then(BH a.2 b).bind λh=>(B4 d h.2 b 1).bind λi=>θ ({ Op:=4,B:=h.1,Q:=i.1 },i.2)else bif a.1==4 then(BH a.2 b).bind λj=>(B4 d j.2 b 0).bind λk=>θ ({ Op:=5,B:=j.1,Q:=k.1 },k.2)else(B4 d a.2 b 2).bind λc=>θ ({ Op:=3,Q:=c.1 },c.2)
def Ga d(f:Ac->Aa->Γ Θ->Int->Δ (Ag×Ac))g a b c:=bif c>0 then(CW g 2).bind λe=>bif e.1 then(Bw e.2 6 9).bind λh=>(f h.2 a b (i64.wrap (c-1))).bind λi=>(f i.2 a b (i64.wrap (c-1))).bind λj=>θ ({ Op:=h.1,D:=[i.1,j.1] },j.2)else Ez b d a e.2 else Ez b d a g
def D1:Nat->Ac->Aa->(Γ Θ)->Int->Δ (Ag×Ac)| 0,_,_,_,_=>κ| d+1,a,b,c,e=>Ga d (D1 d) a b c e
def J8 d r a j:=(BH r a).bind λc=>(AB c.2 8).bind λb=>bif b.1==1 then(Hd b.2 a).bind λf=>(B4 d f.2 a 1).bind λg=>(CW g.2 2).bind λh=>bif h.1 then θ ({ Op:=10,B:=c.1,V:=f.1,Q:=g.1 },h.2)else θ ({ Op:=10,B:=(-1),V:=f.1,Q:=g.1 },h.2)else bif b.1==2 then(Hd b.2 a).bind λf=>(B4 d f.2 a 1).bind λg=>(CW g.2 2).bind λh=>bif h.1 then θ ({ Op:=10,B:=c.1,V:=f.1,Q:=g.1 },h.2)else θ ({ Op:=10,B:=(-1),V:=f.1,Q:=g.1 },h.2)else bif b.1==3 then(I3 b.2 a c.1).bind λi=>bif (Ξ i.1:Int)>0 then(B4 d i.2 a 1).bind λk=>θ ({ Op:=11,B:=c.1,A:=i.1,Q:=k.1 },k.2)else(D1 d i.2 a j 2).bind λe=>θ (e.1,e.2)else bif b.1==4 then(idx a.A c.1).bind λt=>bif t.C>=0 then(B4 d b.2 a 0).bind λl=>(B4 d l.2 a 0).bind λm=>θ ({ Op:=12,B:=c.1,Q:=m.1,Y:=l.1 },m.2)else(D1 d b.2 a j 2).bind λe=>θ (e.1,e.2)else bif b.1==5 then(idx a.A c.1).bind λn=>(AB b.2 (Ξ n.L)).bind λo=>(idx n.L o.1).bind λu=>(B4 d o.2 a 1).bind λp=>θ ({ Op:=13,K:=u,B:=c.1,Q:=p.1 },p.2)else bif b.1==6 then(B4 d b.2 a 0).bind λq=>θ ({ Op:=14,B:=c.1,Q:=q.1 },q.2)else(D1 d b.2 a j 2).bind λe=>θ (e.1,e.2)
abbrev Kj d j(k:Int->Ac->Γ Az->Γ Θ->Δ (Γ Az×Ac))(h:Int×Ac×Γ Az×Γ Θ->Δ (Γ Az×Ac))g i c e:=bif g>0 then(FB (Ξ c)).bind λa=>bif ({ data:=#[118] }:Θ).size+a.size<=9223372036854775807 then(CW i 2).bind λf=>(J8 d f.2 j e).bind λb=>bif b.1.Op<10 then bif rm (Ξ e) (Ξ ([{ data:=#[118] }++a])) then bif rm (Ξ c) (Ξ ([({ J:=(({ data:=#[118] }:Θ)++a),A8:=f.1,At:=b.1 }:Az)])) then h (i64.wrap (g-1),b.2,c++[{ J:=(({ data:=#[118] }:Θ)++a),A8:=f.1,At:=b.1 }],e++[{ data:=#[118] }++a])else κ else κ else bif rm (Ξ c) (Ξ ([({ J:=(({ data:=#[118] }:Θ)++a),A8:=f.1,At:=b.1 }:Az)])) then h (i64.wrap (g-1),b.2,c++[{ J:=(({ data:=#[118] }:Θ)++a),A8:=f.1,At:=b.1 }],e)else κ else κ else k g i c e
def GJ d b c e:=(AB b (i64.wrap (e+1))).bind λa=>iter (λf s=>Kj d c (λi g h j=>θ (h,g)) f s.1 s.2.1 s.2.2.1 s.2.2.2) Ay (a.1,a.2,[],[])
def QU d:=(F5 d { A:=[({ J:={ data:=#[119,104,111] },Kind:=1 }:Ax)] } { Aq:={ data:=#[112] },G:=[[2],[5],[9]] } ([{ J:={ data:=#[97] },At:={ Op:=3,Q:={ Op:=1 } } },{ J:={ data:=#[98] },A8:=ν,At:={ Op:=8,D:=[({ Op:=2,J:={ data:=#[97] } }:Ag),({ Op:=1,K:=2 }:Ag)] } }])).bind λa=>bif bif bif a.2.2==0 then(a.2.1==2)else ξ then((Ξ a.1:Int)==2)else ξ then(idx a.1 0).bind λb=>bif(b.Ai.Number.K==3)&&((b.Ai.Number.T==1)&&ν)then(idx a.1 1).bind λc=>bif(c.Ai.Number.K==6)&&((c.Ai.Number.T==1)&&ν)then(idx a.1 1).bind λe=>(KL e.Ai.Lineage [2,5,9]).bind λf=>bif f then(GN a.1).bind λg=>bif(Ξ g:Int)==1 then(GN a.1).bind λh=>(idx h 0).bind λi=>θ (i.J.toList==({ data:=#[98] }:Θ).toList)else θ ξ else θ ξ else θ ξ else θ ξ else θ ξ
def Jk d(a:CH×Ad×Ac)b(c:Γ Az×Ac)(h:Int):=(F5 d a.1.Bi b c.1).bind λe=>(NH d a.1.Bi b c.1).bind λf=>bif bif e.2.1==f.2.1 then(e.2.2==f.2.2)else ξ then(QU d).bind λg=>θ g else θ ξ
def Gl(f:Γ Az×Ac)g d(b:CH×Ad×Ac)(i j:Int->Δ Ω)(c:Int):=bif c<(Ξ [f.1,g])then(idx [f.1,g] c).bind λh=>(F5 d b.1.Bi b.2.1 h).bind λe=>(NH d b.1.Bi b.2.1 h).bind λa=>bif bif e.2.1 != a.2.1 then ν else(e.2.2 != a.2.2)then θ ξ else(PP e.1 a.1).bind λk=>bif !k then θ ξ else(GN a.1).bind λl=>(Ty a.1).bind λm=>(PP l m).bind λn=>bif !n then θ ξ else j (i64.wrap (c+1))else i c
def Is d f c b:=bif bif bif (Ξ c:Int)>6 then ν else((Ξ b.G:Int)>10)then ν else((Ξ b.I:Int)>8)then(QU d).bind λg=>θ g else(WF f).bind λh=>(I5 d h 8).bind λa=>(GJ d a.2.2 a.1.Bi 3).bind λe=>iter (λi s=>Gl e c d a (Jk d a b e) i s) Ay 0
def GK{p:Prop}(h:p:=by first|rfl|simp only[Zac,Zav,Zaq]):p:=h
def qv{p:Prop}(h:p:=by first|rfl|(simp only[Zac];done)|(simp only[Zac];rfl)):p:=h
def lfF{p:Prop}(h:p:=by repeat (first|exact trivial|refine And.intro (by first|with_reducible rfl|rfl|exact .inl rfl|exact .inr rfl|(simp only[Zac];done)|(simp only[Zac];rfl)|(simp only[Zay,Zas,Zbm]<;>rfl)) ?_)):p:=h
def Kz{p:Prop}(h:p:=by first|rfl|(simp only[Zac];done)|(simp only[Zac];rfl)|(simp only[Cc,AN,AF,Be,Aq,Zas,Zbm,Zac];done)|(simp only[Cc,AN,AF,Be,Aq,Zas,Zbm,Zac];rfl)):p:=h
def wW{p:Prop}(h:p:=by repeat (first|exact trivial|refine And.intro (by first|with_reducible rfl|rfl|exact .inl rfl|exact .inr rfl|(simp only[Zac];done)|(simp only[Zac];rfl)|(simp only[Cc,AN,AF,Be,Aq,Zas,Zbm,Zac];done)|(simp only[Cc,AN,AF,Be,Aq,Zas,Zbm,Zac];rfl)|(simp only[Zay,Zas,Zbm]<;>rfl)) ?_)):p:=h
def Dn{ρ:Type}{b a:Ω}{x y:Prop}{X Y:Δ ρ}{R:ρ}(h:(bif a then X else Y)=some R)(h1:X=some R->x)(h2:Y=some R->y)(e:b=a:=by first|rfl|simp only[Zac,Zav,Zaq]):Bool.rec y x b:=YX h e h1 h2
def E5{α ρ:Type}{m}{G}{R:ρ}{P}{f}{b}{args a}{K}{d}{r:α->AV}(h:m.bind G=θ R)(c:∀x,m=θ x->A9 P f args (r x))(k:∀x,G x=θ R->K (r x)):K3 P f b args K a d:=by
 obtain⟨x,hx,h⟩:=cY h;exact BU (c x hx) (k x h)
def iD{α ρ:Type}{m}{G}{R:ρ}{P}{f}{d}{args a}{K}{e}{b:α->Γ AV}{r:α->AV}(h:m.bind G=θ R)(c:∀x,m=θ x->Et P f a (b x) (r x))(k:∀x,G x=θ R->e (b x) (r x)):K3 P f d args K a e:=by
 obtain⟨x,hx,h⟩:=cY h;exact Ha (c x hx) (k x h)
def Ry{α ρ:Type}{xs:Γ α}{i j:Int}{f:α->D}{K:D->Prop}{G:α->Δ ρ}{R:ρ}(h:(idx xs i).bind G=some R)(k:∀x,idx xs i=some x->G x=some R->K (f x))(e:j=i:=by first|rfl|simp only[Zac,Zav,Zaq]):At (xs.map f) j K:=atF h e k
def sP{ι:Type}{Inv:ι->AS}{μ:ι->Nat}{S:AS}{m:Nat}(j:ι)(h:Le S (Inv j))(k:μ j<m:=by exact Zds _):∃j,Le S (Inv j)/\μ j<m:=⟨j,h,k⟩
def zaC{P:Η}{f:FuncId}{fn:Func}{args:Γ AV}{r:AV}(b:P.funcs[f]?=some fn)(hr:Abb P fn args r)(a:(fn.name == "runtime.NumGoroutine")=false:=by kernel_rfl):A9 P f args r:=UA b a hr
def Aai{ρ:Type}{b a:Ω}{x y:Prop}{E F R:ρ}(h:(bif a then some E else some F)=some R)(h1:some E=some R->x:=by intro h;cases h;(conv=>whnf);exact⟨by first|rfl|(simp only[Zac];done)|(simp only[Zac];rfl)|(simp only[Cc,AN,AF,Be,Aq,Zas,Zbm,Zac];done)|(simp only[Cc,AN,AF,Be,Aq,Zas,Zbm,Zac];rfl)⟩)(h2:some F=some R->y:=by intro h;cases h;(conv=>whnf);exact⟨by first|rfl|(simp only[Zac];done)|(simp only[Zac];rfl)|(simp only[Cc,AN,AF,Be,Aq,Zas,Zbm,Zac];done)|(simp only[Cc,AN,AF,Be,Aq,Zas,Zbm,Zac];rfl)⟩)(e:b=a:=by first|rfl|simp only[Zac,Zav,Zaq]):Bool.rec y x b:=YX h e h1 h2
def sO{ρ:Type}{b a:Ω}{x y:Prop}{E R:ρ}{Y:Δ ρ}(h:(bif a then Y else some E)=some R)(h2:Y=some R->x)(h1:some E=some R->y:=by intro h;cases h;(conv=>whnf);exact⟨by first|rfl|(simp only[Zac];done)|(simp only[Zac];rfl)|(simp only[Cc,AN,AF,Be,Aq,Zas,Zbm,Zac];done)|(simp only[Cc,AN,AF,Be,Aq,Zas,Zbm,Zac];rfl)⟩)(e:b=a:=by first|rfl|simp only[Zac,Zav,Zaq]):Bool.rec y x b:=YX h e h2 h1
def Ky{ρ:Type}{b a:Ω}{x y:Prop}{E R:ρ}{Y:Δ ρ}(h:(bif a then some E else Y)=some R)(h2:Y=some R->y)(h1:some E=some R->x:=by intro h;cases h;(conv=>whnf);exact⟨by first|rfl|(simp only[Zac];done)|(simp only[Zac];rfl)|(simp only[Cc,AN,AF,Be,Aq,Zas,Zbm,Zac];done)|(simp only[Cc,AN,AF,Be,Aq,Zas,Zbm,Zac];rfl)⟩)(e:b=a:=by first|rfl|simp only[Zac,Zav,Zaq]):Bool.rec y x b:=YX h e h1 h2
def Wc{ρ:Type}{b a:Ω}{x y:Prop}{E R:ρ}{Y:Δ ρ}(h:(bif a then some E else Y)=some R)(h2:Y=some R->y)(h1:some E=some R->x:=by intro h;cases h;(conv=>whnf);exact⟨by first|rfl|(simp only[Zac];done)|(simp only[Zac];rfl)⟩)(e:b=a:=by first|rfl|simp only[Zac,Zav,Zaq]):Bool.rec y x b:=YX h e h1 h2
def CC{S S':AS}(h:Gk S' (λS'=>Le S S'):=by(conv=>whnf);repeat (first|exact trivial|refine And.intro (by first|with_reducible rfl|rfl|exact .inl rfl|exact .inr rfl|(simp only[Zac];done)|(simp only[Zac];rfl)|(simp only[Zay,Zas,Zbm]<;>rfl)) ?_)):Le S S':=jS h
def Bu{S S':AS}(h:Gk S' (λS'=>Le S S'):=by(conv=>whnf);repeat (first|exact trivial|refine And.intro (by first|with_reducible rfl|rfl|exact .inl rfl|exact .inr rfl|(simp only[Zac];done)|(simp only[Zac];rfl)|(simp only[Cc,AN,AF,Be,Aq,Zas,Zbm,Zac];done)|(simp only[Cc,AN,AF,Be,Aq,Zas,Zbm,Zac];rfl)|(simp only[Zay,Zas,Zbm]<;>rfl)) ?_)):Le S S':=jS h
def bz{ρ:Type}{E R:ρ}{x:Prop}(h:some E=some R)(k:some E=some R->x:=by intro h;cases h;(conv=>whnf);exact⟨by first|rfl|(simp only[Zac];done)|(simp only[Zac];rfl)|(simp only[Cc,AN,AF,Be,Aq,Zas,Zbm,Zac];done)|(simp only[Cc,AN,AF,Be,Aq,Zas,Zbm,Zac];rfl)⟩):x:=k h
def z11{σ ρ:Type}{c:(σ->Δ ρ)->σ->Δ ρ}{n:Nat}{d:σ}{R:ρ}{S:AS}{W:(Exit->AS->Prop)->AS->Prop}{Q:Exit->AS->Prop}(h:iter c n d=θ R)(I:σ->AS)(f:Le S (I d))(k:∀(Φ:Nat->σ->Δ ρ)(n:Nat)(s:σ),c (Φ n) s=θ R->Gk (I s) (W (λe S=>match e with|.normal=>∃j:{p:Nat×σ//Φ p.1 p.2=θ R},Le S (I j.1.2)/\j.1.1<n+1|e=>Q e S))):Ws S W Q:=by
 obtain⟨Φ,i,h⟩:=Aat h
 exact loop {p:Nat×σ//Φ p.1 p.2=θ R} (λp=>I p.1.2) (λp=>p.1.1) ⟨(n,d),h⟩ f λ⟨⟨a,b⟩,h⟩=>by
  obtain⟨a,rfl,h⟩:=i _ _ h;exact k Φ a b h
def z12{A B:Prop}(b:B)(a:A:=by(simp only[Zac];exact CN hr (Zal (by kernel_rfl)) (.inr (by kernel_rfl)))):NL A B:=⟨a,b⟩
def z13{A B:Prop}(b:B)(a:A:=by first|(intro x hx y hy;obtain⟨n,_,rfl⟩:=List.mem_map.1 hx;simp[D.cells]at hy;subst hy;rfl)|exact λx hx=>absurd hx zs):NL A B:=⟨a,b⟩
def z14{A B:Prop}(b:B)(a:A:=by first|exact Y7 hr (Zal (by kernel_rfl))|(simp only[Zac];exact Y7 hr (Zal (by kernel_rfl)))):NL A B:=⟨a,b⟩
def z15{A B:Prop}(b:B)(a:A:=by first|exact Zal hr|(simp only[Zac];exact Zal hr)):NL A B:=⟨a,b⟩
def z16{A B:Prop}(b:B)(a:A:=by first|rfl|(simp only[Zac];done)|(simp only[Zac];rfl)):A/\B:=⟨a,b⟩
def z17{A B:Prop}(b:B)(a:A:=by exact⟨by decide +kernel,by kernel_rfl⟩):NL A B:=⟨a,b⟩
def z18{A B:Prop}(b:B)(a:A:=by exact⟨rfl,rfl,Kz⟩):A/\B:=⟨a,b⟩
def z19{p:Prop}(h:p:=by obtain rfl:=Zaf h;refine z18 ?_;(conv=>whnf);exact⟨Kz⟩):p:=h
def z20{p:Prop}(h:p:=by refine(by(repeat intro _);rename_i h;cases h)):p:=h
def z21{p:Prop}(h:p:=by refine By h λx47 hx47 h=>?_;refine da (YaD.h _ _ _ _ hx47) ?_;(conv=>whnf);exact⟨⟨_,h⟩,Bu⟩):p:=h
def z22{p:Prop}(h:p:=by refine⟨⟨(_,_,_,_,_,_,_,_,_,_,_,_,_,_,_,_,_,_,_,_,_,_,_),h⟩,?_⟩;refine jS ?_;(conv=>whnf);exact wW):p:=h
def z23{p:Prop}(h:p:=by(conv=>whnf);refine By h λx59 hx59 h=>?_;refine BU (Yap.h _ _ _ _ _ (λa0 _ h=>ih1 a0 _ _ h) hx59) ?_;exact Ah):p:=h
def z24{p:Prop}(h:p:=by(conv=>whnf);exact⟨⟨(_,_,_,_,_,_,_,_,_,_,_,_,_,_,_,_,_,_,_,_,_,_,_),h⟩,Bu⟩):p:=h
def z25{p:Prop}(h:p:=by(conv=>whnf);refine SU h λhr h=>?_;refine⟨by have h1:=(Bool.and_eq_true_iff.1 hr).1;have h2:=(Bool.and_eq_true_iff.1 hr).2;simp only[Zac];exact⟨CN h1 (Zal (by kernel_rfl)) (.inr (by kernel_rfl)),λhe=>by first|(simp at he;done)|(simp at he;simp[he]at h2)⟩,?_⟩;exact Ah):p:=h
def z26{p:Prop}(h:p:=by(conv=>whnf);exact z19):p:=h
def z27{p:Prop}(h:p:=by(conv=>whnf);refine z18 ?_;(conv=>whnf);exact⟨Kz⟩):p:=h
def z28{p:Prop}(h:p:=by(conv=>whnf);obtain rfl:=Zaf h;refine⟨Kz,?_⟩;exact z27):p:=h
def z29{p:Prop}(h:p:=by obtain rfl:=Zaf h;refine⟨.inl ?_⟩;(conv=>whnf);exact⟨Kz⟩):p:=h
def z30{p:Prop}(h:p:=by(conv=>whnf);exact⟨⟨_,h⟩,Bu⟩):p:=h
def z31{p:Prop}(h:p:=by(conv=>whnf);refine By h λx63 hx63 h=>?_;refine BU (Hj _ _ _ hx63) ?_;exact z26):p:=h
def z32{p:Prop}(h:p:=by obtain rfl:=Zaf h;refine⟨.inl ?_⟩;(conv=>whnf);exact⟨qv⟩):p:=h
def z33{p:Prop}(h:p:=by(conv=>whnf);exact⟨⟨(_,_,_,_,_),h⟩,Bu⟩):p:=h
def z34{p:Prop}(h:p:=by obtain rfl:=Zaf h;refine⟨⟨rfl,rfl,by first|rfl|(simp only[Zac];done)|(simp only[Zac];rfl)⟩,?_⟩;(conv=>whnf);exact⟨qv⟩):p:=h
def z35{p:Prop}(h:p:=by refine fk (f:=C7) hx67 GK ?_;(conv=>whnf);(try rw[bh]);exact sP ⟨(_,(_,_)),h⟩ CC):p:=h
def z36{p:Prop}(h:p:=by refine T4 (f:=C7) h GK λx63 hx63 h=>?_;refine fk (f:=C7) hx63 GK ?_;refine T4 (f:=C7) h GK λx67 hx67 h=>?_;exact z35):p:=h
def z37{p:Prop}(h:p:=by(conv=>whnf);refine By h λx53 hx53 h=>?_;(first|refine Ha (H5 _ _ _ _ hx53) ?_|(simp only[Zac];refine Ha (H5 _ _ _ _ hx53) ?_));exact z26):p:=h
def z38{p:Prop}(h:p:=by(conv=>whnf);refine⟨.inl ?_⟩;(conv=>whnf);exact⟨rfl⟩):p:=h
def z39{p:Prop}(h:p:=by refine By h λx18 hx18 h=>?_;refine BU (Yap.h _ _ _ _ _ (λa0 _ h=>ih1 a0 _ _ _ _ h_p1 h) hx18) ?_;exact Ah):p:=h
