/- The abstract machine: an operation's effect is one, and hangs on what the operation looks at. -/
import Derived.Test.YtejfnieiaecpkaaGreatDoorAbsFn
set_option linter.unusedVariables false
set_option linter.unusedSimpArgs false
namespace Go.Abs
def Dp {α:Type} (F:(α→Prop)→Prop):Prop:=(∀ K K':α→Prop,(∀ x,K x→K' x)→F K→F K')∧∀ K,F K→∃ x,F (fun y=>y = x)∧K x
def Ff {α γ:Type} (F:(α→γ→Prop)→Prop):Prop:=(∀ K K':α→γ→Prop,(∀ x y,K x y→K' x y)→F K→F K')∧∀ K,F K→∃ x y,F (fun x' y'=>x' = x∧y' = y)∧K x y
section
variable {α γ δ:Type}
theorem Ap (x:α):Dp fun K:α→Prop=>K x:=⟨fun _ _ h hk=>h _ hk,fun _ hk=>⟨x,rfl,hk⟩⟩
theorem Al:Dp fun _:α→Prop=>False:=⟨fun _ _ _ h=>h,fun _ h=>h.elim⟩
theorem Bv (x:α) (y:γ):Ff fun K:α→γ→Prop=>K x y:=⟨fun _ _ h hk=>h _ _ hk,fun _ hk=>⟨x,y,⟨rfl,rfl⟩,hk⟩⟩
theorem D1:Ff fun _:α→γ→Prop=>False:=⟨fun _ _ _ h=>h,fun _ h=>h.elim⟩
theorem A4 {F:(α→Prop)→Prop} {Gf:α→(γ→Prop)→Prop} (hF:Dp F) (hG:∀ x,Dp (Gf x)):Dp fun K:γ→Prop=>F fun x=>Gf x K:=by
 refine ⟨fun K K' h hk=>hF.1 _ _ (fun x hx=>(hG x).1 _ _ h hx) hk,fun K hk=>?_⟩
 obtain ⟨x,h1,h2⟩:=hF.2 _ hk
 obtain ⟨y,h3,h4⟩:=(hG x).2 _ h2
 exact ⟨y,hF.1 _ _ (fun z hz=>by subst hz; exact h3) h1,h4⟩
theorem Co {F:(α→γ→Prop)→Prop} {Gf:α→γ→(δ→Prop)→Prop} (hF:Ff F) (hG:∀ x y,Dp (Gf x y)):Dp fun K:δ→Prop=>F fun x y=>Gf x y K:=by
 refine ⟨fun K K' h hk=>hF.1 _ _ (fun x y hx=>(hG x y).1 _ _ h hx) hk,fun K hk=>?_⟩
 obtain ⟨x,y,h1,h2⟩:=hF.2 _ hk
 obtain ⟨z,h3,h4⟩:=(hG x y).2 _ h2
 exact ⟨z,hF.1 _ _ (fun u v huv=>by obtain ⟨rfl,rfl⟩:=huv; exact h3) h1,h4⟩
theorem BE {ε:Type} {F:(α→γ→Prop)→Prop} {Gf:α→γ→(δ→ε→Prop)→Prop} (hF:Ff F) (hG:∀ x y,Ff (Gf x y)):Ff fun K:δ→ε→Prop=>F fun x y=>Gf x y K:=by
 refine ⟨fun K K' h hk=>hF.1 _ _ (fun x y hx=>(hG x y).1 _ _ h hx) hk,fun K hk=>?_⟩
 obtain ⟨x,y,h1,h2⟩:=hF.2 _ hk
 obtain ⟨z,z',h3,h4⟩:=(hG x y).2 _ h2
 exact ⟨z,z',hF.1 _ _ (fun u v huv=>by obtain ⟨rfl,rfl⟩:=huv; exact h3) h1,h4⟩
theorem C7 {F:(α→Prop)→Prop} (p:Prop) (hF:Dp F):Dp fun K:α→Prop=>JL p (F K):=by
 refine ⟨fun K K' h hk=>⟨hk.1,hF.1 _ _ h hk.2⟩,fun K hk=>?_⟩
 obtain ⟨x,h1,h2⟩:=hF.2 _ hk.2
 exact ⟨x,⟨hk.1,h1⟩,h2⟩
theorem Bz {F:(α→Prop)→Prop} (c:Prop) [Decidable c] (hF:Dp F):Dp fun K:α→Prop=>if c then F K else False:=by
 by_cases h:c
 ·simp only [h,if_true]; exact hF
 ·simp only [h,if_false]; exact Al
theorem Px (xs:List D) (i:Int):Dp fun K:D→Prop=>At xs i K :=
 ⟨fun _ _ h hk=>by obtain ⟨h0,x,h1,h2⟩:=hk.go; exact ⟨⟨h0,x,h1,h _ h2⟩⟩,fun _ hk=>by obtain ⟨h0,x,h1,h2⟩:=hk.go; exact ⟨x,⟨⟨h0,x,h1,rfl⟩⟩,h2⟩⟩
theorem O4 {F F':(α→Prop)→Prop} (hF:Dp F) (hF':Dp F'):Dp fun K:α→Prop=>Ua (F K) (F' K):=by
 refine ⟨fun K K' h hk=>⟨hk.go.imp (hF.1 _ _ h) (hF'.1 _ _ h)⟩,fun K hk=>?_⟩
 rcases hk.go with hk | hk
 ·obtain ⟨x,h1,h2⟩:=hF.2 _ hk; exact ⟨x,⟨.inl h1⟩,h2⟩
 ·obtain ⟨x,h1,h2⟩:=hF'.2 _ hk; exact ⟨x,⟨.inr h1⟩,h2⟩
theorem YX {F:List (Nat × Nat)→(α→Prop)→Prop} (hF:∀ hs,Dp (F hs)):Dp fun K:α→Prop=>dE fun hs=>F hs K:=by
 refine ⟨fun K K' h hk=>?_,fun K hk=>?_⟩
 ·obtain ⟨hs,hk⟩:=hk.go; exact ⟨⟨hs,(hF hs).1 _ _ h hk⟩⟩
 ·obtain ⟨hs,hk⟩:=hk.go
  obtain ⟨x,h1,h2⟩:=(hF hs).2 _ hk
  exact ⟨x,⟨⟨hs,h1⟩⟩,h2⟩
theorem ZR {P:Program} {f:FuncId} {vs ms:List AV} {F:AV→(α→Prop)→Prop} {F':List AV→AV→(α→Prop)→Prop} (hF:∀ r,Dp (F r)) (hF':∀ o r,Dp (F' o r)) :
 Dp fun K:α→Prop=>Mf P f vs (fun r=>F r K) ms (fun o r=>F' o r K):=by
 refine ⟨fun K K' h hk=>?_,fun K hk=>?_⟩
 ·rcases hk.go with ⟨r,h1,h2⟩ | ⟨o,r,h1,h2⟩
  ·exact ⟨.inl ⟨r,h1,(hF r).1 _ _ h h2⟩⟩
  ·exact ⟨.inr ⟨o,r,h1,(hF' o r).1 _ _ h h2⟩⟩
 ·rcases hk.go with ⟨r,h1,h2⟩ | ⟨o,r,h1,h2⟩
  ·obtain ⟨x,h3,h4⟩:=(hF r).2 _ h2; exact ⟨x,⟨.inl ⟨r,h1,h3⟩⟩,h4⟩
  ·obtain ⟨x,h3,h4⟩:=(hF' o r).2 _ h2; exact ⟨x,⟨.inr ⟨o,r,h1,h3⟩⟩,h4⟩
theorem Ik {F:(α→Prop)→Prop} {Gf:α→(γ→δ→Prop)→Prop} (hF:Dp F) (hG:∀ x,Ff (Gf x)):Ff fun K:γ→δ→Prop=>F fun x=>Gf x K:=by
 refine ⟨fun K K' h hk=>hF.1 _ _ (fun x hx=>(hG x).1 _ _ h hx) hk,fun K hk=>?_⟩
 obtain ⟨x,h1,h2⟩:=hF.2 _ hk
 obtain ⟨y,z,h3,h4⟩:=(hG x).2 _ h2
 exact ⟨y,z,hF.1 _ _ (fun u hu=>by subst hu; exact h3) h1,h4⟩
theorem RW {F:(α→γ→Prop)→Prop} (c:Prop) [Decidable c] (hF:Ff F):Ff fun K:α→γ→Prop=>if c then F K else False:=by
 by_cases h:c
 ·simp only [h,if_true]; exact hF
 ·simp only [h,if_false]; exact D1
def Ou {α γ δ:Type} (F:(α→γ→δ→Prop)→Prop):Prop:=(∀ K K':α→γ→δ→Prop,(∀ x y z,K x y z→K' x y z)→F K→F K')∧∀ K,F K→∃ x y z,F (fun x' y' z'=>x' = x∧y' = y∧z' = z)∧K x y z
theorem JM (x:α) (y:γ) (z:δ):Ou fun K:α→γ→δ→Prop=>K x y z:=⟨fun _ _ h hk=>h _ _ _ hk,fun _ hk=>⟨x,y,z,⟨rfl,rfl,rfl⟩,hk⟩⟩
theorem Ye:Ou fun _:α→γ→δ→Prop=>False:=⟨fun _ _ _ h=>h,fun _ h=>h.elim⟩
theorem Zb {ε:Type} {F:(α→γ→δ→Prop)→Prop} {Gf:α→γ→δ→(ε→Prop)→Prop} (hF:Ou F) (hG:∀ x y z,Dp (Gf x y z)):Dp fun K:ε→Prop=>F fun x y z=>Gf x y z K:=by
 refine ⟨fun K K' h hk=>hF.1 _ _ (fun x y z hx=>(hG x y z).1 _ _ h hx) hk,fun K hk=>?_⟩
 obtain ⟨x,y,z,h1,h2⟩:=hF.2 _ hk
 obtain ⟨u,h3,h4⟩:=(hG x y z).2 _ h2
 exact ⟨u,hF.1 _ _ (fun a b c h=>by obtain ⟨rfl,rfl,rfl⟩:=h; exact h3) h1,h4⟩
theorem OX {ε ζ η:Type} {F:(α→γ→δ→Prop)→Prop} {Gf:α→γ→δ→(ε→ζ→η→Prop)→Prop} (hF:Ou F) (hG:∀ x y z,Ou (Gf x y z)):Ou fun K:ε→ζ→η→Prop=>F fun x y z=>Gf x y z K:=by
 refine ⟨fun K K' h hk=>hF.1 _ _ (fun x y z hx=>(hG x y z).1 _ _ h hx) hk,fun K hk=>?_⟩
 obtain ⟨x,y,z,h1,h2⟩:=hF.2 _ hk
 obtain ⟨u,v,t,h3,h4⟩:=(hG x y z).2 _ h2
 exact ⟨u,v,t,hF.1 _ _ (fun a b c h=>by obtain ⟨rfl,rfl,rfl⟩:=h; exact h3) h1,h4⟩
theorem SS {ε ζ η:Type} {F:(α→γ→Prop)→Prop} {Gf:α→γ→(ε→ζ→η→Prop)→Prop} (hF:Ff F) (hG:∀ x y,Ou (Gf x y)):Ou fun K:ε→ζ→η→Prop=>F fun x y=>Gf x y K:=by
 refine ⟨fun K K' h hk=>hF.1 _ _ (fun x y hx=>(hG x y).1 _ _ h hx) hk,fun K hk=>?_⟩
 obtain ⟨x,y,h1,h2⟩:=hF.2 _ hk
 obtain ⟨u,v,t,h3,h4⟩:=(hG x y).2 _ h2
 exact ⟨u,v,t,hF.1 _ _ (fun a b h=>by obtain ⟨rfl,rfl⟩:=h; exact h3) h1,h4⟩
theorem Ul {ε ζ η:Type} {F:(α→Prop)→Prop} {Gf:α→(ε→ζ→η→Prop)→Prop} (hF:Dp F) (hG:∀ x,Ou (Gf x)):Ou fun K:ε→ζ→η→Prop=>F fun x=>Gf x K:=by
 refine ⟨fun K K' h hk=>hF.1 _ _ (fun x hx=>(hG x).1 _ _ h hx) hk,fun K hk=>?_⟩
 obtain ⟨x,h1,h2⟩:=hF.2 _ hk
 obtain ⟨u,v,t,h3,h4⟩:=(hG x).2 _ h2
 exact ⟨u,v,t,hF.1 _ _ (fun a h=>by subst h; exact h3) h1,h4⟩
theorem BQ {β:Type} (l:List β):Dp fun K:List β→Prop=>Cy l K:=by simp only [BG]; exact Ap l
end
theorem LP:∀ l:List D,Dp fun K=>Ot l K
 | []=>Ap _
 | x :: r=>by
   unfold Ot
   refine A4 (LP r) fun r=>?_
   split <;> exact Ap _
theorem Qy (x:D):Dp fun K=>Te x K:=by
 cases x <;> simp only [Te] <;> first | exact Ap _ | exact A4 (LP _) fun l=>Ap _
theorem N4 (r:RV):Ff fun K=>VX r K:=by cases r <;> simp only [VX] <;> first | exact Bv _ _ | exact D1
theorem XY (r:RV):Ff fun K=>dI r K:=by
 unfold dI
 exact BE (N4 r) fun x b=>Ik (Qy x) fun y=>Bv _ _
theorem K8 (σ:Nat→Nat→RV):∀ l,Ff fun K=>Ev σ l K
 | []=>Bv _ _
 | .d x :: r=>by
   show Ff fun K=>Ev σ r fun l b=>K (x :: l) b
   exact BE (K8 σ r) fun l b=>Bv _ _
 | .sl id n :: r=>by
   show Ff fun K=>VX (σ id n) fun x b=>Ev σ r fun l b'=>K (x :: l) (b++b')
   exact BE (N4 _) fun x b=>BE (K8 σ r) fun l b=>Bv _ _
 | .own _ _ _ :: _=>D1
theorem KB:∀ l:List D,Dp fun K=>Xq l K
 | []=>Ap _
 | x :: r=>by
   show Dp fun K=>Xq r fun r=>K (.d x :: r)
   exact A4 (KB r) fun r=>Ap _
theorem Ue:∀ l:List D,Dp fun K=>UU l K
 | []=>Ap _
 | x :: r=>by
   show Dp fun K=>UU r fun r=>K (.d x :: r)
   exact A4 (Ue r) fun r=>Ap _
theorem NT (σ:Nat→Nat→RV) (r:RV):Ff fun K=>Og σ r K:=by
 cases r <;> simp only [Og] <;> first | exact Bv _ _ | exact D1 | skip
 ·exact Ik (Qy _) fun x=>Bv _ _
 ·exact BE (K8 σ _) fun l b=>Ik (LP _) fun l=>Ik (BQ _) fun l'=>Bv _ _
 ·exact Ik (Px _ _) fun x=>Ik (BQ _) fun l=>Bv _ _
theorem UN (P:Program) (t:TypeId):Dp fun K=>VP P t K:=by
 unfold VP
 split
 ·exact Ap _
 ·exact Al
theorem Mi (P:Program) (σ:Nat→Nat→RV) (ρ:Operand→RV):∀ l ts,Ff fun K=>Hc P σ ρ l ts K
 | [],_=>Bv _ _
 | x :: r,ts=>by
   unfold Hc
   split
   ·split
    ·exact Ik (UN _ _) fun v=>BE (Mi P σ ρ r _) fun vs bs=>Bv _ _
    ·exact D1
   ·exact BE (NT _ _) fun v b=>BE (Mi P σ ρ r _) fun vs bs=>Bv _ _
theorem XE (σ:Nat→Nat→RV) (r:RV):Ou fun K=>Q3 σ r K:=by
 unfold Q3
 split
 ·exact JM _ _ _
 ·exact SS (K8 σ _) fun l b=>Ul (LP _) fun l=>JM _ _ _
 ·exact SS (NT σ _) fun v b=>JM _ _ _
theorem NJ (P:Program) (σ:Nat→Nat→RV) (ρ:Operand→RV):∀ l ts,Ou fun K=>FD P σ ρ l ts K
 | [],_=>JM _ _ _
 | x :: r,ts=>by
   unfold FD
   split
   ·split
    ·exact Ul (UN _ _) fun v=>OX (NJ P σ ρ r _) fun vs bs us=>JM _ _ _
    ·exact Ye
   ·exact OX (XE _ _) fun v b u=>OX (NJ P σ ρ r _) fun vs bs us=>JM _ _ _
theorem OQ (ρ:Operand→RV):∀ l,Ff fun K=>KO ρ l K
 | []=>Bv _ _
 | (i,x) :: r=>by
   show Ff fun K=>VX (ρ x) fun v b=>KO ρ r fun vs bs=>K ((i,v) :: vs) (b++bs)
   exact BE (N4 (ρ x)) fun v b=>BE (OQ ρ r) fun vs bs=>Bv _ _
theorem SX (ρ:Operand→RV):∀ l,Ff fun K=>Md ρ l K
 | []=>Bv _ _
 | (i,x) :: r=>by
   show Ff fun K=>dI (ρ x) fun v b=>Md ρ r fun vs bs=>K ((i,v) :: vs) (b++bs)
   exact BE (XY (ρ x)) fun v b=>BE (SX ρ r) fun vs bs=>Bv _ _
theorem Pi (σ:Nat→Nat→RV) (ρ:Operand→RV):∀ l,Ff fun K=>Ib σ ρ l K
 | []=>Bv _ _
 | x :: r=>by
   unfold Ib
   refine BE (NT σ (ρ x)) fun v b=>?_
   split
   ·exact RW _ (BE (Pi σ ρ r) fun l bs=>Bv _ _)
   ·exact D1
theorem Pk (σ:Nat→Nat→RV) (ρ:Operand→RV):∀ l,Ff fun K=>Il σ ρ l K
 | []=>Bv _ _
 | x :: r=>by
   unfold Il
   split
   ·exact BE (Pk σ ρ r) fun l bs=>Bv _ _
   ·refine BE (NT σ (ρ x)) fun v b=>?_
    split
    ·exact RW _ (BE (Pk σ ρ r) fun l bs=>Bv _ _)
    ·exact D1
theorem WM (r:RV):Dp fun K=>cellsOf r K:=by
 cases r <;> simp only [cellsOf] <;> first | exact Ap _ | exact Al | exact KB _
theorem SV (ρ:Operand→RV):∀ l,Dp fun K=>LT ρ l K
 | []=>Ap _
 | (i,x) :: r=>by
   unfold LT
   exact A4 (WM _) fun c=>A4 (SV ρ r) fun ps=>Ap _
theorem YD (P:Program) (f:FuncId) (args:List AV) (k sz:Nat) (e:TypeId) (xs:List D):Dp fun K=>Z4 P f args k sz e xs K :=
 ⟨fun _ _ h hk=>by obtain ⟨ys,h1,h2⟩:=hk.go; exact ⟨⟨ys,h1,h _ h2⟩⟩,fun _ hk=>by obtain ⟨ys,h1,h2⟩:=hk.go; exact ⟨ys,⟨⟨ys,h1,rfl⟩⟩,h2⟩⟩
theorem bB {α:Type} {F:(α→Prop)→Prop} (c:Prop) [Decidable c] (hF:Dp F):Dp fun K:α→Prop=>if c then False else F K:=by
 by_cases h:c
 ·simp only [h,if_true]; exact Al
 ·simp only [h,if_false]; exact hF
theorem T0 (r:RV):Ff fun K=>MG r K:=by
 unfold MG
 split <;> first | exact Bv _ _ | exact D1
theorem TK (P:Program) (t:TypeId) (cs:List D):Dp fun K=>Z5 P t cs K:=by
 unfold Z5
 split
 ·split
  ·exact A4 (BQ _) fun l=>Bz _ (Ap _)
  ·exact Al
 ·split
  ·exact Ap _
  ·exact Al
 ·exact Al
theorem cM (P:Program) (σ:Nat→Nat→RV) (t:TypeId) (cs:List C):Dp fun K=>cS P σ t cs K:=by
 unfold cS
 split
 ·split
  ·exact A4 (BQ _) fun l=>Bz _ (Co (K8 σ _) fun l b=>Ap _)
  ·exact Al
 ·split <;> first | exact Ap _ | exact Al
 ·exact Al
theorem Y7 (op:BinOp) (k:IntKind) (a b:Int):Dp fun K=>SY op k a b K:=by
 cases op <;> simp only [SY] <;> first | exact Ap _ | exact Al | exact C7 _ (Ap _)
theorem Ti (op:BinOp) (k:IntKind) (a b:Int):Dp fun K=>Se op k a b K:=by
 cases op <;> simp only [Se] <;> first | exact C7 _ (Ap _) | exact Al
theorem ay (op:BinOp) (a b:ByteArray):Dp fun K=>Y5 op a b K:=by
 cases op <;> simp only [Y5] <;> first | exact Ap _ | exact Al | exact C7 _ (Ap _)
theorem UJ (P:Program):∀ (n:Nat) (t:TypeId) (xs ys:List D),Dp fun K=>XL P n t xs ys K
 | 0,_,_,_=>Al
 | n + 1,t,xs,ys=>by
   unfold XL
   split
   ·split
    ·exact Bz _ (Ap _)
    ·exact Al
   ·split
    ·exact Ap _
    ·exact Al
   ·split
    ·exact Ap _
    ·exact Al
   ·rename_i fs _
    refine C7 _ ?_
    generalize fs.toList = l
    induction l with
    | nil=>exact Ap _
    | cons f r ih=>exact A4 (UJ P n f.type _ _) fun a=>A4 ih fun b=>Ap _
   ·exact Al
theorem ap (P:Program) (t:TypeId) (op:BinOp) (x y:D):Dp fun K=>Yd P t op x y K:=by
 unfold Yd
 split
 ·split
  ·exact Ti _ _ _ _
  ·exact Ti _ _ _ _
  ·exact Bz _ (Y7 _ _ _ _)
 ·exact ay _ _ _
 ·split
  ·split <;> first | exact Ap _ | exact Al
  ·exact Al
 ·refine C7 _ ?_
  split
  ·exact A4 (UJ _ _ _ _ _) fun b=>Ap _
  ·exact A4 (UJ _ _ _ _ _) fun b=>Ap _
  ·exact Al
 ·exact Al
theorem bL (op:UnOp) (x:D):Dp fun K=>e5 op x K:=by
 cases op <;> cases x <;> simp only [e5] <;> first | exact Ap _ | exact Al
theorem YY (r:AV) (b:Bx):Dp fun K=>Yg r b K:=by
 unfold Yg
 split
 ·exact Ap _
 ·split <;> exact Ap _
theorem Qw:∀ (l:List C) (hs:List (Nat × Nat)),Ff fun K=>PL l hs K
 | [],[]=>Bv _ _
 | .d x :: r,hs=>by
   unfold PL
   exact BE (Qw r hs) fun l b=>Bv _ _
 | .own sz e xs :: r,(h,n) :: hs=>by
   unfold PL
   exact BE (Qw r hs) fun l b=>RW _ (Bv _ _)
 | [],_ :: _=>D1
 | .own _ _ _ :: _,[]=>D1
 | .sl _ _ :: _,hs=>by unfold PL; exact D1
theorem Yq (d n:Nat) (r:AV) (b:Bx):Dp fun K=>ba d n r b K:=by
 unfold ba
 split
 ·exact Bz _ (Ap _)
 ·exact Bz _ (A4 (KB _) fun l=>Ap _)
 ·split
  ·exact Ap _
  ·exact YX fun hs=>Co (Qw _ _) fun l hb=>Bz _ (Ap _)
 all_goals first | exact Ap _ | exact Al
theorem NZ:∀ (us:List (Option (Nat × Nat))) (os:List AV),Dp fun K=>Lx us os K
 | [],[]=>Ap _
 | none :: us,o :: os=>by
   unfold Lx
   exact NZ us os
 | some (id,n) :: us,o :: os=>by
   cases o <;> simp only [Lx] <;> first | exact Al | exact A4 (NZ us os) (fun b=>Bz _ (Ap _)) | exact A4 (KB _) fun l=>A4 (NZ us os) (fun b=>Bz _ (Ap _))
 | [],_ :: _=>by simp only [Lx]; exact Al
 | _ :: _,[]=>by simp only [Lx]; exact Al
theorem Y6 (P:Program) (t:TypeId):Dp fun K=>Wm P t K:=by
 unfold Wm
 split
 ·split
  ·exact A4 (LP _) fun l=>Ap _
  ·split
   ·exact Qy _
   ·exact Al
  ·exact Al
 ·exact Al
theorem OC (ρ:Operand→RV) (x:Option Operand) (n:Int):Dp fun K=>Y0 ρ x n K:=by
 unfold Y0
 split
 ·exact Ap _
 ·split
  ·exact Ap _
  ·exact Al
theorem Mv (ρ:Operand→RV) (sz:Nat) (xs:List D) (lo hi mx:Option Operand) (b:Bx):Dp fun K=>KF ρ sz xs lo hi mx b K:=by
 unfold KF
 refine A4 (OC _ _ _) fun l=>A4 (OC _ _ _) fun h=>?_
 split
 ·exact C7 _ (Ap _)
 ·by_cases hh:hi.isNone = true
  ·simp only [hh,if_true]; exact Al
  ·simp only [hh,Bool.false_eq_true,if_false]
   split
   ·exact C7 _ (Ap _)
   ·exact Al
theorem V4 (r:Option D) (z:D):Ff fun K=>QX r z K :=
 ⟨fun _ _ h hk=>by obtain ⟨v,b,h1,h2,h3⟩:=hk.go; exact ⟨⟨v,b,h1,h2,h _ _ h3⟩⟩,fun _ hk=>by obtain ⟨v,b,h1,h2,h3⟩:=hk.go; exact ⟨v,b,⟨⟨v,b,h1,h2,⟨rfl,rfl⟩⟩⟩,h3⟩⟩
theorem Y9 (P:Program) (kt et:TypeId) (x ix:RV) (ok:Bool):Dp fun K=>ZO P kt et x ix ok K:=by
 unfold ZO
 split
 ·split
  ·split
   ·refine C7 _ ?_
    split
    ·refine Co (V4 _ _) fun v b=>?_
     split
     ·exact Ap _
     ·exact Ap _
    ·exact Al
   ·exact Al
  ·exact Al
 ·exact Al
theorem ZV (P:Program) (kt:TypeId) (m k x:RV):Dp fun K=>cV P kt m k x K:=by
 unfold cV
 split
 ·split
  ·split
   ·split
    ·exact C7 _ (Ap _)
    ·exact Al
   ·exact Al
  ·exact Al
 ·exact Al
set_option maxHeartbeats 1000000 in
theorem Z9 (P:Program) (σ:Nat→Nat→RV) (ρ:Option (Nat × Bool)→Operand→RV) (g:Option (Nat × Bool)) (o:Oper) (d n:Nat):Dp fun K=>yA P σ ρ g o d n K:=by
 unfold yA
 split
 ·exact Ap _
 ·split
  ·split
   ·exact Bz _ (Ap _)
   ·exact Al
  ·exact Ap _
 ·split
  ·exact Ap _
  ·split
   ·split
    ·exact Ap _
    ·exact Al
   ·split
    ·exact Ap _
    ·exact Ap _
    ·exact Al
   ·exact Al
  ·exact Al
 ·split
  ·exact Ap _
  ·exact Ap _
  ·exact Co (N4 _) fun v b=>A4 (KB _) fun l=>Ap _
 ·split
  ·exact A4 (KB _) fun l=>Ap _
  ·exact Al
 ·split
  ·split
   ·refine Bz _ ?_
    split
    ·refine Co (OQ _ _) fun ps b=>?_
     split
     ·exact A4 (BQ _) fun l=>Ap _
     ·exact Al
    ·refine O4 ?_ ?_
     ·refine Co (OQ _ _) fun ps b=>?_
      split
      ·exact A4 (BQ _) fun l=>Ap _
      ·exact Al
     ·refine A4 (KB _) fun zc=>A4 (SV _ _) fun ps=>?_
      split
      ·exact A4 (BQ _) fun l=>Ap _
      ·exact Al
   ·exact Al
  ·exact Al
 ·split
  ·refine Co (SX _ _) fun ps b=>?_
   split
   ·exact A4 (BQ _) fun l=>Bz _ (Ap _)
   ·exact Al
  ·exact Al
 ·split
  ·split
   ·split
    ·exact Bz _ (A4 (Y6 _ _) fun z=>C7 _ (Ap _))
    ·exact Al
   ·exact Al
  ·exact Al
 ·split
  ·split
   ·exact Co (Pi _ _ _) fun l b=>Ap _
   ·exact O4 (Co (Pi _ _ _) fun l b=>Ap _) (Co (Pk _ _ _) fun l b=>Ap _)
  ·exact Al
 ·split
  ·exact Ap _
  ·exact cM _ _ _ _
  ·exact A4 (TK _ _ _) fun x=>Ap _
  ·exact A4 (Px _ _) fun x=>A4 (TK _ _ _) fun x=>Ap _
  ·exact Al
 ·refine Bz _ ?_
  split
  ·split
   ·split
    ·exact Bz _ (A4 (BQ _) fun l=>Ap _)
    ·exact Co (N4 _) fun v b=>Bz _ (A4 (KB _) fun l=>A4 (BQ _) fun l=>Ap _)
   ·refine Bz _ ?_
    split
    ·exact A4 (BQ _) fun l=>Ap _
    ·exact Co (N4 _) fun v b=>Bz _ (A4 (BQ _) fun l=>Ap _)
   ·exact Al
  ·refine Co (XY _) fun v b=>A4 (Px _ _) fun y=>Bz _ ?_
   split
   ·exact A4 (BQ _) fun l=>Ap _
   ·exact Bz _ (Ap _)
  ·exact Al
 ·split <;> first | exact Ap _ | exact Al
 ·split
  ·exact Ap _
  ·split
   ·exact Ap _
   ·exact A4 (ap _ _ _ _ _) fun x=>Ap _
   ·exact Al
  ·exact Al
 ·split
  ·exact Ap _
  ·exact A4 (bL _ _) fun x=>Ap _
  ·exact Al
 ·split
  ·split
   ·split <;> first | exact Ap _ | exact Al
   ·split <;> first | exact Ap _ | exact Al
   ·split
    ·split <;> first | exact Ap _ | exact Al
    ·exact Al
   ·exact Al
  ·exact Al
 ·split
  ·split
   ·refine Bz _ ?_
    split
    ·exact Ap _
    ·exact Ap _
    ·exact A4 (BQ _) fun l=>Ap _
    ·exact Ap _
    ·exact Al
   ·exact Al
  ·exact Al
 ·split
  ·split
   ·split
    ·exact Ap _
    ·exact A4 (TK _ _ _) fun x=>Ap _
    ·exact Al
   ·exact Al
  ·exact Al
 ·split
  ·split
   ·split
    ·exact Bz _ (A4 (Px _ _) fun x=>A4 (BQ _) fun l=>Ap _)
    ·exact Bz _ (A4 (Px _ _) fun x=>A4 (BQ _) fun l=>Ap _)
    ·exact Bz _ (C7 _ (Ap _))
    ·exact Al
   ·exact Al
  ·split
   ·split
    ·exact Bz _ (C7 _ (A4 (Px _ _) fun x=>Ap _))
    ·exact Al
   ·exact Al
  ·exact Al
 ·split
  ·split
   ·split
    ·exact C7 _ (Ap _)
    ·exact Al
   ·exact Al
  ·exact Al
 ·split
  ·split
   ·split
    ·exact A4 (OC _ _ _) fun l=>A4 (OC _ _ _) fun h=>C7 _ (Ap _)
    ·exact Al
   ·exact Al
  ·split
   ·exact Bz _ (Mv _ _ _ _ _ _ _)
   ·exact Bz _ (Mv _ _ _ _ _ _ _)
   ·exact Bz _ (Mv _ _ _ _ _ _ _)
   ·refine Bz _ (O4 (Mv _ _ _ _ _ _ _) ?_)
    split
    ·split
     ·exact A4 (OC _ _ _) fun h=>C7 _ (Ap _)
     ·exact Al
    ·exact Al
   ·exact Al
  ·exact Al
 ·split
  ·split
   ·refine A4 (Ue _) fun cv=>Co (Mi _ _ _ _ _) fun vs bs=>Zb (NJ _ _ _ _ _) fun ms mb us=>?_
    refine ZR (fun r=>A4 (YY _ _) fun b=>Yq _ _ _ _) fun o r=>A4 (NZ _ _) fun ub=>Bz _ (Yq _ _ _ _)
   ·split
    ·refine Co (Mi _ _ _ _ _) fun vs bs=>?_
     split
     ·exact A4 (BQ _) fun cv=>A4 (YD _ _ _ _ _ _ _) fun ys=>bB _ (Ap _)
     ·exact Al
    ·exact Al
   ·exact Al
  ·split
   ·split
    ·split <;> first | exact Ap _ | exact Al
    ·split
     ·exact Ap _
     ·exact Co (T0 _) fun _ xs=>Ap _
    ·exact Al
   ·exact Al
  ·split
   ·split
    ·split <;> first | exact Ap _ | exact Al
    ·exact Al
   ·exact Al
  ·split
   ·split
    ·split <;> first | exact Ap _ | exact Al
    ·exact Al
   ·exact Al
  ·split
   ·split
    ·refine Bz _ (Co (T0 _) fun sz' ys=>?_)
     dsimp only
     split
     ·exact Bz _ (C7 _ (Ap _))
     ·exact C7 _ (Ap _)
     ·exact Bz _ (C7 _ (Ap _))
     ·exact Al
    ·exact Al
   ·exact Al
  ·exact Al
 ·split
  ·split <;> first | exact Ap _ | exact Al
  ·exact Al
 ·split
  ·exact Ap _
  ·exact Al
 ·split
  ·exact Y9 _ _ _ _ _ _
  ·exact Al
 ·split
  ·exact ZV _ _ _ _ _
  ·exact Al
 ·exact Al
def WB (σ σ':Nat→Nat→RV) (r:RV):Prop:=(∀ id n o cs,r = .vptr id n o cs→∀ id' n',C.sl id' n'∈cs→σ id' n' = σ' id' n')∧∀ f cs k id n rid rn,r = .clo f cs k id n rid rn→σ rid rn = σ' rid rn
section
variable {P:Program} {σ σ':Nat→Nat→RV} {ρ ρ':Operand→RV}
theorem Ju:∀ {l:List C} {K:List D→Bx→Prop},(∀ id n,C.sl id n∈l→σ id n = σ' id n)→Ev σ l K = Ev σ' l K
 | [],_,_=>rfl
 | .d x :: r,K,h=>by
   simp only [Ev]
   exact Ju fun id n hm=>h id n (by simp [hm])
 | .sl id n :: r,K,h=>by
   simp only [Ev]
   rw [h id n (by simp)]
   congr 1
   funext x b
   exact Ju fun id n hm=>h id n (by simp [hm])
 | .own _ _ _ :: _,_,_=>rfl
theorem Mz {r:RV} {K:AV→Bx→Prop} (h:WB σ σ' r):Og σ r K = Og σ' r K:=by
 cases r <;> try rfl
 case vptr id n o cs=>exact Ju (h.1 id n o cs rfl)
theorem WU {r:RV} {K:AV→Bx→Option (Nat × Nat)→Prop} (h:WB σ σ' r):Q3 σ r K = Q3 σ' r K:=by
 cases r <;> try rfl
 case vptr id n o cs =>
  cases o with
  | zero=>exact Ju (h.1 id n 0 cs rfl)
  | succ o =>
    show Og σ (.vptr id n (o + 1) cs) (fun v b=>K v b none) = Og σ' (.vptr id n (o + 1) cs) (fun v b=>K v b none)
    exact Mz h
theorem QK:∀ {l:List Operand} {ts:List TypeId} {K:List AV→Bx→Prop},(∀ x∈l,ρ x = ρ' x∧WB σ σ' (ρ' x))→Hc P σ ρ l ts K = Hc P σ' ρ' l ts K
 | [],_,_,_=>rfl
 | x :: r,ts,K,h=>by
   have ih:∀ {ts:List TypeId} {K:List AV→Bx→Prop},Hc P σ ρ r ts K = Hc P σ' ρ' r ts K:=QK fun y hy=>h y (by simp [hy])
   simp only [Hc,ih]
   rw [(h x (by simp)).1,Mz (h x (by simp)).2]
theorem Qr:∀ {l:List Operand} {ts:List TypeId} {K:List AV→Bx→List (Option (Nat × Nat))→Prop},(∀ x∈l,ρ x = ρ' x∧WB σ σ' (ρ' x))→FD P σ ρ l ts K = FD P σ' ρ' l ts K
 | [],_,_,_=>rfl
 | x :: r,ts,K,h=>by
   have ih:∀ {ts:List TypeId} {K:List AV→Bx→List (Option (Nat × Nat))→Prop},FD P σ ρ r ts K = FD P σ' ρ' r ts K:=Qr fun y hy=>h y (by simp [hy])
   simp only [FD,ih]
   rw [(h x (by simp)).1,WU (h x (by simp)).2]
theorem RP:∀ {l:List Operand} {K:List D→Bx→Prop},(∀ x∈l,ρ x = ρ' x∧WB σ σ' (ρ' x))→Ib σ ρ l K = Ib σ' ρ' l K
 | [],_,_=>rfl
 | x :: r,K,h=>by
   have ih:∀ {K:List D→Bx→Prop},Ib σ ρ r K = Ib σ' ρ' r K:=RP fun y hy=>h y (by simp [hy])
   simp only [Ib,ih]
   rw [(h x (by simp)).1,Mz (h x (by simp)).2]
theorem SM:∀ {l:List Operand},(∀ x∈l,ρ x = ρ' x)→Rm ρ l = Rm ρ' l
 | [],_=>rfl
 | x :: r,h=>by
   have ih:Rm ρ r = Rm ρ' r:=SM fun y hy=>h y (by simp [hy])
   simp only [Rm,ih,h x (by simp)]
theorem RQ:∀ {l:List Operand} {K:List C→Bx→Prop},(∀ x∈l,ρ x = ρ' x∧WB σ σ' (ρ' x))→Il σ ρ l K = Il σ' ρ' l K
 | [],_,_=>rfl
 | x :: r,K,h=>by
   have ih:∀ {K:List C→Bx→Prop},Il σ ρ r K = Il σ' ρ' r K:=RQ fun y hy=>h y (by simp [hy])
   simp only [Il,ih]
   rw [(h x (by simp)).1,Mz (h x (by simp)).2]
theorem aA {t:TypeId} {cs:List C} {K:GD→Prop} (h:∀ id n,C.sl id n∈cs→σ id n = σ' id n):cS P σ t cs K = cS P σ' t cs K:=by
 unfold cS
 split
 ·split
  ·rw [BG,BG]
   congr 1
   exact Ju fun id n hm=>h id n (List.mem_of_mem_take hm)
  ·rfl
 ·rfl
 ·rfl
theorem RF:∀ {l:List (Nat × Operand)} {K:List (Nat × D)→Bx→Prop},(∀ x∈l,ρ x.2 = ρ' x.2)→KO ρ l K = KO ρ' l K
 | [],_,_=>rfl
 | (i,x) :: r,K,h=>by
   simp only [KO]
   rw [h (i,x) (by simp)]
   congr 1
   funext v b
   exact RF fun y hy=>h y (by simp [hy])
theorem Tt:∀ {l:List (Nat × Operand)},(∀ x∈l,ρ x.2 = ρ' x.2)→R7 ρ l = R7 ρ' l
 | [],_=>rfl
 | (i,x) :: r,h=>by
   have ih:R7 ρ r = R7 ρ' r:=Tt fun y hy=>h y (by simp [hy])
   simp only [R7,ih,h (i,x) (by simp)]
theorem QQ:∀ {l:List (Nat × Operand)} {K:List (Nat × List C)→Prop},(∀ x∈l,ρ x.2 = ρ' x.2)→LT ρ l K = LT ρ' l K
 | [],_,_=>rfl
 | (i,x) :: r,K,h=>by
   simp only [LT]
   rw [h (i,x) (by simp)]
   congr 1
   funext c
   exact QQ fun y hy=>h y (by simp [hy])
theorem Rp:∀ {l:List (Nat × Operand)} {K:List (Nat × D)→Bx→Prop},(∀ x∈l,ρ x.2 = ρ' x.2)→Md ρ l K = Md ρ' l K
 | [],_,_=>rfl
 | (i,x) :: r,K,h=>by
   simp only [Md]
   rw [h (i,x) (by simp)]
   congr 1
   funext v b
   exact Rp fun y hy=>h y (by simp [hy])
theorem PA {x:Option Operand} {n:Int} {K:Int→Prop} (h:∀ y,x = some y→ρ y = ρ' y):Y0 ρ x n K = Y0 ρ' x n K:=by
 cases x with
 | none=>rfl
 | some x=>unfold Y0; simp only; rw [h x rfl]
theorem Xa {sz:Nat} {xs:List D} {lo hi mx:Option Operand} {b:Bx} {K:GD→Prop} (h1:∀ y,lo = some y→ρ y = ρ' y) (h2:∀ y,hi = some y→ρ y = ρ' y) (h3:∀ y,mx = some y→ρ y = ρ' y) :
 KF ρ sz xs lo hi mx b K = KF ρ' sz xs lo hi mx b K:=by
 unfold KF
 rw [PA h1]
 congr 1
 funext l
 rw [PA h2]
 congr 1
 funext h
 cases mx with
 | none=>rfl
 | some m=>simp only; rw [h3 m rfl]
end
set_option maxHeartbeats 1000000 in
theorem c4 {P:Program} {σ σ':Nat→Nat→RV} {ρ ρ':Option (Nat × Bool)→Operand→RV} {g:Option (Nat × Bool)} {o:Oper} {d n n':Nat} {K:GD→Prop}
 (h:∀ g' x,x∈o.op.operands.toList→ρ g' x = ρ' g' x) (hs:∀ g' x,x∈o.op.operands.toList→WB σ σ' (ρ' g' x)) (hn:Xo o.op = true→n = n') (hy:yA P σ ρ g o d n K):yA P σ' ρ' g o d n' K:=by
 have hn':∀ {c:Bool},Xo o.op = c→c = true→n = n':=fun e1 e2=>hn (e1.trans e2)
 unfold yA at hy ⊢
 split at hy
 ·rename_i x ho
  simp only [ho] at h ⊢
  rw [h g x (by simp [Op.operands])] at hy; exact hy
 ·rename_i x ho
  have:=hn' (by rw [ho]; rfl) rfl
  subst this
  simp only [ho] at h ⊢
  rw [h g x (by simp [Op.operands])] at hy; exact hy
 ·rename_i t x y ho
  simp only [ho] at h ⊢
  rw [h g (.tmp t) (by simp [Op.operands]),h (some (t,true)) x (by simp [Op.operands]),h (some (t,false)) y (by simp [Op.operands])] at hy; exact hy
 ·rename_i T x ho
  have:=hn' (by rw [ho]; rfl) rfl
  subst this
  simp only [ho] at h ⊢
  rw [h g x (by simp [Op.operands])] at hy; exact hy
 ·rename_i T ho
  have:=hn' (by rw [ho]; rfl) rfl
  subst this
  first | exact hy | (simp only [ho]; exact hy)
 ·rename_i t parts ho
  simp only [ho] at h ⊢
  have e:∀ (K':List (Nat × D)→Bx→Prop),KO (ρ g) parts.toList K' = KO (ρ' g) parts.toList K':=fun K'=>RF fun x hx=>h g x.2 (by simp only [Op.operands]; simp; exact ⟨x.1,by simpa using hx⟩)
  have e2:∀ (K':List (Nat × List C)→Prop),LT (ρ g) parts.toList K' = LT (ρ' g) parts.toList K':=fun K'=>QQ fun x hx=>h g x.2 (by simp only [Op.operands]; simp; exact ⟨x.1,by simpa using hx⟩)
  have e3:R7 (ρ g) parts.toList = R7 (ρ' g) parts.toList:=Tt fun x hx=>h g x.2 (by simp only [Op.operands]; simp; exact ⟨x.1,by simpa using hx⟩)
  simp only [e,e2,e3] at hy; exact hy
 ·rename_i t m parts ho
  have:=hn' (by rw [ho]; rfl) rfl
  subst this
  simp only [ho] at h ⊢
  have e:∀ (K':List (Nat × D)→Bx→Prop),Md (ρ g) parts.toList K' = Md (ρ' g) parts.toList K':=fun K'=>Rp fun x hx=>h g x.2 (by simp only [Op.operands]; simp; exact ⟨x.1,by simpa using hx⟩)
  simp only [e] at hy; exact hy
 ·rename_i t l c ho
  have:=hn' (by rw [ho]; rfl) rfl
  subst this
  simp only [ho] at h ⊢
  rw [h g l (by simp [Op.operands]),h g c (by simp [Op.operands])] at hy; exact hy
 ·rename_i f first caps ho
  simp only [ho] at h hs ⊢
  have e:∀ (K':List D→Bx→Prop),Ib σ (ρ g) caps.toList K' = Ib σ' (ρ' g) caps.toList K':=fun K'=>RP fun x hx=>by
   have hx':x∈caps:=by simpa using hx
   have hm:x∈(Op.makeFunc (.func f) first caps).operands.toList:=by simp [Op.operands,hx']
   exact ⟨h g x hm,hs g x hm⟩
  have e2:∀ (K':List C→Bx→Prop),Il σ (ρ g) caps.toList K' = Il σ' (ρ' g) caps.toList K':=fun K'=>RQ fun x hx=>by
   have hx':x∈caps:=by simpa using hx
   have hm:x∈(Op.makeFunc (.func f) first caps).operands.toList:=by simp [Op.operands,hx']
   exact ⟨h g x hm,hs g x hm⟩
  have e3:Rm (ρ g) caps.toList = Rm (ρ' g) caps.toList:=SM fun x hx=>by
   have hx':x∈caps:=by simpa using hx
   exact h g x (by simp [Op.operands,hx'])
  simp only [e,e2,e3] at hy; exact hy
 ·rename_i t x ho
  simp only [ho] at h hs ⊢
  have h2:=(hs g x (by simp [Op.operands])).1
  rw [h g x (by simp [Op.operands])] at hy
  split at hy
  ·rename_i e; first | exact hy | (simp only [e]; exact hy)
  ·rename_i id n' o' cs e
   try simp only [e]
   rw [aA (σ':=σ') fun i m hm=>h2 _ _ _ _ e i m (List.mem_of_mem_drop hm)] at hy
   exact hy
  ·rename_i e; first | exact hy | (simp only [e]; exact hy)
  ·rename_i e; first | exact hy | (simp only [e]; exact hy)
  ·exact hy.elim
 ·rename_i t p x ho
  simp only [ho] at h ⊢
  rw [h g p (by simp [Op.operands]),h g x (by simp [Op.operands])] at hy; exact hy
 ·rename_i x ho
  simp only [ho] at h ⊢
  rw [h g x (by simp [Op.operands])] at hy; exact hy
 ·rename_i op t x y U ho
  simp only [ho] at h ⊢
  rw [h g x (by simp [Op.operands]),h g y (by simp [Op.operands])] at hy; exact hy
 ·rename_i op t x ho
  simp only [ho] at h ⊢
  rw [h g x (by simp [Op.operands])] at hy; exact hy
 ·rename_i s t x ho
  simp only [ho] at h ⊢
  rw [h g x (by simp [Op.operands])] at hy; exact hy
 ·rename_i s x f ho
  simp only [ho] at h ⊢
  rw [h g x (by simp [Op.operands])] at hy; exact hy
 ·rename_i s x f ho
  simp only [ho] at h ⊢
  rw [h g x (by simp [Op.operands])] at hy; exact hy
 ·rename_i t x ix ho
  simp only [ho] at h ⊢
  rw [h g x (by simp [Op.operands]),h g ix (by simp [Op.operands])] at hy; exact hy
 ·rename_i t x ix ho
  simp only [ho] at h ⊢
  rw [h g x (by simp [Op.operands]),h g ix (by simp [Op.operands])] at hy; exact hy
 ·rename_i t x lo hi mx ho
  simp only [ho] at h ⊢
  have h1:∀ y,lo = some y→ρ g y = ρ' g y:=fun y e=>h g y (by subst e; simp [Op.operands])
  have h2:∀ y,hi = some y→ρ g y = ρ' g y:=fun y e=>h g y (by subst e; simp [Op.operands])
  have h3:∀ y,mx = some y→ρ g y = ρ' g y:=fun y e=>h g y (by subst e; simp [Op.operands])
  rw [h g x (by simp [Op.operands])] at hy
  have e1:∀ {sz:Nat} {xs:List D} {b:Bx} {K:GD→Prop},KF (ρ g) sz xs lo hi mx b K = KF (ρ' g) sz xs lo hi mx b K:=Xa h1 h2 h3
  have e2:∀ {n:Int} {K:Int→Prop},Y0 (ρ g) lo n K = Y0 (ρ' g) lo n K:=PA h1
  have e3:∀ {n:Int} {K:Int→Prop},Y0 (ρ g) hi n K = Y0 (ρ' g) hi n K:=PA h2
  simp only [e1,e2,e3] at hy
  exact hy
 ·rename_i c ho
  simp only [ho] at h hs ⊢
  split at hy
  ·rename_i fo hc
   have:=hn' (by rw [ho]; simp only [Xo,hc]) rfl
   subst this
   have h1:=h g fo (by simp [Op.operands,Call.operands,hc])
   have hx:∀ x∈c.args.toList,ρ g x = ρ' g x∧WB σ σ' (ρ' g x):=fun x hx=>by
    have hm:x∈(Op.call c).operands.toList:=by simp [Op.operands,Call.operands]; exact .inr (by simpa using hx)
    exact ⟨h g x hm,hs g x hm⟩
   have e:∀ (K':List AV→Bx→Prop),Hc P σ (ρ g) c.args.toList c.argTypes.toList K' = Hc P σ' (ρ' g) c.args.toList c.argTypes.toList K':=fun K'=>QK hx
   have e':∀ (K':List AV→Bx→List (Option (Nat × Nat))→Prop),FD P σ (ρ g) c.args.toList c.argTypes.toList K' = FD P σ' (ρ' g) c.args.toList c.argTypes.toList K':=fun K'=>Qr hx
   have h2:=(hs g fo (by simp [Op.operands,Call.operands,hc])).2
   simp only [h1,e,e'] at hy
   try simp only [hc]
   split at hy
   ·rename_i hfo; first | exact hy | (simp only [hfo]; exact hy)
   ·rename_i hfo
    rw [h2 _ _ _ _ _ _ _ hfo] at hy
    first | exact hy | (simp only [hfo]; exact hy)
   ·exact hy.elim
  ·rename_i hc
   try simp only [hc]
   split at hy
   ·rename_i x t hx ht
    have h1:=h g x (by simp only [Op.operands,Call.operands,hc]; rw [Xl hx]; simp)
    simp only [h1] at hy
    try simp only [hx,ht]
    exact hy
   ·exact hy.elim
  ·rename_i hc
   try simp only [hc]
   split at hy
   ·rename_i x y hx
    have h1:=h g x (by simp only [Op.operands,Call.operands,hc]; rw [Ks hx]; simp)
    have h2:=h g y (by simp only [Op.operands,Call.operands,hc]; rw [Ks hx]; simp)
    simp only [h1,h2] at hy
    try simp only [hx]
    exact hy
   ·exact hy.elim
  ·rename_i hc
   try simp only [hc]
   split at hy
   ·rename_i x y hx
    have h1:=h g x (by simp only [Op.operands,Call.operands,hc]; rw [Ks hx]; simp)
    have h2:=h g y (by simp only [Op.operands,Call.operands,hc]; rw [Ks hx]; simp)
    simp only [h1,h2] at hy
    try simp only [hx]
    exact hy
   ·exact hy.elim
  ·rename_i hc
   have:=hn' (by rw [ho]; simp only [Xo,hc]) rfl
   subst this
   try simp only [hc]
   split at hy
   ·rename_i x y t u hx ht
    have h1:=h g x (by simp only [Op.operands,Call.operands,hc]; rw [Ks hx]; simp)
    have h2:=h g y (by simp only [Op.operands,Call.operands,hc]; rw [Ks hx]; simp)
    simp only [h1,h2] at hy
    try simp only [hx,ht]
    exact hy
   ·exact hy.elim
  ·exact hy.elim
 ·rename_i t i ho
  simp only [ho] at h ⊢
  rw [h g t (by simp [Op.operands])] at hy; exact hy
 ·rename_i t ho
  have:=hn' (by rw [ho]; rfl) rfl
  subst this
  exact hy
 ·rename_i t x ix ok ho
  simp only [ho] at h ⊢
  rw [h g x (by simp [Op.operands]),h g ix (by simp [Op.operands])] at hy; exact hy
 ·rename_i t m k x ho
  simp only [ho] at h ⊢
  rw [h g m (by simp [Op.operands]),h g k (by simp [Op.operands]),h g x (by simp [Op.operands])] at hy; exact hy
 ·exact hy.elim
end Go.Abs
