/- Walks: maps of the frame's own as typed association lists. -/
import Derived.Test.YtejfnieiaecpkaaGreatDoorWalk
set_option linter.unusedVariables false
set_option linter.unusedSimpArgs false
namespace Go.Abs
section
variable {β:Type}
def IS (k:Int):List (Int × β)→Option β
 | []=>none
 | p :: r=>bif k==p.1 then some p.2 else IS k r
def Ug (k:Int) (v:β):List (Int × β)→List (Int × β)
 | []=>[(k,v)]
 | p :: r=>bif k==p.1 then (k,v) :: r else p :: Ug k v r
def WD (k:ByteArray):List (ByteArray × β)→Option β
 | []=>none
 | p :: r=>bif k==p.1 then some p.2 else WD k r
def bh (k:ByteArray) (v:β):List (ByteArray × β)→List (ByteArray × β)
 | []=>[(k,v)]
 | p :: r=>bif k==p.1 then (k,v) :: r else p :: bh k v r
def cz (kd:IntKind) (f:β→D) (es:List (Int × β)):List (D × D):=es.map fun p=>(.int kd p.1,f p.2)
def dH (f:β→D) (es:List (ByteArray × β)):List (D × D):=es.map fun p=>(.str p.1,f p.2)
theorem Xz (kd:IntKind) (f:β→D) (k:Int):∀ es,N3 (.int kd k) (cz kd f es) = (IS k es).map f
 | []=>rfl
 | p :: r=>by
   have ih:=Xz kd f k r
   simp only [cz,List.map_cons,N3,IS,I7] at ih ⊢
   cases k==p.1
   ·simpa using ih
   ·rfl
theorem Xm (kd:IntKind) (f:β→D) (k:Int) (v:β):∀ es,Uo (.int kd k) (f v) (cz kd f es) = cz kd f (Ug k v es)
 | []=>rfl
 | p :: r=>by
   have ih:=Xm kd f k v r
   simp only [cz,List.map_cons,Uo,Ug,I7] at ih ⊢
   cases k==p.1
   ·simpa using ih
   ·rfl
theorem Yw (f:β→D) (k:ByteArray):∀ es,N3 (.str k) (dH f es) = (WD k es).map f
 | []=>rfl
 | p :: r=>by
   have ih:=Yw f k r
   simp only [dH,List.map_cons,N3,WD,I7] at ih ⊢
   cases k==p.1
   ·simpa using ih
   ·rfl
theorem ZD (f:β→D) (k:ByteArray) (v:β):∀ es,Uo (.str k) (f v) (dH f es) = dH f (bh k v es)
 | []=>rfl
 | p :: r=>by
   have ih:=ZD f k v r
   simp only [dH,List.map_cons,Uo,bh,I7] at ih ⊢
   cases k==p.1
   ·simpa using ih
   ·rfl
theorem Nx (kd:IntKind) (f:β→D) (k:Int) (es:List (Int × β)):∀ p∈cz kd f es,Hg (.int kd k) p.1 = true:=by
 intro p hp
 obtain ⟨q,_,rfl⟩:=List.mem_map.1 hp
 simp [Hg]
theorem XP (f:β→D) (k:ByteArray) (es:List (ByteArray × β)):∀ p∈dH f es,Hg (.str k) p.1 = true:=by
 intro p hp
 obtain ⟨q,_,rfl⟩:=List.mem_map.1 hp
 rfl
theorem Rd {kd:IntKind} {f:β→D} {k:Int} {es:List (Int × β)} {z:β} {K:D→Bool→Prop} (h:K (f ((IS k es).getD z)) (IS k es).isSome):QX (N3 (.int kd k) (cz kd f es)) (f z) K:=by
 refine ⟨⟨f ((IS k es).getD z),(IS k es).isSome,?_,?_,h⟩⟩ <;> rw [Xz] <;> cases IS k es <;> rfl
theorem bG {f:β→D} {k:ByteArray} {es:List (ByteArray × β)} {z:β} {K:D→Bool→Prop} (h:K (f ((WD k es).getD z)) (WD k es).isSome):QX (N3 (.str k) (dH f es)) (f z) K:=by
 refine ⟨⟨f ((WD k es).getD z),(WD k es).isSome,?_,?_,h⟩⟩ <;> rw [Yw] <;> cases WD k es <;> rfl
end
end Go.Abs
