/-
  Walks: maps of the frame's own as typed association lists.
-/
import Derived.Test.YtejfnieiaecpkaaGreatDoorWalk
set_option linter.unusedVariables false
set_option linter.unusedSimpArgs false
namespace Go.Abs

section
variable {β : Type}
/-- What a map with whole numbers as keys holds at k. -/
def getI (k : Int) : List (Int × β) → Option β
  | [] => none
  | p :: r => bif k == p.1 then some p.2 else getI k r
def updI (k : Int) (v : β) : List (Int × β) → List (Int × β)
  | [] => [(k, v)]
  | p :: r => bif k == p.1 then (k, v) :: r else p :: updI k v r
def getS (k : ByteArray) : List (ByteArray × β) → Option β
  | [] => none
  | p :: r => bif k == p.1 then some p.2 else getS k r
def updS (k : ByteArray) (v : β) : List (ByteArray × β) → List (ByteArray × β)
  | [] => [(k, v)]
  | p :: r => bif k == p.1 then (k, v) :: r else p :: updS k v r
/-- Such a map as the machine has it. -/
def mpI (kd : IntKind) (f : β → D) (es : List (Int × β)) : List (D × D) := es.map fun p => (.int kd p.1, f p.2)
def mpS (f : β → D) (es : List (ByteArray × β)) : List (D × D) := es.map fun p => (.str p.1, f p.2)

theorem mpI_nil (kd : IntKind) (f : β → D) : ([] : List (D × D)) = mpI kd f [] := rfl
theorem mpS_nil (f : β → D) : ([] : List (D × D)) = mpS f [] := rfl
theorem find_mpI (kd : IntKind) (f : β → D) (k : Int) : ∀ es, findD (.int kd k) (mpI kd f es) = (getI k es).map f
  | [] => rfl
  | p :: r => by
    have ih := find_mpI kd f k r
    simp only [mpI, List.map_cons, findD, getI, keyEq] at ih ⊢
    cases k == p.1
    · simpa using ih
    · rfl
theorem upd_mpI (kd : IntKind) (f : β → D) (k : Int) (v : β) : ∀ es, updD (.int kd k) (f v) (mpI kd f es) = mpI kd f (updI k v es)
  | [] => rfl
  | p :: r => by
    have ih := upd_mpI kd f k v r
    simp only [mpI, List.map_cons, updD, updI, keyEq] at ih ⊢
    cases k == p.1
    · simpa using ih
    · rfl
theorem find_mpS (f : β → D) (k : ByteArray) : ∀ es, findD (.str k) (mpS f es) = (getS k es).map f
  | [] => rfl
  | p :: r => by
    have ih := find_mpS f k r
    simp only [mpS, List.map_cons, findD, getS, keyEq] at ih ⊢
    cases k == p.1
    · simpa using ih
    · rfl
theorem upd_mpS (f : β → D) (k : ByteArray) (v : β) : ∀ es, updD (.str k) (f v) (mpS f es) = mpS f (updS k v es)
  | [] => rfl
  | p :: r => by
    have ih := upd_mpS f k v r
    simp only [mpS, List.map_cons, updD, updS, keyEq] at ih ⊢
    cases k == p.1
    · simpa using ih
    · rfl
theorem kind_mpI (kd : IntKind) (f : β → D) (k : Int) (es : List (Int × β)) : ∀ p ∈ mpI kd f es, keyKind (.int kd k) p.1 = true := by
  intro p hp
  obtain ⟨q, _, rfl⟩ := List.mem_map.1 hp
  simp [keyKind]
theorem kind_mpS (f : β → D) (k : ByteArray) (es : List (ByteArray × β)) : ∀ p ∈ mpS f es, keyKind (.str k) p.1 = true := by
  intro p hp
  obtain ⟨q, _, rfl⟩ := List.mem_map.1 hp
  rfl
/-- A look into such a map, as the machine stops there. -/
theorem look_mpI {kd : IntKind} {f : β → D} {k : Int} {es : List (Int × β)} {z : β} {K : D → Bool → Prop} (h : K (f ((getI k es).getD z)) (getI k es).isSome) : LookStop (findD (.int kd k) (mpI kd f es)) (f z) K := by
  refine ⟨⟨f ((getI k es).getD z), (getI k es).isSome, ?_, ?_, h⟩⟩ <;> rw [find_mpI] <;> cases getI k es <;> rfl
theorem look_mpS {f : β → D} {k : ByteArray} {es : List (ByteArray × β)} {z : β} {K : D → Bool → Prop} (h : K (f ((getS k es).getD z)) (getS k es).isSome) : LookStop (findD (.str k) (mpS f es)) (f z) K := by
  refine ⟨⟨f ((getS k es).getD z), (getS k es).isSome, ?_, ?_, h⟩⟩ <;> rw [find_mpS] <;> cases getS k es <;> rfl
end
end Go.Abs
