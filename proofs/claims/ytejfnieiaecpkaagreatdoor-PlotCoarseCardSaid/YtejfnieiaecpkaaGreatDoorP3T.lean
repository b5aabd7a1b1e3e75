/-
  Printed by wip/tools/mkw.py: structures and their descriptions.
-/
import Derived.Test.YtejfnieiaecpkaaGreatDoorWalk
set_option linter.unusedVariables false
set_option linter.unusedSimpArgs false
namespace Go.Proofs.YtejfnieiaecpkaaGreatDoor.P
open Go.Abs Go.Proofs

structure APick where
  Column : Int
  Level : Int

structure ACode where
  Name : ByteArray
  Parent : Int

structure ACodeList where
  Name : ByteArray
  Codes : (List ACode)

structure ACond where
  Op : Int
  Column : Int
  Code : Int
  Low : Int
  High : Int
  Kids : (List ACond)

structure AExpr where
  Op : Int
  Num : Int
  Name : ByteArray
  Column : Int
  Columns : (List Int)
  Dims : (List APick)
  Cond : ACond
  Event : ACond
  Kids : (List AExpr)

structure AColumn where
  Name : ByteArray
  Kind : Int
  List_ : Int
  Low : Int
  High : Int
  Widths : (List Int)
  Optional : Bool

structure DrawCodes where
  f_l : (List Int)
  f_at : Int

structure ASchema where
  Lists : (List ACodeList)
  Columns : (List AColumn)

structure ASource where
  Schema : ASchema
  Rows : (List (List Int))
  Gone : (List Int)
  Version : Int

structure ASample where
  Part : Int
  Of : Int
  Seed : Int

structure AQuestion where
  Name : ByteArray
  Kind : Int
  Filter : ACond
  Dims : (List APick)
  Measure : Int
  Terms : (List Int)
  Event : ACond

structure ADeclaration where
  Project : ByteArray
  Source : ByteArray
  Cohort : ACond
  Sample : ASample
  Questions : (List AQuestion)

structure AExtract where
  Project : ByteArray
  Version : Int
  Picks : (List APick)
  Rows : (List (List Int))

structure Programuses where
  f_num : Bool
  f_name : Bool
  f_column : Bool
  f_columns : Bool
  f_dims : Bool
  f_cond : Bool
  f_event : Bool

structure ABin where
  Low : Int
  Count : Int

structure ABox where
  Count : Int
  Least : Int
  Lower : Int
  Middle : Int
  Upper : Int
  Greatest : Int

def encAPick (x : APick) : D := .agg [(.int .i64 x.Column), (.int .i64 x.Level)]

theorem snoc_APick (xs : List APick) (a0 : Int) (a1 : Int) : xs.map encAPick ++ [D.agg [(.int .i64 a0), (.int .i64 a1)]] = (xs ++ [({ Column := a0, Level := a1 } : APick)]).map encAPick := by simp [encAPick, lst]

theorem one_APick (a0 : Int) (a1 : Int) (xs : List APick) : [D.agg [(.int .i64 a0), (.int .i64 a1)]] ++ xs.map encAPick = ([({ Column := a0, Level := a1 } : APick)] ++ xs).map encAPick := by simp [encAPick, lst]

theorem set_APick (xs : List APick) (i : Nat) (a0 : Int) (a1 : Int) : (xs.map encAPick).set i (D.agg [(.int .i64 a0), (.int .i64 a1)]) = (xs.set i ({ Column := a0, Level := a1 } : APick)).map encAPick := by rw [List.map_set]; rfl

def encACode (x : ACode) : D := .agg [(.str x.Name), (.int .i64 x.Parent)]

theorem snoc_ACode (xs : List ACode) (a0 : ByteArray) (a1 : Int) : xs.map encACode ++ [D.agg [(.str a0), (.int .i64 a1)]] = (xs ++ [({ Name := a0, Parent := a1 } : ACode)]).map encACode := by simp [encACode, lst]

theorem one_ACode (a0 : ByteArray) (a1 : Int) (xs : List ACode) : [D.agg [(.str a0), (.int .i64 a1)]] ++ xs.map encACode = ([({ Name := a0, Parent := a1 } : ACode)] ++ xs).map encACode := by simp [encACode, lst]

theorem set_ACode (xs : List ACode) (i : Nat) (a0 : ByteArray) (a1 : Int) : (xs.map encACode).set i (D.agg [(.str a0), (.int .i64 a1)]) = (xs.set i ({ Name := a0, Parent := a1 } : ACode)).map encACode := by rw [List.map_set]; rfl

def encACodeList (x : ACodeList) : D := .agg [(.str x.Name), (lst 2 encACode x.Codes)]

theorem snoc_ACodeList (xs : List ACodeList) (a0 : ByteArray) (a1 : (List ACode)) : xs.map encACodeList ++ [D.agg [(.str a0), (D.list 2 (List.map encACode a1))]] = (xs ++ [({ Name := a0, Codes := a1 } : ACodeList)]).map encACodeList := by simp [encACodeList, lst]

theorem one_ACodeList (a0 : ByteArray) (a1 : (List ACode)) (xs : List ACodeList) : [D.agg [(.str a0), (D.list 2 (List.map encACode a1))]] ++ xs.map encACodeList = ([({ Name := a0, Codes := a1 } : ACodeList)] ++ xs).map encACodeList := by simp [encACodeList, lst]

theorem set_ACodeList (xs : List ACodeList) (i : Nat) (a0 : ByteArray) (a1 : (List ACode)) : (xs.map encACodeList).set i (D.agg [(.str a0), (D.list 2 (List.map encACode a1))]) = (xs.set i ({ Name := a0, Codes := a1 } : ACodeList)).map encACodeList := by rw [List.map_set]; rfl

mutual
def encACond : ACond → D
  | ⟨Op, Column, Code, Low, High, Kids⟩ => .agg [(.int .i64 Op), (.int .i64 Column), (.int .i64 Code), (.int .i64 Low), (.int .i64 High), (.list 6 (encACondL Kids))]
def encACondL : List ACond → List D
  | [] => []
  | x :: r => encACond x :: encACondL r
end

theorem encACondL_eq : ∀ l : List ACond, encACondL l = l.map encACond
  | [] => by simp [encACondL]
  | x :: r => by simp [encACondL, encACondL_eq r]

def opACond (x : ACond) : D := .agg [(.int .i64 x.Op), (.int .i64 x.Column), (.int .i64 x.Code), (.int .i64 x.Low), (.int .i64 x.High), (lst 6 encACond x.Kids)]

theorem eta_ACond (x : ACond) : ({ Op := x.Op, Column := x.Column, Code := x.Code, Low := x.Low, High := x.High, Kids := x.Kids } : ACond) = x := by cases x; rfl

theorem encACond_op (x : ACond) : encACond x = opACond x := by
  obtain ⟨Op, Column, Code, Low, High, Kids⟩ := x
  simp only [encACond, encACondL_eq]
  rfl

theorem snoc_ACond (xs : List ACond) (a0 : Int) (a1 : Int) (a2 : Int) (a3 : Int) (a4 : Int) (a5 : (List ACond)) : xs.map encACond ++ [D.agg [(.int .i64 a0), (.int .i64 a1), (.int .i64 a2), (.int .i64 a3), (.int .i64 a4), (D.list 6 (List.map encACond a5))]] = (xs ++ [({ Op := a0, Column := a1, Code := a2, Low := a3, High := a4, Kids := a5 } : ACond)]).map encACond := by simp [encACond_op, opACond, lst]

theorem one_ACond (a0 : Int) (a1 : Int) (a2 : Int) (a3 : Int) (a4 : Int) (a5 : (List ACond)) (xs : List ACond) : [D.agg [(.int .i64 a0), (.int .i64 a1), (.int .i64 a2), (.int .i64 a3), (.int .i64 a4), (D.list 6 (List.map encACond a5))]] ++ xs.map encACond = ([({ Op := a0, Column := a1, Code := a2, Low := a3, High := a4, Kids := a5 } : ACond)] ++ xs).map encACond := by simp [encACond_op, opACond, lst]

theorem set_ACond (xs : List ACond) (i : Nat) (a0 : Int) (a1 : Int) (a2 : Int) (a3 : Int) (a4 : Int) (a5 : (List ACond)) : (xs.map encACond).set i (D.agg [(.int .i64 a0), (.int .i64 a1), (.int .i64 a2), (.int .i64 a3), (.int .i64 a4), (D.list 6 (List.map encACond a5))]) = (xs.set i ({ Op := a0, Column := a1, Code := a2, Low := a3, High := a4, Kids := a5 } : ACond)).map encACond := by rw [List.map_set]; simp [encACond_op, opACond, lst]

mutual
def encAExpr : AExpr → D
  | ⟨Op, Num, Name, Column, Columns, Dims, Cond, Event, Kids⟩ => .agg [(.int .i64 Op), (.int .i64 Num), (.str Name), (.int .i64 Column), (lst 1 (D.int .i64) Columns), (lst 2 encAPick Dims), (.int .i64 Cond.Op), (.int .i64 Cond.Column), (.int .i64 Cond.Code), (.int .i64 Cond.Low), (.int .i64 Cond.High), (lst 6 encACond Cond.Kids), (.int .i64 Event.Op), (.int .i64 Event.Column), (.int .i64 Event.Code), (.int .i64 Event.Low), (.int .i64 Event.High), (lst 6 encACond Event.Kids), (.list 19 (encAExprL Kids))]
def encAExprL : List AExpr → List D
  | [] => []
  | x :: r => encAExpr x :: encAExprL r
end

theorem encAExprL_eq : ∀ l : List AExpr, encAExprL l = l.map encAExpr
  | [] => by simp [encAExprL]
  | x :: r => by simp [encAExprL, encAExprL_eq r]

def opAExpr (x : AExpr) : D := .agg [(.int .i64 x.Op), (.int .i64 x.Num), (.str x.Name), (.int .i64 x.Column), (lst 1 (D.int .i64) x.Columns), (lst 2 encAPick x.Dims), (.int .i64 x.Cond.Op), (.int .i64 x.Cond.Column), (.int .i64 x.Cond.Code), (.int .i64 x.Cond.Low), (.int .i64 x.Cond.High), (lst 6 encACond x.Cond.Kids), (.int .i64 x.Event.Op), (.int .i64 x.Event.Column), (.int .i64 x.Event.Code), (.int .i64 x.Event.Low), (.int .i64 x.Event.High), (lst 6 encACond x.Event.Kids), (lst 19 encAExpr x.Kids)]

theorem eta_AExpr (x : AExpr) : ({ Op := x.Op, Num := x.Num, Name := x.Name, Column := x.Column, Columns := x.Columns, Dims := x.Dims, Cond := x.Cond, Event := x.Event, Kids := x.Kids } : AExpr) = x := by cases x; rfl

theorem encAExpr_op (x : AExpr) : encAExpr x = opAExpr x := by
  obtain ⟨Op, Num, Name, Column, Columns, Dims, Cond, Event, Kids⟩ := x
  simp only [encAExpr, encAExprL_eq]
  rfl

theorem snoc_AExpr (xs : List AExpr) (a0 : Int) (a1 : Int) (a2 : ByteArray) (a3 : Int) (a4 : (List Int)) (a5 : (List APick)) (a6 : Int) (a7 : Int) (a8 : Int) (a9 : Int) (a10 : Int) (a11 : (List ACond)) (a12 : Int) (a13 : Int) (a14 : Int) (a15 : Int) (a16 : Int) (a17 : (List ACond)) (a18 : (List AExpr)) : xs.map encAExpr ++ [D.agg [(.int .i64 a0), (.int .i64 a1), (.str a2), (.int .i64 a3), (D.list 1 (List.map (D.int .i64) a4)), (D.list 2 (List.map encAPick a5)), (.int .i64 a6), (.int .i64 a7), (.int .i64 a8), (.int .i64 a9), (.int .i64 a10), (D.list 6 (List.map encACond a11)), (.int .i64 a12), (.int .i64 a13), (.int .i64 a14), (.int .i64 a15), (.int .i64 a16), (D.list 6 (List.map encACond a17)), (D.list 19 (List.map encAExpr a18))]] = (xs ++ [({ Op := a0, Num := a1, Name := a2, Column := a3, Columns := a4, Dims := a5, Cond := ({ Op := a6, Column := a7, Code := a8, Low := a9, High := a10, Kids := a11 } : ACond), Event := ({ Op := a12, Column := a13, Code := a14, Low := a15, High := a16, Kids := a17 } : ACond), Kids := a18 } : AExpr)]).map encAExpr := by simp [encAExpr_op, opAExpr, lst]

theorem one_AExpr (a0 : Int) (a1 : Int) (a2 : ByteArray) (a3 : Int) (a4 : (List Int)) (a5 : (List APick)) (a6 : Int) (a7 : Int) (a8 : Int) (a9 : Int) (a10 : Int) (a11 : (List ACond)) (a12 : Int) (a13 : Int) (a14 : Int) (a15 : Int) (a16 : Int) (a17 : (List ACond)) (a18 : (List AExpr)) (xs : List AExpr) : [D.agg [(.int .i64 a0), (.int .i64 a1), (.str a2), (.int .i64 a3), (D.list 1 (List.map (D.int .i64) a4)), (D.list 2 (List.map encAPick a5)), (.int .i64 a6), (.int .i64 a7), (.int .i64 a8), (.int .i64 a9), (.int .i64 a10), (D.list 6 (List.map encACond a11)), (.int .i64 a12), (.int .i64 a13), (.int .i64 a14), (.int .i64 a15), (.int .i64 a16), (D.list 6 (List.map encACond a17)), (D.list 19 (List.map encAExpr a18))]] ++ xs.map encAExpr = ([({ Op := a0, Num := a1, Name := a2, Column := a3, Columns := a4, Dims := a5, Cond := ({ Op := a6, Column := a7, Code := a8, Low := a9, High := a10, Kids := a11 } : ACond), Event := ({ Op := a12, Column := a13, Code := a14, Low := a15, High := a16, Kids := a17 } : ACond), Kids := a18 } : AExpr)] ++ xs).map encAExpr := by simp [encAExpr_op, opAExpr, lst]

theorem set_AExpr (xs : List AExpr) (i : Nat) (a0 : Int) (a1 : Int) (a2 : ByteArray) (a3 : Int) (a4 : (List Int)) (a5 : (List APick)) (a6 : Int) (a7 : Int) (a8 : Int) (a9 : Int) (a10 : Int) (a11 : (List ACond)) (a12 : Int) (a13 : Int) (a14 : Int) (a15 : Int) (a16 : Int) (a17 : (List ACond)) (a18 : (List AExpr)) : (xs.map encAExpr).set i (D.agg [(.int .i64 a0), (.int .i64 a1), (.str a2), (.int .i64 a3), (D.list 1 (List.map (D.int .i64) a4)), (D.list 2 (List.map encAPick a5)), (.int .i64 a6), (.int .i64 a7), (.int .i64 a8), (.int .i64 a9), (.int .i64 a10), (D.list 6 (List.map encACond a11)), (.int .i64 a12), (.int .i64 a13), (.int .i64 a14), (.int .i64 a15), (.int .i64 a16), (D.list 6 (List.map encACond a17)), (D.list 19 (List.map encAExpr a18))]) = (xs.set i ({ Op := a0, Num := a1, Name := a2, Column := a3, Columns := a4, Dims := a5, Cond := ({ Op := a6, Column := a7, Code := a8, Low := a9, High := a10, Kids := a11 } : ACond), Event := ({ Op := a12, Column := a13, Code := a14, Low := a15, High := a16, Kids := a17 } : ACond), Kids := a18 } : AExpr)).map encAExpr := by rw [List.map_set]; simp [encAExpr_op, opAExpr, lst]

def encAColumn (x : AColumn) : D := .agg [(.str x.Name), (.int .i64 x.Kind), (.int .i64 x.List_), (.int .i64 x.Low), (.int .i64 x.High), (lst 1 (D.int .i64) x.Widths), (.bool x.Optional)]

theorem snoc_AColumn (xs : List AColumn) (a0 : ByteArray) (a1 : Int) (a2 : Int) (a3 : Int) (a4 : Int) (a5 : (List Int)) (a6 : Bool) : xs.map encAColumn ++ [D.agg [(.str a0), (.int .i64 a1), (.int .i64 a2), (.int .i64 a3), (.int .i64 a4), (D.list 1 (List.map (D.int .i64) a5)), (.bool a6)]] = (xs ++ [({ Name := a0, Kind := a1, List_ := a2, Low := a3, High := a4, Widths := a5, Optional := a6 } : AColumn)]).map encAColumn := by simp [encAColumn, lst]

theorem one_AColumn (a0 : ByteArray) (a1 : Int) (a2 : Int) (a3 : Int) (a4 : Int) (a5 : (List Int)) (a6 : Bool) (xs : List AColumn) : [D.agg [(.str a0), (.int .i64 a1), (.int .i64 a2), (.int .i64 a3), (.int .i64 a4), (D.list 1 (List.map (D.int .i64) a5)), (.bool a6)]] ++ xs.map encAColumn = ([({ Name := a0, Kind := a1, List_ := a2, Low := a3, High := a4, Widths := a5, Optional := a6 } : AColumn)] ++ xs).map encAColumn := by simp [encAColumn, lst]

theorem set_AColumn (xs : List AColumn) (i : Nat) (a0 : ByteArray) (a1 : Int) (a2 : Int) (a3 : Int) (a4 : Int) (a5 : (List Int)) (a6 : Bool) : (xs.map encAColumn).set i (D.agg [(.str a0), (.int .i64 a1), (.int .i64 a2), (.int .i64 a3), (.int .i64 a4), (D.list 1 (List.map (D.int .i64) a5)), (.bool a6)]) = (xs.set i ({ Name := a0, Kind := a1, List_ := a2, Low := a3, High := a4, Widths := a5, Optional := a6 } : AColumn)).map encAColumn := by rw [List.map_set]; rfl

def encDrawCodes (x : DrawCodes) : D := .agg [(lst 1 (D.int .u8) x.f_l), (.int .i64 x.f_at)]

theorem snoc_DrawCodes (xs : List DrawCodes) (a0 : (List Int)) (a1 : Int) : xs.map encDrawCodes ++ [D.agg [(D.list 1 (List.map (D.int .u8) a0)), (.int .i64 a1)]] = (xs ++ [({ f_l := a0, f_at := a1 } : DrawCodes)]).map encDrawCodes := by simp [encDrawCodes, lst]

theorem one_DrawCodes (a0 : (List Int)) (a1 : Int) (xs : List DrawCodes) : [D.agg [(D.list 1 (List.map (D.int .u8) a0)), (.int .i64 a1)]] ++ xs.map encDrawCodes = ([({ f_l := a0, f_at := a1 } : DrawCodes)] ++ xs).map encDrawCodes := by simp [encDrawCodes, lst]

theorem set_DrawCodes (xs : List DrawCodes) (i : Nat) (a0 : (List Int)) (a1 : Int) : (xs.map encDrawCodes).set i (D.agg [(D.list 1 (List.map (D.int .u8) a0)), (.int .i64 a1)]) = (xs.set i ({ f_l := a0, f_at := a1 } : DrawCodes)).map encDrawCodes := by rw [List.map_set]; rfl

def encASchema (x : ASchema) : D := .agg [(lst 2 encACodeList x.Lists), (lst 7 encAColumn x.Columns)]

theorem snoc_ASchema (xs : List ASchema) (a0 : (List ACodeList)) (a1 : (List AColumn)) : xs.map encASchema ++ [D.agg [(D.list 2 (List.map encACodeList a0)), (D.list 7 (List.map encAColumn a1))]] = (xs ++ [({ Lists := a0, Columns := a1 } : ASchema)]).map encASchema := by simp [encASchema, lst]

theorem one_ASchema (a0 : (List ACodeList)) (a1 : (List AColumn)) (xs : List ASchema) : [D.agg [(D.list 2 (List.map encACodeList a0)), (D.list 7 (List.map encAColumn a1))]] ++ xs.map encASchema = ([({ Lists := a0, Columns := a1 } : ASchema)] ++ xs).map encASchema := by simp [encASchema, lst]

theorem set_ASchema (xs : List ASchema) (i : Nat) (a0 : (List ACodeList)) (a1 : (List AColumn)) : (xs.map encASchema).set i (D.agg [(D.list 2 (List.map encACodeList a0)), (D.list 7 (List.map encAColumn a1))]) = (xs.set i ({ Lists := a0, Columns := a1 } : ASchema)).map encASchema := by rw [List.map_set]; rfl

def encASource (x : ASource) : D := .agg [(lst 2 encACodeList x.Schema.Lists), (lst 7 encAColumn x.Schema.Columns), (lst 1 (lst 1 (D.int .i64)) x.Rows), (lst 1 (D.int .i64) x.Gone), (.int .i64 x.Version)]

theorem snoc_ASource (xs : List ASource) (a0 : (List ACodeList)) (a1 : (List AColumn)) (a2 : (List (List Int))) (a3 : (List Int)) (a4 : Int) : xs.map encASource ++ [D.agg [(D.list 2 (List.map encACodeList a0)), (D.list 7 (List.map encAColumn a1)), (D.list 1 (List.map (lst 1 (D.int .i64)) a2)), (D.list 1 (List.map (D.int .i64) a3)), (.int .i64 a4)]] = (xs ++ [({ Schema := ({ Lists := a0, Columns := a1 } : ASchema), Rows := a2, Gone := a3, Version := a4 } : ASource)]).map encASource := by simp [encASource, lst]

theorem one_ASource (a0 : (List ACodeList)) (a1 : (List AColumn)) (a2 : (List (List Int))) (a3 : (List Int)) (a4 : Int) (xs : List ASource) : [D.agg [(D.list 2 (List.map encACodeList a0)), (D.list 7 (List.map encAColumn a1)), (D.list 1 (List.map (lst 1 (D.int .i64)) a2)), (D.list 1 (List.map (D.int .i64) a3)), (.int .i64 a4)]] ++ xs.map encASource = ([({ Schema := ({ Lists := a0, Columns := a1 } : ASchema), Rows := a2, Gone := a3, Version := a4 } : ASource)] ++ xs).map encASource := by simp [encASource, lst]

theorem set_ASource (xs : List ASource) (i : Nat) (a0 : (List ACodeList)) (a1 : (List AColumn)) (a2 : (List (List Int))) (a3 : (List Int)) (a4 : Int) : (xs.map encASource).set i (D.agg [(D.list 2 (List.map encACodeList a0)), (D.list 7 (List.map encAColumn a1)), (D.list 1 (List.map (lst 1 (D.int .i64)) a2)), (D.list 1 (List.map (D.int .i64) a3)), (.int .i64 a4)]) = (xs.set i ({ Schema := ({ Lists := a0, Columns := a1 } : ASchema), Rows := a2, Gone := a3, Version := a4 } : ASource)).map encASource := by rw [List.map_set]; rfl

def encASample (x : ASample) : D := .agg [(.int .i64 x.Part), (.int .i64 x.Of), (.int .i64 x.Seed)]

theorem snoc_ASample (xs : List ASample) (a0 : Int) (a1 : Int) (a2 : Int) : xs.map encASample ++ [D.agg [(.int .i64 a0), (.int .i64 a1), (.int .i64 a2)]] = (xs ++ [({ Part := a0, Of := a1, Seed := a2 } : ASample)]).map encASample := by simp [encASample, lst]

theorem one_ASample (a0 : Int) (a1 : Int) (a2 : Int) (xs : List ASample) : [D.agg [(.int .i64 a0), (.int .i64 a1), (.int .i64 a2)]] ++ xs.map encASample = ([({ Part := a0, Of := a1, Seed := a2 } : ASample)] ++ xs).map encASample := by simp [encASample, lst]

theorem set_ASample (xs : List ASample) (i : Nat) (a0 : Int) (a1 : Int) (a2 : Int) : (xs.map encASample).set i (D.agg [(.int .i64 a0), (.int .i64 a1), (.int .i64 a2)]) = (xs.set i ({ Part := a0, Of := a1, Seed := a2 } : ASample)).map encASample := by rw [List.map_set]; rfl

def encAQuestion (x : AQuestion) : D := .agg [(.str x.Name), (.int .i64 x.Kind), (.int .i64 x.Filter.Op), (.int .i64 x.Filter.Column), (.int .i64 x.Filter.Code), (.int .i64 x.Filter.Low), (.int .i64 x.Filter.High), (lst 6 encACond x.Filter.Kids), (lst 2 encAPick x.Dims), (.int .i64 x.Measure), (lst 1 (D.int .i64) x.Terms), (.int .i64 x.Event.Op), (.int .i64 x.Event.Column), (.int .i64 x.Event.Code), (.int .i64 x.Event.Low), (.int .i64 x.Event.High), (lst 6 encACond x.Event.Kids)]

theorem snoc_AQuestion (xs : List AQuestion) (a0 : ByteArray) (a1 : Int) (a2 : Int) (a3 : Int) (a4 : Int) (a5 : Int) (a6 : Int) (a7 : (List ACond)) (a8 : (List APick)) (a9 : Int) (a10 : (List Int)) (a11 : Int) (a12 : Int) (a13 : Int) (a14 : Int) (a15 : Int) (a16 : (List ACond)) : xs.map encAQuestion ++ [D.agg [(.str a0), (.int .i64 a1), (.int .i64 a2), (.int .i64 a3), (.int .i64 a4), (.int .i64 a5), (.int .i64 a6), (D.list 6 (List.map encACond a7)), (D.list 2 (List.map encAPick a8)), (.int .i64 a9), (D.list 1 (List.map (D.int .i64) a10)), (.int .i64 a11), (.int .i64 a12), (.int .i64 a13), (.int .i64 a14), (.int .i64 a15), (D.list 6 (List.map encACond a16))]] = (xs ++ [({ Name := a0, Kind := a1, Filter := ({ Op := a2, Column := a3, Code := a4, Low := a5, High := a6, Kids := a7 } : ACond), Dims := a8, Measure := a9, Terms := a10, Event := ({ Op := a11, Column := a12, Code := a13, Low := a14, High := a15, Kids := a16 } : ACond) } : AQuestion)]).map encAQuestion := by simp [encAQuestion, lst]

theorem one_AQuestion (a0 : ByteArray) (a1 : Int) (a2 : Int) (a3 : Int) (a4 : Int) (a5 : Int) (a6 : Int) (a7 : (List ACond)) (a8 : (List APick)) (a9 : Int) (a10 : (List Int)) (a11 : Int) (a12 : Int) (a13 : Int) (a14 : Int) (a15 : Int) (a16 : (List ACond)) (xs : List AQuestion) : [D.agg [(.str a0), (.int .i64 a1), (.int .i64 a2), (.int .i64 a3), (.int .i64 a4), (.int .i64 a5), (.int .i64 a6), (D.list 6 (List.map encACond a7)), (D.list 2 (List.map encAPick a8)), (.int .i64 a9), (D.list 1 (List.map (D.int .i64) a10)), (.int .i64 a11), (.int .i64 a12), (.int .i64 a13), (.int .i64 a14), (.int .i64 a15), (D.list 6 (List.map encACond a16))]] ++ xs.map encAQuestion = ([({ Name := a0, Kind := a1, Filter := ({ Op := a2, Column := a3, Code := a4, Low := a5, High := a6, Kids := a7 } : ACond), Dims := a8, Measure := a9, Terms := a10, Event := ({ Op := a11, Column := a12, Code := a13, Low := a14, High := a15, Kids := a16 } : ACond) } : AQuestion)] ++ xs).map encAQuestion := by simp [encAQuestion, lst]

theorem set_AQuestion (xs : List AQuestion) (i : Nat) (a0 : ByteArray) (a1 : Int) (a2 : Int) (a3 : Int) (a4 : Int) (a5 : Int) (a6 : Int) (a7 : (List ACond)) (a8 : (List APick)) (a9 : Int) (a10 : (List Int)) (a11 : Int) (a12 : Int) (a13 : Int) (a14 : Int) (a15 : Int) (a16 : (List ACond)) : (xs.map encAQuestion).set i (D.agg [(.str a0), (.int .i64 a1), (.int .i64 a2), (.int .i64 a3), (.int .i64 a4), (.int .i64 a5), (.int .i64 a6), (D.list 6 (List.map encACond a7)), (D.list 2 (List.map encAPick a8)), (.int .i64 a9), (D.list 1 (List.map (D.int .i64) a10)), (.int .i64 a11), (.int .i64 a12), (.int .i64 a13), (.int .i64 a14), (.int .i64 a15), (D.list 6 (List.map encACond a16))]) = (xs.set i ({ Name := a0, Kind := a1, Filter := ({ Op := a2, Column := a3, Code := a4, Low := a5, High := a6, Kids := a7 } : ACond), Dims := a8, Measure := a9, Terms := a10, Event := ({ Op := a11, Column := a12, Code := a13, Low := a14, High := a15, Kids := a16 } : ACond) } : AQuestion)).map encAQuestion := by rw [List.map_set]; rfl

def encADeclaration (x : ADeclaration) : D := .agg [(.str x.Project), (.str x.Source), (.int .i64 x.Cohort.Op), (.int .i64 x.Cohort.Column), (.int .i64 x.Cohort.Code), (.int .i64 x.Cohort.Low), (.int .i64 x.Cohort.High), (lst 6 encACond x.Cohort.Kids), (.int .i64 x.Sample.Part), (.int .i64 x.Sample.Of), (.int .i64 x.Sample.Seed), (lst 17 encAQuestion x.Questions)]

theorem snoc_ADeclaration (xs : List ADeclaration) (a0 : ByteArray) (a1 : ByteArray) (a2 : Int) (a3 : Int) (a4 : Int) (a5 : Int) (a6 : Int) (a7 : (List ACond)) (a8 : Int) (a9 : Int) (a10 : Int) (a11 : (List AQuestion)) : xs.map encADeclaration ++ [D.agg [(.str a0), (.str a1), (.int .i64 a2), (.int .i64 a3), (.int .i64 a4), (.int .i64 a5), (.int .i64 a6), (D.list 6 (List.map encACond a7)), (.int .i64 a8), (.int .i64 a9), (.int .i64 a10), (D.list 17 (List.map encAQuestion a11))]] = (xs ++ [({ Project := a0, Source := a1, Cohort := ({ Op := a2, Column := a3, Code := a4, Low := a5, High := a6, Kids := a7 } : ACond), Sample := ({ Part := a8, Of := a9, Seed := a10 } : ASample), Questions := a11 } : ADeclaration)]).map encADeclaration := by simp [encADeclaration, lst]

theorem one_ADeclaration (a0 : ByteArray) (a1 : ByteArray) (a2 : Int) (a3 : Int) (a4 : Int) (a5 : Int) (a6 : Int) (a7 : (List ACond)) (a8 : Int) (a9 : Int) (a10 : Int) (a11 : (List AQuestion)) (xs : List ADeclaration) : [D.agg [(.str a0), (.str a1), (.int .i64 a2), (.int .i64 a3), (.int .i64 a4), (.int .i64 a5), (.int .i64 a6), (D.list 6 (List.map encACond a7)), (.int .i64 a8), (.int .i64 a9), (.int .i64 a10), (D.list 17 (List.map encAQuestion a11))]] ++ xs.map encADeclaration = ([({ Project := a0, Source := a1, Cohort := ({ Op := a2, Column := a3, Code := a4, Low := a5, High := a6, Kids := a7 } : ACond), Sample := ({ Part := a8, Of := a9, Seed := a10 } : ASample), Questions := a11 } : ADeclaration)] ++ xs).map encADeclaration := by simp [encADeclaration, lst]

theorem set_ADeclaration (xs : List ADeclaration) (i : Nat) (a0 : ByteArray) (a1 : ByteArray) (a2 : Int) (a3 : Int) (a4 : Int) (a5 : Int) (a6 : Int) (a7 : (List ACond)) (a8 : Int) (a9 : Int) (a10 : Int) (a11 : (List AQuestion)) : (xs.map encADeclaration).set i (D.agg [(.str a0), (.str a1), (.int .i64 a2), (.int .i64 a3), (.int .i64 a4), (.int .i64 a5), (.int .i64 a6), (D.list 6 (List.map encACond a7)), (.int .i64 a8), (.int .i64 a9), (.int .i64 a10), (D.list 17 (List.map encAQuestion a11))]) = (xs.set i ({ Project := a0, Source := a1, Cohort := ({ Op := a2, Column := a3, Code := a4, Low := a5, High := a6, Kids := a7 } : ACond), Sample := ({ Part := a8, Of := a9, Seed := a10 } : ASample), Questions := a11 } : ADeclaration)).map encADeclaration := by rw [List.map_set]; rfl

def encAExtract (x : AExtract) : D := .agg [(.str x.Project), (.int .i64 x.Version), (lst 2 encAPick x.Picks), (lst 1 (lst 1 (D.int .i64)) x.Rows)]

theorem snoc_AExtract (xs : List AExtract) (a0 : ByteArray) (a1 : Int) (a2 : (List APick)) (a3 : (List (List Int))) : xs.map encAExtract ++ [D.agg [(.str a0), (.int .i64 a1), (D.list 2 (List.map encAPick a2)), (D.list 1 (List.map (lst 1 (D.int .i64)) a3))]] = (xs ++ [({ Project := a0, Version := a1, Picks := a2, Rows := a3 } : AExtract)]).map encAExtract := by simp [encAExtract, lst]

theorem one_AExtract (a0 : ByteArray) (a1 : Int) (a2 : (List APick)) (a3 : (List (List Int))) (xs : List AExtract) : [D.agg [(.str a0), (.int .i64 a1), (D.list 2 (List.map encAPick a2)), (D.list 1 (List.map (lst 1 (D.int .i64)) a3))]] ++ xs.map encAExtract = ([({ Project := a0, Version := a1, Picks := a2, Rows := a3 } : AExtract)] ++ xs).map encAExtract := by simp [encAExtract, lst]

theorem set_AExtract (xs : List AExtract) (i : Nat) (a0 : ByteArray) (a1 : Int) (a2 : (List APick)) (a3 : (List (List Int))) : (xs.map encAExtract).set i (D.agg [(.str a0), (.int .i64 a1), (D.list 2 (List.map encAPick a2)), (D.list 1 (List.map (lst 1 (D.int .i64)) a3))]) = (xs.set i ({ Project := a0, Version := a1, Picks := a2, Rows := a3 } : AExtract)).map encAExtract := by rw [List.map_set]; rfl

def encProgramuses (x : Programuses) : D := .agg [(.bool x.f_num), (.bool x.f_name), (.bool x.f_column), (.bool x.f_columns), (.bool x.f_dims), (.bool x.f_cond), (.bool x.f_event)]

theorem snoc_Programuses (xs : List Programuses) (a0 : Bool) (a1 : Bool) (a2 : Bool) (a3 : Bool) (a4 : Bool) (a5 : Bool) (a6 : Bool) : xs.map encProgramuses ++ [D.agg [(.bool a0), (.bool a1), (.bool a2), (.bool a3), (.bool a4), (.bool a5), (.bool a6)]] = (xs ++ [({ f_num := a0, f_name := a1, f_column := a2, f_columns := a3, f_dims := a4, f_cond := a5, f_event := a6 } : Programuses)]).map encProgramuses := by simp [encProgramuses, lst]

theorem one_Programuses (a0 : Bool) (a1 : Bool) (a2 : Bool) (a3 : Bool) (a4 : Bool) (a5 : Bool) (a6 : Bool) (xs : List Programuses) : [D.agg [(.bool a0), (.bool a1), (.bool a2), (.bool a3), (.bool a4), (.bool a5), (.bool a6)]] ++ xs.map encProgramuses = ([({ f_num := a0, f_name := a1, f_column := a2, f_columns := a3, f_dims := a4, f_cond := a5, f_event := a6 } : Programuses)] ++ xs).map encProgramuses := by simp [encProgramuses, lst]

theorem set_Programuses (xs : List Programuses) (i : Nat) (a0 : Bool) (a1 : Bool) (a2 : Bool) (a3 : Bool) (a4 : Bool) (a5 : Bool) (a6 : Bool) : (xs.map encProgramuses).set i (D.agg [(.bool a0), (.bool a1), (.bool a2), (.bool a3), (.bool a4), (.bool a5), (.bool a6)]) = (xs.set i ({ f_num := a0, f_name := a1, f_column := a2, f_columns := a3, f_dims := a4, f_cond := a5, f_event := a6 } : Programuses)).map encProgramuses := by rw [List.map_set]; rfl

def encABin (x : ABin) : D := .agg [(.int .i64 x.Low), (.int .i64 x.Count)]

theorem snoc_ABin (xs : List ABin) (a0 : Int) (a1 : Int) : xs.map encABin ++ [D.agg [(.int .i64 a0), (.int .i64 a1)]] = (xs ++ [({ Low := a0, Count := a1 } : ABin)]).map encABin := by simp [encABin, lst]

theorem one_ABin (a0 : Int) (a1 : Int) (xs : List ABin) : [D.agg [(.int .i64 a0), (.int .i64 a1)]] ++ xs.map encABin = ([({ Low := a0, Count := a1 } : ABin)] ++ xs).map encABin := by simp [encABin, lst]

theorem set_ABin (xs : List ABin) (i : Nat) (a0 : Int) (a1 : Int) : (xs.map encABin).set i (D.agg [(.int .i64 a0), (.int .i64 a1)]) = (xs.set i ({ Low := a0, Count := a1 } : ABin)).map encABin := by rw [List.map_set]; rfl

def encABox (x : ABox) : D := .agg [(.int .i64 x.Count), (.int .i64 x.Least), (.int .i64 x.Lower), (.int .i64 x.Middle), (.int .i64 x.Upper), (.int .i64 x.Greatest)]

theorem snoc_ABox (xs : List ABox) (a0 : Int) (a1 : Int) (a2 : Int) (a3 : Int) (a4 : Int) (a5 : Int) : xs.map encABox ++ [D.agg [(.int .i64 a0), (.int .i64 a1), (.int .i64 a2), (.int .i64 a3), (.int .i64 a4), (.int .i64 a5)]] = (xs ++ [({ Count := a0, Least := a1, Lower := a2, Middle := a3, Upper := a4, Greatest := a5 } : ABox)]).map encABox := by simp [encABox, lst]

theorem one_ABox (a0 : Int) (a1 : Int) (a2 : Int) (a3 : Int) (a4 : Int) (a5 : Int) (xs : List ABox) : [D.agg [(.int .i64 a0), (.int .i64 a1), (.int .i64 a2), (.int .i64 a3), (.int .i64 a4), (.int .i64 a5)]] ++ xs.map encABox = ([({ Count := a0, Least := a1, Lower := a2, Middle := a3, Upper := a4, Greatest := a5 } : ABox)] ++ xs).map encABox := by simp [encABox, lst]

theorem set_ABox (xs : List ABox) (i : Nat) (a0 : Int) (a1 : Int) (a2 : Int) (a3 : Int) (a4 : Int) (a5 : Int) : (xs.map encABox).set i (D.agg [(.int .i64 a0), (.int .i64 a1), (.int .i64 a2), (.int .i64 a3), (.int .i64 a4), (.int .i64 a5)]) = (xs.set i ({ Count := a0, Least := a1, Lower := a2, Middle := a3, Upper := a4, Greatest := a5 } : ABox)).map encABox := by rw [List.map_set]; rfl
end Go.Proofs.YtejfnieiaecpkaaGreatDoor.P
