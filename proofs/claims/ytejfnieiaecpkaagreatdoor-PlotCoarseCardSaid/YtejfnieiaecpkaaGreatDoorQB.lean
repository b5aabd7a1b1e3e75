/-
  Plain laws, joined by wip/tools/coarse.sh from wip/tpl/XQ5 .. XQ8.
-/
import Derived.Test.YtejfnieiaecpkaaGreatDoorQA
set_option linter.unusedVariables false
set_option linter.unusedSimpArgs false

/-
  Plain laws: the extract of a drawn source with all rows and columns.
-/
namespace Go.Proofs.YtejfnieiaecpkaaGreatDoor.P
open Go Go.Abs Go.Proofs
set_option maxRecDepth 100000
variable {s : ASchema}

/-- How deep recursion may go. -/
abbrev DD : Nat := 60
def allC : ACond := { Op := 1, Column := 0, Code := 0, Low := 0, High := 0, Kids := [] }
def zeroC : ACond := { Op := 0, Column := 0, Code := 0, Low := 0, High := 0, Kids := [] }
theorem DS.rcond_all (h : DS s) : ref05_Check DD s allC = some 0 := by unfold ref05_Check; rw [h.rcheck]; rfl

/-! ### The finest level -/
def finL (s : ASchema) (c : AColumn) : Int := if c.Kind = 2 then levV ((idx s.Lists c.List_).getD { Name := oneN, Codes := [] }) - 1 else c.Widths.length
def fin (s : ASchema) (i : Nat) : Int := finL s (s.Columns[i]?.getD who)
theorem fin_eq {i : Nat} (hi : i < s.Columns.length) : fin s i = finL s s.Columns[i] := by unfold fin; rw [List.getElem?_eq_getElem hi]; rfl
theorem widths_length {c : AColumn} (h : Meas c) : 1 ≤ c.Widths.length ∧ c.Widths.length ≤ 4 := by rcases mem4 h.widths with e | e | e | e <;> (rw [e]; decide)
theorem finL_code {c : AColumn} (h : CodeC c) {L : ACodeList} (hL : idx s.Lists c.List_ = some L) : finL s c = levV L - 1 := by unfold finL; rw [if_pos h.kind, hL]; rfl
theorem finL_meas {c : AColumn} (h : Meas c) : finL s c = c.Widths.length := by unfold finL; rw [if_neg (by rw [h.kind]; decide)]
theorem DS.fin_ok (h : DS s) {i : Nat} (h0 : 1 ≤ i) (hi : i < s.Columns.length) : 1 ≤ fin s i ∧ fin s i ≤ 4 := by
  rw [fin_eq hi]
  rcases h.col h0 hi with h1 | h1
  · obtain ⟨L, hL, hL2⟩ := h.clist h1
    have := cl_of hL
    rw [finL_code h1 hL2]
    have := this.lev2; have := (cl_of hL).lev3
    omega
  · have := widths_length h1
    rw [finL_meas h1]
    omega
theorem DS.rfinest (h : DS s) {i : Nat} (h0 : 1 ≤ i) (hi : i < s.Columns.length) : ref02_Finest s i = some (fin s i) := by
  have hc := h.cols_length
  unfold ref02_Finest
  rw [h.rcheck, Option.bind_some, decide_eq_false (by omega), decide_eq_false (by omega)]
  show (idx s.Columns (i : Int)).bind _ = _
  rw [idx_nat hi, Option.bind_some, fin_eq hi]
  rcases h.col h0 hi with h1 | h1
  · obtain ⟨L, hL, hL2⟩ := h.clist h1
    have := cl_of hL
    have h2 := this.lev2; have h3 := this.lev3
    rw [h1.kind, finL_code h1 hL2]
    show (idx s.Lists _).bind _ = _
    rw [hL2, Option.bind_some, this.rlev, Option.bind_some, wr (by omega) (by omega)]
  · rw [h1.kind, finL_meas h1]; rfl
theorem DS.pfinest (h : DS s) {i : Nat} (h0 : 1 ≤ i) (hi : i < s.Columns.length) : schema_finest s i = some (fin s i) := by
  have hc := h.cols_length
  unfold schema_finest
  rw [decide_eq_false (by omega), decide_eq_false (by omega)]
  show (idx s.Columns (i : Int)).bind _ = _
  rw [idx_nat hi, Option.bind_some, fin_eq hi]
  rcases h.col h0 hi with h1 | h1
  · obtain ⟨L, hL, hL2⟩ := h.clist h1
    have := cl_of hL
    have h2 := this.lev2; have h3 := this.lev3
    rw [h1.kind, finL_code h1 hL2]
    show (idx s.Lists _).bind _ = _
    rw [hL2, Option.bind_some, this.lev, Option.bind_some, wr (by omega) (by omega)]
  · rw [h1.kind, finL_meas h1]; rfl
theorem DS.pFinest (h : DS s) {i : Nat} (h0 : 1 ≤ i) (hi : i < s.Columns.length) : schema_Finest s i = some (fin s i) := by
  unfold schema_Finest
  rw [h.check, Option.bind_some, h.pfinest h0 hi]
  rfl

/-! ### The declaration of all rows -/
def qAll : AQuestion := { Name := ({ data := #[113] } : ByteArray), Kind := 1, Filter := allC, Dims := [({ Column := 1, Level := 0 } : APick)], Measure := (-1), Terms := [], Event := zeroC }
def dAll : ADeclaration := { Project := ({ data := #[97, 108, 108, 95, 114, 111, 119, 115] } : ByteArray), Source := ({ data := #[115, 114, 99] } : ByteArray), Cohort := allC, Sample := ({ Part := 1, Of := 1, Seed := 0 } : ASample), Questions := [qAll] }
def allPicks (s : ASchema) : List APick := (List.range (s.Columns.length - 1)).map fun k => { Column := ((k + 1 : Nat) : Int), Level := fin s (k + 1) }
theorem all_ok (h : DS s) : draw_All s = some (dAll, allPicks s) := by
  have hc := h.cols_length
  refine Ok.val ?_
  unfold draw_All
  refine Ok.for (fun q => q.1) s.Columns.length (fun i q => 1 ≤ i ∧ q.2 = (List.range (i - 1)).map fun k => { Column := ((k + 1 : Nat) : Int), Level := fin s (k + 1) }) 1 (by omega) rfl ⟨by omega, rfl⟩ (by omega) (fun rec q hq hI => ?_) fun rec i q hi hq hI ih => ?_
  · simp only [draw_All_b1, hq]
    rw [bif_f (by omega), hI.2]
    exact Ok.some rfl
  · obtain ⟨h0, hI⟩ := hI
    simp only [draw_All_b1, hq]
    rw [bif_t (by omega)]
    refine Ok.bindE (h.rfinest h0 hi) (Ok.rm (by rw [hI]; simp; omega) (ih _ (inc (by omega)) ⟨by omega, ?_⟩))
    show q.2 ++ [_] = _
    rw [hI]
    obtain ⟨j, rfl⟩ : ∃ j, i = j + 1 := ⟨i - 1, by omega⟩
    simp [List.range_succ]
theorem rpick {p : APick} (h : DS s) {i : Nat} (h0 : 1 ≤ i) (hi : i < s.Columns.length) (hp : p.Column = i) (hl : 0 ≤ p.Level) (hl2 : p.Level ≤ fin s i) : ref02_Pick s p = some 0 := by
  unfold ref02_Pick
  rw [h.rcheck, Option.bind_some, hp, decide_eq_false (by omega), decide_eq_false (by omega)]
  show (ref02_Finest s (i : Int)).bind _ = _
  rw [h.rfinest h0 hi, Option.bind_some, in_eq, Option.bind_some, decide_eq_true ⟨hl, hl2⟩]
  rfl
theorem allPicks_get {k : Nat} (hk : k < (allPicks s).length) : (allPicks s)[k] = { Column := ((k + 1 : Nat) : Int), Level := fin s (k + 1) } := by simp [allPicks]
theorem allPicks_length : (allPicks s).length = s.Columns.length - 1 := by simp [allPicks]
theorem rpicks_all (h : DS s) : ref02_Picks s (allPicks s) = some 0 := by
  have hc := h.cols_length
  have hl := allPicks_length (s := s)
  refine Ok.val ?_
  unfold ref02_Picks
  refine Ok.bindE h.rcheck (Ok.no rfl ?_)
  refine Ok.for (fun q => q) (allPicks s).length (fun _ _ => True) 0 (Nat.zero_le _) rfl trivial (by omega) (fun rec q hq _ => ?_) fun rec i q hi hq _ ih => ?_
  · simp only [ref02_Picks_b1, hq]
    rw [bif_f (by omega)]
    exact Ok.some rfl
  · simp only [ref02_Picks_b1, hq]
    rw [bif_t (by omega)]
    have hf := h.fin_ok (i := i + 1) (by omega) (by omega)
    refine Ok.idxn hi (Ok.bindE (rpick h (i := i + 1) (by omega) (by omega) (by rw [allPicks_get hi]) (by rw [allPicks_get hi]; show 0 ≤ fin s (i + 1); omega) (by rw [allPicks_get hi]; exact Int.le_refl _)) (Ok.no rfl (Ok.brd (fun h1 => Ok.idxn hi ?_) fun _ => ih _ (inc (by omega)) trivial)))
    have e : IntKind.i64.wrap ((i : Int) - 1) = ((i - 1 : Nat) : Int) := by rw [wr (by omega) (by omega)]; omega
    rw [e]
    refine Ok.idxn (by omega : i - 1 < (allPicks s).length) (Ok.brd (fun h2 => ?_) fun _ => ih _ (inc (by omega)) trivial)
    rw [allPicks_get hi, allPicks_get (by omega : i - 1 < (allPicks s).length)] at h2
    simp only at h2
    omega
theorem rdims (h : DS s) : ref08_Dims s [({ Column := 1, Level := 0 } : APick)] = some 0 := by
  have hc := h.cols_length
  have hf := h.fin_ok (i := 1) (by omega) (by omega)
  have hk : s.Columns[1].Kind = 2 := by
    obtain ⟨j, ms, e, _⟩ := h.cols
    have : s.Columns[1]? = some sex := by rw [e]; cases j <;> rfl
    rw [List.getElem?_eq_getElem (by omega)] at this
    rw [Option.some.inj this]; rfl
  refine Ok.val ?_
  unfold ref08_Dims
  refine Ok.no rfl ?_
  refine Ok.for (fun q => q) 1 (fun _ _ => True) 0 (Nat.zero_le _) rfl trivial (by omega) (fun rec q hq _ => ?_) fun rec i q hi hq _ ih => ?_
  · simp only [ref08_Dims_b1, hq]
    exact Ok.no rfl (Ok.some rfl)
  · obtain rfl : i = 0 := by omega
    simp only [ref08_Dims_b1, hq]
    refine Ok.yes rfl (Ok.bindE (x := ({ Column := 1, Level := 0 } : APick)) rfl (Ok.bindE (rpick h (i := 1) (by omega) (by omega) rfl (by show (0 : Int) ≤ 0; omega) (by show (0 : Int) ≤ fin s 1; omega)) (Ok.no rfl (Ok.bindE (x := ({ Column := 1, Level := 0 } : APick)) rfl (Ok.bindE (x := true) ?_ (Ok.no rfl ?_))))))
    · unfold ref08_Is
      rw [decide_eq_true (by decide), decide_eq_true (by show (1 : Int) < _; omega)]
      show (idx s.Columns ((1 : Nat) : Int)).bind _ = _
      rw [idx_nat (by omega : 1 < s.Columns.length), Option.bind_some, hk]
      rfl
    · refine Ok.for (fun q => q) 0 (fun _ _ => True) 0 (Nat.zero_le _) rfl trivial (by omega) (fun rec q hq _ => ?_) fun rec i q hi hq _ ih => absurd hi (by omega)
      simp only [ref08_Dims_b2, hq]
      exact Ok.no rfl (ih _ rfl trivial)
theorem rquestion (h : DS s) : ref08_Question DD s qAll = some 0 := by
  refine Ok.val ?_
  unfold ref08_Question
  refine Ok.bindE h.rcheck (Ok.no rfl (Ok.bindE (x := true) (by decide +kernel) (Ok.no rfl (Ok.no rfl (Ok.bindE h.rcond_all (Ok.no rfl (Ok.bindE (x := 0) ?_ (Ok.no rfl (Ok.no rfl (Ok.yes rfl (Ok.bindE (x := true) rfl (Ok.no rfl (Ok.some rfl)))))))))))))
  unfold ref08_parts
  refine Ok.val (Ok.bindE (x := false) ?_ (Ok.yes rfl (Ok.bindE (rdims h) (Ok.no rfl (Ok.no rfl (Ok.some rfl))))))
  unfold ref08_Is
  rfl
theorem rdeclaration (h : DS s) : ref08_Check DD s dAll = some 0 := by
  refine Ok.val ?_
  unfold ref08_Check
  refine Ok.bindE h.rcheck (Ok.no rfl (Ok.bindE (x := true) (by decide +kernel) (Ok.no rfl (Ok.bindE (x := true) (by decide +kernel) (Ok.no rfl ?_)))))
  unfold ref08_Check_j1
  refine Ok.bindE h.rcond_all (Ok.no rfl (Ok.no rfl (Ok.no rfl ?_)))
  refine Ok.for (fun q => q) 1 (fun _ _ => True) 0 (Nat.zero_le _) rfl trivial (by omega) (fun rec q hq _ => ?_) fun rec i q hi hq _ ih => ?_
  · simp only [ref08_Check_b1, hq]
    exact Ok.no rfl (Ok.some rfl)
  · obtain rfl : i = 0 := by omega
    simp only [ref08_Check_b1, hq]
    refine Ok.yes rfl (Ok.bindE (x := qAll) rfl (Ok.bindE (rquestion h) (Ok.no rfl ?_)))
    refine Ok.for (fun q => q) 0 (fun _ _ => True) 0 (Nat.zero_le _) rfl trivial (by omega) (fun rec q hq _ => ?_) fun rec i q hi hq _ ih => absurd hi (by omega)
    simp only [ref08_Check_b2, hq]
    exact Ok.no rfl (ih _ rfl trivial)
theorem rneeds_allC (h : DS s) : ref05_Needs DD s allC = some [] := by
  unfold ref05_Needs
  rw [h.rcond_all]
  rfl
theorem rleast0 (h : DS s) : ref02_Least s 1 0 = some 0 := by
  have hc := h.cols_length
  have hf := h.fin_ok (i := 1) (by omega) (by omega)
  refine Ok.val ?_
  unfold ref02_Least
  refine Ok.bindE (h.rfinest (i := 1) (by omega) (by omega)) ?_
  rw [in_eq, Option.bind_some, decide_eq_true (by omega)]
  refine Ok.no rfl ?_
  refine Ok.loop (fun q => q = 0) (fun _ => 0) rfl (by unfold FUEL; omega) fun rec q hq ih => ?_
  subst hq
  unfold ref02_Least_b1
  refine Ok.bindE (x := true) ?_ (Ok.no rfl (Ok.some rfl))
  unfold ref02_divides
  refine Ok.val (Ok.idxn (i := 1) (by omega) (Ok.yes rfl (Ok.some rfl)))
theorem rneeds (h : DS s) : ref09_Needs DD s qAll = some [] := by
  have hc := h.cols_length
  refine Ok.val ?_
  unfold ref09_Needs
  refine Ok.bindE (rquestion h) (Ok.no rfl (Ok.bindE (rneeds_allC h) (Ok.no rfl ?_)))
  unfold ref09_Needs_j1
  refine Ok.for (fun q => q.2) 1 (fun _ q => q.1 = []) 0 (Nat.zero_le _) rfl rfl (by omega) (fun rec q hq hI => ?_) fun rec i q hi hq hI ih => ?_
  · simp only [ref09_Needs_b2, hq, hI]
    refine Ok.no rfl ?_
    refine Ok.for (fun q => q.2) s.Columns.length (fun _ q => q.1 = []) 1 (by omega) rfl rfl (by omega) (fun rec q hq hI => ?_) fun rec i q hi hq hI ih => ?_
    · simp only [ref09_Needs_b3, hq, hI]
      rw [bif_f (by omega)]
      exact Ok.some rfl
    · simp only [ref09_Needs_b3, hq, hI]
      rw [bif_t (by omega)]
      refine Ok.bindE (x := false) ?_ (Ok.no rfl (ih _ (inc (by omega)) rfl))
      unfold ref09_Uses
      have e : (qAll.Measure == (i : Int)) = false := by
        rw [beq_eq_false_iff_ne]; show (-1 : Int) ≠ _; omega
      rw [e]
      rfl
  · obtain rfl : i = 0 := by omega
    simp only [ref09_Needs_b2, hq, hI]
    refine Ok.yes rfl (Ok.bindE (x := ({ Column := 1, Level := 0 } : APick)) rfl (Ok.bindE (x := ({ Column := 1, Level := 0 } : APick)) rfl (Ok.bindE (x := ({ Column := 1, Level := 0 } : APick)) rfl (Ok.bindE (rleast0 h) (Ok.bindE (x := []) rfl (ih _ rfl rfl))))))
theorem rcheck_all (h : DS s) : ref10_Check DD s dAll (allPicks s) = some 0 := by
  refine Ok.val ?_
  unfold ref10_Check
  refine Ok.bindE (rdeclaration h) (Ok.no rfl (Ok.bindE (rpicks_all h) (Ok.no rfl ?_)))
  refine Ok.for (fun q => q) 1 (fun _ _ => True) 0 (Nat.zero_le _) rfl trivial (by omega) (fun rec q hq _ => ?_) fun rec i q hi hq _ ih => ?_
  · simp only [ref10_Check_b1, hq]
    exact Ok.no rfl (Ok.some rfl)
  · obtain rfl : i = 0 := by omega
    simp only [ref10_Check_b1, hq]
    refine Ok.yes rfl (Ok.bindE (x := qAll) rfl (Ok.bindE (x := true) ?_ (Ok.no rfl (ih _ rfl trivial))))
    unfold ref09_Suffice
    refine Ok.val (Ok.bindE (rquestion h) (Ok.yes rfl (Ok.bindE (rpicks_all h) (Ok.yes rfl (Ok.bindE (rneeds h) (Ok.bindE (x := true) rfl (Ok.some rfl)))))))
end Go.Proofs.YtejfnieiaecpkaaGreatDoor.P

/-
  Plain laws: the extract of a drawn source with all rows and columns (its rows).
-/
namespace Go.Proofs.YtejfnieiaecpkaaGreatDoor.P
open Go Go.Abs Go.Proofs
set_option maxRecDepth 100000
variable {s : ASchema}

/-! ### Samples, keys -/
def smpAll : ASample := { Part := 1, Of := 1, Seed := 0 }
theorem in_all (id : Int) (h0 : 1 ≤ id) (h1 : id ≤ 1048575) : ref11_In smpAll id = some true := by
  refine Ok.val ?_
  unfold ref11_In
  refine Ok.bindE (x := 0) rfl (Ok.yes (by simp [h0, h1]) ?_)
  obtain ⟨v, hv⟩ : ∃ v, ref11_Draw smpAll.Seed id = some v := ⟨_, rfl⟩
  refine Ok.bindE hv (Ok.gdd (by decide) (Ok.some ?_))
  show decide (Int.tmod v 1 < 1) = true
  rw [Int.tmod_one]
  rfl
theorem fdiv_range {n : Int} (h0 : 0 ≤ n) (h1 : n < 18446744073709551616) : 0 ≤ Int.fdiv n 18014398509481984 ∧ Int.fdiv n 18014398509481984 ≤ 1023 := by
  rw [Int.fdiv_eq_ediv_of_nonneg _ (by omega)]
  omega
theorem u64_range (n : Int) : 0 ≤ IntKind.u64.wrap n ∧ IntKind.u64.wrap n < 18446744073709551616 := by
  unfold IntKind.wrap
  simp only [IntKind.signed, IntKind.bits]
  simp
  omega
theorem round_ok (sec r c : Int) : Ok (ref12_Round sec r c) fun x => 0 ≤ x ∧ x ≤ 1023 := by
  unfold ref12_Round
  refine Ok.br (fun _ => Ok.some (by omega)) fun _ => ?_
  refine Ok.for (fun q => q.2) 3 (fun _ q => 0 ≤ q.1 ∧ q.1 < 18446744073709551616) 0 (Nat.zero_le _) rfl (u64_range _) (by omega) (fun rec q hq hI => ?_) fun rec i q hi hq hI ih => ?_
  · simp only [ref12_Round_b1, hq]
    refine Ok.no rfl (Ok.some ?_)
    have e : (2 : Int) ^ (min (54 : Int).toNat IntKind.u64.bits) = 18014398509481984 := by decide
    rw [e]
    have := fdiv_range hI.1 hI.2
    rw [wr (by omega) (by omega)]
    exact this
  · simp only [ref12_Round_b1, hq]
    rw [bif_t (by omega)]
    exact ih _ (inc (by omega)) (u64_range _)
theorem xor_range {a b : Int} (ha : 0 ≤ a ∧ a ≤ 1023) (hb : 0 ≤ b ∧ b ≤ 1023) : 0 ≤ IntKind.i64.wrap (((BitVec.ofInt IntKind.i64.bits a ^^^ BitVec.ofInt IntKind.i64.bits b).toNat : Nat) : Int) ∧ IntKind.i64.wrap (((BitVec.ofInt IntKind.i64.bits a ^^^ BitVec.ofInt IntKind.i64.bits b).toNat : Nat) : Int) ≤ 1023 := by
  obtain ⟨m, rfl⟩ : ∃ m : Nat, a = m := ⟨a.toNat, by omega⟩
  obtain ⟨n, rfl⟩ : ∃ n : Nat, b = n := ⟨b.toNat, by omega⟩
  have e : (BitVec.ofInt IntKind.i64.bits (m : Int) ^^^ BitVec.ofInt IntKind.i64.bits (n : Int)).toNat = m ^^^ n := by
    rw [BitVec.toNat_xor, BitVec.ofInt_natCast, BitVec.ofInt_natCast, BitVec.toNat_ofNat, BitVec.toNat_ofNat]
    have h1 : m % 2 ^ IntKind.i64.bits = m := Nat.mod_eq_of_lt (by show m < 2 ^ 64; omega)
    have h2 : n % 2 ^ IntKind.i64.bits = n := Nat.mod_eq_of_lt (by show n < 2 ^ 64; omega)
    rw [h1, h2]
  rw [e]
  have : m ^^^ n < 2 ^ 10 := Nat.xor_lt_two_pow (by omega) (by omega)
  rw [wr (by omega) (by omega)]
  omega
theorem key_ok {sec id : Int} (hs0 : 0 ≤ sec) (hs1 : sec < 1152921504606846976) (h0 : 0 ≤ id) (h1 : id < 1048576) : Ok (ref12_Key sec id) fun x => 0 ≤ x ∧ x ≤ 1048575 := by
  unfold ref12_Key
  refine Ok.bindE (x := true) ?_ (Ok.no rfl ?_)
  · unfold ref12_right
    rw [decide_eq_true hs0, decide_eq_true hs1, decide_eq_true h0, decide_eq_true h1]
    rfl
  · have e1 : 0 ≤ Int.tdiv id 1024 ∧ Int.tdiv id 1024 ≤ 1023 := by rw [Int.tdiv_eq_ediv_of_nonneg h0]; omega
    have e2 : 0 ≤ Int.tmod id 1024 ∧ Int.tmod id 1024 ≤ 1023 := by rw [Int.tmod_eq_emod_of_nonneg h0]; omega
    refine Ok.for (fun q => q.2.2) 8 (fun _ q => (0 ≤ q.1 ∧ q.1 ≤ 1023) ∧ (0 ≤ q.2.1 ∧ q.2.1 ≤ 1023)) 0 (Nat.zero_le _) rfl ⟨by show 0 ≤ IntKind.i64.wrap _ ∧ IntKind.i64.wrap _ ≤ 1023; rw [wr (by omega) (by omega)]; exact e1, e2⟩ (by omega) (fun rec q hq hI => ?_) fun rec i q hi hq hI ih => ?_
    · obtain ⟨⟨a1, a2⟩, b1, b2⟩ := hI
      simp only [ref12_Key_b1, hq]
      refine Ok.no rfl (Ok.some ?_)
      rw [wr (n := q.1 * 1024) (by omega) (by omega), wr (by omega) (by omega)]
      omega
    · simp only [ref12_Key_b1, hq]
      rw [bif_t (by omega)]
      refine Ok.bind (round_ok _ _ _) fun x hx => ih _ (inc (by omega)) ⟨hI.2, xor_range hI.1 hx⟩

/-! ### Rows that hold -/
theorem holds_ok (h : DS s) {i : Nat} (hi : i < s.Columns.length) {v : Int} (hv : VOK s s.Columns[i] v) : ref02_Holds s i v = some true := by
  refine Ok.val ?_
  unfold ref02_Holds
  refine Ok.idxn hi ?_
  rcases hv with ⟨hk, h1, h2⟩ | ⟨hk, L, hL, hL2, h1⟩ | ⟨hk, h1⟩
  · refine Ok.yes (by rw [hk]; rfl) ?_
    rw [in_eq, decide_eq_true (by omega)]
    exact Ok.some rfl
  · have hc := cl_of hL
    obtain ⟨h2, h3, h4, _, _⟩ := hc.leaf v h1
    have h5 := hc.lev2; have h6 := hc.lev3
    have hlen : L.Codes.length ≤ 100 := by
      have : (CLs.all fun l => decide (l.Codes.length ≤ 100)) = true := by decide +kernel
      simpa using List.all_eq_true.1 this L hL
    refine Ok.no (by rw [hk]; rfl) (Ok.yes (by rw [hk]; rfl) (Ok.bindE hL2 ?_))
    rw [in_eq, Option.bind_some, decide_eq_true (by rw [wr (by omega) (by omega)]; omega)]
    refine Ok.yes rfl (Ok.bindE h4 (Ok.bindE hc.rlev (Ok.some ?_)))
    rw [wr (by omega) (by omega)]
    exact beq_self_eq_true _
  · refine Ok.no (by rw [hk]; rfl) (Ok.no (by rw [hk]; rfl) (Ok.br (fun _ => Ok.some rfl) fun hn => ?_))
    rcases h1 with h1 | ⟨ho, rfl⟩
    · rw [in_eq, decide_eq_true (by omega)]
      exact Ok.some rfl
    · rw [ho] at hn
      cases hn
theorem rrow (h : DS s) {r : List Int} (hr : RowOK s r) : ref02_Row s r = some 0 := by
  have hc := h.cols_length
  refine Ok.val ?_
  unfold ref02_Row
  refine Ok.bindE h.rcheck (Ok.no rfl (Ok.no (by rw [hr.1]; simp) ?_))
  refine Ok.for (fun q => q) r.length (fun _ _ => True) 0 (Nat.zero_le _) rfl trivial (by rw [hr.1]; omega) (fun rec q hq _ => ?_) fun rec i q hi hq _ ih => ?_
  · simp only [ref02_Row_b1, hq]
    rw [bif_f (by omega)]
    exact Ok.some rfl
  · simp only [ref02_Row_b1, hq]
    rw [bif_t (by omega)]
    have hi2 : i < s.Columns.length := by rw [← hr.1]; exact hi
    refine Ok.idxn hi (Ok.bindE (holds_ok h hi2 (hr.2 i _ _ (List.getElem?_eq_getElem hi2) (List.getElem?_eq_getElem hi))) (Ok.no rfl (ih _ (inc (by rw [hr.1] at hi; omega)) trivial)))
theorem rvalid {x : ASource} {n : Nat} (h : SrcOK x n) (hn : n ≤ 100) : ref04_Valid x = some true := by
  have hl := h.len
  refine Ok.val ?_
  unfold ref04_Valid
  refine Ok.bindE h.schema.rcheck (Ok.no ?_ ?_)
  · rw [h.gone, h.version, decide_eq_false (by omega)]; rfl
  refine Ok.for (fun q => q) x.Rows.length (fun _ _ => True) 0 (Nat.zero_le _) rfl trivial (by omega) (fun rec q hq _ => ?_) fun rec i q hi hq _ ih => ?_
  · simp only [ref04_Valid_b1, hq]
    rw [bif_f (by omega)]
    unfold ref04_Valid_j1
    refine Ok.for (fun q => q) 0 (fun _ _ => True) 0 (Nat.zero_le _) rfl trivial (by omega) (fun rec q hq _ => ?_) fun rec i q hi hq _ ih => absurd hi (by omega)
    simp only [ref04_Valid_b2, hq, h.gone]
    exact Ok.no rfl (Ok.some rfl)
  · simp only [ref04_Valid_b1, hq]
    rw [bif_t (by omega)]
    have hr := h.rows _ (List.getElem_mem hi)
    refine Ok.idxn hi (Ok.bindE (rrow h.schema hr) (Ok.no rfl (Ok.brd (fun h1 => ?_) fun _ => ih _ (inc (by omega)) trivial)))
    have e : IntKind.i64.wrap ((i : Int) - 1) = ((i - 1 : Nat) : Int) := by rw [wr (by omega) (by omega)]; omega
    rw [e]
    have hi3 : i - 1 < x.Rows.length := by omega
    have hlt := (List.pairwise_iff_getElem.1 h.asc) (i - 1) i hi3 hi (by omega)
    refine Ok.idxn hi (Ok.bindE (idx_hd (hr.ne h.schema)) (Ok.idxn hi3 (Ok.bindE (idx_hd ((h.rows _ (List.getElem_mem hi3)).ne h.schema)) (Ok.brd (fun h2 => by omega) fun _ => ih _ (inc (by omega)) trivial))))
theorem reval_all (h : DS s) {r : List Int} (hr : RowOK s r) : ref05_Eval DD s allC r = some 1 := by
  unfold ref05_Eval
  rw [h.rcond_all]
  show (ref02_Row s r).bind _ = _
  rw [rrow h hr]
  rfl
theorem RowOK.hd (h : DS s) {r : List Int} (hr : RowOK s r) : 1 ≤ hd r ∧ hd r ≤ 1000 := by
  have hc := h.cols_length
  have h0 : 0 < s.Columns.length := by omega
  have h1 : 0 < r.length := by rw [hr.1]; exact h0
  have := hr.2 0 who r[0] (by rw [List.getElem?_eq_getElem h0, h.col0]) (List.getElem?_eq_getElem h1)
  have e : P.hd r = r[0] := by cases r with | nil => simp at h1 | cons a q => rfl
  rw [e]
  rcases this with ⟨_, h2, h3⟩ | ⟨hk, _⟩ | ⟨hk, _⟩
  · exact ⟨h2, h3⟩
  · exact absurd hk (by decide)
  · exact absurd hk (by decide)
theorem rowners {x : ASource} {n : Nat} (h : SrcOK x n) (hn : n ≤ 100) : ref13_Owners DD x dAll = some (x.Rows.map hd) := by
  have hl := h.len
  refine Ok.val ?_
  unfold ref13_Owners
  refine Ok.bindE (rvalid h hn) (Ok.no rfl (Ok.bindE (rdeclaration h.schema) (Ok.no rfl ?_)))
  unfold ref13_Owners_j1
  refine Ok.for (fun q => q.1) x.Rows.length (fun i q => q.2 = (x.Rows.take i).map hd) 0 (Nat.zero_le _) rfl rfl (by omega) (fun rec q hq hI => ?_) fun rec i q hi hq hI ih => ?_
  · simp only [ref13_Owners_b1, hq]
    rw [bif_f (by omega), hI, List.take_length]
    exact Ok.some rfl
  · simp only [ref13_Owners_b1, hq]
    rw [bif_t (by omega)]
    have hr := h.rows _ (List.getElem_mem hi)
    have hh := hr.hd h.schema
    refine Ok.idxn hi (Ok.bindE (reval_all h.schema hr) (Ok.yes rfl (Ok.idxn hi (Ok.bindE (idx_hd (hr.ne h.schema)) (Ok.bindE (in_all _ hh.1 (by omega)) (Ok.yes rfl (Ok.idxn hi (Ok.bindE (idx_hd (hr.ne h.schema)) (Ok.rm ?_ (ih _ (inc (by omega)) ?_))))))))))
    · rw [hI]; simp; omega
    · show q.2 ++ [_] = _
      rw [hI, List.take_succ_eq_append_getElem hi, List.map_append]
      rfl
theorem rfind {x : ASource} {n : Nat} (h : SrcOK x n) (hn : n ≤ 100) {i : Nat} (hi : i < x.Rows.length) : ref04_Find x (hd x.Rows[i]) = some (i : Int) := by
  have hl := h.len
  refine Ok.val ?_
  unfold ref04_Find
  refine Ok.for (fun q => q) x.Rows.length (fun k _ => k ≤ i) 0 (Nat.zero_le _) rfl (Nat.zero_le _) (by omega) (fun rec q hq hI => by omega) fun rec k q hk hq hI ih => ?_
  simp only [ref04_Find_b1, hq]
  rw [bif_t (by omega)]
  have hr := h.rows _ (List.getElem_mem hk)
  have hne := hr.ne h.schema
  refine Ok.idxn hk (Ok.brd (fun _ => Ok.idxn hk (Ok.bindE (idx_hd hne) (Ok.br (fun he => Ok.some ?_) fun hn => ih _ (inc (by omega)) ?_))) fun hz => ?_)
  · by_cases e : k = i
    · rw [e]
    · have he : hd x.Rows[k] = hd x.Rows[i] := by simpa using he
      have := (List.pairwise_iff_getElem.1 h.asc) k i hk hi (by omega)
      omega
  · by_cases e : k = i
    · subst e; simp at hn
    · omega
  · have := List.length_pos_iff.2 hne
    omega
/-! ### Values at the finest level -/
theorem floor_one {v : Int} (h0 : -1000000 ≤ v) (h1 : v ≤ 1000000) : ref02_Floor v 1 = some v := by
  unfold ref02_Floor
  rw [bif_t (by decide), bif_t (by decide), Int.tmod_one, bif_f (by decide), Int.tdiv_one, wr (by omega) (by omega)]
theorem coarse_fin (h : DS s) {i : Nat} (h0 : 1 ≤ i) (hi : i < s.Columns.length) {v : Int} (hv : VOK s s.Columns[i] v) : ref02_Coarse s i (fin s i) v = some v := by
  have hf := h.fin_ok h0 hi
  refine Ok.val ?_
  unfold ref02_Coarse
  refine Ok.bindE (h.rfinest h0 hi) ?_
  rw [in_eq, Option.bind_some, decide_eq_true (by omega)]
  refine Ok.no rfl (Ok.idxn hi ?_)
  rcases h.col h0 hi with h1 | h1
  · obtain ⟨L, hL, hL2⟩ := h.clist h1
    have hcl := cl_of hL
    have hv2 : v ∈ leavesV L := by
      rcases hv with ⟨hk, _⟩ | ⟨hk, L', hL', hL2', h3⟩ | ⟨hk, _⟩
      · rw [h1.kind] at hk; cases hk
      · rw [hL2] at hL2'; cases hL2'; exact h3
      · rw [h1.kind] at hk; cases hk
    refine Ok.yes (by rw [h1.kind]; rfl) (Ok.bindE (holds_ok h hi hv) (Ok.no rfl (Ok.bindE hL2 (Ok.bindE (x := v) ?_ (Ok.some rfl)))))
    rw [fin_eq hi, finL_code h1 hL2]
    exact (hcl.leaf v hv2).2.2.2.2
  · obtain ⟨a1, a2⟩ := h1.low
    obtain ⟨a3, a4⟩ := h1.high
    have hv2 : (s.Columns[i].Low ≤ v ∧ v ≤ s.Columns[i].High) ∨ v = missing := by
      rcases hv with ⟨hk, _⟩ | ⟨hk, _⟩ | ⟨hk, h3 | h3⟩
      · rw [h1.kind] at hk; cases hk
      · rw [h1.kind] at hk; cases hk
      · exact .inl h3
      · exact .inr h3.2
    have hw : ref02_Width s.Columns[i] (fin s i) = some 1 := by
      rw [fin_eq hi, finL_meas h1]
      unfold ref02_Width
      have hwl := widths_length h1
      rw [wr (by omega) (by omega), Int.sub_self]
      rcases mem4 h1.widths with e | e | e | e <;> (rw [e]; rfl)
    refine Ok.no (by rw [h1.kind]; rfl) ?_
    have e0 : (fin s i == 0) = false := by rw [beq_eq_false_iff_ne]; omega
    rcases hv2 with hv2 | rfl
    · have e1 : (v != -1099511627776) = true := by rw [bne_iff_ne]; omega
      have e2 : (v == -1099511627776) = false := by rw [beq_eq_false_iff_ne]; omega
      refine Ok.yes e1 ?_
      rw [in_eq, Option.bind_some, decide_eq_true (by omega)]
      refine Ok.no rfl (Ok.no e0 (Ok.no e2 (Ok.bindE hw (Ok.bindE (floor_one (by omega) (by omega)) (Ok.some ?_)))))
      rw [wr (by omega) (by omega)]
      omega
    · exact Ok.no rfl (Ok.no e0 (Ok.yes rfl (Ok.some rfl)))
/-- A row of the extract with all columns. -/
def XRow (s : ASchema) (r : List Int) : Prop := r.length = s.Columns.length ∧ 0 ≤ hd r ∧ hd r ≤ 1048575 ∧ ∀ (i : Nat) c v, 1 ≤ i → s.Columns[i]? = some c → r[i]? = some v → VOK s c v
structure XOK (s : ASchema) (x : AExtract) (n : Nat) : Prop where
  project : x.Project = dAll.Project
  version : x.Version = 0
  picks : x.Picks = allPicks s
  rows : ∀ r ∈ x.Rows, XRow s r
  asc : Asc x.Rows
  len : x.Rows.length ≤ n
theorem XRow.ne (h : DS s) {r : List Int} (hr : XRow s r) : r ≠ [] := by
  intro e
  have h1 := hr.1
  have := h.cols_length
  rw [e] at h1
  simp at h1
  omega
theorem build_ok {x : ASource} {n : Nat} (h : SrcOK x n) (hn : n ≤ 100) {sec : Int} (hs0 : 0 ≤ sec) (hs1 : sec < 1152921504606846976) : Ok (ref13_Build DD x dAll (allPicks x.Schema) sec) fun r => XOK x.Schema r.1 n := by
  have hl := h.len
  have hc := h.schema.cols_length
  have hpl := allPicks_length (s := x.Schema)
  unfold ref13_Build
  refine Ok.bindE (rvalid h hn) (Ok.no rfl (Ok.bindE (rcheck_all h.schema) (Ok.no rfl (Ok.no ?_ (Ok.rm (by omega) (Ok.bindE (rowners h hn) ?_))))))
  · rw [decide_eq_false (by omega), decide_eq_false (by omega)]; rfl
  refine Ok.for (fun q => q.1) x.Rows.length (fun i q => (∀ r ∈ q.2, XRow x.Schema r) ∧ Asc q.2 ∧ q.2.length ≤ i) 0 (Nat.zero_le _) rfl ⟨(fun r hr => by cases hr), List.Pairwise.nil, Nat.zero_le _⟩ (by omega) (fun rec q hq hI => ?_) fun rec i q hi hq hI ih => ?_
  · simp only [ref13_Build_b1, hq]
    rw [List.length_map, bif_f (by omega)]
    exact Ok.some ⟨rfl, h.version, rfl, hI.1, hI.2.1, by show q.2.length ≤ n; omega⟩
  · obtain ⟨h1, h2, h3⟩ := hI
    simp only [ref13_Build_b1, hq]
    rw [List.length_map, bif_t (by omega)]
    have hr := h.rows _ (List.getElem_mem hi)
    have hh := hr.hd h.schema
    have hid : idx (x.Rows.map hd) (i : Int) = some (hd x.Rows[i]) := by rw [idx_nat (by rw [List.length_map]; exact hi), List.getElem_map]
    refine Ok.bindE hid (Ok.bindE (rfind h hn hi) (Ok.idxn hi (Ok.bindE hid (Ok.bind (key_ok hs0 hs1 (by omega) (by omega)) fun key hkey => ?_))))
    refine Ok.for (fun q => q.1) (allPicks x.Schema).length (fun k q => q.2 = key :: (x.Rows[i].drop 1).take k) 0 (Nat.zero_le _) rfl rfl (by omega) (fun rec2 q2 hq2 hI2 => ?_) fun rec2 k q2 hk hq2 hI2 ih2 => ?_
    · simp only [ref13_Build_b2, hq2]
      rw [bif_f (by omega)]
      have e : (x.Rows[i].drop 1).take (allPicks x.Schema).length = x.Rows[i].drop 1 := List.take_of_length_le (by rw [List.length_drop, hr.1]; omega)
      rw [hI2, e]
      have hx : XRow x.Schema (key :: x.Rows[i].drop 1) := by
        refine ⟨by rw [List.length_cons, List.length_drop, hr.1]; omega, hkey.1, hkey.2, fun k c v hk1 hkc hkv => ?_⟩
        obtain ⟨j, rfl⟩ : ∃ j, k = j + 1 := ⟨k - 1, by omega⟩
        rw [List.getElem?_cons_succ, List.getElem?_drop, Nat.add_comm] at hkv
        exact hr.2 _ c v hkc hkv
      refine Ok.bindE (put_ok (fun r hr => (h1 r hr).ne h.schema) (by simp) h2 (by omega)) (ih _ (inc (by omega)) ⟨fun r hr => ?_, putG_asc h2, ?_⟩)
      · rcases putG_mem hr with rfl | hr
        · exact hx
        · exact h1 r hr
      · have := putG_length q.2 (key :: x.Rows[i].drop 1)
        show (putG q.2 _).length ≤ i + 1
        omega
    · simp only [ref13_Build_b2, hq2]
      rw [bif_t (by omega)]
      have hkk : k + 1 < x.Schema.Columns.length := by omega
      have hkr : k + 1 < x.Rows[i].length := by rw [hr.1]; exact hkk
      refine Ok.idxn hk (Ok.idxn hk (Ok.idxn hk ?_))
      rw [allPicks_get hk]
      refine Ok.idxn hkr (Ok.bindE (coarse_fin h.schema (by omega) hkk (hr.2 (k + 1) _ _ (List.getElem?_eq_getElem hkk) (List.getElem?_eq_getElem hkr))) (Ok.rm ?_ (ih2 _ (inc (by omega)) ?_)))
      · rw [hI2]; simp; omega
      · show q2.2 ++ [_] = _
        have hkd : k < (x.Rows[i].drop 1).length := by rw [List.length_drop]; omega
        rw [hI2, List.take_succ_eq_append_getElem hkd, List.cons_append, List.getElem_drop]
        simp [Nat.add_comm]
theorem whole_ok {c : DrawCodes} (hc : OKc c) {n : Nat} (hn : n ≤ 50) : Ok (draw_Codes_Whole DD c n) fun r => SrcOK r.1 n ∧ XOK r.1.Schema r.2.1 n ∧ OKc r.2.2 := by
  unfold draw_Codes_Whole
  refine Ok.bind (source_ok hc hn) fun x hx => Ok.bindE (all_ok hx.2.schema) (Ok.bind (secret_ok hx.1) fun y hy => Ok.bind (build_ok hx.2 (by omega) hy.2.1 hy.2.2) fun z hz => Ok.some ⟨hx.2, hz, hy.1⟩)
end Go.Proofs.YtejfnieiaecpkaaGreatDoor.P

/-
  Plain laws: measures at a level.
-/
namespace Go.Proofs.YtejfnieiaecpkaaGreatDoor.P
open Go Go.Abs Go.Proofs
set_option maxRecDepth 100000
variable {s : ASchema}

def wid (c : AColumn) (l : Int) : Int := c.Widths.getD ((c.Widths.length : Int) - l).toNat 1
theorem wid_get {c : AColumn} (h : Meas c) {l : Int} (h0 : 1 ≤ l) (h1 : l ≤ c.Widths.length) : idx c.Widths (IntKind.i64.wrap (((c.Widths.length : Nat) : Int) - l)) = some (wid c l) := by
  have hl := widths_length h
  rw [wr (by omega) (by omega), idx_some' (by omega) (by omega)]
  unfold wid
  rw [List.getD_eq_getElem?_getD, List.getElem?_eq_getElem (by omega : ((c.Widths.length : Int) - l).toNat < c.Widths.length)]
  rfl
theorem pwidth {c : AColumn} (h : Meas c) {l : Int} (h0 : 1 ≤ l) (h1 : l ≤ c.Widths.length) : schema_width c l = some (wid c l) := by unfold schema_width; rw [wid_get h h0 h1]; rfl
theorem rwidth {c : AColumn} (h : Meas c) {l : Int} (h0 : 1 ≤ l) (h1 : l ≤ c.Widths.length) : ref02_Width c l = some (wid c l) := by unfold ref02_Width; rw [wid_get h h0 h1]; rfl
/-- The widths of a level, and of a coarser one. -/
theorem wid_two {c : AColumn} (h : Meas c) {a b : Int} (hb : 1 ≤ b) (hab : b ≤ a) (ha : a ≤ c.Widths.length) :
    (wid c a, wid c b) ∈ [((1 : Int), (1 : Int)), (1, 5), (5, 5), (1, 20), (5, 20), (20, 20), (1, 2), (2, 2), (1, 4), (2, 4), (4, 4), (1, 12), (2, 12), (4, 12), (12, 12)] := by
  unfold wid
  rcases mem4 h.widths with e | e | e | e
  · rw [e] at ha ⊢
    obtain ⟨rfl, rfl⟩ : a = 1 ∧ b = 1 := by simp at ha; omega
    decide
  · rw [e] at ha ⊢
    have ha : a ≤ 2 := by simpa using ha
    rcases (by omega : (a = 1 ∧ b = 1) ∨ (a = 2 ∧ b = 1) ∨ (a = 2 ∧ b = 2)) with ⟨rfl, rfl⟩ | ⟨rfl, rfl⟩ | ⟨rfl, rfl⟩ <;> decide
  · rw [e] at ha ⊢
    have ha : a ≤ 3 := by simpa using ha
    rcases (by omega : (a = 1 ∧ b = 1) ∨ (a = 2 ∧ b = 1) ∨ (a = 2 ∧ b = 2) ∨ (a = 3 ∧ b = 1) ∨ (a = 3 ∧ b = 2) ∨ (a = 3 ∧ b = 3)) with ⟨rfl, rfl⟩ | ⟨rfl, rfl⟩ | ⟨rfl, rfl⟩ | ⟨rfl, rfl⟩ | ⟨rfl, rfl⟩ | ⟨rfl, rfl⟩ <;> decide
  · rw [e] at ha ⊢
    have ha : a ≤ 4 := by simpa using ha
    rcases (by omega : (a = 1 ∧ b = 1) ∨ (a = 2 ∧ b = 1) ∨ (a = 2 ∧ b = 2) ∨ (a = 3 ∧ b = 1) ∨ (a = 3 ∧ b = 2) ∨ (a = 3 ∧ b = 3) ∨ (a = 4 ∧ b = 1) ∨ (a = 4 ∧ b = 2) ∨ (a = 4 ∧ b = 3) ∨ (a = 4 ∧ b = 4)) with ⟨rfl, rfl⟩ | ⟨rfl, rfl⟩ | ⟨rfl, rfl⟩ | ⟨rfl, rfl⟩ | ⟨rfl, rfl⟩ | ⟨rfl, rfl⟩ | ⟨rfl, rfl⟩ | ⟨rfl, rfl⟩ | ⟨rfl, rfl⟩ | ⟨rfl, rfl⟩ <;> decide
/-- What a block of the one lies in. -/
theorem block_in {c : AColumn} (h : Meas c) {a b : Int} (hb : 1 ≤ b) (hab : b ≤ a) (ha : a ≤ c.Widths.length) {v u : Int} (h1 : v - v % wid c a ≤ u) (h2 : u ≤ v - v % wid c a + wid c a - 1) : u - u % wid c b = v - v % wid c b := by
  have := wid_two h hb hab ha
  generalize wid c a = x at *
  generalize wid c b = y at *
  simp only [List.mem_cons, List.not_mem_nil, or_false, Prod.mk.injEq] at this
  rcases this with ⟨rfl, rfl⟩ | ⟨rfl, rfl⟩ | ⟨rfl, rfl⟩ | ⟨rfl, rfl⟩ | ⟨rfl, rfl⟩ | ⟨rfl, rfl⟩ | ⟨rfl, rfl⟩ | ⟨rfl, rfl⟩ | ⟨rfl, rfl⟩ | ⟨rfl, rfl⟩ | ⟨rfl, rfl⟩ | ⟨rfl, rfl⟩ | ⟨rfl, rfl⟩ | ⟨rfl, rfl⟩ | ⟨rfl, rfl⟩ <;> omega
theorem wid_range {c : AColumn} (h : Meas c) {l : Int} (h0 : 1 ≤ l) (h1 : l ≤ c.Widths.length) : 1 ≤ wid c l ∧ wid c l ≤ 20 := by
  have := wid_two h h0 (Int.le_refl l) h1
  generalize wid c l = x at *
  simp only [List.mem_cons, List.not_mem_nil, or_false, Prod.mk.injEq] at this
  omega
theorem tmod_cases (n : Int) {w : Int} (hw : 1 ≤ w) : (Int.tmod n w = n % w ∧ 0 ≤ Int.tmod n w) ∨ (Int.tmod n w = n % w - w ∧ Int.tmod n w < 0) := by
  have h1 := Int.emod_nonneg n (by omega : w ≠ 0)
  have h2 := Int.emod_lt_of_pos n (by omega : 0 < w)
  rw [Int.tmod_eq_emod]
  split
  · left; omega
  · right
    have : (w.natAbs : Int) = w := by omega
    omega
theorem down_eq {n w : Int} (hw : 1 ≤ w) (hw2 : w ≤ 1000000) (h0 : -100000000 ≤ n) (h1 : n ≤ 100000000) : schema_down n w = some (n - n % w) := by
  have h3 := Int.emod_nonneg n (by omega : w ≠ 0)
  have h4 := Int.emod_lt_of_pos n (by omega : 0 < w)
  unfold schema_down
  rw [bif_t (by omega)]
  rcases tmod_cases n hw with ⟨e, h⟩ | ⟨e, h⟩
  · rw [bif_f (by omega), e, wr (by omega) (by omega)]
  · rw [bif_t h, e, wr (n := n % w - w + w) (by omega) (by omega), wr (by omega) (by omega)]
    congr 1; omega
theorem floor_eq {n w : Int} (hw : 1 ≤ w) (hw2 : w ≤ 1000000) (h0 : -100000000 ≤ n) (h1 : n ≤ 100000000) : ∃ q, ref02_Floor n w = some q ∧ q * w = n - n % w := by
  have h3 := Int.emod_nonneg n (by omega : w ≠ 0)
  have h4 := Int.emod_lt_of_pos n (by omega : 0 < w)
  have h5 := Int.mul_tdiv_add_tmod n w
  have h6 : -100000000 ≤ Int.tdiv n w ∧ Int.tdiv n w ≤ 100000000 := by
    have := Int.natAbs_tdiv_le_natAbs n w
    omega
  unfold ref02_Floor
  rw [bif_t (by omega), bif_t (by omega)]
  rcases tmod_cases n hw with ⟨e, h⟩ | ⟨e, h⟩
  · rw [bif_f (by omega), wr (by omega) (by omega)]
    exact ⟨_, rfl, by rw [Int.mul_comm]; omega⟩
  · rw [bif_t h, wr (n := Int.tdiv n w) (by omega) (by omega), wr (by omega) (by omega)]
    refine ⟨_, rfl, ?_⟩
    rw [Int.sub_mul, Int.mul_comm]
    omega
/-- A measure's value at a level. -/
def mv (c : AColumn) (l v : Int) : Int := if l = 0 then 0 else if v = missing then missing else v - v % wid c l
/-- What values a measure's row has. -/
def MV (c : AColumn) (v : Int) : Prop := (c.Low ≤ v ∧ v ≤ c.High) ∨ (c.Optional = true ∧ v = missing)
theorem VOK.meas {c : AColumn} (h : Meas c) {v : Int} (hv : VOK s c v) : MV c v := by
  rcases hv with ⟨hk, _⟩ | ⟨hk, _⟩ | ⟨_, hv⟩
  · rw [h.kind] at hk; cases hk
  · rw [h.kind] at hk; cases hk
  · exact hv
theorem mv_range {c : AColumn} (h : Meas c) {l v : Int} (h0 : 1 ≤ l) (h1 : l ≤ c.Widths.length) (hv : c.Low ≤ v ∧ v ≤ c.High) : mv c l v = v - v % wid c l ∧ 0 ≤ v % wid c l ∧ v % wid c l < wid c l ∧ mv c l v ≠ missing ∧ -4 ≤ v ∧ v ≤ 46 := by
  have hw := wid_range h h0 h1
  obtain ⟨a1, a2⟩ := h.low
  obtain ⟨a3, a4⟩ := h.high
  have h3 := Int.emod_nonneg v (by omega : wid c l ≠ 0)
  have h4 := Int.emod_lt_of_pos v (by omega : 0 < wid c l)
  have e : mv c l v = v - v % wid c l := by
    unfold mv
    rw [if_neg (by omega), if_neg (by unfold missing; omega)]
  exact ⟨e, h3, h4, by rw [e]; unfold missing; omega, by omega, by omega⟩
theorem rcoarse_m (hs : DS s) {i : Nat} (h0 : 1 ≤ i) (hi : i < s.Columns.length) (h : Meas s.Columns[i]) {l v : Int} (hl0 : 0 ≤ l) (hl1 : l ≤ fin s i) (hv : MV s.Columns[i] v) : ref02_Coarse s i l v = some (mv s.Columns[i] l v) := by
  obtain ⟨a1, a2⟩ := h.low
  obtain ⟨a3, a4⟩ := h.high
  have hf : fin s i = s.Columns[i].Widths.length := by rw [fin_eq hi, finL_meas h]
  refine Ok.val ?_
  unfold ref02_Coarse
  refine Ok.bindE (hs.rfinest h0 hi) ?_
  rw [in_eq, Option.bind_some, decide_eq_true ⟨hl0, hl1⟩]
  refine Ok.no rfl (Ok.idxn hi (Ok.no (by rw [h.kind]; rfl) ?_))
  rcases hv with hv | ⟨_, rfl⟩
  · have e1 : (v != -1099511627776) = true := by rw [bne_iff_ne]; omega
    have e2 : (v == -1099511627776) = false := by rw [beq_eq_false_iff_ne]; omega
    refine Ok.yes e1 ?_
    rw [in_eq, Option.bind_some, decide_eq_true (by omega)]
    refine Ok.no rfl (Ok.br (fun hz => ?_) fun hz => Ok.no e2 ?_)
    · have hz : l = 0 := by simpa using hz
      subst hz
      exact Ok.some rfl
    · have hz : l ≠ 0 := by simpa using hz
      have hm := mv_range h (l := l) (v := v) (by omega) (by omega) hv
      have hw := wid_range h (l := l) (by omega) (by omega)
      obtain ⟨q, hq, hq2⟩ := floor_eq (n := v) hw.1 (by omega) (by omega) (by omega)
      refine Ok.bindE (rwidth h (by omega) (by omega)) (Ok.bindE hq (Ok.some ?_))
      rw [hq2, hm.1, wr (by omega) (by omega)]
  · refine Ok.no rfl (Ok.br (fun hz => ?_) fun hz => Ok.yes rfl ?_)
    · have hz : l = 0 := by simpa using hz
      subst hz
      exact Ok.some rfl
    · have hz : l ≠ 0 := by simpa using hz
      exact Ok.some (by unfold mv; rw [if_neg hz, if_pos rfl])
/-- The least and the greatest value of a block. -/
def blo (c : AColumn) (l v : Int) : Int := if l = 0 then c.Low else max c.Low (v - v % wid c l)
def bhi (c : AColumn) (l v : Int) : Int := if l = 0 then c.High else min c.High (v - v % wid c l + wid c l - 1)
theorem pspan {c : AColumn} (h : Meas c) {l v : Int} (h0 : 0 ≤ l) (h1 : l ≤ c.Widths.length) (hv : c.Low ≤ v ∧ v ≤ c.High) : schema_span c l (mv c l v) = some (blo c l v, bhi c l v, true) := by
  obtain ⟨a1, a2⟩ := h.low
  obtain ⟨a3, a4⟩ := h.high
  unfold schema_span blo bhi
  by_cases hz : l = 0
  · subst hz; rfl
  · have hm := mv_range h (l := l) (v := v) (by omega) h1 hv
    have hw := wid_range h (l := l) (by omega) h1
    have hb : (mv c l v) % wid c l = 0 := by
      rw [hm.1]
      have := Int.emod_add_mul_ediv v (wid c l)
      have e : v - v % wid c l = wid c l * (v / wid c l) := by omega
      rw [e]; exact Int.mul_emod_right _ _
    have e0 : (l == 0) = false := by simpa using hz
    rw [e0, hm.1, if_neg hz, if_neg hz]
    rw [hm.1] at hb
    simp only [cond_false]
    rw [decide_eq_false (by omega), decide_eq_false (by omega)]
    simp only [cond_false]
    rw [pwidth h (by omega) h1, Option.bind_some, down_eq hw.1 (by omega) (by omega) (by omega), hb, Option.bind_some, wr (n := v - v % wid c l + wid c l) (by omega) (by omega), wr (by omega) (by omega), Int.sub_zero, beq_self_eq_true]
    simp only [cond_true]
    have e1 : (if c.Low > v - v % wid c l then c.Low else v - v % wid c l) = max c.Low (v - v % wid c l) := by split <;> omega
    have e2 : (if c.High < v - v % wid c l + wid c l - 1 then c.High else v - v % wid c l + wid c l - 1) = min c.High (v - v % wid c l + wid c l - 1) := by split <;> omega
    rw [e1, e2, decide_eq_true (by omega)]
theorem rblock {c : AColumn} (h : Meas c) {l v : Int} (h0 : 0 ≤ l) (h1 : l ≤ c.Widths.length) (hv : c.Low ≤ v ∧ v ≤ c.High) : ref02_Block c l (mv c l v) = some (blo c l v, bhi c l v, true) := by
  obtain ⟨a1, a2⟩ := h.low
  obtain ⟨a3, a4⟩ := h.high
  unfold ref02_Block blo bhi
  by_cases hz : l = 0
  · subst hz; rfl
  · have hm := mv_range h (l := l) (v := v) (by omega) h1 hv
    have hw := wid_range h (l := l) (by omega) h1
    have hb : (mv c l v) % wid c l = 0 := by
      rw [hm.1]
      have := Int.emod_add_mul_ediv v (wid c l)
      have e : v - v % wid c l = wid c l * (v / wid c l) := by omega
      rw [e]; exact Int.mul_emod_right _ _
    have ht : Int.tmod (mv c l v) (wid c l) = 0 := by
      rcases tmod_cases (mv c l v) hw.1 with ⟨e, _⟩ | ⟨e, h2⟩
      · rw [e, hb]
      · rw [Int.tmod_eq_emod] at h2
        have hd : wid c l ∣ mv c l v := Int.dvd_of_emod_eq_zero hb
        rw [if_pos (.inr hd), hb] at h2
        omega
    have e0 : (l == 0) = false := by simpa using hz
    have e3 : (mv c l v == -1099511627776) = false := by rw [beq_eq_false_iff_ne]; exact hm.2.2.2.1
    rw [e0, if_neg hz, if_neg hz]
    simp only [cond_false]
    rw [rwidth h (by omega) h1, Option.bind_some, e3]
    simp only [cond_false]
    rw [in_eq, Option.bind_some, decide_eq_true (by rw [hm.1]; omega), ht]
    simp only [Bool.not_true, cond_false]
    rw [bif_t (by omega)]
    show (bif (0 : Int) != 0 then _ else ref02_Block_j1 (mv c l v) c (wid c l)) = _
    unfold ref02_Block_j1
    rw [hm.1, wr (n := v - v % wid c l + wid c l) (by omega) (by omega), wr (by omega) (by omega)]
    have e1 : (if v - v % wid c l > c.Low then v - v % wid c l else c.Low) = max c.Low (v - v % wid c l) := by split <;> omega
    have e2 : (if v - v % wid c l + wid c l - 1 < c.High then v - v % wid c l + wid c l - 1 else c.High) = min c.High (v - v % wid c l + wid c l - 1) := by split <;> omega
    rw [e1, e2, decide_eq_true (by omega)]
    rfl
theorem blo_in {c : AColumn} (h : Meas c) {a b v : Int} (hb : 1 ≤ b) (hab : b ≤ a) (ha : a ≤ c.Widths.length) (hv : c.Low ≤ v ∧ v ≤ c.High) : (blo c a v - blo c a v % wid c b = v - v % wid c b) ∧ (bhi c a v - bhi c a v % wid c b = v - v % wid c b) ∧ c.Low ≤ blo c a v ∧ blo c a v ≤ v ∧ v ≤ bhi c a v ∧ bhi c a v ≤ c.High := by
  have hm := mv_range h (l := a) (v := v) (by omega) ha hv
  have hw := wid_range h (l := a) (by omega) ha
  unfold blo bhi
  rw [if_neg (by omega), if_neg (by omega)]
  exact ⟨block_in h hb hab ha (by omega) (by omega), block_in h hb hab ha (by omega) (by omega), by omega, by omega, by omega, by omega⟩
theorem missing_eq : missing = -1099511627776 := rfl
theorem psome_m {i : Nat} (hi : i < s.Columns.length) (h : Meas s.Columns[i]) {l v : Int} (h0 : 0 ≤ l) (h1 : l ≤ s.Columns[i].Widths.length) (hv : MV s.Columns[i] v) : ∃ u, schema_Some s i l (mv s.Columns[i] l v) = some (u, true) := by
  refine Exists.elim (?_ : Ok (schema_Some s i l (mv s.Columns[i] l v)) fun r => r.2 = true) fun r hr => ⟨r.1, by rw [hr.1, ← hr.2]⟩
  unfold schema_Some
  refine Ok.idxn hi (Ok.yes (by rw [h.kind]; rfl) (Ok.br (fun hc => Ok.some ?_) fun hc => ?_))
  · by_cases hz : 0 < l
    · rw [decide_eq_true (by omega)] at hc
      have hc : mv s.Columns[i] l v = missing := by rw [missing_eq]; simpa using hc
      rcases hv with hv | hv
      · exact absurd hc (mv_range h (by omega) h1 hv).2.2.2.1
      · exact hv.1
    · rw [decide_eq_false (by omega)] at hc; cases hc
  · have hv2 : (s.Columns[i].Low ≤ v ∧ v ≤ s.Columns[i].High) ∨ (l = 0) := by
      rcases hv with hv | ⟨_, rfl⟩
      · exact .inl hv
      · right
        by_cases hz : 0 < l
        · rw [decide_eq_true (by omega)] at hc
          have e : mv s.Columns[i] l missing = missing := by unfold mv; rw [if_neg (by omega), if_pos rfl]
          rw [e] at hc
          cases hc
        · omega
    rcases hv2 with hv | rfl
    · exact Ok.bindE (pspan h h0 h1 hv) (Ok.some rfl)
    · exact Ok.bindE (x := (s.Columns[i].Low, s.Columns[i].High, true)) rfl (Ok.some rfl)
theorem rcan_m (hs : DS s) {i : Nat} (hi0 : 1 ≤ i) (hi : i < s.Columns.length) (h : Meas s.Columns[i]) {l v : Int} (h0 : 0 ≤ l) (h1 : l ≤ s.Columns[i].Widths.length) (hv : MV s.Columns[i] v) : ref02_Can s i l (mv s.Columns[i] l v) = some true := by
  have hf : fin s i = s.Columns[i].Widths.length := by rw [fin_eq hi, finL_meas h]
  refine Ok.val ?_
  unfold ref02_Can
  refine Ok.bindE (hs.rfinest hi0 hi) ?_
  rw [in_eq, Option.bind_some, decide_eq_true (by omega)]
  refine Ok.no rfl (Ok.idxn hi (Ok.no (by rw [h.kind]; rfl) (Ok.br (fun hc => Ok.some ?_) fun hc => ?_)))
  · by_cases hz : 0 < l
    · rw [decide_eq_true (by omega)] at hc
      have hc : mv s.Columns[i] l v = missing := by rw [missing_eq]; simpa using hc
      rcases hv with hv | hv
      · exact absurd hc (mv_range h (by omega) h1 hv).2.2.2.1
      · exact hv.1
    · rw [decide_eq_false (by omega)] at hc; cases hc
  · have hv2 : (s.Columns[i].Low ≤ v ∧ v ≤ s.Columns[i].High) ∨ (l = 0) := by
      rcases hv with hv | ⟨_, rfl⟩
      · exact .inl hv
      · right
        by_cases hz : 0 < l
        · rw [decide_eq_true (by omega)] at hc
          have e : mv s.Columns[i] l missing = missing := by unfold mv; rw [if_neg (by omega), if_pos rfl]
          rw [e] at hc
          cases hc
        · omega
    rcases hv2 with hv | rfl
    · exact Ok.bindE (rblock h h0 h1 hv) (Ok.some rfl)
    · exact Ok.bindE (x := (s.Columns[i].Low, s.Columns[i].High, true)) rfl (Ok.some rfl)
/-- A value at a level, turned to a coarser one. -/
theorem pturned_m (hs : DS s) {i : Nat} (hi0 : 1 ≤ i) (hi : i < s.Columns.length) (h : Meas s.Columns[i]) {a b v : Int} (hb : 1 ≤ b) (hab : b ≤ a) (ha : a ≤ s.Columns[i].Widths.length) (hv : MV s.Columns[i] v) : schema_Turned s i a (mv s.Columns[i] a v) b = some (mv s.Columns[i] b v, true) := by
  have hf : fin s i = s.Columns[i].Widths.length := by rw [fin_eq hi, finL_meas h]
  refine Ok.val ?_
  unfold schema_Turned
  refine Ok.bindE (hs.pfinest hi0 hi) (Ok.no ?_ (Ok.idxn hi (Ok.no (by rw [h.kind]; rfl) (Ok.bindE (x := (mv s.Columns[i] b v, true)) ?_ (Ok.no rfl (Ok.some rfl))))))
  · rw [decide_eq_false (by omega), decide_eq_false (by omega), decide_eq_false (by omega), decide_eq_false (by omega)]; rfl
  refine Ok.val ?_
  unfold schema_turnMeasure
  have eb : (b == 0) = false := by rw [beq_eq_false_iff_ne]; omega
  have ea : (a == 0) = false := by rw [beq_eq_false_iff_ne]; omega
  rw [decide_eq_true (by omega), eb, ea]
  rcases hv with hv | ⟨ho, rfl⟩
  · have hm := mv_range h (l := a) (by omega) ha hv
    have hmb := mv_range h (l := b) (by omega) (by omega) hv
    have hw := wid_range h (l := b) (by omega) (by omega)
    have hbl := blo_in h hb hab ha hv
    obtain ⟨a1, a2⟩ := h.low
    obtain ⟨a3, a4⟩ := h.high
    have d1 := down_eq (n := blo s.Columns[i] a v) hw.1 (by omega) (by omega) (by omega)
    have d2 := down_eq (n := bhi s.Columns[i] a v) hw.1 (by omega) (by omega) (by omega)
    have e3 : (mv s.Columns[i] a v == -1099511627776) = false := by rw [beq_eq_false_iff_ne]; exact hm.2.2.2.1
    rw [hbl.1] at d1
    rw [hbl.2.1] at d2
    refine Ok.no (by rw [e3]; rfl) (Ok.bindE (pspan h (by omega) ha hv) (Ok.no rfl (Ok.no rfl (Ok.no rfl (Ok.bindE (pwidth h hb (by omega)) (Ok.bindE d1 (Ok.bindE d1 (Ok.bindE d2 (Ok.some ?_)))))))))
    rw [hmb.1, beq_self_eq_true]
  · have e : ∀ l, 1 ≤ l → mv s.Columns[i] l missing = missing := fun l hl => by unfold mv; rw [if_neg (by omega), if_pos rfl]
    rw [e a (by omega), e b hb, ho]
    exact Ok.yes rfl (Ok.no rfl (Ok.some rfl))
theorem rturn_m (hs : DS s) {i : Nat} (hi0 : 1 ≤ i) (hi : i < s.Columns.length) (h : Meas s.Columns[i]) {a b v : Int} (hb : 1 ≤ b) (hab : b ≤ a) (ha : a ≤ s.Columns[i].Widths.length) (hv : MV s.Columns[i] v) : ref02_Turn s i a (mv s.Columns[i] a v) b = some (mv s.Columns[i] b v, true) := by
  have hf : fin s i = s.Columns[i].Widths.length := by rw [fin_eq hi, finL_meas h]
  refine Ok.val ?_
  unfold ref02_Turn
  refine Ok.bindE (rcan_m hs hi0 hi h (by omega) ha hv) (Ok.no rfl (Ok.bindE (hs.rfinest hi0 hi) ?_))
  rw [in_eq, Option.bind_some, decide_eq_true (by omega)]
  refine Ok.no rfl ?_
  unfold ref02_Turn_j1
  have eb : (b == 0) = false := by rw [beq_eq_false_iff_ne]; omega
  have ea : (a == 0) = false := by rw [beq_eq_false_iff_ne]; omega
  refine Ok.idxn hi (Ok.no (by rw [h.kind]; rfl) (Ok.no eb ?_))
  rw [decide_eq_true (by omega), ea]
  rcases hv with hv | ⟨ho, rfl⟩
  · have hm := mv_range h (l := a) (by omega) ha hv
    have hmb := mv_range h (l := b) (by omega) (by omega) hv
    have hbl := blo_in h hb hab ha hv
    have e3 : (mv s.Columns[i] a v == -1099511627776) = false := by rw [beq_eq_false_iff_ne]; exact hm.2.2.2.1
    have c1 := rcoarse_m hs hi0 hi h (l := b) (v := blo s.Columns[i] a v) (by omega) (by omega) (.inl (by omega))
    have c2 := rcoarse_m hs hi0 hi h (l := b) (v := bhi s.Columns[i] a v) (by omega) (by omega) (.inl (by omega))
    rw [(mv_range h (l := b) hb (by omega) (by omega : s.Columns[i].Low ≤ blo s.Columns[i] a v ∧ _)).1, hbl.1] at c1
    rw [(mv_range h (l := b) hb (by omega) (by omega : s.Columns[i].Low ≤ bhi s.Columns[i] a v ∧ _)).1, hbl.2.1] at c2
    refine Ok.no (by rw [e3]; rfl) (Ok.no rfl (Ok.bindE (rblock h (by omega) ha hv) (Ok.bindE c1 (Ok.bindE c2 (Ok.no (by simp) (Ok.some ?_))))))
    rw [hmb.1]
  · have e : ∀ l, 1 ≤ l → mv s.Columns[i] l missing = missing := fun l hl => by unfold mv; rw [if_neg (by omega), if_pos rfl]
    rw [e a (by omega), e b hb]
    exact Ok.yes rfl (Ok.some rfl)
end Go.Proofs.YtejfnieiaecpkaaGreatDoor.P

/-
  Plain laws: extracts that are right.
-/
namespace Go.Proofs.YtejfnieiaecpkaaGreatDoor.P
open Go Go.Abs Go.Proofs
set_option maxRecDepth 100000
variable {s : ASchema}

/-! ### Codes at a level -/
def someC (L : ACodeList) (l v : Int) : Option (Int × Bool) := iter (fun rec1 s => schema_Some_b1 (leavesV L) L l v (fun v56_1 => some (0, false)) rec1 s) FUEL 0
/-- A code at a level. -/
def cv (L : ACodeList) (l v : Int) : Int := (ref01_Up L v l).getD 0
theorem codes_facts : (CLs.all fun L => (List.range (levV L).toNat).all fun l => (someC L (l : Int) 0).isSome && (leavesV L).all fun v => ref01_Up L v l == some (cv L l v) && codes_Up L v l == some (cv L l v) && decide (0 ≤ cv L l v) && ((someC L l (cv L l v)).map (·.2) == some true)) = true := by decide +kernel
theorem code_facts {L : ACodeList} (h : L ∈ CLs) {l : Int} (h0 : 0 ≤ l) (h1 : l < levV L) : (∃ r, someC L l 0 = some r) ∧ ∀ v ∈ leavesV L, ref01_Up L v l = some (cv L l v) ∧ codes_Up L v l = some (cv L l v) ∧ 0 ≤ cv L l v ∧ ∃ u, someC L l (cv L l v) = some (u, true) := by
  have := List.all_eq_true.1 (List.all_eq_true.1 codes_facts L h) l.toNat (List.mem_range.2 (by omega))
  rw [Int.toNat_of_nonneg h0] at this
  simp only [Bool.and_eq_true, List.all_eq_true, beq_iff_eq, decide_eq_true_eq, Option.isSome_iff_exists] at this
  refine ⟨this.1, fun v hv => ?_⟩
  obtain ⟨⟨⟨a, b⟩, c⟩, d⟩ := this.2 v hv
  obtain ⟨r, hr, hr2⟩ := Option.map_eq_some_iff.1 d
  exact ⟨a, b, c, r.1, by rw [hr, ← hr2]⟩
/-- A value of a drawn row at a level. -/
def CV (s : ASchema) (c : AColumn) (l v : Int) : Int := if c.Kind = 2 then cv ((idx s.Lists c.List_).getD { Name := oneN, Codes := [] }) l v else mv c l v
theorem CV_code {c : AColumn} (h : CodeC c) {L : ACodeList} (hL : idx s.Lists c.List_ = some L) (l v : Int) : CV s c l v = cv L l v := by unfold CV; rw [if_pos h.kind, hL]; rfl
theorem CV_meas {c : AColumn} (h : Meas c) (l v : Int) : CV s c l v = mv c l v := by unfold CV; rw [if_neg (by rw [h.kind]; decide)]
theorem VOK.code {c : AColumn} (h : CodeC c) {L : ACodeList} (hL : idx s.Lists c.List_ = some L) {v : Int} (hv : VOK s c v) : v ∈ leavesV L := by
  rcases hv with ⟨hk, _⟩ | ⟨_, L', _, hL', hv⟩ | ⟨hk, _⟩
  · rw [h.kind] at hk; cases hk
  · rw [hL] at hL'; cases hL'; exact hv
  · rw [h.kind] at hk; cases hk
theorem rcoarse (hs : DS s) {i : Nat} (h0 : 1 ≤ i) (hi : i < s.Columns.length) {l v : Int} (hl0 : 0 ≤ l) (hl1 : l ≤ fin s i) (hv : VOK s s.Columns[i] v) : ref02_Coarse s i l v = some (CV s s.Columns[i] l v) := by
  rcases hs.col h0 hi with h1 | h1
  · obtain ⟨L, hL, hL2⟩ := hs.clist h1
    have hf : fin s i = levV L - 1 := by rw [fin_eq hi, finL_code h1 hL2]
    have hc := code_facts hL (l := l) hl0 (by omega)
    rw [CV_code h1 hL2]
    refine Ok.val ?_
    unfold ref02_Coarse
    refine Ok.bindE (hs.rfinest h0 hi) ?_
    rw [in_eq, Option.bind_some, decide_eq_true ⟨hl0, hl1⟩]
    exact Ok.no rfl (Ok.idxn hi (Ok.yes (by rw [h1.kind]; rfl) (Ok.bindE (holds_ok hs hi hv) (Ok.no rfl (Ok.bindE hL2 (Ok.bindE (hc.2 v (hv.code h1 hL2)).1 (Ok.some rfl)))))))
  · rw [CV_meas h1]
    exact rcoarse_m hs h0 hi h1 hl0 hl1 (hv.meas h1)
theorem some_code {i : Nat} (hi : i < s.Columns.length) (h : CodeC s.Columns[i]) {L : ACodeList} (hL : L ∈ CLs) (hL2 : idx s.Lists s.Columns[i].List_ = some L) (l v : Int) : schema_Some s i l v = someC L l v := by
  have hc := cl_of hL
  have h2 := hc.lev2; have h3 := hc.lev3
  unfold schema_Some
  rw [idx_nat hi, Option.bind_some, h.kind]
  show (idx s.Lists _).bind _ = _
  rw [hL2, Option.bind_some, hc.lev, Option.bind_some, wr (by omega) (by omega), hc.leaves]
  rfl
theorem psome (hs : DS s) {i : Nat} (h0 : 1 ≤ i) (hi : i < s.Columns.length) {l v : Int} (hl0 : 0 ≤ l) (hl1 : l ≤ fin s i) (hv : VOK s s.Columns[i] v) : ∃ u, schema_Some s i l (CV s s.Columns[i] l v) = some (u, true) := by
  rcases hs.col h0 hi with h1 | h1
  · obtain ⟨L, hL, hL2⟩ := hs.clist h1
    have hf : fin s i = levV L - 1 := by rw [fin_eq hi, finL_code h1 hL2]
    rw [CV_code h1 hL2, some_code hi h1 hL hL2]
    exact ((code_facts hL (l := l) hl0 (by omega)).2 v (hv.code h1 hL2)).2.2.2
  · have hf : fin s i = s.Columns[i].Widths.length := by rw [fin_eq hi, finL_meas h1]
    rw [CV_meas h1]
    exact psome_m hi h1 hl0 (by omega) (hv.meas h1)
theorem psome0 (hs : DS s) {i : Nat} (h0 : 1 ≤ i) (hi : i < s.Columns.length) : ∃ r, schema_Some s i 0 0 = some r := by
  rcases hs.col h0 hi with h1 | h1
  · obtain ⟨L, hL, hL2⟩ := hs.clist h1
    have := cl_of hL
    rw [some_code hi h1 hL hL2]
    exact (code_facts hL (l := 0) (by omega) (by have := this.lev2; omega)).1
  · refine Exists.elim (?_ : Ok (schema_Some s i 0 0) fun _ => True) fun r hr => ⟨r, hr.1⟩
    unfold schema_Some
    exact Ok.idxn hi (Ok.yes (by rw [h1.kind]; rfl) (Ok.no rfl (Ok.bindE (x := (s.Columns[i].Low, s.Columns[i].High, true)) rfl (Ok.some trivial))))
theorem rcan (hs : DS s) {i : Nat} (h0 : 1 ≤ i) (hi : i < s.Columns.length) {l v : Int} (hl0 : 0 ≤ l) (hl1 : l ≤ fin s i) (hv : VOK s s.Columns[i] v) : ref02_Can s i l (CV s s.Columns[i] l v) = some true := by
  rcases hs.col h0 hi with h1 | h1
  · obtain ⟨L, hL, hL2⟩ := hs.clist h1
    have hf : fin s i = levV L - 1 := by rw [fin_eq hi, finL_code h1 hL2]
    have hm := hv.code h1 hL2
    have hsh : (leavesV L).length ≤ 10 := by have := List.all_eq_true.1 leaves_short L hL; simpa using this
    obtain ⟨j, hj, hjv⟩ := List.mem_iff_getElem.1 hm
    refine Ok.val ?_
    unfold ref02_Can
    refine Ok.bindE (hs.rfinest h0 hi) ?_
    rw [in_eq, Option.bind_some, decide_eq_true ⟨hl0, hl1⟩]
    refine Ok.no rfl (Ok.idxn hi (Ok.yes (by rw [h1.kind]; rfl) (Ok.bindE (leaves_eq (idx_nat hi) hL2 hL) ?_)))
    refine Ok.for (fun q => q) (leavesV L).length (fun k _ => k ≤ j) 0 (Nat.zero_le _) rfl (Nat.zero_le _) (by omega) (fun rec q hq hI => by omega) fun rec k q hk hq hI ih => ?_
    simp only [ref02_Can_b1, hq]
    rw [bif_t (by omega)]
    have hvk : VOK s s.Columns[i] (leavesV L)[k] := .inr (.inl ⟨h1.kind, L, hL, hL2, List.getElem_mem hk⟩)
    refine Ok.idxn hk (Ok.bindE (rcoarse hs h0 hi hl0 hl1 hvk) (Ok.br (fun _ => Ok.some rfl) fun hne => ih _ (inc (by omega)) ?_))
    by_cases e : k = j
    · subst e; rw [hjv, beq_self_eq_true] at hne; cases hne
    · omega
  · have hf : fin s i = s.Columns[i].Widths.length := by rw [fin_eq hi, finL_meas h1]
    rw [CV_meas h1]
    exact rcan_m hs h0 hi h1 hl0 (by omega) (hv.meas h1)

/-! ### Extracts -/
/-- A pick of a schema. -/
def POK (s : ASchema) (p : APick) : Prop := ∃ i : Nat, 1 ≤ i ∧ i < s.Columns.length ∧ p.Column = i ∧ 0 ≤ p.Level ∧ p.Level ≤ fin s i
/-- A value that stands at a pick. -/
def XV (s : ASchema) (p : APick) (v : Int) : Prop := ∃ (i : Nat) (hi : i < s.Columns.length) (w : Int), 1 ≤ i ∧ p.Column = i ∧ VOK s s.Columns[i] w ∧ v = CV s s.Columns[i] p.Level w
structure GX (s : ASchema) (x : AExtract) : Prop where
  project : ref01_Name x.Project = some true ∧ codes_Name x.Project = some true
  version : 0 ≤ x.Version ∧ x.Version ≤ 300
  picks : ∀ p ∈ x.Picks, POK s p
  order : x.Picks.Pairwise fun a b => a.Column < b.Column
  rows : ∀ r ∈ x.Rows, r.length = x.Picks.length + 1 ∧ 0 ≤ hd r ∧ hd r ≤ 1048575 ∧ ∀ (k : Nat) p v, x.Picks[k]? = some p → r[k + 1]? = some v → XV s p v
  asc : Asc x.Rows
  len : x.Rows.length ≤ 200
theorem GX.picks_len {x : AExtract} (hs : DS s) (h : GX s x) : x.Picks.length ≤ 6 := by
  have hc := hs.cols_length
  have key : ∀ (k : Nat) (hk : k < x.Picks.length), (k : Int) + 1 ≤ x.Picks[k].Column := by
    intro k
    induction k with
    | zero => intro hk; obtain ⟨i, h1, _, h2, _⟩ := h.picks _ (List.getElem_mem hk); rw [h2]; omega
    | succ k ih =>
      intro hk
      have := ih (by omega)
      have h2 := (List.pairwise_iff_getElem.1 h.order) k (k + 1) (by omega) hk (by omega)
      omega
  rcases Nat.lt_or_ge x.Picks.length 7 with h7 | h7
  · omega
  · have := key 6 (by omega)
    obtain ⟨i, h1, h2, h3, _⟩ := h.picks _ (List.getElem_mem (by omega : 6 < x.Picks.length))
    omega
theorem ppick {p : APick} (hs : DS s) (h : POK s p) : schema_pick s p = some 0 := by
  obtain ⟨i, h0, hi, hp, hl0, hl1⟩ := h
  have hf := hs.fin_ok h0 hi
  refine Ok.val ?_
  unfold schema_pick
  rw [hp]
  refine Ok.bindE (hs.pfinest h0 hi) (Ok.brd (fun h => by omega) fun _ => Ok.no ?_ (Ok.some rfl))
  rw [decide_eq_false (by omega), decide_eq_false (by omega)]; rfl
theorem rpickP {p : APick} (hs : DS s) (h : POK s p) : ref02_Pick s p = some 0 := by
  obtain ⟨i, h0, hi, hp, hl0, hl1⟩ := h
  exact rpick hs h0 hi hp hl0 hl1
theorem ppicks {l : List APick} (hs : DS s) (h : ∀ p ∈ l, POK s p) (ho : l.Pairwise fun a b => a.Column < b.Column) (hl : l.length ≤ 1000) : schema_Picks s l = some 0 := by
  refine Ok.val ?_
  unfold schema_Picks
  refine Ok.bindE hs.check (Ok.no rfl ?_)
  refine Ok.for (fun q => q) l.length (fun _ _ => True) 0 (Nat.zero_le _) rfl trivial (by omega) (fun rec q hq _ => ?_) fun rec i q hi hq _ ih => ?_
  · simp only [schema_Picks_b1, hq]
    rw [bif_f (by omega)]
    exact Ok.some rfl
  · simp only [schema_Picks_b1, hq]
    rw [bif_t (by omega)]
    refine Ok.idxn hi (Ok.bindE (ppick hs (h _ (List.getElem_mem hi))) (Ok.no rfl (Ok.brd (fun h1 => ?_) fun _ => ih _ (inc (by omega)) trivial)))
    have e : IntKind.i64.wrap ((i : Int) - 1) = ((i - 1 : Nat) : Int) := by rw [wr (by omega) (by omega)]; omega
    rw [e]
    have := (List.pairwise_iff_getElem.1 ho) (i - 1) i (by omega) hi (by omega)
    exact Ok.idxn (by omega : i - 1 < l.length) (Ok.brd (fun h2 => by omega) fun _ => ih _ (inc (by omega)) trivial)
theorem rpicks {l : List APick} (hs : DS s) (h : ∀ p ∈ l, POK s p) (ho : l.Pairwise fun a b => a.Column < b.Column) (hl : l.length ≤ 1000) : ref02_Picks s l = some 0 := by
  refine Ok.val ?_
  unfold ref02_Picks
  refine Ok.bindE hs.rcheck (Ok.no rfl ?_)
  refine Ok.for (fun q => q) l.length (fun _ _ => True) 0 (Nat.zero_le _) rfl trivial (by omega) (fun rec q hq _ => ?_) fun rec i q hi hq _ ih => ?_
  · simp only [ref02_Picks_b1, hq]
    rw [bif_f (by omega)]
    exact Ok.some rfl
  · simp only [ref02_Picks_b1, hq]
    rw [bif_t (by omega)]
    refine Ok.idxn hi (Ok.bindE (rpickP hs (h _ (List.getElem_mem hi))) (Ok.no rfl (Ok.brd (fun h1 => Ok.idxn hi ?_) fun _ => ih _ (inc (by omega)) trivial)))
    have e : IntKind.i64.wrap ((i : Int) - 1) = ((i - 1 : Nat) : Int) := by rw [wr (by omega) (by omega)]; omega
    rw [e]
    have := (List.pairwise_iff_getElem.1 ho) (i - 1) i (by omega) hi (by omega)
    exact Ok.idxn (by omega : i - 1 < l.length) (Ok.brd (fun h2 => by omega) fun _ => ih _ (inc (by omega)) trivial)
/-- At a value of a row. -/
theorem GX.at {x : AExtract} (hs : DS s) (h : GX s x) {r : List Int} (hr : r ∈ x.Rows) {k : Nat} (hk : k < x.Picks.length) (hk2 : k + 1 < r.length) :
    (∃ u, schema_Some s x.Picks[k].Column x.Picks[k].Level r[k + 1] = some (u, true)) ∧ ref02_Can s x.Picks[k].Column x.Picks[k].Level r[k + 1] = some true := by
  obtain ⟨i, hi, w, h0, hp, hw, e⟩ := (h.rows r hr).2.2.2 k _ _ (List.getElem?_eq_getElem hk) (List.getElem?_eq_getElem hk2)
  obtain ⟨i', h0', hi', hp', hl0, hl1⟩ := h.picks _ (List.getElem_mem hk)
  have : i' = i := by rw [hp] at hp'; omega
  subst this
  rw [e, hp]
  exact ⟨psome hs h0 hi hl0 hl1 hw, rcan hs h0 hi hl0 hl1 hw⟩
theorem GX.ne {x : AExtract} (h : GX s x) {r : List Int} (hr : r ∈ x.Rows) : r ≠ [] := by
  intro e
  have := (h.rows r hr).1
  rw [e] at this
  simp at this
theorem pfits {x : AExtract} (hs : DS s) (h : GX s x) {r : List Int} (hr : r ∈ x.Rows) : extract_fits s x.Picks r = some true := by
  have hl := h.picks_len hs
  obtain ⟨h1, h2, h3, _⟩ := h.rows r hr
  refine Ok.val ?_
  unfold extract_fits
  refine Ok.no ?_ (Ok.bindE (idx_hd (h.ne hr)) (Ok.brd (fun h => by omega) fun _ => Ok.bindE (idx_hd (h.ne hr)) (Ok.brd (fun h => by omega) fun _ => ?_)))
  · rw [wr (by omega) (by omega), h1]; simp
  unfold extract_fits_j1
  refine Ok.for (fun q => q) x.Picks.length (fun _ _ => True) 0 (Nat.zero_le _) rfl trivial (by omega) (fun rec q hq _ => ?_) fun rec i q hi hq _ ih => ?_
  · simp only [extract_fits_b1, hq]
    rw [bif_f (by omega)]
    exact Ok.some rfl
  · simp only [extract_fits_b1, hq]
    rw [bif_t (by omega)]
    have hi2 : i + 1 < r.length := by omega
    obtain ⟨⟨u, hu⟩, _⟩ := h.at hs hr hi hi2
    refine Ok.idxn hi ?_
    rw [inc (by omega)]
    exact Ok.idxn hi2 (Ok.bindE hu (Ok.no rfl (ih _ rfl trivial)))
theorem GX.check {x : AExtract} (hs : DS s) (h : GX s x) : extract_Check s x = some 0 := by
  have hl := h.len
  have hpl := h.picks_len hs
  have hv := h.version
  refine Ok.val ?_
  unfold extract_Check
  refine Ok.bindE hs.check (Ok.no rfl (Ok.bindE h.project.2 (Ok.no rfl (Ok.no ?_ (Ok.bindE (ppicks hs h.picks h.order (by omega)) (Ok.no rfl (Ok.brd (fun h => by omega) fun _ => ?_)))))))
  · rw [decide_eq_false (by omega), decide_eq_false (by omega)]; rfl
  refine Ok.for (fun q => q) x.Rows.length (fun _ _ => True) 0 (Nat.zero_le _) rfl trivial (by omega) (fun rec q hq _ => ?_) fun rec i q hi hq _ ih => ?_
  · simp only [extract_Check_b1, hq]
    rw [bif_f (by omega)]
    exact Ok.some rfl
  · simp only [extract_Check_b1, hq]
    rw [bif_t (by omega)]
    refine Ok.idxn hi (Ok.bindE (pfits hs h (List.getElem_mem hi)) (Ok.no rfl (Ok.brd (fun h1 => ?_) fun _ => ih _ (inc (by omega)) trivial)))
    have e : IntKind.i64.wrap ((i : Int) - 1) = ((i - 1 : Nat) : Int) := by rw [wr (by omega) (by omega)]; omega
    rw [e]
    have hi3 : i - 1 < x.Rows.length := by omega
    have hlt := (List.pairwise_iff_getElem.1 h.asc) (i - 1) i hi3 hi (by omega)
    exact Ok.bindE (idx_hd (h.ne (List.getElem_mem hi))) (Ok.idxn hi3 (Ok.bindE (idx_hd (h.ne (List.getElem_mem hi3))) (Ok.brd (fun h2 => by omega) fun _ => ih _ (inc (by omega)) trivial)))
theorem GX.rcheck {x : AExtract} (hs : DS s) (h : GX s x) : ref13_Check s x = some 0 := by
  have hl := h.len
  have hpl := h.picks_len hs
  have hv := h.version
  refine Ok.val ?_
  unfold ref13_Check
  refine Ok.bindE hs.rcheck (Ok.no rfl (Ok.bindE h.project.1 (Ok.no rfl (Ok.no ?_ (Ok.bindE (rpicks hs h.picks h.order (by omega)) (Ok.no rfl (Ok.brd (fun h => by omega) fun _ => ?_)))))))
  · rw [decide_eq_false (by omega), decide_eq_false (by omega)]; rfl
  refine Ok.for (fun q => q) x.Rows.length (fun _ _ => True) 0 (Nat.zero_le _) rfl trivial (by omega) (fun rec q hq _ => ?_) fun rec i q hi hq _ ih => ?_
  · simp only [ref13_Check_b1, hq]
    rw [bif_f (by omega)]
    exact Ok.some rfl
  · simp only [ref13_Check_b1, hq]
    rw [bif_t (by omega)]
    have hr := List.getElem_mem hi
    obtain ⟨h1, h2, h3, _⟩ := h.rows _ hr
    refine Ok.idxn hi (Ok.no ?_ (Ok.bindE (idx_hd (h.ne hr)) (Ok.brd (fun h => by omega) fun _ => Ok.bindE (idx_hd (h.ne hr)) (Ok.brd (fun h => by omega) fun _ => ?_))))
    · rw [wr (by omega) (by omega), h1]; simp
    unfold ref13_Check_j1
    refine Ok.for (fun q => q) x.Picks.length (fun _ _ => True) 0 (Nat.zero_le _) rfl trivial (by omega) (fun rec2 q2 hq2 _ => ?_) fun rec2 k q2 hk hq2 _ ih2 => ?_
    · simp only [ref13_Check_b2, hq2]
      rw [bif_f (by omega)]
      unfold ref13_Check_k1
      refine Ok.brd (fun h1 => ?_) fun _ => ih _ (inc (by omega)) trivial
      have e : IntKind.i64.wrap ((i : Int) - 1) = ((i - 1 : Nat) : Int) := by rw [wr (by omega) (by omega)]; omega
      rw [e]
      have hi3 : i - 1 < x.Rows.length := by omega
      have hlt := (List.pairwise_iff_getElem.1 h.asc) (i - 1) i hi3 hi (by omega)
      exact Ok.bindE (idx_hd (h.ne hr)) (Ok.idxn hi3 (Ok.bindE (idx_hd (h.ne (List.getElem_mem hi3))) (Ok.brd (fun h2 => by omega) fun _ => ih _ (inc (by omega)) trivial)))
    · simp only [ref13_Check_b2, hq2]
      rw [bif_t (by omega)]
      have hk2 : k + 1 < x.Rows[i].length := by omega
      refine Ok.idxn hk (Ok.idxn hk ?_)
      rw [inc (by omega)]
      exact Ok.idxn hk2 (Ok.bindE (h.at hs hr hk hk2).2 (Ok.no rfl (ih2 _ rfl trivial)))

/-! ### The whole extract is one -/
theorem CV_fin (hs : DS s) {i : Nat} (h0 : 1 ≤ i) (hi : i < s.Columns.length) {v : Int} (hv : VOK s s.Columns[i] v) : CV s s.Columns[i] (fin s i) v = v := by
  have hf := hs.fin_ok h0 hi
  have h1 := coarse_fin hs h0 hi hv
  have h2 := rcoarse hs h0 hi (l := fin s i) (by omega) (Int.le_refl _) hv
  rw [h1] at h2
  exact (Option.some.inj h2).symm
theorem XOK.gx {x : AExtract} {n : Nat} (hs : DS s) (h : XOK s x n) (hn : n ≤ 200) : GX s x := by
  have hc := hs.cols_length
  have hpl := allPicks_length (s := s)
  have hlen := h.len
  refine ⟨?_, by rw [h.version]; omega, ?_, ?_, ?_, h.asc, by omega⟩
  · rw [h.project]
    exact ⟨by decide +kernel, by decide +kernel⟩
  · intro p hp
    rw [h.picks] at hp
    obtain ⟨k, hk, rfl⟩ := List.mem_iff_getElem.1 hp
    rw [allPicks_get hk]
    have hf := hs.fin_ok (i := k + 1) (by omega) (by omega)
    exact ⟨k + 1, by omega, by omega, rfl, by show 0 ≤ fin s (k + 1); omega, Int.le_refl _⟩
  · rw [h.picks, List.pairwise_iff_getElem]
    intro a b ha hb hab
    rw [allPicks_get ha, allPicks_get hb]
    show ((a + 1 : Nat) : Int) < ((b + 1 : Nat) : Int)
    omega
  · intro r hr
    obtain ⟨h1, h2, h3, h4⟩ := h.rows r hr
    rw [h.picks]
    refine ⟨by omega, h2, h3, fun k p v hp hv => ?_⟩
    obtain ⟨hk, rfl⟩ := List.getElem?_eq_some_iff.1 hp
    rw [allPicks_get hk]
    have hi : k + 1 < s.Columns.length := by omega
    have hv2 := h4 (k + 1) _ v (by omega) (List.getElem?_eq_getElem hi) hv
    exact ⟨k + 1, hi, v, by omega, rfl, hv2, (CV_fin hs (by omega) hi hv2).symm⟩
end Go.Proofs.YtejfnieiaecpkaaGreatDoor.P
