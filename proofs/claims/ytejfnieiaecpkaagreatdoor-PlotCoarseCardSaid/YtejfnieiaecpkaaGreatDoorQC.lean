/-
  Plain laws, joined by wip/tools/coarse.sh from wip/tpl/XQ9 .. XQ12.
-/
import Derived.Test.YtejfnieiaecpkaaGreatDoorQB
set_option linter.unusedVariables false
set_option linter.unusedSimpArgs false

/-
  Plain laws: what a histogram needs; the rows for which all holds; values at a level; bins.
-/
namespace Go.Proofs.YtejfnieiaecpkaaGreatDoor.P
open Go Go.Abs Go.Proofs
set_option maxRecDepth 100000
variable {s : ASchema}

/-! ### The condition that always holds, and the empty one -/
theorem DS.pcond_all (h : DS s) (d : Nat) : condition_Check (d + 1) s allC = some 0 := by unfold condition_Check; rw [h.check]; rfl
theorem DS.pcond_zero (h : DS s) (d : Nat) : condition_Check (d + 1) s zeroC = some 4 := by unfold condition_Check; rw [h.check]; rfl
theorem DS.pneeds_zero (h : DS s) (d : Nat) : condition_Needs (d + 1) s zeroC = some [] := by unfold condition_Needs; rw [h.pcond_zero]; rfl
theorem DS.pneeds_all (h : DS s) (d : Nat) : condition_Needs (d + 1) s allC = some [] := by
  have hc := h.cols_length
  refine Ok.val ?_
  unfold condition_Needs
  refine Ok.bindE (h.pcond_all d) (Ok.no rfl (Ok.gd ?_ (Ok.bindE (x := []) rfl ?_)))
  · rw [decide_eq_true (by omega), rm_ok (by omega)]; rfl
  refine Ok.for (fun q => q.1) 0 (fun _ q => q.2 = List.replicate s.Columns.length 0) 0 (Nat.zero_le _) rfl (by simp) (by omega) (fun rec q hq hI => ?_) fun rec i q hi hq hI ih => absurd hi (by omega)
  simp only [condition_Needs_b1, hq, hI]
  refine Ok.no rfl ?_
  refine Ok.for (fun q => q.1) s.Columns.length (fun _ q => q.2 = []) 0 (Nat.zero_le _) rfl rfl (by omega) (fun rec q hq hI => ?_) fun rec i q hi hq hI ih => ?_
  · simp only [condition_Needs_b3, hq, hI]
    rw [List.length_replicate, bif_f (by omega)]
    exact Ok.some rfl
  · simp only [condition_Needs_b3, hq, hI]
    rw [List.length_replicate, bif_t (by omega)]
    refine Ok.idxn (by rw [List.length_replicate]; exact hi) ?_
    rw [List.getElem_replicate]
    exact Ok.no rfl (ih _ (inc (by omega)) rfl)

/-! ### A histogram's expression -/
def histE (m w : Int) : AExpr := { Op := 13, Num := w, Name := ByteArray.empty, Column := m, Columns := [], Dims := [], Cond := allC, Event := zeroC, Kids := [] }
theorem contains_ok {l : List Int} {x : Int} (hx : x ∈ l) (hl : l.length ≤ 1000000) : slices_Contains_Lint_int l x = some true := by
  unfold slices_Contains_Lint_int
  have h : slices_Index_Lint_int l x = some (findI (fun y => x == y) l) := indexFunc (p := fun y => some (x == y)) (fun _ _ => rfl) (by omega)
  rw [h, Option.bind_some, findI_any]
  congr 1
  exact List.any_eq_true.2 ⟨x, hx, beq_self_eq_true x⟩
theorem pmeasureM {i : Nat} (hi : i < s.Columns.length) (h : Meas s.Columns[i]) : program_measure s i = some true := by
  unfold program_measure
  rw [decide_eq_true (by omega), decide_eq_true (by omega)]
  show (idx s.Columns (i : Int)).bind _ = _
  rw [idx_nat hi, Option.bind_some, h.kind]
  rfl
theorem right_hist (hs : DS s) {i : Nat} (hi : i < s.Columns.length) (h : Meas s.Columns[i]) {w : Int} (hw : w ∈ s.Columns[i].Widths) : program_Right DD s (histE i w) = some true := by
  have hwl := widths_length h
  refine Ok.val ?_
  unfold program_Right
  refine Ok.bindE hs.check (Ok.yes rfl (Ok.bindE (x := true) ?_ (Ok.some rfl)))
  show program_right_s 59 (program_right 59) (program_right_c1 59) s (histE i w) = some true
  refine Ok.val ?_
  unfold program_right_s
  refine Ok.bindE (x := (({ f_num := true, f_name := false, f_column := true, f_columns := false, f_dims := false, f_cond := true, f_event := false } : Programuses), true)) rfl (Ok.no rfl (Ok.bindE (x := true) ?_ (Ok.no rfl (Ok.bindE (x := true) ?_ (Ok.no rfl ?_)))))
  · have e : ((histE i w).Name.toList == ({ data := #[] } : ByteArray).toList) = true := beq_self_eq_true _
    unfold program_unused
    rw [e]
    rfl
  · refine Ok.val ?_
    unfold program_part
    refine Ok.no rfl (Ok.no rfl (Ok.no rfl (Ok.no rfl (Ok.no rfl (Ok.no rfl (Ok.no rfl (Ok.no rfl (Ok.yes rfl (Ok.bindE (pmeasureM hi h) (Ok.yes rfl (Ok.idxn hi (Ok.bindE (contains_ok hw (by omega)) (Ok.some rfl)))))))))))))
  · unfold program_right_j1
    exact Ok.yes rfl (Ok.bindE (hs.pcond_all 58) (Ok.no rfl (Ok.no rfl (Ok.bindE (x := false) rfl (Ok.no rfl (Ok.bindE (x := false) rfl (Ok.some rfl)))))))
theorem level_of {i : Nat} (hi : i < s.Columns.length) (h : Meas s.Columns[i]) {n : Nat} (hn : n < s.Columns[i].Widths.length) : types_LevelOf s i s.Columns[i].Widths[n] = some ((s.Columns[i].Widths.length : Int) - n) := by
  have hwl := widths_length h
  have hd : ∀ a b (ha : a < s.Columns[i].Widths.length) (hb : b < s.Columns[i].Widths.length), a < b → s.Columns[i].Widths[a] ≠ s.Columns[i].Widths[b] := by
    have hp : s.Columns[i].Widths.Pairwise (· ≠ ·) := by rcases mem4 h.widths with e | e | e | e <;> (rw [e]; decide)
    intro a b ha hb hab
    exact (List.pairwise_iff_getElem.1 hp) a b ha hb hab
  refine Ok.val ?_
  unfold types_LevelOf
  refine Ok.idxn hi ?_
  refine Ok.for (fun q => q) s.Columns[i].Widths.length (fun k _ => k ≤ n) 0 (Nat.zero_le _) rfl (Nat.zero_le _) (by omega) (fun rec q hq hI => by omega) fun rec k q hk hq hI ih => ?_
  simp only [types_LevelOf_b1, hq]
  rw [bif_t (by omega)]
  refine Ok.idxn hk (Ok.br (fun he => Ok.some ?_) fun hne => ih _ (inc (by omega)) ?_)
  · have he : s.Columns[i].Widths[k] = s.Columns[i].Widths[n] := by simpa using he
    have : k = n := by
      rcases Nat.lt_or_ge k n with h1 | h1
      · exact absurd he (hd k n hk hn h1)
      · omega
    rw [this, wr (by omega) (by omega)]
  · by_cases e : k = n
    · subst e; rw [beq_self_eq_true] at hne; cases hne
    · omega
theorem blocks_ok {i : Nat} (hi : i < s.Columns.length) (h : Meas s.Columns[i]) {l : Int} (h0 : 0 ≤ l) (h1 : l ≤ s.Columns[i].Widths.length) : Ok (schema_blocks s i l) fun _ => True := by
  unfold schema_blocks
  refine Ok.idxn hi (Ok.no (by rw [h.kind]; rfl) (Ok.br (fun _ => Ok.some trivial) fun hz => ?_))
  have hz : l ≠ 0 := by simpa using hz
  have hw := wid_range h (l := l) (by omega) h1
  obtain ⟨a1, a2⟩ := h.low
  obtain ⟨a3, a4⟩ := h.high
  exact Ok.bindE (pwidth h (by omega) h1) (Ok.bindE (down_eq hw.1 (by omega) (by omega) (by omega)) (Ok.bindE (down_eq hw.1 (by omega) (by omega) (by omega)) (Ok.gdd (by omega) (Ok.br (fun _ => Ok.some trivial) fun _ => Ok.some trivial))))
theorem least_ok (hs : DS s) {i : Nat} (hi0 : 1 ≤ i) (hi : i < s.Columns.length) (h : Meas s.Columns[i]) {l : Int} (h0 : 0 ≤ l) (h1 : l ≤ s.Columns[i].Widths.length) : Ok (schema_Least s i l) fun r => 0 ≤ r ∧ r ≤ l := by
  have hwl := widths_length h
  have hf : fin s i = s.Columns[i].Widths.length := by rw [fin_eq hi, finL_meas h]
  unfold schema_Least
  refine Ok.bindE (hs.pFinest hi0 hi) (Ok.no ?_ ?_)
  · rw [decide_eq_false (by omega), decide_eq_false (by omega)]; rfl
  refine Ok.loop (fun q => 0 ≤ q ∧ q ≤ l) (fun q => q.toNat) ⟨h0, Int.le_refl _⟩ (by unfold FUEL; omega) fun rec q hq ih => ?_
  simp only [schema_Least_b1]
  refine Ok.brd (fun hp => ?_) fun _ => Ok.some hq
  have e : IntKind.i64.wrap (q - 1) = q - 1 := wr (by omega) (by omega)
  rw [e]
  exact Ok.bind (blocks_ok hi h (by omega) (by omega)) fun x _ => Ok.bind (blocks_ok hi h (by omega) (by omega)) fun y _ => Ok.br (fun _ => ih _ (by omega) (by omega)) fun _ => Ok.some hq
theorem own_hist (hs : DS s) {i : Nat} (hi0 : 1 ≤ i) (hi : i < s.Columns.length) (h : Meas s.Columns[i]) {n : Nat} (hn : n < s.Columns[i].Widths.length) : ∃ L, 0 ≤ L ∧ L ≤ (s.Columns[i].Widths.length : Int) - n ∧ types_own s (histE i s.Columns[i].Widths[n]) = some [({ Column := i, Level := L } : APick)] := by
  obtain ⟨L, hL, h0, h1⟩ := least_ok hs hi0 hi h (l := (s.Columns[i].Widths.length : Int) - n) (by omega) (by omega)
  refine ⟨L, h0, h1, Ok.val ?_⟩
  unfold types_own
  refine Ok.for (fun q => q.1) 0 (fun _ q => q.2 = []) 0 (Nat.zero_le _) rfl rfl (by omega) (fun rec q hq hI => ?_) fun rec i q hi hq hI ih => absurd hi (by omega)
  simp only [types_own_b1, hq, hI]
  refine Ok.no rfl ?_
  unfold types_own_j1
  refine Ok.no rfl (Ok.no rfl (Ok.no rfl (Ok.no rfl (Ok.no rfl (Ok.no rfl (Ok.yes rfl (Ok.bindE (level_of hi h hn) (Ok.bindE hL (Ok.rm (by simp) ?_)))))))))
  unfold types_own_j2
  refine Ok.for (fun q => q.1) 0 (fun _ q => q.2 = [({ Column := i, Level := L } : APick)]) 0 (Nat.zero_le _) rfl rfl (by omega) (fun rec q hq hI => ?_) fun rec i q hi hq hI ih => absurd hi (by omega)
  simp only [types_own_b2, hq, hI]
  exact Ok.no rfl (Ok.some rfl)
theorem merge_one {i : Nat} (hi0 : 1 ≤ i) (hi : i ≤ 10) {L : Int} (h0 : 0 ≤ L) : Ok (questions_Merge [[({ Column := i, Level := L } : APick)], [], []]) fun r => (∀ q ∈ r, q = ({ Column := i, Level := L } : APick)) ∧ r.length ≤ 100 := by
  unfold questions_Merge
  refine Ok.for (fun q => q.2.1) 3 (fun k q => (k = 0 ∧ q.1 = 0 ∧ q.2.2 = []) ∨ (1 ≤ k ∧ q.1 = i ∧ q.2.2 = [((i : Int), L)])) 0 (Nat.zero_le _) rfl (.inl ⟨rfl, rfl, rfl⟩) (by omega) (fun rec q hq hI => ?_) fun rec k q hk hq hI ih => ?_
  · obtain ⟨_, e1, e2⟩ := hI.resolve_left (by omega)
    simp only [questions_Merge_b1, hq, e1, e2]
    refine Ok.no rfl ?_
    have ew : IntKind.i64.wrap ((i : Int) + 1) = ((i + 1 : Nat) : Int) := inc (by omega)
    refine Ok.for (fun q => q.1) (i + 1) (fun _ q => (∀ p ∈ q.2, p = ({ Column := i, Level := L } : APick)) ∧ q.2.length ≤ q.1.toNat) 0 (Nat.zero_le _) rfl ⟨(fun p hp => by cases hp), Nat.le_refl _⟩ (by omega) (fun rec q hq hI => ?_) fun rec k q hk hq hI ih => ?_
    · simp only [questions_Merge_b3, hq, ew]
      rw [bif_f (by omega)]
      have := hI.2
      rw [hq] at this
      exact Ok.some ⟨hI.1, by omega⟩
    · obtain ⟨hI, hln⟩ := hI
      rw [hq] at hln
      simp only [questions_Merge_b3, hq, ew]
      rw [bif_t (by omega)]
      refine Ok.brd (fun hp => Ok.rm (by simp; omega) (ih _ (inc (by omega)) ⟨fun p hp2 => ?_, ?_⟩)) fun _ => ih _ (inc (by omega)) ⟨hI, by show q.2.length ≤ (IntKind.i64.wrap ((k : Int) + 1)).toNat; rw [inc (by omega)]; omega⟩
      · rcases List.mem_append.1 hp2 with hp2 | hp2
        · exact hI p hp2
        · simp only [List.mem_singleton] at hp2
          subst hp2
          by_cases e : (k : Int) = i
          · have hg : getI (k : Int) [((i : Int), L)] = some L := by simp [getI, e]
            rw [hg]
            simp [e]
          · have hg : getI (k : Int) [((i : Int), L)] = none := by
              have : ((k : Int) == (i : Int)) = false := by rw [beq_eq_false_iff_ne]; exact e
              simp only [getI, this]; rfl
            rw [hg] at hp
            simp at hp
      · show (q.2 ++ [_]).length ≤ (IntKind.i64.wrap ((k : Int) + 1)).toNat
        rw [inc (by omega), List.length_append]
        simp
        omega
  · simp only [questions_Merge_b1, hq]
    rw [bif_t (by simp; omega)]
    rcases hI with ⟨rfl, e1, e2⟩ | ⟨hk1, e1, e2⟩
    · refine Ok.bindE (x := [({ Column := i, Level := L } : APick)]) rfl ?_
      refine Ok.for (fun q => q.2.1) 1 (fun j q => (j = 0 ∧ q.1 = 0 ∧ q.2.2 = []) ∨ (j = 1 ∧ q.1 = i ∧ q.2.2 = [((i : Int), L)])) 0 (Nat.zero_le _) rfl (.inl ⟨rfl, e1, e2⟩) (by omega) (fun rec2 q2 hq2 hI2 => ?_) fun rec2 j q2 hj hq2 hI2 ih2 => ?_
      · obtain ⟨_, f1, f2⟩ := hI2.resolve_left (by omega)
        simp only [questions_Merge_b2, hq2, f1, f2]
        exact Ok.no rfl (ih _ rfl (.inr ⟨by omega, rfl, rfl⟩))
      · obtain rfl : j = 0 := by omega
        obtain ⟨_, f1, f2⟩ := hI2.resolve_right (by omega)
        simp only [questions_Merge_b2, hq2, f1, f2]
        refine Ok.yes rfl (Ok.bindE (x := ({ Column := i, Level := L } : APick)) rfl (ih2 _ rfl (.inr ⟨rfl, ?_, ?_⟩)))
        · show (if (i : Int) > 0 then (i : Int) else 0) = i
          rw [if_pos (by omega)]
        · show [((i : Int), (if L > 0 then L else 0))] = _
          congr 2
          split <;> omega
    · have hx : idx [[({ Column := i, Level := L } : APick)], [], []] (k : Int) = some [] := by
        rcases (by omega : k = 1 ∨ k = 2) with rfl | rfl <;> rfl
      refine Ok.bindE hx ?_
      refine Ok.for (fun q => q.2.1) 0 (fun _ q => q.1 = i ∧ q.2.2 = [((i : Int), L)]) 0 (Nat.zero_le _) rfl ⟨e1, e2⟩ (by omega) (fun rec2 q2 hq2 hI2 => ?_) fun rec2 j q2 hj hq2 hI2 ih2 => absurd hj (by omega)
      obtain ⟨f1, f2⟩ := hI2
      simp only [questions_Merge_b2, hq2, f1, f2]
      exact Ok.no rfl (ih _ (inc (by omega)) (.inr ⟨by omega, rfl, rfl⟩))
theorem needs_hist (hs : DS s) {i : Nat} (hi0 : 1 ≤ i) (hi : i < s.Columns.length) (h : Meas s.Columns[i]) {n : Nat} (hn : n < s.Columns[i].Widths.length) : Ok (types_Needs DD s (histE i s.Columns[i].Widths[n])) fun r => (∀ q ∈ r, q.Column = i ∧ q.Level ≤ (s.Columns[i].Widths.length : Int) - n) ∧ r.length ≤ 100 := by
  have hc := hs.cols_length
  obtain ⟨L, h0, h1, hown⟩ := own_hist hs hi0 hi h hn
  unfold types_Needs
  refine Ok.bindE hs.check (Ok.no rfl (Ok.bindE (right_hist hs hi h (List.getElem_mem hn)) (Ok.no rfl (Ok.bind (P := fun r : List APick => (∀ q ∈ r, q.Column = (i : Int) ∧ q.Level ≤ (s.Columns[i].Widths.length : Int) - n) ∧ r.length ≤ 100) ?_ fun x hx => Ok.some hx))))
  show Ok (types_needs_s 59 (types_needs 59) s (histE i s.Columns[i].Widths[n])) _
  unfold types_needs_s
  refine Ok.bindE hown (Ok.bindE (hs.pneeds_all 58) (Ok.bindE (hs.pneeds_zero 58) ?_))
  refine Ok.for (fun q => q.1) 0 (fun _ q => q.2 = [[({ Column := i, Level := L } : APick)], [], []]) 0 (Nat.zero_le _) rfl rfl (by omega) (fun rec q hq hI => ?_) fun rec i q hi hq hI ih => absurd hi (by omega)
  simp only [types_needs_b1, hq, hI]
  refine Ok.no rfl (Ok.bind (merge_one hi0 (by omega) h0) fun x hx => Ok.some ⟨fun q hq => ?_, hx.2⟩)
  rw [hx.1 q hq]
  exact ⟨rfl, h1⟩
theorem cf_Pick {l : List APick} {p : APick → Option Bool} (q : APick → Bool) (hp : ∀ x ∈ l, p x = some (q x)) (hl : l.length ≤ 1000000000) : slices_ContainsFunc_Lapi_Pick_api_Pick l p = some (l.any q) := by
  unfold slices_ContainsFunc_Lapi_Pick_api_Pick
  rw [show slices_IndexFunc_Lapi_Pick_api_Pick l p = some (findI q l) from indexFunc hp hl, Option.bind_some, findI_any]
def covers (picks needs : List APick) : Bool := needs.all fun n => picks.any fun p => bif p.Column == n.Column then decide (p.Level ≥ n.Level) else false
theorem pcovers (picks needs : List APick) (h1 : picks.length ≤ 1000000) (h2 : needs.length ≤ 1000000) : condition_Covers picks needs = some (covers picks needs) := by
  unfold condition_Covers
  rw [cf_Pick (fun n => !(picks.any fun p => bif p.Column == n.Column then decide (p.Level ≥ n.Level) else false)) (fun n _ => ?_) (by omega)]
  · rw [Option.bind_some, covers, List.any_eq_not_all_not]
    simp
  · unfold condition_Covers_c1
    have := cf_Pick (l := picks) (p := fun a0 => condition_Covers_c1_c1 a0 n) (fun p => bif p.Column == n.Column then decide (p.Level ≥ n.Level) else false) (fun _ _ => rfl) (by omega)
    rw [this]
    rfl
end Go.Proofs.YtejfnieiaecpkaaGreatDoor.P

/-
  Plain laws: the histogram of a right extract.
-/
namespace Go.Proofs.YtejfnieiaecpkaaGreatDoor.P
open Go Go.Abs Go.Proofs
set_option maxRecDepth 100000
variable {s : ASchema}

theorem usable_hist {x : AExtract} (hs : DS s) (hx : GX s x) {i : Nat} (hi0 : 1 ≤ i) (hi : i < s.Columns.length) (h : Meas s.Columns[i]) {n : Nat} (hn : n < s.Columns[i].Widths.length)
    (hp : ∃ p ∈ x.Picks, p.Column = (i : Int) ∧ (s.Columns[i].Widths.length : Int) - n ≤ p.Level) : plot_usable DD s x (histE i s.Columns[i].Widths[n]) = some 0 := by
  have hpl := hx.picks_len hs
  refine Ok.val ?_
  unfold plot_usable
  refine Ok.bindE (hx.check hs) (Ok.no rfl (Ok.bindE (right_hist hs hi h (List.getElem_mem hn)) (Ok.no rfl (Ok.bind (needs_hist hs hi0 hi h hn) fun r hr => Ok.bindE (pcovers _ _ (by omega) (by omega)) ?_))))
  have : covers x.Picks r = true := by
    unfold covers
    rw [List.all_eq_true]
    intro q hq
    obtain ⟨p, hp1, hp2, hp3⟩ := hp
    obtain ⟨h1, h2⟩ := hr.1 q hq
    refine List.any_eq_true.2 ⟨p, hp1, ?_⟩
    rw [hp2, h1, beq_self_eq_true]
    simp only [cond_true, decide_eq_true_eq]
    omega
  rw [this]
  exact Ok.no rfl (Ok.some rfl)

/-! ### All rows hold -/
theorem told_all (hs : DS s) {picks : List APick} {vals : List Int} (hl : picks.length ≤ 1000) (hv : picks.length ≤ vals.length)
    (h : ∀ (k : Nat) (hk : k < picks.length) (hk2 : k < vals.length), (∃ u, schema_Some s picks[k].Column picks[k].Level vals[k] = some (u, true)) ∧ ∃ i : Nat, picks[k].Column = i ∧ i < s.Columns.length) : condition_Told DD s allC picks vals = some 1 := by
  have hc := hs.cols_length
  refine Ok.val ?_
  unfold condition_Told
  refine Ok.gd (by rw [decide_eq_true (by omega), rm_ok (by omega)]; rfl) ?_
  refine Ok.for (fun q => q.1) s.Columns.length (fun k q => q.2.length = s.Columns.length ∧ 1 ≤ k) 1 (by omega) rfl ⟨by simp, by omega⟩ (by omega) (fun rec q hq hI => ?_) fun rec k q hk hq hI ih => ?_
  · simp only [condition_Told_b1, hq, hI.1]
    rw [bif_f (by omega)]
    unfold condition_Told_j1
    refine Ok.for (fun q => q.1) picks.length (fun k q => q.2.length = s.Columns.length) 0 (Nat.zero_le _) rfl hI.1 (by omega) (fun rec q hq hI => ?_) fun rec k q hk hq hI ih => ?_
    · simp only [condition_Told_b2, hq]
      rw [bif_f (by omega)]
      exact Ok.bindE (x := 1) rfl (Ok.some rfl)
    · simp only [condition_Told_b2, hq]
      rw [bif_t (by omega)]
      obtain ⟨⟨u, hu⟩, i, hi1, hi2⟩ := h k hk (by omega)
      refine Ok.idxn hk (Ok.idxn (by omega : k < vals.length) (Ok.bindE hu (Ok.no rfl ?_)))
      rw [hi1]
      exact Ok.idxn (by omega : i < q.2.length) (ih _ (inc (by omega)) (by show (q.2.set _ _).length = _; rw [List.length_set]; exact hI))
  · simp only [condition_Told_b1, hq, hI.1]
    rw [bif_t (by omega)]
    obtain ⟨r, hr⟩ := psome0 hs hI.2 hk
    exact Ok.bindE hr (Ok.idxn (by omega : k < q.2.length) (ih _ (inc (by omega)) ⟨by show (q.2.set _ _).length = _; rw [List.length_set]; exact hI.1, by omega⟩))
theorem cut1 (l : List Int) : cut l 1 ((l.length : Nat) : Int) = l.drop 1 := by
  unfold cut
  rw [List.take_of_length_le]
  · rfl
  · rw [List.length_drop]; simp
theorem GX.vals {x : AExtract} (hs : DS s) (hx : GX s x) {r : List Int} (hr : r ∈ x.Rows) (k : Nat) (hk : k < x.Picks.length) (hk2 : k < (r.drop 1).length) :
    (∃ u, schema_Some s x.Picks[k].Column x.Picks[k].Level (r.drop 1)[k] = some (u, true)) ∧ ref02_Can s x.Picks[k].Column x.Picks[k].Level (r.drop 1)[k] = some true := by
  have e : (r.drop 1)[k] = r[k + 1]'(by rw [List.length_drop] at hk2; omega) := by rw [List.getElem_drop]; congr 1; omega
  rw [e]
  exact hx.at hs hr hk _
def upto (n : Nat) : List Int := (List.range n).map fun k : Nat => (k : Int)
theorem upto_succ (n : Nat) : upto (n + 1) = upto n ++ [(n : Int)] := by simp [upto, List.range_succ]
theorem upto_length (n : Nat) : (upto n).length = n := by simp [upto]
theorem upto_get {n k : Nat} (hk : k < (upto n).length) : (upto n)[k] = (k : Int) := by simp [upto]
theorem holding_all {x : AExtract} (hs : DS s) (hx : GX s x) : tabulate_Holding DD s x allC = some (upto x.Rows.length) := by
  have hpl := hx.picks_len hs
  have hl := hx.len
  refine Ok.val ?_
  unfold tabulate_Holding
  refine Ok.bindE (hs.pcond_all 59) (Ok.no rfl (Ok.bindE (hs.pneeds_all 59) (Ok.bindE (pcovers _ _ (by omega) (by simp)) (Ok.no rfl ?_))))
  unfold tabulate_Holding_j1
  refine Ok.for (fun q => q.1) x.Rows.length (fun k q => q.2 = upto k) 0 (Nat.zero_le _) rfl rfl (by omega) (fun rec q hq hI => ?_) fun rec k q hk hq hI ih => ?_
  · simp only [tabulate_Holding_b1, hq, hI]
    rw [bif_f (by omega)]
    exact Ok.some rfl
  · simp only [tabulate_Holding_b1, hq, hI]
    rw [bif_t (by omega)]
    have hr := List.getElem_mem hk
    have hrl := (hx.rows _ hr).1
    refine Ok.idxn hk (Ok.gdd (by omega) ?_)
    rw [cut1]
    refine Ok.bindE (told_all hs (by omega) (by rw [List.length_drop]; omega) fun j hj hj2 => ⟨(hx.vals hs hr j hj hj2).1, ?_⟩) (Ok.yes rfl (Ok.rm (by rw [upto_length]; simp; omega) (ih _ (inc (by omega)) (upto_succ k).symm)))
    obtain ⟨i, _, h2, h3, _⟩ := hx.picks _ (List.getElem_mem hj)
    exact ⟨i, h3, h2⟩

/-! ### A value of a row -/
theorem known_m {x : AExtract} (hs : DS s) (hx : GX s x) {i : Nat} (hi0 : 1 ≤ i) (hi : i < s.Columns.length) (h : Meas s.Columns[i]) {k : Nat} (hk : k < x.Picks.length) (hkc : x.Picks[k].Column = (i : Int)) {b : Int} (hb : 1 ≤ b) (hab : b ≤ x.Picks[k].Level)
    (ha : x.Picks[k].Level ≤ s.Columns[i].Widths.length) {j : Nat} (hj : j < x.Rows.length) {w : Int} (hw : MV s.Columns[i] w) (hv : x.Rows[j][k + 1]? = some (mv s.Columns[i] x.Picks[k].Level w)) : extract_Known s x j i b = some (mv s.Columns[i] b w, true) := by
  have hpl := hx.picks_len hs
  have hf : slices_IndexFunc_Lapi_Pick_api_Pick x.Picks (fun a0 => extract_Known_c1 a0 (i : Int)) = some (k : Int) := by
    have h1 : slices_IndexFunc_Lapi_Pick_api_Pick x.Picks (fun a0 => extract_Known_c1 a0 (i : Int)) = some (findI (fun p => p.Column == (i : Int)) x.Picks) := indexFunc (fun _ _ => rfl) (by omega)
    rw [h1]
    have : x.Picks.findIdx? (fun p => p.Column == (i : Int)) = some k := by
      rw [List.findIdx?_eq_some_iff_getElem]
      refine ⟨hk, by rw [hkc]; exact beq_self_eq_true _, fun j hj => ?_⟩
      have := (List.pairwise_iff_getElem.1 hx.order) j k (by omega) hk hj
      rw [hkc] at this
      simp; omega
    unfold findI
    rw [this]
  obtain ⟨hk1, hk2⟩ := List.getElem?_eq_some_iff.1 hv
  refine Ok.val ?_
  unfold extract_Known
  refine Ok.bindE hf (Ok.brd (fun h => by omega) fun _ => Ok.idxn hk (Ok.idxn hj ?_))
  rw [inc (by omega)]
  refine Ok.idxn hk1 ?_
  rw [hk2]
  exact Ok.bindE (pturned_m hs hi0 hi h hb hab ha hw) (Ok.some rfl)
theorem inner_m {x : AExtract} (hs : DS s) (hx : GX s x) {i : Nat} (hi0 : 1 ≤ i) (hi : i < s.Columns.length) (h : Meas s.Columns[i]) {k : Nat} (hk : k < x.Picks.length) (hkc : x.Picks[k].Column = (i : Int)) {b : Int} (hb : 1 ≤ b) (hab : b ≤ x.Picks[k].Level)
    (ha : x.Picks[k].Level ≤ s.Columns[i].Widths.length) {j : Nat} (hj : j < x.Rows.length) {w : Int} (hw : MV s.Columns[i] w) (hv : x.Rows[j][k + 1]? = some (mv s.Columns[i] x.Picks[k].Level w)) : ref13_Inner s x j i b = some (mv s.Columns[i] b w, true) := by
  have hpl := hx.picks_len hs
  have hc := hs.cols_length
  obtain ⟨hk1, hk2⟩ := List.getElem?_eq_some_iff.1 hv
  refine Ok.val ?_
  unfold ref13_Inner
  refine Ok.no ?_ ?_
  · rw [decide_eq_false (by omega), decide_eq_false (by omega), decide_eq_false (by omega), decide_eq_false (by omega)]; rfl
  refine Ok.for (fun q => q) x.Picks.length (fun m _ => m ≤ k) 0 (Nat.zero_le _) rfl (Nat.zero_le _) (by omega) (fun rec q hq hI => by omega) fun rec m q hm hq hI ih => ?_
  simp only [ref13_Inner_b1, hq]
  rw [bif_t (by omega)]
  by_cases e : m = k
  · subst e
    refine Ok.idxn hk (Ok.yes (by rw [hkc]; exact beq_self_eq_true _) (Ok.idxn hk (Ok.idxn hj ?_)))
    rw [inc (by omega)]
    refine Ok.idxn hk1 ?_
    rw [hk2]
    exact Ok.bindE (rturn_m hs hi0 hi h hb hab ha hw) (Ok.some rfl)
  · have := (List.pairwise_iff_getElem.1 hx.order) m k (by omega) hk (by omega)
    rw [hkc] at this
    exact Ok.idxn hm (Ok.no (by rw [beq_eq_false_iff_ne]; omega) (ih _ (inc (by omega)) (by omega)))

/-! ### Bins -/
theorem cf_Int {l : List Int} {p : Int → Option Bool} (q : Int → Bool) (hp : ∀ x ∈ l, p x = some (q x)) (hl : l.length ≤ 1000000000) : slices_ContainsFunc_Lint_int l p = some (l.any q) := by
  unfold slices_ContainsFunc_Lint_int
  rw [show slices_IndexFunc_Lint_int l p = some (findI q l) from indexFunc hp hl, Option.bind_some, findI_any]
theorem pdown_eq {n w : Int} (hw : 1 ≤ w) (hw2 : w ≤ 1000000) (h0 : -100000000 ≤ n) (h1 : n ≤ 100000000) : plot_down n w = some (n - n % w) := down_eq hw hw2 h0 h1
theorem bins_ok {l : List Int} {w : Int} (hl : l.length ≤ 200) (hw : 1 ≤ w) (hw2 : w ≤ 1000000) (hv : ∀ v ∈ l, -1000000 ≤ v ∧ v ≤ 1000000) : Ok (plot_Bins l w) fun r => r.2 = 0 ∧ r.1.length ≤ 200 := by
  unfold plot_Bins
  have hn : l.any (fun v => bif decide (v < -1000000) then true else decide (v > 1000000)) = false := by
    rw [List.any_eq_false]
    intro v h
    have := hv v h
    rw [decide_eq_false (by omega), decide_eq_false (by omega)]
    simp
  refine Ok.brd (fun h => by omega) fun _ => Ok.no (by rw [decide_eq_false (by omega), decide_eq_false (by omega)]; rfl) (Ok.bindE (cf_Int _ (fun _ _ => rfl) (by omega)) ?_)
  rw [hn]
  refine Ok.no rfl ?_
  unfold plot_Bins_j1
  have hc : slices_Clone_Lint_int l = some l := by unfold slices_Clone_Lint_int; rw [rm_ok (by omega)]; rfl
  have hs : slices_Sort_Lint_int l = some (sortP l) := by unfold slices_Sort_Lint_int; rw [rm_ok (by omega)]; rfl
  have hsl : (sortP l).length = l.length := by simp [sortP, List.length_mergeSort]
  have hsv : ∀ v ∈ sortP l, -1000000 ≤ v ∧ v ≤ 1000000 := fun v hvv => hv v (List.mem_mergeSort.1 hvv)
  refine Ok.bindE hc (Ok.bindE hs ?_)
  refine Ok.for (fun q => q.1) (sortP l).length (fun k q => q.2.length ≤ k) 0 (Nat.zero_le _) rfl (Nat.le_refl _) (by omega) (fun rec q hq hI => ?_) fun rec k q hk hq hI ih => ?_
  · simp only [plot_Bins_b1, hq]
    rw [bif_f (by omega)]
    exact Ok.some ⟨rfl, by show q.2.length ≤ 200; omega⟩
  · have hvk := hsv _ (List.getElem_mem hk)
    simp only [plot_Bins_b1, hq]
    rw [bif_t (by omega)]
    have hlast : ∀ (b : List ABin) (z : ABin), IntKind.i64.wrap ((((b ++ [z]).length : Nat) : Int) - 1) = (b.length : Int) ∨ 1000 < b.length := by
      intro b z
      by_cases h : b.length ≤ 1000
      · left
        rw [List.length_append, wr (by simp <;> omega) (by simp; omega)]; simp
      · right; omega
    have hnew : ∀ z : ABin, Ok (bif P.rm q.2.length [z].length then
        (idx (q.2 ++ [z]) (IntKind.i64.wrap ((((q.2 ++ [z]).length : Nat) : Int) - 1))).bind fun x63 =>
        (idx (q.2 ++ [z]) (IntKind.i64.wrap ((((q.2 ++ [z]).length : Nat) : Int) - 1))).bind fun x67 =>
        rec ((IntKind.i64.wrap ((k : Int) + 1)), ((q.2 ++ [z]).set ((IntKind.i64.wrap ((((q.2 ++ [z]).length : Nat) : Int) - 1)) : Int).toNat ({ Low := x67.Low, Count := (IntKind.i64.wrap (x63.Count + 1)) } : ABin))) else none) fun r => r.2 = 0 ∧ r.1.length ≤ 200 := by
      intro z
      refine Ok.rm (by simp; omega) ?_
      rw [(hlast q.2 z).resolve_right (by omega)]
      have hb : q.2.length < (q.2 ++ [z]).length := by simp
      exact Ok.idxn hb (Ok.idxn hb (ih _ (inc (by omega)) (by show (List.set _ _ _).length ≤ k + 1; rw [List.length_set]; simp; omega)))
    refine Ok.idxn hk (Ok.bindE (pdown_eq hw hw2 (by omega) (by omega)) (Ok.br (fun _ => hnew _) fun hz => ?_))
    have hz : q.2.length ≠ 0 := by
      intro e
      rw [e] at hz
      cases hz
    have e : IntKind.i64.wrap (((q.2.length : Nat) : Int) - 1) = ((q.2.length - 1 : Nat) : Int) := by rw [wr (by omega) (by omega)]; omega
    rw [e]
    have hb : q.2.length - 1 < q.2.length := by omega
    refine Ok.idxn hb (Ok.br (fun _ => hnew _) fun _ => Ok.idxn hb (Ok.idxn hb (ih _ (inc (by omega)) (by show (List.set _ _ _).length ≤ k + 1; rw [List.length_set]; omega))))

/-! ### Keys -/
theorem pkeys {x : AExtract} {l : List Nat} (hl : l.length ≤ 1000) (h : ∀ j ∈ l, j < x.Rows.length) (hne : ∀ r ∈ x.Rows, r ≠ []) : tabulate_Keys x (l.map fun j : Nat => (j : Int)) = some (l.map fun j => hd (x.Rows.getD j [])) := by
  refine Ok.val ?_
  unfold tabulate_Keys
  refine Ok.for (fun q => q.1) l.length (fun k q => q.2 = (l.take k).map fun j => hd (x.Rows.getD j [])) 0 (Nat.zero_le _) rfl rfl (by omega) (fun rec q hq hI => ?_) fun rec k q hk hq hI ih => ?_
  · simp only [tabulate_Keys_b1, hq, hI, List.length_map]
    rw [bif_f (by omega), List.take_length]
    exact Ok.some rfl
  · simp only [tabulate_Keys_b1, hq, hI, List.length_map]
    rw [bif_t (by omega)]
    have hj := h _ (List.getElem_mem hk)
    refine Ok.idxn (by rw [List.length_map]; exact hk) ?_
    rw [List.getElem_map]
    refine Ok.idxn hj (Ok.bindE (idx_hd (hne _ (List.getElem_mem hj))) (Ok.rm (by simp; omega) (ih _ (inc (by omega)) ?_)))
    show _ ++ [_] = _
    rw [List.take_succ_eq_append_getElem hk, List.map_append, List.map_cons, List.map_nil, List.getD_eq_getElem?_getD, List.getElem?_eq_getElem hj]
    rfl
theorem rkeys {x : AExtract} {l : List Nat} (hl : l.length ≤ 1000) (h : ∀ j ∈ l, j < x.Rows.length) (hne : ∀ r ∈ x.Rows, r ≠ []) : ref19_Keys x (l.map fun j : Nat => (j : Int)) = some (l.map fun j => hd (x.Rows.getD j [])) := pkeys hl h hne
end Go.Proofs.YtejfnieiaecpkaaGreatDoor.P

/-
  Plain laws: the histogram of an extract and of its thin copy; the law of PlotCoarse.
-/
namespace Go.Proofs.YtejfnieiaecpkaaGreatDoor.P
open Go Go.Abs Go.Proofs
set_option maxRecDepth 100000
variable {s : ASchema}

/-! ### The rows whose value is known -/
def keep (w : Nat → Int) (n : Nat) : List Nat := (List.range n).filter fun j => w j != missing
theorem keep_succ (w : Nat → Int) (n : Nat) : keep w (n + 1) = if w n = missing then keep w n else keep w n ++ [n] := by
  unfold keep
  rw [List.range_succ, List.filter_append]
  by_cases e : w n = missing
  · rw [if_pos e, List.filter_cons_of_neg (by simp [e])]; simp
  · rw [if_neg e, List.filter_cons_of_pos (by simp [e])]; rfl
theorem keep_length (w : Nat → Int) (n : Nat) : (keep w n).length ≤ n := by
  have := List.length_filter_le (fun j => w j != missing) (List.range n)
  rw [List.length_range] at this
  exact this
theorem keep_mem {w : Nat → Int} {n j : Nat} (h : j ∈ keep w n) : j < n ∧ w j ≠ missing := by
  unfold keep at h
  rw [List.mem_filter, List.mem_range] at h
  exact ⟨h.1, by simpa using h.2⟩
def ints (l : List Nat) : List Int := l.map fun j : Nat => (j : Int)
theorem mv_missing {c : AColumn} (h : Meas c) {b w : Int} (h0 : 1 ≤ b) (h1 : b ≤ c.Widths.length) (hw : MV c w) : mv c b w = missing ↔ w = missing := by
  constructor
  · intro e
    rcases hw with hw | hw
    · exact absurd e (mv_range h h0 h1 hw).2.2.2.1
    · exact hw.2
  · intro e
    unfold mv
    rw [if_neg (by omega), if_pos e]
theorem width_of {c : AColumn} (h : Meas c) {n : Nat} (hn : n < c.Widths.length) : 1 ≤ c.Widths[n] ∧ c.Widths[n] ≤ 20 := by
  have : ∀ v ∈ c.Widths, 1 ≤ v ∧ v ≤ 20 := by rcases mem4 h.widths with e | e | e | e <;> (rw [e]; decide)
  exact this _ (List.getElem_mem hn)
theorem vals_bins {c : AColumn} (h : Meas c) {b : Int} (h0 : 1 ≤ b) (h1 : b ≤ c.Widths.length) {n : Nat} (hn : n < c.Widths.length) {w : Nat → Int} {m : Nat} (hm : m ≤ 200) (hw : ∀ j < m, MV c (w j)) :
    Ok (plot_Bins ((keep w m).map fun j => mv c b (w j)) c.Widths[n]) fun r => r.2 = 0 ∧ r.1.length ≤ 200 := by
  have hl := keep_length w m
  have hn2 := width_of h hn
  refine bins_ok (by rw [List.length_map]; omega) hn2.1 (by omega) fun v hv => ?_
  obtain ⟨j, hj, rfl⟩ := List.mem_map.1 hv
  obtain ⟨hj1, hj2⟩ := keep_mem hj
  rcases hw j hj1 with h3 | h3
  · obtain ⟨e1, e2, e3, _, e4, e5⟩ := mv_range h h0 h1 h3
    have := wid_range h h0 h1
    omega
  · exact absurd h3.2 hj2
theorem hist_ok {x : AExtract} (hs : DS s) (hx : GX s x) {i : Nat} (hi0 : 1 ≤ i) (hi : i < s.Columns.length) (h : Meas s.Columns[i]) {n : Nat} (hn : n < s.Columns[i].Widths.length) {k : Nat} (hk : k < x.Picks.length) (hkc : x.Picks[k].Column = (i : Int))
    (hb : (s.Columns[i].Widths.length : Int) - n ≤ x.Picks[k].Level) (ha : x.Picks[k].Level ≤ s.Columns[i].Widths.length) {w : Nat → Int} (hw : ∀ (j : Nat) (hj : j < x.Rows.length), MV s.Columns[i] (w j) ∧ x.Rows[j][k + 1]? = some (mv s.Columns[i] x.Picks[k].Level (w j)))
    {bins : List ABin} (hbins : plot_Bins ((keep w x.Rows.length).map fun j => mv s.Columns[i] ((s.Columns[i].Widths.length : Int) - n) (w j)) s.Columns[i].Widths[n] = some (bins, 0)) :
    plot_Hist DD s x i s.Columns[i].Widths[n] allC = some (bins, (keep w x.Rows.length).map fun j => hd (x.Rows.getD j []), 0) := by
  have hl := hx.len
  refine Ok.val ?_
  unfold plot_Hist
  refine Ok.bindE (usable_hist hs hx hi0 hi h hn ⟨_, List.getElem_mem hk, hkc, hb⟩) (Ok.no rfl (Ok.bindE (holding_all hs hx) ?_))
  refine Ok.for (fun q => q.1) x.Rows.length (fun m q => q.2.1 = ints (keep w m) ∧ q.2.2 = (keep w m).map fun j => mv s.Columns[i] ((s.Columns[i].Widths.length : Int) - n) (w j)) 0 (Nat.zero_le _) rfl ⟨rfl, rfl⟩ (by omega) (fun rec q hq hI => ?_) fun rec m q hm hq hI ih => ?_
  · simp only [plot_Hist_b1, hq, hI.1, hI.2, upto_length]
    rw [bif_f (by omega)]
    unfold plot_Hist_k1
    have hkl := keep_length w x.Rows.length
    exact Ok.bindE hbins (Ok.no rfl (Ok.bindE (pkeys (by omega) (fun j hj => (keep_mem hj).1) fun r hr => hx.ne hr) (Ok.some rfl)))
  · have hkl := keep_length w m
    simp only [plot_Hist_b1, hq, hI.1, hI.2, upto_length]
    rw [bif_t (by omega)]
    obtain ⟨h1, h2⟩ := hw m hm
    refine Ok.idxn (by rw [upto_length]; exact hm) ?_
    rw [upto_get]
    refine Ok.bindE (level_of hi h hn) (Ok.bindE (known_m hs hx hi0 hi h hk hkc (by omega) hb ha hm h1 h2) ?_)
    have hmm := mv_missing h (b := (s.Columns[i].Widths.length : Int) - n) (by omega) (by omega) h1
    by_cases e : w m = missing
    · have e2 := hmm.2 e
      refine Ok.no ?_ (ih _ (inc (by omega)) ?_)
      · rw [e2]; rfl
      · rw [keep_succ, if_pos e]; exact ⟨rfl, rfl⟩
    · have e2 : mv s.Columns[i] ((s.Columns[i].Widths.length : Int) - n) (w m) ≠ missing := fun e3 => e (hmm.1 e3)
      refine Ok.yes ?_ (Ok.rm (by simp [ints]; omega) (Ok.rm (by simp; omega) (ih _ (inc (by omega)) ?_)))
      · show (_ != missing) = true
        rw [bne_iff_ne]; exact e2
      · rw [keep_succ, if_neg e]
        exact ⟨by simp [ints], by simp⟩

/-! ### The reference's rows -/
theorem rcoarse_all {x : AExtract} (hs : DS s) (hx : GX s x) {r : List Int} (hr : r ∈ x.Rows) : ref05_Coarse DD s allC x.Picks (r.drop 1) = some 1 := by
  have hpl := hx.picks_len hs
  have hrl := (hx.rows _ hr).1
  refine Ok.val ?_
  unfold ref05_Coarse
  refine Ok.bindE hs.rcond_all (Ok.no rfl (Ok.bindE (rpicks hs hx.picks hx.order (by omega)) (Ok.no ?_ (Ok.bindE (rneeds_allC hs) (Ok.bindE (x := true) rfl (Ok.no rfl ?_))))))
  · have : (r.drop 1).length = x.Picks.length := by rw [List.length_drop]; omega
    rw [this]
    simp
  unfold ref05_Coarse_j1
  refine Ok.for (fun q => q) x.Picks.length (fun _ _ => True) 0 (Nat.zero_le _) rfl trivial (by omega) (fun rec q hq hI => ?_) fun rec k q hk hq hI ih => ?_
  · simp only [ref05_Coarse_b1, hq]
    rw [bif_f (by omega)]
    exact Ok.bindE (x := 1) rfl (Ok.some rfl)
  · simp only [ref05_Coarse_b1, hq]
    rw [bif_t (by omega)]
    have hk2 : k < (r.drop 1).length := by rw [List.length_drop]; omega
    exact Ok.idxn hk (Ok.idxn hk (Ok.idxn hk2 (Ok.bindE (hx.vals hs hr k hk hk2).2 (Ok.no rfl (ih _ (inc (by omega)) trivial)))))
theorem counts_ok {x : AExtract} (hs : DS s) (hx : GX s x) {i : Nat} (hi0 : 1 ≤ i) (hi : i < s.Columns.length) (h : Meas s.Columns[i]) {k : Nat} (hk : k < x.Picks.length) (hkc : x.Picks[k].Column = (i : Int))
    (ha : x.Picks[k].Level = s.Columns[i].Widths.length) {w : Nat → Int} (hw : ∀ (j : Nat) (hj : j < x.Rows.length), MV s.Columns[i] (w j) ∧ x.Rows[j][k + 1]? = some (mv s.Columns[i] x.Picks[k].Level (w j))) :
    ref18_Counts DD s x allC [(i : Int)] = some (ints (keep w x.Rows.length)) := by
  have hl := hx.len
  have hwl := widths_length h
  have hf : fin s i = s.Columns[i].Widths.length := by rw [fin_eq hi, finL_meas h]
  refine Ok.val ?_
  unfold ref18_Counts
  refine Ok.bindE (hx.rcheck hs) (Ok.no rfl ?_)
  refine Ok.for (fun q => q.1) x.Rows.length (fun m q => q.2 = ints (keep w m)) 0 (Nat.zero_le _) rfl rfl (by omega) (fun rec q hq hI => ?_) fun rec m q hm hq hI ih => ?_
  · simp only [ref18_Counts_b1, hq, hI]
    rw [bif_f (by omega)]
    exact Ok.some rfl
  · have hkl := keep_length w m
    simp only [ref18_Counts_b1, hq, hI]
    rw [bif_t (by omega)]
    have hr := List.getElem_mem hm
    have hrl := (hx.rows _ hr).1
    refine Ok.idxn hm (Ok.gdd (by omega) ?_)
    rw [cut1]
    refine Ok.bindE (rcoarse_all hs hx hr) ?_
    obtain ⟨h1, h2⟩ := hw m hm
    have hin := inner_m hs hx hi0 hi h hk hkc (b := fin s i) (by omega) (by omega) (by omega) hm h1 h2
    have hmm := mv_missing h (b := fin s i) (by omega) (by omega) h1
    refine Ok.for (fun q => q.2) 1 (fun t q => q.1 = if t = 0 then true else decide (w m ≠ missing)) 0 (Nat.zero_le _) rfl rfl (by omega) (fun rec2 q2 hq2 hI2 => ?_) fun rec2 t q2 ht hq2 hI2 ih2 => ?_
    · simp only [ref18_Counts_b2, hq2, hI2]
      refine Ok.no rfl ?_
      unfold ref18_Counts_k1
      by_cases e : w m = missing
      · refine Ok.no (by rw [if_neg (by omega)]; exact decide_eq_false (by simp [e])) (ih _ (inc (by omega)) ?_)
        rw [keep_succ, if_pos e]
      · refine Ok.yes (by rw [if_neg (by omega)]; exact decide_eq_true e) (Ok.rm (by simp [ints]; omega) (ih _ (inc (by omega)) ?_))
        rw [keep_succ, if_neg e]
        simp [ints]
    · obtain rfl : t = 0 := by omega
      simp only [ref18_Counts_b2, hq2, hI2]
      refine Ok.yes rfl (Ok.bindE (x := (i : Int)) rfl (Ok.bindE (x := (i : Int)) rfl (Ok.bindE (hs.rfinest hi0 hi) (Ok.bindE hin (ih2 _ rfl ?_)))))
      show (bif true then _ != missing else false) = _
      rw [if_neg (by omega)]
      by_cases e : w m = missing
      · rw [decide_eq_false (by simp [e]), cond_true, bne_eq_false_iff_eq]; exact hmm.2 e
      · rw [decide_eq_true e, cond_true, bne_iff_ne]; exact fun e2 => e (hmm.1 e2)

/-! ### Alike -/
theorem same_refl {l : List ABin} (hl : l.length ≤ 1000000) : ref21_Same l l = some true := by
  refine Ok.val ?_
  unfold ref21_Same
  refine Ok.no (by simp) ?_
  refine Ok.for (fun q => q) l.length (fun _ _ => True) 0 (Nat.zero_le _) rfl trivial (by omega) (fun rec q hq hI => ?_) fun rec k q hk hq hI ih => ?_
  · simp only [ref21_Same_b1, hq]
    rw [bif_f (by omega)]
    exact Ok.some rfl
  · simp only [ref21_Same_b1, hq]
    rw [bif_t (by omega)]
    exact Ok.idxn hk (Ok.idxn hk (Ok.no (by simp) (ih _ (inc (by omega)) trivial)))
theorem ints_refl {l : List Int} (hl : l.length ≤ 1000000) : ref01_Ints l l = some true := by
  refine Ok.val ?_
  unfold ref01_Ints
  refine Ok.no (by simp) ?_
  refine Ok.for (fun q => q) l.length (fun _ _ => True) 0 (Nat.zero_le _) rfl trivial (by omega) (fun rec q hq hI => ?_) fun rec k q hk hq hI ih => ?_
  · simp only [ref01_Ints_b1, hq]
    rw [bif_f (by omega)]
    exact Ok.some rfl
  · simp only [ref01_Ints_b1, hq]
    rw [bif_t (by omega)]
    exact Ok.idxn hk (Ok.idxn hk (Ok.no (by simp) (ih _ (inc (by omega)) trivial)))
end Go.Proofs.YtejfnieiaecpkaaGreatDoor.P

/-
  Plain laws: the law of PlotCoarse holds for every input.
-/
namespace Go.Proofs.YtejfnieiaecpkaaGreatDoor.P
open Go Go.Abs Go.Proofs
set_option maxRecDepth 100000
variable {s : ASchema}

theorem DS.last (h : DS s) : ∃ i : Nat, 1 ≤ i ∧ ∃ hi : i < s.Columns.length, Meas s.Columns[i] := by
  obtain ⟨j, ms, e, h1, h2, h3⟩ := h.cols
  have hc := cols0_length j
  have hlen : s.Columns.length = (cols0 j).length + ms.length := by rw [e, List.length_append]
  refine ⟨(cols0 j).length, by omega, by omega, ?_⟩
  have hm := (h3 0 (by omega)).1
  have e2 : s.Columns[(cols0 j).length]? = some (ms[0]'(by omega)) := by
    rw [e, List.getElem?_append_right (Nat.le_refl _), Nat.sub_self]
    exact List.getElem?_eq_getElem (by omega)
  rw [List.getElem?_eq_getElem (by omega)] at e2
  rw [Option.some.inj e2]
  exact hm
theorem columns_ok (hs : DS s) : Ok (draw_columns s 3) fun l => l ≠ [] ∧ l.length ≤ 6 ∧ ∀ v ∈ l, ∃ i : Nat, v = i ∧ 1 ≤ i ∧ ∃ hi : i < s.Columns.length, Meas s.Columns[i] := by
  have hc := hs.cols_length
  unfold draw_columns
  refine Ok.for (fun q => q.1) s.Columns.length (fun k q => q.2.length ≤ k ∧ (∀ v ∈ q.2, ∃ i : Nat, v = i ∧ 1 ≤ i ∧ ∃ hi : i < s.Columns.length, Meas s.Columns[i]) ∧ ∀ (i : Nat) (hi : i < s.Columns.length), i < k → Meas s.Columns[i] → (i : Int) ∈ q.2) 0 (Nat.zero_le _) rfl
    ⟨Nat.le_refl _, (fun v hv => by cases hv), fun i _ h => by omega⟩ (by omega) (fun rec q hq hI => ?_) fun rec k q hk hq hI ih => ?_
  · simp only [draw_columns_b1, hq]
    rw [bif_f (by omega)]
    obtain ⟨i, _, hi, hm⟩ := hs.last
    exact Ok.some ⟨(fun e => by have := hI.2.2 i hi hi hm; rw [e] at this; cases this), by have := hI.1; omega, hI.2.1⟩
  · simp only [draw_columns_b1, hq]
    rw [bif_t (by omega)]
    have hI1 := hI.1
    refine Ok.idxn hk (Ok.br (fun e => Ok.rm (by simp; omega) (ih _ (inc (by omega)) ⟨by simp; omega, fun v hv => ?_, fun j hj hjk hm => ?_⟩)) fun e => ih _ (inc (by omega)) ⟨by show q.2.length ≤ k + 1; omega, hI.2.1, fun j hj hjk hm => ?_⟩)
    · rcases List.mem_append.1 hv with hv | hv
      · exact hI.2.1 v hv
      · rw [List.mem_singleton] at hv
        have e : s.Columns[k].Kind = 3 := by simpa using e
        rcases hs.cl hk with ⟨_, h1⟩ | ⟨h0, h1 | h1⟩
        · rw [h1] at e; cases e
        · rw [h1.kind] at e; cases e
        · exact ⟨k, hv, h0, hk, h1⟩
    · show _ ∈ q.2 ++ [_]
      rcases Nat.lt_or_ge j k with h1 | h1
      · exact List.mem_append_left _ (hI.2.2 j hj h1 hm)
      · obtain rfl : j = k := by omega
        exact List.mem_append_right _ (List.mem_singleton.2 rfl)
    · rcases Nat.lt_or_ge j k with h1 | h1
      · exact hI.2.2 j hj h1 hm
      · obtain rfl : j = k := by omega
        rw [hm.kind] at e
        cases e
theorem measured_ok {c : DrawCodes} (hc : OKc c) (hs : DS s) : Ok (draw_Codes_Measured c s) fun r => OKc r.2 ∧ ∃ i : Nat, r.1 = i ∧ 1 ≤ i ∧ ∃ hi : i < s.Columns.length, Meas s.Columns[i] := by
  unfold draw_Codes_Measured
  refine Ok.bind (columns_ok hs) fun l hl => ?_
  have : l.length ≠ 0 := fun e => hl.1 (List.eq_nil_of_length_eq_zero e)
  have hl6 := hl.2.1
  refine Ok.bind (next_ok hc (by omega) (by omega)) fun y hy => Ok.idx hy.2.1 (by omega) (Ok.some ⟨hy.1, hl.2.2 _ (List.getElem_mem _)⟩)
theorem mod_ok (v : Int) {n : Nat} (hn : 1 ≤ n) (hn2 : n ≤ 1000) : Ok (draw_Mod v ((n : Nat) : Int)) fun r => ∃ k : Nat, r = k ∧ k < n := by
  unfold draw_Mod
  have h1 := Int.emod_nonneg v (show ((n : Nat) : Int) ≠ 0 by omega)
  have h2 := Int.emod_lt_of_pos v (show 0 < ((n : Nat) : Int) by omega)
  have hc := tmod_cases v (w := ((n : Nat) : Int)) (by omega)
  refine Ok.brd (fun h => by omega) fun _ => Ok.gdd (by omega) (Ok.brd (fun h => Ok.some ?_) fun h => Ok.some ?_)
  · have e : Int.tmod v n = v % n - n := by omega
    refine ⟨(v % n).toNat, ?_, by omega⟩
    rw [e, wr (by omega) (by omega)]
    omega
  · have e : Int.tmod v n = v % n := by omega
    refine ⟨(v % n).toNat, ?_, by omega⟩
    rw [e]
    omega

/-! ### The thin copy -/
def thinRows (s : ASchema) (i : Nat) (hi : i < s.Columns.length) (b : Int) (l : List (List Int)) : List (List Int) := l.map fun r => [hd r, mv s.Columns[i] b (r.getD i 0)]
theorem thin_gx {x : AExtract} {n : Nat} (hs : DS s) (hx : XOK s x n) (hn : n ≤ 200) {i : Nat} (hi0 : 1 ≤ i) (hi : i < s.Columns.length) (h : Meas s.Columns[i]) {b : Int} (h0 : 1 ≤ b) (h1 : b ≤ s.Columns[i].Widths.length) :
    GX s ({ Project := x.Project, Version := x.Version, Picks := [({ Column := (i : Int), Level := b } : APick)], Rows := thinRows s i hi b x.Rows } : AExtract) := by
  have hf : fin s i = s.Columns[i].Widths.length := by rw [fin_eq hi, finL_meas h]
  have hg := hx.gx hs hn
  have hlen := hx.len
  refine ⟨hg.project, hg.version, ?_, List.pairwise_singleton _ _, ?_, ?_, by simp [thinRows]; omega⟩
  · intro p hp
    rw [List.mem_singleton] at hp
    subst hp
    exact ⟨i, hi0, hi, rfl, by show 0 ≤ b; omega, by show b ≤ _; omega⟩
  · intro r hr
    obtain ⟨q, hq, rfl⟩ := List.mem_map.1 hr
    obtain ⟨a1, a2, a3, a4⟩ := hx.rows q hq
    refine ⟨rfl, a2, a3, fun k p v hp hv => ?_⟩
    obtain ⟨hk, rfl⟩ := List.getElem?_eq_some_iff.1 hp
    obtain rfl : k = 0 := by simpa using hk
    have hv : mv s.Columns[i] b (q.getD i 0) = v := by simpa using hv
    have hq2 : q[i]? = some (q.getD i 0) := by rw [List.getD_eq_getElem?_getD, List.getElem?_eq_getElem (by omega)]; rfl
    exact ⟨i, hi, q.getD i 0, hi0, rfl, a4 i _ _ hi0 (List.getElem?_eq_getElem hi) hq2, by rw [CV_meas h]; exact hv.symm⟩
  · show List.Pairwise _ (List.map _ _)
    rw [List.pairwise_map]
    exact hx.asc

theorem sort1 : sortP [1, 4, 5, -1] = [-1, 1, 4, 5] := by simp [sortP, List.mergeSort, List.MergeSort.Internal.splitInTwo, List.merge]
theorem sort2 : sortP [5, 1, 9, 3, 7] = [1, 3, 5, 7, 9] := by simp [sortP, List.mergeSort, List.MergeSort.Internal.splitInTwo, List.merge]
theorem awake1 : plot_Bins [1, 4, 5, (-1)] 5 = some ([({ Low := (-5), Count := 1 } : ABin), ({ Low := 0, Count := 2 } : ABin), ({ Low := 5, Count := 1 } : ABin)], 0) := by
  unfold plot_Bins
  refine Ok.val (Ok.no (by decide +kernel) (Ok.no (by decide +kernel) (Ok.bindE (x := false) (by decide +kernel) (Ok.no rfl ?_))))
  unfold plot_Bins_j1 slices_Clone_Lint_int slices_Sort_Lint_int
  refine Ok.bindE (x := [1, 4, 5, -1]) (by decide +kernel) (Ok.bindE (x := [-1, 1, 4, 5]) ?_ (Ok.eq rfl))
  rw [sort1]
  decide +kernel
theorem awake2 : plot_Quartiles [5, 1, 9, 3, 7] = some (({ Count := 5, Least := 1, Lower := 3, Middle := 5, Upper := 7, Greatest := 9 } : ABox), 0) := by
  unfold plot_Quartiles
  refine Ok.val (Ok.no (by decide +kernel) (Ok.bindE (x := false) (by decide +kernel) (Ok.no rfl (Ok.no (by decide +kernel) ?_))))
  unfold slices_Clone_Lint_int slices_Sort_Lint_int
  refine Ok.bindE (x := [5, 1, 9, 3, 7]) (by decide +kernel) (Ok.bindE (x := [1, 3, 5, 7, 9]) ?_ (Ok.eq rfl))
  rw [sort2]
  decide +kernel
theorem awake_ok : law21_awake = some true := by
  unfold law21_awake
  rw [awake1, Option.bind_some, awake2, Option.bind_some]
  decide +kernel
theorem coarse_ok (codes : List Int) (h : ∀ v ∈ codes, 0 ≤ v ∧ v ≤ 255) (hl : codes.length ≤ 9223372036854775807) (width : Int) : law21_PlotCoarse DD codes width = some true := by
  refine Ok.val ?_
  unfold law21_PlotCoarse
  refine Ok.bind (new_ok codes h hl) fun c hc => Ok.bind (whole_ok hc (n := 10) (by omega)) fun y hy => ?_
  obtain ⟨hsrc, hx, hc2⟩ := hy
  have hs := hsrc.schema
  refine Ok.bind (measured_ok hc2 hs) fun z hz => ?_
  obtain ⟨z1, z2⟩ := z
  obtain ⟨_, i, hzi, hi0, hi, hm⟩ := hz
  obtain rfl : z1 = (i : Int) := hzi
  have hwl := widths_length hm
  refine Ok.idxn hi (Ok.bind (mod_ok width (n := y.1.Schema.Columns[i].Widths.length) (by omega) (by omega)) fun m hmm => ?_)
  obtain ⟨n, rfl, hn⟩ := hmm
  have hlen := hx.len
  have hcl := hs.cols_length
  have eb : IntKind.i64.wrap (((y.1.Schema.Columns[i].Widths.length : Nat) : Int) - (n : Int)) = (y.1.Schema.Columns[i].Widths.length : Int) - n := wr (by omega) (by omega)
  have hf : fin y.1.Schema i = y.1.Schema.Columns[i].Widths.length := by rw [fin_eq hi, finL_meas hm]
  have hval : ∀ r ∈ y.2.1.Rows, r[i]? = some (r.getD i 0) ∧ VOK y.1.Schema y.1.Schema.Columns[i] (r.getD i 0) := by
    intro r hr
    obtain ⟨a1, _, _, a4⟩ := hx.rows r hr
    have hq : r[i]? = some (r.getD i 0) := by rw [List.getD_eq_getElem?_getD, List.getElem?_eq_getElem (by omega)]; rfl
    exact ⟨hq, a4 i _ _ hi0 (List.getElem?_eq_getElem hi) hq⟩
  refine Ok.for (fun q => q.1) y.2.1.Rows.length (fun k q => q.2 = thinRows y.1.Schema i hi ((y.1.Schema.Columns[i].Widths.length : Int) - n) (y.2.1.Rows.take k)) 0 (Nat.zero_le _) rfl rfl (by omega) (fun rec q hq hI => ?_) fun rec k q hk hq hI ih => ?_
  · simp only [law21_PlotCoarse_b1, hq, hI, List.take_length]
    rw [bif_f (by omega)]
    unfold law21_PlotCoarse_j1
    have hg := hx.gx hs (by omega)
    have hth := thin_gx hs hx (by omega) hi0 hi hm (b := (y.1.Schema.Columns[i].Widths.length : Int) - n) (by omega) (by omega)
    simp only [eb]
    -- the values
    have hpk : i - 1 < y.2.1.Picks.length := by rw [hx.picks, allPicks_length]; omega
    have hpe : y.2.1.Picks[i - 1] = { Column := (i : Int), Level := (y.1.Schema.Columns[i].Widths.length : Int) } := by
      simp only [hx.picks]
      rw [allPicks_get, show i - 1 + 1 = i by omega, hf]
    let w : Nat → Int := fun j => (y.2.1.Rows.getD j []).getD i 0
    have hw : ∀ (j : Nat) (hj : j < y.2.1.Rows.length), w j = y.2.1.Rows[j].getD i 0 := by
      intro j hj
      show (y.2.1.Rows.getD j []).getD i 0 = _
      rw [List.getD_eq_getElem?_getD (l := y.2.1.Rows), List.getElem?_eq_getElem hj]
      rfl
    have hw1 : ∀ (j : Nat) (hj : j < y.2.1.Rows.length), MV y.1.Schema.Columns[i] (w j) ∧ y.2.1.Rows[j][i - 1 + 1]? = some (mv y.1.Schema.Columns[i] y.2.1.Picks[i - 1].Level (w j)) := by
      intro j hj
      obtain ⟨b1, b2⟩ := hval _ (List.getElem_mem hj)
      rw [hw j hj]
      refine ⟨b2.meas hm, ?_⟩
      rw [show i - 1 + 1 = i by omega, b1, hpe]
      have := CV_fin hs hi0 hi b2
      rw [CV_meas hm, hf] at this
      exact congrArg some this.symm
    have hlt : (thinRows y.1.Schema i hi ((y.1.Schema.Columns[i].Widths.length : Int) - n) y.2.1.Rows).length = y.2.1.Rows.length := by simp [thinRows]
    have htg : ∀ (j : Nat) (hj : j < (thinRows y.1.Schema i hi ((y.1.Schema.Columns[i].Widths.length : Int) - n) y.2.1.Rows).length) (hj2 : j < y.2.1.Rows.length), (thinRows y.1.Schema i hi ((y.1.Schema.Columns[i].Widths.length : Int) - n) y.2.1.Rows)[j] = [hd y.2.1.Rows[j], mv y.1.Schema.Columns[i] ((y.1.Schema.Columns[i].Widths.length : Int) - n) (w j)] := by
      intro j hj hj2
      rw [hw j hj2]
      simp [thinRows]
    obtain ⟨bins, hbins, hb0, hb1⟩ := vals_bins hm (b := (y.1.Schema.Columns[i].Widths.length : Int) - n) (by omega) (by omega) hn (w := w) (m := y.2.1.Rows.length) (by omega) fun j hj => (hw1 j hj).1
    obtain ⟨bins, e⟩ := bins
    obtain rfl : e = 0 := hb0
    have hh1 := hist_ok hs hg hi0 hi hm hn hpk (by rw [hpe]) (by rw [hpe]; show _ ≤ ((_ : Nat) : Int); omega) (by rw [hpe]; exact Int.le_refl _) hw1 hbins
    have hh2 := hist_ok hs hth hi0 hi hm hn (k := 0) (w := w) (by simp) rfl (Int.le_refl _) (by show (_ : Int) - _ ≤ _; omega) (fun j hj => by
      have hj2 : j < y.2.1.Rows.length := by rw [← hlt]; exact hj
      refine ⟨(hw1 j hj2).1, ?_⟩
      simp only [htg j hj hj2]
      rfl) (bins := bins) (by simp only [hlt]; exact hbins)
    have hkeys : ((keep w (thinRows y.1.Schema i hi ((y.1.Schema.Columns[i].Widths.length : Int) - n) y.2.1.Rows).length).map fun j => hd ((thinRows y.1.Schema i hi ((y.1.Schema.Columns[i].Widths.length : Int) - n) y.2.1.Rows).getD j [])) = (keep w y.2.1.Rows.length).map fun j => hd (y.2.1.Rows.getD j []) := by
      rw [hlt]
      refine List.map_congr_left fun j hj => ?_
      have hj2 := (keep_mem hj).1
      rw [List.getD_eq_getElem?_getD, List.getD_eq_getElem?_getD, List.getElem?_eq_getElem hj2, List.getElem?_eq_getElem (by rw [hlt]; exact hj2)]
      simp only [Option.getD_some]
      rw [htg j (by rw [hlt]; exact hj2) hj2]
      rfl
    simp only [hkeys] at hh2
    have hkl := keep_length w y.2.1.Rows.length
    have hb1 : bins.length ≤ 200 := hb1
    refine Ok.idxn hn (Ok.bindE hh1 (Ok.idxn hn (Ok.bindE hh2 (Ok.yes rfl (Ok.bindE (same_refl (by show bins.length ≤ _; omega)) (Ok.yes rfl (Ok.bindE (ints_refl (by simp; omega)) (Ok.yes rfl (Ok.bindE (counts_ok hs hg hi0 hi hm hpk (by rw [hpe]) (by rw [hpe]) hw1) ?_)))))))))
    refine Ok.bindE (rkeys (l := keep w y.2.1.Rows.length) (by omega) (fun j hj => (keep_mem hj).1) fun r hr => hg.ne hr) (Ok.bindE (ints_refl (by simp; omega)) (Ok.yes rfl (Ok.bindE awake_ok (Ok.some rfl))))
  · simp only [law21_PlotCoarse_b1, hq, hI]
    rw [bif_t (by omega)]
    have hr := List.getElem_mem hk
    obtain ⟨b1, b2⟩ := hval _ hr
    obtain ⟨hr1, hr2⟩ := List.getElem?_eq_some_iff.1 b1
    simp only [eb]
    refine Ok.idxn hk (Ok.bindE (idx_hd ((hx.rows _ hr).ne hs)) (Ok.idxn hr1 ?_))
    rw [hr2]
    refine Ok.bindE (rcoarse_m hs hi0 hi hm (by omega) (by omega) (b2.meas hm)) (Ok.rm (by simp [thinRows]; omega) (ih _ (inc (by omega)) ?_))
    show _ ++ [_] = _
    unfold thinRows
    rw [List.take_succ_eq_append_getElem hk, List.map_append]
    rfl
end Go.Proofs.YtejfnieiaecpkaaGreatDoor.P
