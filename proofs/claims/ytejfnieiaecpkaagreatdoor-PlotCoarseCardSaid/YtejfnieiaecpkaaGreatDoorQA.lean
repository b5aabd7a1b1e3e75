/-
  Plain laws, joined by wip/tools/coarse.sh from wip/tpl/XQ0 .. XQ4.
-/
import Derived.Test.YtejfnieiaecpkaaGreatDoorPure
import GoSem.Core.Next
import Derived.Test.YtejfnieiaecpkaaGreatDoorP3F
set_option linter.unusedVariables false
set_option linter.unusedSimpArgs false

/-
  Plain laws: what a plain form comes to. Loops.
-/
namespace Go.Proofs.YtejfnieiaecpkaaGreatDoor.P
open Go Go.Proofs

/-- It comes to an end, with Q. -/
def Ok {α : Type} (m : Option α) (Q : α → Prop) : Prop := ∃ x, m = some x ∧ Q x
theorem Ok.some {α : Type} {x : α} {Q : α → Prop} (h : Q x) : Ok (some x) Q := ⟨x, rfl, h⟩
theorem Ok.mono {α : Type} {m : Option α} {P Q : α → Prop} (h : Ok m P) (k : ∀ x, P x → Q x) : Ok m Q := by
  obtain ⟨x, h1, h2⟩ := h
  exact ⟨x, h1, k x h2⟩
theorem Ok.bind {α β : Type} {m : Option α} {f : α → Option β} {P : α → Prop} {Q : β → Prop} (h : Ok m P) (k : ∀ x, P x → Ok (f x) Q) : Ok (m.bind f) Q := by
  obtain ⟨x, h1, h2⟩ := h
  rw [h1]; exact k x h2
theorem Ok.eq {α : Type} {m : Option α} {x : α} (h : m = Option.some x) : Ok m (· = x) := ⟨x, h, rfl⟩
theorem Ok.val {α : Type} {m : Option α} {x : α} (h : Ok m (· = x)) : m = Option.some x := by
  obtain ⟨y, h1, rfl⟩ := h
  exact h1
theorem Ok.bindE {α β : Type} {m : Option α} {f : α → Option β} {x : α} {Q : β → Prop} (h : m = Option.some x) (k : Ok (f x) Q) : Ok (m.bind f) Q := by rw [h]; exact k
theorem Ok.gd {α : Type} {b : Bool} {x : Option α} {Q : α → Prop} (h : b = true) (k : Ok x Q) : Ok (bif b then x else none) Q := by rw [h]; exact k
theorem Ok.no {α : Type} {b : Bool} {x y : Option α} {Q : α → Prop} (h : b = false) (k : Ok y Q) : Ok (bif b then x else y) Q := by rw [h]; exact k
theorem Ok.yes {α : Type} {b : Bool} {x y : Option α} {Q : α → Prop} (h : b = true) (k : Ok x Q) : Ok (bif b then x else y) Q := by rw [h]; exact k
theorem Ok.gdd {α : Type} {p : Prop} [Decidable p] {x : Option α} {Q : α → Prop} (h : p) (k : Ok x Q) : Ok (bif decide p then x else none) Q := by rw [decide_eq_true h]; exact k
theorem Ok.br {α : Type} {b : Bool} {x y : Option α} {Q : α → Prop} (h1 : b = true → Ok x Q) (h2 : b = false → Ok y Q) : Ok (bif b then x else y) Q := by
  cases b
  · exact h2 rfl
  · exact h1 rfl
theorem Ok.brd {α : Type} {p : Prop} [Decidable p] {x y : Option α} {Q : α → Prop} (h1 : p → Ok x Q) (h2 : ¬ p → Ok y Q) : Ok (bif decide p then x else y) Q := by
  by_cases h : p
  · rw [decide_eq_true h]; exact h1 h
  · rw [decide_eq_false h]; exact h2 h
theorem idx_some' {α : Type} {l : List α} {i : Int} (h0 : 0 ≤ i) (h : i.toNat < l.length) : idx l i = some l[i.toNat] := by
  unfold idx
  rw [if_pos h0, List.getElem?_eq_getElem h]
theorem idx_nat {α : Type} {l : List α} {i : Nat} (h : i < l.length) : idx l (i : Int) = some l[i] := by
  unfold idx
  rw [if_pos (by omega), Int.toNat_natCast, List.getElem?_eq_getElem h]
theorem Ok.idx {α β : Type} {l : List α} {i : Int} {f : α → Option β} {Q : β → Prop} (h0 : 0 ≤ i) (h : i.toNat < l.length) (k : Ok (f l[i.toNat]) Q) : Ok ((P.idx l i).bind f) Q := by
  rw [idx_some' h0 h]; exact k
theorem Ok.idxn {α β : Type} {l : List α} {i : Nat} {f : α → Option β} {Q : β → Prop} (h : i < l.length) (k : Ok (f l[i]) Q) : Ok ((P.idx l (i : Int)).bind f) Q := by
  rw [idx_nat h]; exact k
/-- The invariant of a loop, with a measure. -/
theorem Ok.iter {σ ρ : Type} {body : (σ → Option ρ) → σ → Option ρ} {Q : ρ → Prop} (I : σ → Prop) (μ : σ → Nat) (h : ∀ rec s, I s → (∀ s', I s' → μ s' < μ s → Ok (rec s') Q) → Ok (body rec s) Q) :
    ∀ n s, I s → μ s < n → Ok (iter body n s) Q
  | 0, _, _, hn => by omega
  | n + 1, s, hs, hn => h _ s hs fun s' hs' hlt => Ok.iter I μ h n s' hs' (by omega)
theorem Ok.loop {σ ρ : Type} {body : (σ → Option ρ) → σ → Option ρ} {Q : ρ → Prop} {s : σ} (I : σ → Prop) (μ : σ → Nat) (hs : I s) (hμ : μ s < FUEL) (h : ∀ rec s, I s → (∀ s', I s' → μ s' < μ s → Ok (rec s') Q) → Ok (body rec s) Q) : Ok (P.iter body FUEL s) Q := Ok.iter I μ h FUEL s hs hμ
/-- A loop over the places 0, 1, .. of a list; ix: the place in the state. -/
theorem Ok.for {σ ρ : Type} {body : (σ → Option ρ) → σ → Option ρ} {Q : ρ → Prop} {s : σ} (ix : σ → Int) (len : Nat) (I : Nat → σ → Prop) (k : Nat) (hk : k ≤ len) (h0 : ix s = k) (hI : I k s) (hlen : len ≤ 1000000000000)
    (hend : ∀ rec s, ix s = (len : Int) → I len s → Ok (body rec s) Q)
    (hstep : ∀ rec (i : Nat) s, i < len → ix s = (i : Int) → I i s → (∀ s', ix s' = ((i + 1 : Nat) : Int) → I (i + 1) s' → Ok (rec s') Q) → Ok (body rec s) Q) : Ok (P.iter body FUEL s) Q := by
  refine Ok.loop (fun s => ∃ i : Nat, ix s = i ∧ i ≤ len ∧ I i s) (fun s => len - (ix s).toNat) ⟨k, h0, hk, hI⟩ (by unfold FUEL; omega) fun rec s ⟨i, h1, h2, h3⟩ ih => ?_
  by_cases e : i < len
  · refine hstep rec i s e h1 h3 fun s' h4 h5 => ih s' ⟨i + 1, h4, by omega, h5⟩ ?_
    rw [h4, h1]; omega
  · obtain rfl : i = len := by omega
    exact hend rec s h1 h3
theorem wr {n : Int} (h0 : -9223372036854775808 ≤ n) (h1 : n ≤ 9223372036854775807) : IntKind.i64.wrap n = n := by
  unfold IntKind.wrap
  simp only [IntKind.signed, IntKind.bits]
  first | omega | (simp; omega)
theorem rm_ok {n m : Nat} (h : n + m ≤ 137438953472) : rm n m = true := decide_eq_true h
theorem Ok.rm {α : Type} {n m : Nat} {x : Option α} {Q : α → Prop} (h : n + m ≤ 137438953472) (k : Ok x Q) : Ok (bif P.rm n m then x else none) Q := Ok.gd (rm_ok h) k
theorem bif_t {α : Type} {p : Prop} [Decidable p] {x y : α} (h : p) : (bif decide p then x else y) = x := by rw [decide_eq_true h]; rfl
theorem bif_f {α : Type} {p : Prop} [Decidable p] {x y : α} (h : ¬ p) : (bif decide p then x else y) = y := by rw [decide_eq_false h]; rfl
end Go.Proofs.YtejfnieiaecpkaaGreatDoor.P

/-
  Plain laws: drawn numbers, code lists, measures, schemas.
-/
namespace Go.Proofs.YtejfnieiaecpkaaGreatDoor.P
open Go Go.Abs Go.Proofs
set_option maxRecDepth 100000

/-! ### Numbers -/
def OKc (c : DrawCodes) : Prop := (∀ x ∈ c.f_l, 0 ≤ x ∧ x ≤ 255) ∧ c.f_l.length ≤ 400 ∧ 0 ≤ c.f_at ∧ c.f_at ≤ c.f_l.length
theorem OKc.at {c : DrawCodes} (h : OKc c) {i : Int} (h0 : 0 ≤ i) (h1 : i < c.f_l.length) : ∃ x, idx c.f_l i = some x ∧ 0 ≤ x ∧ x ≤ 255 := by
  have hl : i.toNat < c.f_l.length := by omega
  exact ⟨_, idx_some' h0 hl, h.1 _ (List.getElem_mem hl)⟩
theorem tmod_lt {v n : Int} (hv : 0 ≤ v) (hn : 1 ≤ n) : 0 ≤ Int.tmod v n ∧ Int.tmod v n < n := by
  rw [Int.tmod_eq_emod_of_nonneg hv]
  exact ⟨Int.emod_nonneg _ (by omega), Int.emod_lt_of_pos _ (by omega)⟩
theorem next_ok {c : DrawCodes} (h : OKc c) {n : Int} (hn : 1 ≤ n) (hn2 : n ≤ 100000) : Ok (draw_Codes_Next c n) fun r => OKc r.2 ∧ 0 ≤ r.1 ∧ r.1 < n := by
  obtain ⟨hx, hl, h0, h1⟩ := h
  have h' : OKc c := ⟨hx, hl, h0, h1⟩
  unfold draw_Codes_Next
  refine Ok.brd (fun h => by omega) fun _ => Ok.brd (fun h => Ok.some ⟨h', by show (0 : Int) ≤ 0 ∧ (0 : Int) < n; omega⟩) fun hlt => ?_
  have e1 : IntKind.i64.wrap (c.f_at + 1) = c.f_at + 1 := wr (by omega) (by omega)
  have e2 : IntKind.i64.wrap (c.f_at + 1 - 1) = c.f_at := by rw [wr (by omega) (by omega)]; omega
  obtain ⟨x, hx1, hx2, hx3⟩ := h'.at h0 (by omega)
  unfold draw_Codes_Next_j1
  rw [e1, e2]
  refine Ok.bindE hx1 ?_
  have ex : IntKind.i64.wrap x = x := wr (by omega) (by omega)
  have one : Ok (some (Int.tmod x n, ({ f_l := c.f_l, f_at := c.f_at + 1 } : DrawCodes))) fun r => OKc r.2 ∧ 0 ≤ r.1 ∧ r.1 < n :=
    Ok.some ⟨⟨hx, hl, by show 0 ≤ c.f_at + 1; omega, by show c.f_at + 1 ≤ (c.f_l.length : Int); omega⟩, tmod_lt hx2 hn⟩
  rw [ex]
  refine Ok.brd (fun _ => Ok.brd (fun h2 => ?_) fun _ => Ok.gdd (by omega) one) fun _ => Ok.gdd (by omega) one
  obtain ⟨y, hy1, hy2, hy3⟩ := h'.at (i := c.f_at + 1) (by omega) h2
  refine Ok.bindE hy1 (Ok.gdd (by omega) (Ok.some ⟨⟨hx, hl, ?_, ?_⟩, ?_⟩))
  · show 0 ≤ IntKind.i64.wrap (c.f_at + 1 + 1); rw [wr (by omega) (by omega)]; omega
  · show IntKind.i64.wrap (c.f_at + 1 + 1) ≤ (c.f_l.length : Int); rw [wr (by omega) (by omega)]; omega
  · have : IntKind.i64.wrap (IntKind.i64.wrap (x * 256) + IntKind.i64.wrap y) = x * 256 + y := by
      rw [wr (n := x * 256) (by omega) (by omega), wr (n := y) (by omega) (by omega), wr (by omega) (by omega)]
    show 0 ≤ Int.tmod _ n ∧ Int.tmod _ n < n
    rw [this]
    exact tmod_lt (by omega) hn
theorem one_ok {c : DrawCodes} (h : OKc c) {n : Int} (hn : 1 ≤ n) (hn2 : n ≤ 100000) : Ok (draw_Codes_One c n) fun r => OKc r.2 :=
  Ok.bind (next_ok h hn hn2) fun _ hx => Ok.some hx.1
theorem range_ok {c : DrawCodes} (h : OKc c) {a b : Int} (hab : a ≤ b) (ha : -100000000 ≤ a) (hb : b ≤ 100000000) (hd : b - a < 100000) : Ok (draw_Codes_Range c a b) fun r => OKc r.2 ∧ a ≤ r.1 ∧ r.1 ≤ b := by
  unfold draw_Codes_Range
  have e : IntKind.i64.wrap (IntKind.i64.wrap (b - a) + 1) = b - a + 1 := by rw [wr (n := b - a) (by omega) (by omega), wr (by omega) (by omega)]
  rw [e]
  refine Ok.bind (next_ok h (by omega) (by omega)) fun x hx => Ok.some ⟨hx.1, ?_⟩
  show a ≤ IntKind.i64.wrap (a + x.1) ∧ IntKind.i64.wrap (a + x.1) ≤ b
  rw [wr (by omega) (by omega)]
  omega
theorem secret_ok {c : DrawCodes} (h : OKc c) : Ok (draw_Codes_Secret c) fun r => OKc r.2 ∧ 0 ≤ r.1 ∧ r.1 < 1152921504606846976 := by
  unfold draw_Codes_Secret
  refine Ok.bind (next_ok h (by omega) (by omega)) fun x hx => Ok.bind (next_ok hx.1 (by omega) (by omega)) fun y hy => Ok.bind (next_ok hy.1 (by omega) (by omega)) fun z hz => Ok.some ⟨hz.1, ?_⟩
  show 0 ≤ IntKind.i64.wrap (IntKind.i64.wrap (x.1 * y.1) + z.1) ∧ IntKind.i64.wrap (IntKind.i64.wrap (x.1 * y.1) + z.1) < 1152921504606846976
  have h1 : 0 ≤ x.1 * y.1 := Int.mul_nonneg hx.2.1 hy.2.1
  have h2 : x.1 * y.1 ≤ 60000 * 60000 := Int.mul_le_mul (by omega) (by omega) hy.2.1 (by omega)
  rw [wr (n := x.1 * y.1) (by omega) (by omega), wr (by omega) (by omega)]
  omega
theorem new_ok (l : List Int) (h : ∀ x ∈ l, 0 ≤ x ∧ x ≤ 255) (hl : l.length ≤ 9223372036854775807) : Ok (draw_New l) OKc := by
  unfold draw_New
  refine Ok.gdd ?_ (Ok.some ⟨fun x hx => ?_, ?_, ?_, ?_⟩)
  · split <;> omega
  · exact h x (List.mem_of_mem_drop (List.mem_of_mem_take hx))
  · show (cut l 0 _).length ≤ 400
    unfold cut
    simp only [List.length_take, List.length_drop]
    split <;> omega
  · show (0 : Int) ≤ 0; omega
  · show (0 : Int) ≤ _; omega

/-! ### Code lists -/
def dig (n : Nat) : ByteArray := ⟨#[UInt8.ofNat (48 + n)]⟩
theorem itoa_dig (n : Nat) (h : n < 10) : strconv_Itoa (n : Int) = some (dig n) := by
  unfold strconv_Itoa dig
  rw [bif_t (by omega), Int.toNat_natCast]
  unfold Go.Lib.decDigits
  rw [dif_pos h]
theorem itoa_ok (n : Int) (h0 : 0 ≤ n) (h : n < 10) : strconv_Itoa n = some (dig n.toNat) := by
  have := itoa_dig n.toNat (by omega)
  rwa [Int.toNat_of_nonneg h0] at this
def kc (i : Nat) : ACode := { Name := ({ data := #[107] } : ByteArray) ++ dig i, Parent := 0 }
def lc (n : Nat) (p : Int) : ACode := { Name := ({ data := #[108] } : ByteArray) ++ dig n, Parent := p }
def top : ACode := { Name := ({ data := #[116, 111, 112] } : ByteArray), Parent := -1 }
/-- The codes of the second level: their parents, one after the other. -/
def addL : List ACode → List Int → List ACode
  | b, [] => b
  | b, p :: r => addL (b ++ [lc b.length p]) r
def base (kids : Nat) : List ACode := top :: (List.range kids).map kc
def mkCodes (kids : Nat) (ps : List Int) : List ACode := addL (base kids) ps
/-- All lists of parents for so many codes of the first level. -/
def allP : Nat → List (List Int)
  | 0 => [[]]
  | n + 1 => (allP n).flatMap fun l => [l ++ [(n : Int) + 1], l ++ [(n : Int) + 1, (n : Int) + 1]]
def shapes : List (List ACode) := [1, 2, 3].flatMap fun k => mkCodes k [] :: (allP k).map (mkCodes k)
theorem addL_append : ∀ (b : List ACode) (p q : List Int), addL b (p ++ q) = addL (addL b p) q
  | _, [], _ => rfl
  | b, _ :: r, q => addL_append _ r q
theorem addL_length : ∀ (b : List ACode) (p : List Int), (addL b p).length = b.length + p.length
  | _, [] => rfl
  | b, x :: r => by rw [addL, addL_length]; simp; omega
theorem allP_length : ∀ n, ∀ l ∈ allP n, n ≤ l.length ∧ l.length ≤ 2 * n
  | 0, l, h => by simp [allP] at h; subst h; simp
  | n + 1, l, h => by
    simp only [allP, List.mem_flatMap] at h
    obtain ⟨q, hq, h⟩ := h
    have := allP_length n q hq
    simp at h
    rcases h with rfl | rfl <;> simp <;> omega
theorem allP_succ {n : Nat} {q : List Int} (hq : q ∈ allP n) (k : Nat) (h1 : 1 ≤ k) (h2 : k ≤ 2) : q ++ List.replicate k ((n : Int) + 1) ∈ allP (n + 1) := by
  simp only [allP, List.mem_flatMap]
  refine ⟨q, hq, ?_⟩
  rcases (by omega : k = 1 ∨ k = 2) with rfl | rfl
  · exact List.mem_cons_self ..
  · exact List.mem_cons_of_mem _ (List.mem_cons_self ..)

theorem list_ok {c : DrawCodes} (h : OKc c) (name : ByteArray) : Ok (draw_Codes_List c name) fun r => OKc r.2 ∧ ∃ l ∈ shapes, r.1 = { Name := name, Codes := l } := by
  unfold draw_Codes_List
  refine Ok.bind (range_ok h (by omega) (by omega) (by omega) (by omega)) fun x hx => ?_
  obtain ⟨kids, hk⟩ : ∃ k : Nat, x.1 = k := ⟨x.1.toNat, by omega⟩
  obtain ⟨hc, hk1, hk2⟩ := hx
  rw [hk] at hk1 hk2
  have hkm : kids ∈ [1, 2, 3] := by rcases (by omega : kids = 1 ∨ kids = 2 ∨ kids = 3) with rfl | rfl | rfl <;> simp
  refine Ok.for (fun s => s.1) kids (fun i s => s.2 = base i) 0 (Nat.zero_le _) rfl rfl (by omega) (fun rec s hs hI => ?_) fun rec i s hi hs hI ih => ?_
  · simp only [draw_Codes_List_b1, hs, hk, hI]
    rw [bif_f (by omega)]
    unfold draw_Codes_List_j1
    refine Ok.bind (one_ok hc (by omega) (by omega)) fun y hy => Ok.br (fun _ => Ok.some ⟨hy, base kids, ?_, rfl⟩) fun _ => ?_
    · simp only [shapes, List.mem_flatMap]
      exact ⟨kids, hkm, List.mem_cons_self ..⟩
    refine Ok.for (fun s => s.1) kids (fun i s => OKc s.2.1 ∧ ∃ p ∈ allP i, s.2.2 = mkCodes kids p) 0 (Nat.zero_le _) rfl ⟨hy, [], by simp [allP], rfl⟩ (by omega) (fun rec s hs hI => ?_) fun rec i s hi hs hI ih => ?_
    · obtain ⟨h1, p, h2, h3⟩ := hI
      simp only [draw_Codes_List_b2, hs, hk]
      rw [bif_f (by omega)]
      refine Ok.some ⟨h1, mkCodes kids p, ?_, by rw [h3]⟩
      simp only [shapes, List.mem_flatMap]
      exact ⟨kids, hkm, List.mem_cons_of_mem _ (List.mem_map.2 ⟨p, h2, rfl⟩)⟩
    · obtain ⟨h1, p, h2, h3⟩ := hI
      simp only [draw_Codes_List_b2, hs, hk]
      rw [bif_t (by omega)]
      refine Ok.bind (range_ok h1 (by omega) (by omega) (by omega) (by omega)) fun z hz => ?_
      have hpl := allP_length i p h2
      obtain ⟨m, hm⟩ : ∃ k : Nat, z.1 = k := ⟨z.1.toNat, by omega⟩
      refine Ok.loop (fun s => ∃ j : Nat, j ≤ m ∧ s.1 = (m : Int) - j ∧ s.2 = mkCodes kids (p ++ List.replicate j ((i : Int) + 1))) (fun s => s.1.toNat) ⟨0, by omega, by simp [hm], by simp [h3]⟩ (by unfold FUEL; show z.1.toNat < _; omega) fun rec s hs ih2 => ?_
      obtain ⟨j, hj, e1, e2⟩ := hs
      have hml : s.2.length = 1 + kids + p.length + j := by
        rw [e2, mkCodes, addL_length]; simp [base]; omega
      simp only [draw_Codes_List_b3]
      refine Ok.brd (fun hpos => ?_) fun hneg => ?_
      · have hitoa := itoa_dig s.2.length (by omega)
        refine Ok.bindE hitoa (Ok.gdd (by simp [dig, ByteArray.size]) (Ok.rm (by simp; omega) (ih2 _ ⟨j + 1, by omega, ?_, ?_⟩ ?_)))
        · show IntKind.i64.wrap (s.1 - 1) = _
          rw [wr (by omega) (by omega)]; omega
        · have hw : IntKind.i64.wrap (1 + (i : Int)) = (i : Int) + 1 := by rw [wr (by omega) (by omega)]; omega
          show s.2 ++ [({ Name := ({ data := #[108] } : ByteArray) ++ dig s.2.length, Parent := IntKind.i64.wrap (1 + (i : Int)) } : ACode)] = _
          rw [hw, List.replicate_succ', ← List.append_assoc, mkCodes, addL_append, ← mkCodes, ← e2]
          rfl
        · show (IntKind.i64.wrap (s.1 - 1)).toNat < s.1.toNat
          rw [wr (by omega) (by omega)]; omega
      · obtain rfl : j = m := by omega
        refine ih _ ?_ ⟨hz.1, p ++ List.replicate j ((i : Int) + 1), allP_succ h2 j (by omega) (by omega), e2⟩
        show IntKind.i64.wrap ((i : Int) + 1) = _
        rw [wr (by omega) (by omega)]; omega
  · simp only [draw_Codes_List_b1, hs, hk]
    rw [bif_t (by omega)]
    have hl : s.2.length = 1 + i := by rw [hI]; simp [base]; omega
    refine Ok.bindE (itoa_dig i (by omega)) (Ok.gdd (by simp [dig, ByteArray.size]) (Ok.rm (by simp; omega) (ih _ ?_ ?_)))
    · show IntKind.i64.wrap ((i : Int) + 1) = _
      rw [wr (by omega) (by omega)]; omega
    · show s.2 ++ [_] = _
      rw [hI]
      simp [base, List.range_succ, kc]

/-! ### Measures -/
def widthsAll : List (List Int) := [[1], [1, 5], [1, 5, 20], [1, 2, 4, 12]]
structure Meas (c : AColumn) : Prop where
  kind : c.Kind = 3
  list : c.List_ = 0
  low : -4 ≤ c.Low ∧ c.Low ≤ 2
  high : c.Low ≤ c.High ∧ c.High ≤ c.Low + 44
  widths : c.Widths ∈ widthsAll
theorem measure_ok {c : DrawCodes} (h : OKc c) (name : ByteArray) : Ok (draw_Codes_Measure c name) fun r => OKc r.2 ∧ Meas r.1 ∧ r.1.Name = name := by
  unfold draw_Codes_Measure
  refine Ok.bind (range_ok h (by omega) (by omega) (by omega) (by omega)) fun x hx => Ok.bind (next_ok hx.1 (by omega) (by omega)) fun y hy => ?_
  have hl : y.1.toNat < widthsAll.length := by simp [widthsAll]; omega
  refine Ok.idx hy.2.1 hl (Ok.bind (one_ok hy.1 (by omega) (by omega)) fun z hz => Ok.bind (next_ok hz (by omega) (by omega)) fun u hu => Ok.some ⟨hu.1, ⟨rfl, rfl, hx.2, ?_, List.getElem_mem hl⟩, rfl⟩)
  show x.1 ≤ IntKind.i64.wrap (x.1 + u.1) ∧ IntKind.i64.wrap (x.1 + u.1) ≤ x.1 + 44
  rw [wr (by omega) (by omega)]
  omega

/-! ### Schemas -/
def who : AColumn := { Name := ({ data := #[119, 104, 111] } : ByteArray), Kind := 1, List_ := 0, Low := 0, High := 0, Widths := [], Optional := false }
def sex : AColumn := { Name := ({ data := #[115, 101, 120] } : ByteArray), Kind := 2, List_ := 0, Low := 0, High := 0, Widths := [], Optional := false }
def jobC : AColumn := { Name := ({ data := #[106, 111, 98] } : ByteArray), Kind := 2, List_ := 1, Low := 0, High := 0, Widths := [], Optional := false }
def cols0 (j : Bool) : List AColumn := [who, sex] ++ (if j then [jobC] else [])
def mname (i : Nat) : ByteArray := ({ data := #[109] } : ByteArray) ++ dig i
def oneN : ByteArray := { data := #[111, 110, 101] }
def twoN : ByteArray := { data := #[116, 119, 111] }
/-- Measures with their names, from a number on. -/
def Ms (k : Nat) (ms : List AColumn) : Prop := ∀ i (h : i < ms.length), Meas ms[i] ∧ ms[i].Name = mname (k + i)
/-- A drawn schema. -/
structure DS (s : ASchema) : Prop where
  lists : ∃ a ∈ shapes, ∃ b ∈ shapes, s.Lists = [{ Name := oneN, Codes := a }, { Name := twoN, Codes := b }]
  cols : ∃ j ms, s.Columns = cols0 j ++ ms ∧ 1 ≤ ms.length ∧ ms.length ≤ 3 ∧ Ms (cols0 j).length ms
theorem Ms.snoc {k : Nat} {ms : List AColumn} (h : Ms k ms) {c : AColumn} (hc : Meas c) (hn : c.Name = mname (k + ms.length)) : Ms k (ms ++ [c]) := by
  intro i hi
  by_cases e : i < ms.length
  · rw [List.getElem_append_left e]; exact h i e
  · have : i = ms.length := by simp at hi; omega
    subst this
    simp [hc, hn]
theorem cols0_length (j : Bool) : 2 ≤ (cols0 j).length ∧ (cols0 j).length ≤ 3 := by cases j <;> simp [cols0]

theorem schema_loop {body : ((Int × DrawCodes × List AColumn) → Option (ASchema × DrawCodes)) → (Int × DrawCodes × List AColumn) → Option (ASchema × DrawCodes)} {L : List ACodeList} (hL : ∃ a ∈ shapes, ∃ b ∈ shapes, L = [{ Name := oneN, Codes := a }, { Name := twoN, Codes := b }])
    (hb : body = fun rec s => draw_Codes_Schema_b1 (fun v4_1 w0_1 b12_1 => some (({ Lists := L, Columns := b12_1 } : ASchema), w0_1)) rec s.1 s.2.1 s.2.2) (j : Bool) {n : Int} (h1 : 1 ≤ n) (h2 : n ≤ 3) {c : DrawCodes} (hc : OKc c) :
    Ok (iter body FUEL (n, c, cols0 j)) fun r => OKc r.2 ∧ DS r.1 := by
  subst hb
  have hcl := cols0_length j
  refine Ok.loop (fun s => 0 ≤ s.1 ∧ OKc s.2.1 ∧ ∃ ms, s.2.2 = cols0 j ++ ms ∧ (ms.length : Int) = n - s.1 ∧ Ms (cols0 j).length ms) (fun s => s.1.toNat) ⟨by show 0 ≤ n; omega, hc, [], by simp, by simp, fun i hi => by simp at hi⟩ (by unfold FUEL; show n.toNat < _; omega) fun rec s hs ih => ?_
  obtain ⟨h0, hcs, ms, e1, e2, e3⟩ := hs
  simp only [draw_Codes_Schema_b1]
  refine Ok.brd (fun hpos => ?_) fun hneg => ?_
  · have hl : s.2.2.length = (cols0 j).length + ms.length := by rw [e1]; simp
    refine Ok.bindE (itoa_dig _ (by omega)) (Ok.gdd (by simp [dig, ByteArray.size]) (Ok.bind (measure_ok hcs _) fun x hx => Ok.rm (by simp; omega) (ih _ ⟨?_, hx.1, ms ++ [x.1], by rw [e1]; simp, ?_, e3.snoc hx.2.1 ?_⟩ ?_)))
    · show 0 ≤ IntKind.i64.wrap (s.1 - 1); rw [wr (by omega) (by omega)]; omega
    · show _ = n - IntKind.i64.wrap (s.1 - 1); rw [wr (by omega) (by omega)]; simp; omega
    · rw [hx.2.2, hl]; rfl
    · show (IntKind.i64.wrap (s.1 - 1)).toNat < s.1.toNat; rw [wr (by omega) (by omega)]; omega
  · exact Ok.some ⟨hcs, ⟨hL, j, ms, e1, by omega, by omega, e3⟩⟩
theorem schema_ok {c : DrawCodes} (h : OKc c) : Ok (draw_Codes_Schema c) fun r => OKc r.2 ∧ DS r.1 := by
  unfold draw_Codes_Schema
  refine Ok.bind (list_ok h _) fun x hx => Ok.bind (list_ok hx.1 _) fun y hy => Ok.bind (one_ok hy.1 (by omega) (by omega)) fun z hz => ?_
  obtain ⟨_, a, ha, ea⟩ := hx
  obtain ⟨_, b, hb, eb⟩ := hy
  have hL : ∃ a ∈ shapes, ∃ b ∈ shapes, [x.1, y.1] = [{ Name := oneN, Codes := a }, { Name := twoN, Codes := b }] := ⟨a, ha, b, hb, by rw [ea, eb]; rfl⟩
  refine Ok.br (fun _ => Ok.rm (by simp) (Ok.bind (range_ok hz (by omega) (by omega) (by omega) (by omega)) fun u hu => ?_)) fun _ => Ok.bind (range_ok hz (by omega) (by omega) (by omega) (by omega)) fun u hu => ?_
  · exact schema_loop hL rfl true hu.2.1 hu.2.2 hu.1
  · exact schema_loop hL rfl false hu.2.1 hu.2.2 hu.1
end Go.Proofs.YtejfnieiaecpkaaGreatDoor.P

/-
  Plain laws: drawn schemas are right.
-/
namespace Go.Proofs.YtejfnieiaecpkaaGreatDoor.P
open Go Go.Abs Go.Proofs
set_option maxRecDepth 100000

/-! ### Code lists: all there are -/
def CLs : List ACodeList := [oneN, twoN].flatMap fun n => shapes.map fun l => { Name := n, Codes := l }
variable {s : ASchema}
theorem DS.list (h : DS s) {i : Nat} (hi : i < s.Lists.length) : s.Lists[i] ∈ CLs := by
  obtain ⟨a, ha, b, hb, e⟩ := h.lists
  have h1 : ∀ (k : Nat) (hk : k < 2), ([{ Name := oneN, Codes := a }, { Name := twoN, Codes := b }] : List ACodeList)[k]'hk ∈ CLs := by
    intro k hk
    simp only [CLs, List.mem_flatMap]
    rcases (by omega : k = 0 ∨ k = 1) with rfl | rfl
    · exact ⟨oneN, by simp, List.mem_map.2 ⟨a, ha, rfl⟩⟩
    · exact ⟨twoN, by simp, List.mem_map.2 ⟨b, hb, rfl⟩⟩
  have hi2 : i < 2 := by rw [e] at hi; exact hi
  have := h1 i hi2
  simp only [e]
  exact this
theorem DS.lists2 (h : DS s) : s.Lists.length = 2 := by
  obtain ⟨a, ha, b, hb, e⟩ := h.lists
  rw [e]; rfl
def levV (l : ACodeList) : Int := (ref01_Levels l).getD 0
def leavesV (l : ACodeList) : List Int := (ref01_At l (levV l - 1)).getD []
theorem lists_facts : (CLs.all fun l => ref01_Check l == some 0 && codes_Check l == some 0 && (ref01_Levels l == some (levV l)) && (codes_Levels l == some (levV l)) && decide (2 ≤ levV l) && decide (levV l ≤ 3) &&
    ref01_At l (levV l - 1) == some (leavesV l) && codes_At l (levV l - 1) == some (leavesV l) && !(leavesV l).isEmpty && (leavesV l).all fun x => decide (0 ≤ x) && decide (x < l.Codes.length) && ref01_Level l x == some (levV l - 1) && codes_Up l x (levV l - 1) == some x && ref01_Up l x (levV l - 1) == some x) = true := by decide +kernel
structure CL (l : ACodeList) : Prop where
  rcheck : ref01_Check l = some 0
  check : codes_Check l = some 0
  rlev : ref01_Levels l = some (levV l)
  lev : codes_Levels l = some (levV l)
  lev2 : 2 ≤ levV l
  lev3 : levV l ≤ 3
  rleaves : ref01_At l (levV l - 1) = some (leavesV l)
  leaves : codes_At l (levV l - 1) = some (leavesV l)
  some_ : leavesV l ≠ []
  leaf : ∀ x ∈ leavesV l, 0 ≤ x ∧ x < l.Codes.length ∧ ref01_Level l x = some (levV l - 1) ∧ codes_Up l x (levV l - 1) = some x ∧ ref01_Up l x (levV l - 1) = some x
theorem cl_of {l : ACodeList} (h : l ∈ CLs) : CL l := by
  have := List.all_eq_true.1 lists_facts l h
  simp only [Bool.and_eq_true, beq_iff_eq, decide_eq_true_eq, List.all_eq_true, Bool.not_eq_true', List.isEmpty_eq_false_iff] at this
  obtain ⟨⟨⟨⟨⟨⟨⟨⟨⟨h1, h2⟩, h3⟩, h4⟩, h5⟩, h6⟩, h7⟩, h8⟩, h9⟩, h10⟩ := this
  exact ⟨h1, h2, h3, h4, h5, h6, h7, h8, h9, fun x hx => by have := h10 x hx; obtain ⟨⟨⟨⟨a, b⟩, c⟩, d⟩, e⟩ := this; exact ⟨a, b, c, d, e⟩⟩

/-! ### The columns -/
def namesOf (j : Bool) (n : Nat) : List ByteArray := (cols0 j).map (·.Name) ++ (List.range n).map fun i => mname ((cols0 j).length + i)
theorem names_facts : ([true, false].all fun j => [1, 2, 3].all fun n => (namesOf j n).all (fun x => ref01_Name x == some true && codes_Name x == some true) &&
    (List.range (namesOf j n).length).all fun i => (List.range i).all fun k => match (namesOf j n)[i]?, (namesOf j n)[k]? with | some x, some y => !(x.toList == y.toList) && !(y.toList == x.toList) | _, _ => false) = true := by decide +kernel
structure CodeC (c : AColumn) : Prop where
  kind : c.Kind = 2
  list : c.List_ = 0 ∨ c.List_ = 1
  low : c.Low = 0
  high : c.High = 0
  widths : c.Widths = []
  opt : c.Optional = false
theorem DS.cols_length (h : DS s) : 3 ≤ s.Columns.length ∧ s.Columns.length ≤ 6 := by
  obtain ⟨j, ms, e, h1, h2, h3⟩ := h.cols
  have := cols0_length j
  rw [e, List.length_append]
  omega
theorem DS.col0 (h : DS s) (hi : 0 < s.Columns.length) : s.Columns[0] = who := by
  obtain ⟨j, ms, e, h1, h2, h3⟩ := h.cols
  have : s.Columns[0]? = some who := by rw [e]; cases j <;> rfl
  rw [List.getElem?_eq_getElem hi] at this
  exact Option.some.inj this
theorem DS.col (h : DS s) {i : Nat} (h0 : 1 ≤ i) (hi : i < s.Columns.length) : CodeC s.Columns[i] ∨ Meas s.Columns[i] := by
  obtain ⟨j, ms, e, h1, h2, h3⟩ := h.cols
  have hg : s.Columns[i]? = some s.Columns[i] := List.getElem?_eq_getElem hi
  generalize hc : s.Columns[i] = c at hg ⊢
  rw [e] at hg
  by_cases hl : i < (cols0 j).length
  · rw [List.getElem?_append_left hl] at hg
    left
    cases j with
    | true =>
      rcases (by simp [cols0] at hl; omega : i = 1 ∨ i = 2) with rfl | rfl
      · cases hg; exact ⟨rfl, .inl rfl, rfl, rfl, rfl, rfl⟩
      · cases hg; exact ⟨rfl, .inr rfl, rfl, rfl, rfl, rfl⟩
    | false =>
      obtain rfl : i = 1 := by simp [cols0] at hl; omega
      cases hg; exact ⟨rfl, .inl rfl, rfl, rfl, rfl, rfl⟩
  · right
    rw [List.getElem?_append_right (by omega)] at hg
    obtain ⟨hlt, rfl⟩ := List.getElem?_eq_some_iff.1 hg
    exact (h3 _ hlt).1
theorem DS.names (h : DS s) : ∃ j n, n ∈ [1, 2, 3] ∧ s.Columns.map (·.Name) = namesOf j n := by
  obtain ⟨j, ms, e, h1, h2, h3⟩ := h.cols
  refine ⟨j, ms.length, by simp; omega, ?_⟩
  rw [e, List.map_append, namesOf]
  congr 1
  apply List.ext_getElem (by simp)
  intro i hi hi2
  simp only [List.getElem_map, List.getElem_range]
  exact (h3 i (by simpa using hi)).2
theorem DS.name (h : DS s) {i : Nat} (hi : i < s.Columns.length) : ref01_Name s.Columns[i].Name = some true ∧ codes_Name s.Columns[i].Name = some true := by
  obtain ⟨j, n, hn, e⟩ := h.names
  have hf := List.all_eq_true.1 (List.all_eq_true.1 names_facts j (by cases j <;> simp)) n hn
  simp only [Bool.and_eq_true, List.all_eq_true, beq_iff_eq] at hf
  refine hf.1 _ ?_
  rw [← e]
  exact List.mem_map.2 ⟨_, List.getElem_mem hi, rfl⟩
theorem DS.name_ne (h : DS s) {i k : Nat} (hi : i < s.Columns.length) (hk : k < i) : (s.Columns[k].Name.toList == s.Columns[i].Name.toList) = false ∧ (s.Columns[i].Name.toList == s.Columns[k].Name.toList) = false := by
  obtain ⟨j, n, hn, e⟩ := h.names
  have hf := List.all_eq_true.1 (List.all_eq_true.1 names_facts j (by cases j <;> simp)) n hn
  simp only [Bool.and_eq_true, List.all_eq_true] at hf
  have hl : s.Columns.length = (namesOf j n).length := by rw [← e, List.length_map]
  have := hf.2 i (List.mem_range.2 (by omega)) k (List.mem_range.2 hk)
  rw [← e, List.getElem?_map, List.getElem?_map, List.getElem?_eq_getElem hi, List.getElem?_eq_getElem (by omega : k < s.Columns.length)] at this
  simp only [Option.map_some, Bool.and_eq_true, Bool.not_eq_true'] at this
  exact ⟨this.2, this.1⟩

/-! ### IndexFunc, ContainsFunc -/
def findI {α : Type} (q : α → Bool) (l : List α) : Int := match l.findIdx? q with | some i => (i : Int) | none => -1
theorem indexFunc {α : Type} {l : List α} {p : α → Option Bool} {q : α → Bool} (hp : ∀ x ∈ l, p x = some (q x)) (hl : l.length ≤ 1000000000) :
    iter (fun rec1 v => bif (decide (v < ((l.length : Nat) : Int))) then (idx l v).bind fun x14 => (p x14).bind fun x16 => bif x16 then some v else rec1 (IntKind.i64.wrap (v + 1)) else some (-1)) FUEL 0 = some (findI q l) := by
  refine Ok.val (Ok.for (fun s => s) l.length (fun i _ => ∀ k (hk : k < l.length), k < i → q l[k] = false) 0 (Nat.zero_le _) rfl (fun _ _ h => by omega) (by omega) (fun rec s hs hI => ?_) fun rec i s hi hs hI ih => ?_)
  · rw [hs, bif_f (by omega)]
    refine Ok.some ?_
    have : l.findIdx? q = none := by
      rw [List.findIdx?_eq_none_iff]
      intro x hx
      obtain ⟨k, hk, rfl⟩ := List.mem_iff_getElem.1 hx
      exact hI k hk hk
    simp [findI, this]
  · rw [hs, bif_t (by omega)]
    refine Ok.idxn hi (Ok.bindE (hp _ (List.getElem_mem hi)) (Ok.br (fun h => Ok.some ?_) fun h => ih _ ?_ fun k hk hk2 => ?_))
    · have : l.findIdx? q = some i := by
        rw [List.findIdx?_eq_some_iff_getElem]
        exact ⟨hi, h, fun k hk => by rw [hI k (by omega) hk]; simp⟩
      simp [findI, this]
    · show IntKind.i64.wrap ((i : Int) + 1) = _
      rw [wr (by omega) (by omega)]; omega
    · by_cases e : k = i
      · subst e; exact h
      · exact hI k hk (by omega)
theorem findI_any {α : Type} (q : α → Bool) (l : List α) : decide (findI q l ≥ 0) = l.any q := by
  unfold findI
  cases h : l.findIdx? q with
  | none =>
    rw [List.findIdx?_eq_none_iff] at h
    have : l.any q = false := by rw [List.any_eq_false]; intro x hx; simp [h x hx]
    simp [this]
  | some i =>
    obtain ⟨hi, h1, _⟩ := List.findIdx?_eq_some_iff_getElem.1 h
    have : l.any q = true := List.any_eq_true.2 ⟨_, List.getElem_mem hi, h1⟩
    simp only [this]
    exact decide_eq_true (by omega)
theorem cf_Column {l : List AColumn} {p : AColumn → Option Bool} (q : AColumn → Bool) (hp : ∀ x ∈ l, p x = some (q x)) (hl : l.length ≤ 1000000000) : slices_ContainsFunc_Lapi_Column_api_Column l p = some (l.any q) := by
  unfold slices_ContainsFunc_Lapi_Column_api_Column
  rw [show slices_IndexFunc_Lapi_Column_api_Column l p = some (findI q l) from indexFunc hp hl, Option.bind_some, findI_any]
theorem cf_CodeList {l : List ACodeList} {p : ACodeList → Option Bool} (q : ACodeList → Bool) (hp : ∀ x ∈ l, p x = some (q x)) (hl : l.length ≤ 1000000000) : slices_ContainsFunc_Lapi_CodeList_api_CodeList l p = some (l.any q) := by
  unfold slices_ContainsFunc_Lapi_CodeList_api_CodeList
  rw [show slices_IndexFunc_Lapi_CodeList_api_CodeList l p = some (findI q l) from indexFunc hp hl, Option.bind_some, findI_any]
end Go.Proofs.YtejfnieiaecpkaaGreatDoor.P

/-
  Plain laws: drawn schemas are right (the program, the reference); the finest levels.
-/
namespace Go.Proofs.YtejfnieiaecpkaaGreatDoor.P
open Go Go.Abs Go.Proofs
set_option maxRecDepth 100000
variable {s : ASchema}

theorem in_eq (n a b : Int) : ref02_in n a b = some (decide (a ≤ n ∧ n ≤ b)) := by
  unfold ref02_in
  by_cases h : a ≤ n <;> by_cases h2 : n ≤ b <;> simp [h, h2]
theorem mem4 {w : List Int} (h : w ∈ widthsAll) : w = [1] ∨ w = [1, 5] ∨ w = [1, 5, 20] ∨ w = [1, 2, 4, 12] := by simpa [widthsAll] using h
theorem rmeasure {c : AColumn} (h : Meas c) : ref02_measure c = some 0 := by
  have hw : ref02_measure_j1 c = some 0 := by
    obtain ⟨n, k, li, lo, hi, w, o⟩ := c
    rcases mem4 h.widths with e | e | e | e <;> (simp only at e; subst e; rfl)
  obtain ⟨h1, h2⟩ := h.low
  obtain ⟨h3, h4⟩ := h.high
  unfold ref02_measure
  rw [in_eq, Option.bind_some, decide_eq_true (by omega), in_eq, Option.bind_some, decide_eq_true (by omega), decide_eq_false (by omega), hw]
  rfl
theorem pmeasure {c : AColumn} (h : Meas c) : schema_checkMeasure c = some 0 := by
  have hw : (bif (bif (((c.Widths.length : Nat) : Int) == 0) then true else (decide (((c.Widths.length : Nat) : Int) > 4))) then some 1 else iter (fun rec1 s => schema_checkMeasure_b1 c (fun v3_1 v36_1 => some 0) rec1 s.1 s.2) FUEL (1, 0)) = some 0 := by
    obtain ⟨n, k, li, lo, hi, w, o⟩ := c
    rcases mem4 h.widths with e | e | e | e <;> (simp only at e; subst e; rfl)
  obtain ⟨h1, h2⟩ := h.low
  obtain ⟨h3, h4⟩ := h.high
  unfold schema_checkMeasure
  rw [decide_eq_false (by omega), decide_eq_false (by omega), decide_eq_false (by omega)]
  simp only [cond_false]
  exact hw
/-- A column of a drawn schema. -/
def Col (i : Nat) (c : AColumn) : Prop := (i = 0 ∧ c = who) ∨ (1 ≤ i ∧ (CodeC c ∨ Meas c))
theorem DS.cl (h : DS s) {i : Nat} (hi : i < s.Columns.length) : Col i s.Columns[i] := by
  rcases Nat.eq_zero_or_pos i with rfl | h0
  · exact .inl ⟨rfl, h.col0 hi⟩
  · exact .inr ⟨h0, h.col h0 hi⟩
theorem Col.kinds {i : Nat} {c : AColumn} (h : Col i c) : (c.Kind = 1 ∨ c.Kind = 2 ∨ c.Kind = 3) ∧ (c.Kind = 1 → i = 0) := by
  rcases h with ⟨rfl, rfl⟩ | ⟨h0, h | h⟩
  · exact ⟨.inl rfl, fun _ => rfl⟩
  · rw [h.kind]; exact ⟨.inr (.inl rfl), fun e => by omega⟩
  · rw [h.kind]; exact ⟨.inr (.inr rfl), fun e => by omega⟩
theorem rcolumn_j2 {i : Nat} {c : AColumn} (h : Col i c) : ref02_column_j2 c = some 0 := by
  rcases h with ⟨rfl, rfl⟩ | ⟨h0, h | h⟩
  · rfl
  · obtain ⟨n, k, li, lo, hi, w, o⟩ := c
    obtain ⟨h1, h2, h3, h4, h5, h6⟩ := h
    simp only at h1 h2 h3 h4 h5 h6
    subst h1; subst h3; subst h4; subst h5; subst h6
    rfl
  · unfold ref02_column_j2
    rw [rmeasure h, h.kind, h.list]
    rfl
theorem rcolumn (h : DS s) {i : Nat} (hi : i < s.Columns.length) : ref02_column s i = some 0 := by
  have hcol := h.cl hi
  have hk := hcol.kinds
  have hl := h.lists2
  refine Ok.val ?_
  unfold ref02_column
  refine Ok.idxn hi (Ok.bindE (h.name hi).1 ?_)
  simp only [Bool.not_true, Bool.not_false, cond_true, cond_false]
  refine Ok.for (fun s => s) i (fun _ _ => True) 0 (Nat.zero_le _) rfl trivial (by have := h.cols_length; omega) (fun rec q hq _ => ?_) fun rec k q hk2 hq _ ih => ?_
  · simp only [ref02_column_b1, hq]
    rw [bif_f (by omega)]
    unfold ref02_column_j1
    rw [in_eq, Option.bind_some, decide_eq_true (by omega)]
    have e1 : (bif decide ((i : Int) > 0) then s.Columns[i].Kind == 1 else false) = false := by
      by_cases e : i = 0
      · subst e; rfl
      · have : s.Columns[i].Kind ≠ 1 := fun h1 => e (hk.2 h1)
        simp [this]
    rw [e1]
    show Ok (bif (s.Columns[i].Kind == 2) then _ else _) _
    refine Ok.br (fun he => ?_) fun _ => Ok.eq (rcolumn_j2 hcol)
    have he : s.Columns[i].Kind = 2 := by simpa using he
    have hlist : s.Columns[i].List_ = 0 ∨ s.Columns[i].List_ = 1 := by
      rcases hcol with ⟨rfl, e⟩ | ⟨_, h | h⟩
      · rw [e]; exact .inl rfl
      · exact h.list
      · exact .inl h.list
    rw [in_eq, Option.bind_some, hl, decide_eq_true (by rw [wr (by omega) (by omega)]; omega)]
    exact Ok.eq (rcolumn_j2 hcol)
  · simp only [ref02_column_b1, hq]
    rw [bif_t (by omega)]
    refine Ok.idxn (by omega : k < s.Columns.length) ?_
    rw [(h.name_ne hi hk2).1]
    refine ih _ ?_ trivial
    show IntKind.i64.wrap ((k : Int) + 1) = _
    have := h.cols_length
    rw [wr (by omega) (by omega)]; omega
theorem DS.lname (h : DS s) (h0 : 0 < s.Lists.length) (h1 : 1 < s.Lists.length) : s.Lists[0].Name = oneN ∧ s.Lists[1].Name = twoN := by
  obtain ⟨a, ha, b, hb, e⟩ := h.lists
  have e0 : s.Lists[0]? = some { Name := oneN, Codes := a } := by rw [e]; rfl
  have e1 : s.Lists[1]? = some { Name := twoN, Codes := b } := by rw [e]; rfl
  rw [List.getElem?_eq_getElem h0] at e0
  rw [List.getElem?_eq_getElem h1] at e1
  rw [Option.some.inj e0, Option.some.inj e1]
  exact ⟨rfl, rfl⟩
theorem one_two : (oneN.toList == twoN.toList) = false := by decide +kernel
theorem DS.rcheck (h : DS s) : ref02_Check s = some 0 := by
  have hl := h.lists2
  have hc := h.cols_length
  refine Ok.val ?_
  unfold ref02_Check
  rw [decide_eq_false (by omega), decide_eq_false (by omega)]
  simp only [Bool.not_true, Bool.not_false, cond_true, cond_false]
  refine Ok.for (fun s => s) s.Lists.length (fun _ _ => True) 0 (Nat.zero_le _) rfl trivial (by omega) (fun rec q hq _ => ?_) fun rec i q hi hq _ ih => ?_
  · simp only [ref02_Check_b1, hq]
    rw [bif_f (by omega)]
    unfold ref02_Check_j1
    have e0 : (((s.Columns.length : Nat) : Int) == 0) = false := by rw [beq_eq_false_iff_ne]; omega
    rw [e0]
    show Ok ((idx s.Columns 0).bind _) _
    refine Ok.idxn (i := 0) (by omega) ?_
    rw [h.col0]
    refine Ok.no rfl ?_
    refine Ok.for (fun s => s) s.Columns.length (fun _ _ => True) 0 (Nat.zero_le _) rfl trivial (by omega) (fun rec q hq _ => ?_) fun rec i q hi hq _ ih => ?_
    · simp only [ref02_Check_b3, hq]
      rw [bif_f (by omega)]
      exact Ok.some rfl
    · simp only [ref02_Check_b3, hq]
      rw [bif_t (by omega)]
      refine Ok.bindE (rcolumn h hi) (ih _ ?_ trivial)
      show IntKind.i64.wrap ((i : Int) + 1) = _
      rw [wr (by omega) (by omega)]; omega
  · simp only [ref02_Check_b1, hq]
    rw [bif_t (by omega)]
    refine Ok.idxn hi (Ok.bindE (cl_of (h.list hi)).rcheck ?_)
    refine Ok.no rfl ?_
    refine Ok.for (fun s => s) i (fun _ _ => True) 0 (Nat.zero_le _) rfl trivial (by omega) (fun rec2 q hq _ => ?_) fun rec2 k q hk hq _ ih2 => ?_
    · simp only [ref02_Check_b2, hq]
      rw [bif_f (by omega)]
      refine ih _ ?_ trivial
      show IntKind.i64.wrap ((i : Int) + 1) = _
      rw [wr (by omega) (by omega)]; omega
    · simp only [ref02_Check_b2, hq]
      rw [bif_t (by omega)]
      refine Ok.idxn (by omega : k < s.Lists.length) (Ok.idxn hi ?_)
      obtain rfl : k = 0 := by omega
      obtain rfl : i = 1 := by omega
      have hn := h.lname (by omega) (by omega)
      rw [hn.1, hn.2, one_two]
      refine ih2 _ ?_ trivial
      show IntKind.i64.wrap (((0 : Nat) : Int) + 1) = _
      rw [wr (by omega) (by omega)]; omega

/-! ### The program's -/
theorem cut0 {α : Type} (l : List α) {i : Nat} (hi : i ≤ l.length) : cut l 0 (i : Int) = l.take i := by simp [cut]
theorem punused {i : Nat} {c : AColumn} (h : Col i c) : schema_unused c = some true := by
  rcases h with ⟨rfl, rfl⟩ | ⟨h0, h | h⟩
  · rfl
  · obtain ⟨n, k, li, lo, hi, w, o⟩ := c
    obtain ⟨h1, h2, h3, h4, h5, h6⟩ := h
    simp only at h1 h2 h3 h4 h5 h6
    subst h1; subst h3; subst h4; subst h5; subst h6
    rfl
  · unfold schema_unused
    rw [h.kind, h.list]
    rfl
theorem pcolumn (h : DS s) {i : Nat} (hi : i < s.Columns.length) : schema_checkColumn s i = some 0 := by
  have hcol := h.cl hi
  have hl := h.lists2
  have hc := h.cols_length
  refine Ok.val ?_
  unfold schema_checkColumn
  refine Ok.idxn hi (Ok.bindE (h.name hi).2 (Ok.gdd (by omega) ?_))
  rw [cut0 _ (by omega)]
  refine Ok.bindE (cf_Column (fun a => a.Name.toList == s.Columns[i].Name.toList) (fun x _ => rfl) (by simp; omega)) ?_
  have : (s.Columns.take i).any (fun a => a.Name.toList == s.Columns[i].Name.toList) = false := by
    rw [List.any_eq_false]
    intro x hx
    obtain ⟨k, hk, rfl⟩ := List.mem_iff_getElem.1 hx
    have hki : k < i := by simp at hk; omega
    rw [List.getElem_take, (h.name_ne hi hki).1]
    simp
  rw [this]
  show Ok (bif (s.Columns[i].Kind == 1) then _ else _) _
  have fin : Ok ((schema_unused s.Columns[i]).bind fun x49 => bif (!x49) then some 11 else some 0) (· = (0 : Int)) := Ok.bindE (punused hcol) (Ok.some rfl)
  rcases hcol with ⟨rfl, e⟩ | ⟨h0, h1 | h1⟩
  · rw [e]; rw [e] at fin; exact fin
  · rw [h1.kind]
    have : (bif decide (s.Columns[i].List_ < 0) then true else decide (s.Columns[i].List_ ≥ ((s.Lists.length : Nat) : Int))) = false := by
      rcases h1.list with e | e <;> (rw [e, hl]; rfl)
    show Ok (bif (bif decide (s.Columns[i].List_ < 0) then true else decide (s.Columns[i].List_ ≥ ((s.Lists.length : Nat) : Int))) then _ else _) _
    rw [this]
    exact fin
  · rw [h1.kind]
    exact Ok.bindE (pmeasure h1) fin
theorem DS.check (h : DS s) : schema_Check s = some 0 := by
  have hl := h.lists2
  have hc := h.cols_length
  refine Ok.val ?_
  unfold schema_Check
  rw [decide_eq_false (by omega), decide_eq_false (by omega)]
  simp only [Bool.not_true, Bool.not_false, cond_true, cond_false]
  refine Ok.for (fun s => s) s.Lists.length (fun _ _ => True) 0 (Nat.zero_le _) rfl trivial (by omega) (fun rec q hq _ => ?_) fun rec i q hi hq _ ih => ?_
  · simp only [schema_Check_b1, hq]
    rw [bif_f (by omega)]
    unfold schema_Check_j1
    have e0 : (((s.Columns.length : Nat) : Int) == 0) = false := by rw [beq_eq_false_iff_ne]; omega
    rw [e0]
    show Ok ((idx s.Columns 0).bind _) _
    refine Ok.idxn (i := 0) (by omega) ?_
    rw [h.col0]
    refine Ok.no rfl ?_
    refine Ok.for (fun s => s) s.Columns.length (fun _ _ => True) 0 (Nat.zero_le _) rfl trivial (by omega) (fun rec q hq _ => ?_) fun rec i q hi hq _ ih => ?_
    · simp only [schema_Check_b2, hq]
      rw [bif_f (by omega)]
      exact Ok.some rfl
    · simp only [schema_Check_b2, hq]
      rw [bif_t (by omega)]
      refine Ok.bindE (pcolumn h hi) (ih _ ?_ trivial)
      show IntKind.i64.wrap ((i : Int) + 1) = _
      rw [wr (by omega) (by omega)]; omega
  · simp only [schema_Check_b1, hq]
    rw [bif_t (by omega)]
    refine Ok.idxn hi (Ok.bindE (cl_of (h.list hi)).check ?_)
    show Ok (bif decide _ then _ else none) _
    refine Ok.gdd (by omega) ?_
    rw [cut0 _ (by omega)]
    refine Ok.bindE (cf_CodeList (fun a => a.Name.toList == s.Lists[i].Name.toList) (fun x _ => rfl) (by simp; omega)) ?_
    have : (s.Lists.take i).any (fun a => a.Name.toList == s.Lists[i].Name.toList) = false := by
      rw [List.any_eq_false]
      intro x hx
      obtain ⟨k, hk, rfl⟩ := List.mem_iff_getElem.1 hx
      have hki : k < i := by simp at hk; omega
      obtain rfl : k = 0 := by omega
      obtain rfl : i = 1 := by omega
      have hn := h.lname (by omega) (by omega)
      rw [List.getElem_take, hn.1, hn.2, one_two]
      simp
    rw [this]
    refine ih _ ?_ trivial
    show IntKind.i64.wrap ((i : Int) + 1) = _
    rw [wr (by omega) (by omega)]; omega
end Go.Proofs.YtejfnieiaecpkaaGreatDoor.P

/-
  Plain laws: drawn rows and sources.
-/
namespace Go.Proofs.YtejfnieiaecpkaaGreatDoor.P
open Go Go.Abs Go.Proofs
set_option maxRecDepth 100000
variable {s : ASchema}

theorem inc {i : Nat} (h : i ≤ 1000000000000) : IntKind.i64.wrap ((i : Int) + 1) = ((i + 1 : Nat) : Int) := by rw [wr (by omega) (by omega)]; omega
def missing : Int := -1099511627776
/-- A value that a drawn row has. -/
def VOK (s : ASchema) (c : AColumn) (v : Int) : Prop :=
  (c.Kind = 1 ∧ 1 ≤ v ∧ v ≤ 1000) ∨ (c.Kind = 2 ∧ ∃ L, L ∈ CLs ∧ idx s.Lists c.List_ = some L ∧ v ∈ leavesV L) ∨ (c.Kind = 3 ∧ ((c.Low ≤ v ∧ v ≤ c.High) ∨ (c.Optional = true ∧ v = missing)))
def RowOK (s : ASchema) (r : List Int) : Prop := r.length = s.Columns.length ∧ ∀ (i : Nat) c v, s.Columns[i]? = some c → r[i]? = some v → VOK s c v
theorem DS.clist (h : DS s) {c : AColumn} (hc : CodeC c) : ∃ L, L ∈ CLs ∧ idx s.Lists c.List_ = some L := by
  have hl := h.lists2
  rcases hc.list with e | e
  · have h0 : 0 < s.Lists.length := by omega
    exact ⟨_, h.list h0, by rw [e]; exact idx_nat (i := 0) h0⟩
  · have h1 : 1 < s.Lists.length := by omega
    exact ⟨_, h.list h1, by rw [e]; exact idx_nat (i := 1) h1⟩
theorem leaves_eq {s : ASchema} {i : Int} {c : AColumn} {L : ACodeList} (hc : idx s.Columns i = some c) (hL : idx s.Lists c.List_ = some L) (hL2 : L ∈ CLs) : ref02_Leaves s i = some (leavesV L) := by
  have h := cl_of hL2
  have h2 := h.lev2
  have h3 := h.lev3
  unfold ref02_Leaves
  rw [hc, Option.bind_some, hL, Option.bind_some, h.rlev, Option.bind_some, wr (by omega) (by omega), h.rleaves]
  rfl
theorem leaves_short : (CLs.all fun l => decide ((leavesV l).length ≤ 10)) = true := by decide +kernel
theorem value_ok (h : DS s) {c : DrawCodes} (hc : OKc c) {i : Nat} (hi : i < s.Columns.length) : Ok (draw_Codes_Value c s i) fun r => OKc r.2 ∧ VOK s s.Columns[i] r.1 := by
  unfold draw_Codes_Value
  refine Ok.idxn hi ?_
  have hidx : idx s.Columns (i : Int) = some s.Columns[i] := idx_nat hi
  generalize hcc : s.Columns[i] = cl at hidx ⊢
  have hcol := h.cl hi
  rw [hcc] at hcol
  rcases hcol with ⟨rfl, e⟩ | ⟨h0, h1 | h1⟩
  · subst e
    refine Ok.yes rfl (Ok.bind (range_ok hc (by omega) (by omega) (by omega) (by omega)) fun x hx => Ok.some ⟨hx.1, .inl ⟨rfl, hx.2.1, by show x.1 ≤ 1000; omega⟩⟩)
  · obtain ⟨L, hL, hL2⟩ := h.clist h1
    have hcl := cl_of hL
    refine Ok.no (by rw [h1.kind]; rfl) (Ok.yes (by rw [h1.kind]; rfl) (Ok.bindE (leaves_eq hidx hL2 hL) ?_))
    have hs : (leavesV L).length ≤ 10 := by have := List.all_eq_true.1 leaves_short L hL; simpa using this
    have hne : 0 < (leavesV L).length := List.length_pos_iff.2 hcl.some_
    refine Ok.bind (next_ok hc (by omega) (by omega)) fun x hx => ?_
    refine Ok.idx hx.2.1 (by omega) (Ok.some ⟨hx.1, .inr (.inl ⟨h1.kind, L, hL, hL2, List.getElem_mem _⟩)⟩)
  · obtain ⟨h2, h3⟩ := h1.low
    obtain ⟨h4, h5⟩ := h1.high
    refine Ok.no (by rw [h1.kind]; rfl) (Ok.no (by rw [h1.kind]; rfl) ?_)
    have rg : ∀ {c' : DrawCodes}, OKc c' → Ok ((draw_Codes_Range c' cl.Low cl.High).bind fun x43 => some (x43.1, x43.2)) fun r => OKc r.2 ∧ VOK s cl r.1 := fun hc' =>
      Ok.bind (range_ok hc' h4 (by omega) (by omega) (by omega)) fun x hx => Ok.some ⟨hx.1, .inr (.inr ⟨h1.kind, .inl hx.2⟩)⟩
    refine Ok.br (fun ho => Ok.bind (one_ok hc (by omega) (by omega)) fun x hx => Ok.br (fun _ => Ok.some ⟨hx, .inr (.inr ⟨h1.kind, .inr ⟨ho, rfl⟩⟩)⟩) fun _ => rg hx) fun _ => rg hc
theorem row_ok (h : DS s) {c : DrawCodes} (hc : OKc c) : Ok (draw_Codes_Row c s) fun r => OKc r.2 ∧ RowOK s r.1 := by
  have hl := h.cols_length
  unfold draw_Codes_Row
  refine Ok.for (fun q => q.1) s.Columns.length (fun i q => OKc q.2.1 ∧ q.2.2.length = i ∧ ∀ (k : Nat) c v, s.Columns[k]? = some c → q.2.2[k]? = some v → VOK s c v) 0 (Nat.zero_le _) rfl ⟨hc, rfl, fun k c v _ h => by simp at h⟩ (by omega) (fun rec q hq hI => ?_) fun rec i q hi hq hI ih => ?_
  · simp only [draw_Codes_Row_b1, hq]
    rw [bif_f (by omega)]
    exact Ok.some ⟨hI.1, hI.2.1, hI.2.2⟩
  · simp only [draw_Codes_Row_b1, hq]
    rw [bif_t (by omega)]
    refine Ok.bind (value_ok h hI.1 hi) fun x hx => Ok.rm (by rw [hI.2.1]; simp; omega) (ih _ (inc (by omega)) ⟨hx.1, by simp [hI.2.1], fun k cc v hk hv => ?_⟩)
    rw [List.getElem?_append] at hv
    split at hv
    · exact hI.2.2 k cc v hk hv
    · rename_i hlt
      have hk0 : k = i := by
        have := (List.getElem?_eq_some_iff.1 hv).1
        simp at this; omega
      subst hk0
      rw [hI.2.1] at hv
      simp at hv
      rw [List.getElem?_eq_getElem hi] at hk
      cases hk; subst hv
      exact hx.2
/-! ### Rows by their first value -/
def hd (r : List Int) : Int := r.headD 0
theorem idx_hd {r : List Int} (h : r ≠ []) : idx r 0 = some (hd r) := by
  cases r with
  | nil => exact absurd rfl h
  | cons a q => rfl
def Asc (l : List (List Int)) : Prop := l.Pairwise fun a b => hd a < hd b
def putG (l : List (List Int)) (row : List Int) : List (List Int) := l.filter (fun x => decide (hd x < hd row)) ++ row :: l.filter (fun x => decide (hd row < hd x))
theorem putG_asc {l : List (List Int)} {row : List Int} (h : Asc l) : Asc (putG l row) := by
  unfold Asc putG
  rw [List.pairwise_append, List.pairwise_cons]
  refine ⟨h.sublist List.filter_sublist, ⟨fun x hx => ?_, h.sublist List.filter_sublist⟩, fun x hx y hy => ?_⟩
  · have := (List.mem_filter.1 hx).2; simpa using this
  · have h1 := (List.mem_filter.1 hx).2
    rcases List.mem_cons.1 hy with rfl | hy
    · simpa using h1
    · have h2 := (List.mem_filter.1 hy).2
      simp at h1 h2; omega
theorem putG_mem {l : List (List Int)} {row x : List Int} (h : x ∈ putG l row) : x = row ∨ x ∈ l := by
  unfold putG at h
  rcases List.mem_append.1 h with h | h
  · exact .inr (List.mem_filter.1 h).1
  · rcases List.mem_cons.1 h with h | h
    · exact .inl h
    · exact .inr (List.mem_filter.1 h).1
theorem putG_length (l : List (List Int)) (row : List Int) : (putG l row).length ≤ l.length + 1 := by
  unfold putG
  rw [List.length_append, List.length_cons]
  have : (l.filter (fun x => decide (hd x < hd row))).length + (l.filter (fun x => decide (hd row < hd x))).length ≤ l.length := by
    induction l with
    | nil => simp
    | cons a r ih =>
      simp only [List.filter_cons, List.length_cons]
      by_cases h1 : hd a < hd row <;> by_cases h2 : hd row < hd a <;> simp [h1, h2] <;> omega
  omega
theorem take_succ_filter {α : Type} (l : List α) (p : α → Bool) {i : Nat} (hi : i < l.length) : (l.take (i + 1)).filter p = (l.take i).filter p ++ if p l[i] then [l[i]] else [] := by
  rw [List.take_succ_eq_append_getElem hi, List.filter_append]
  congr 1
  simp only [List.filter_cons, List.filter_nil]
theorem put_ok {l : List (List Int)} {row : List Int} (hl : ∀ x ∈ l, x ≠ []) (hr : row ≠ []) (hs : Asc l) (hlen : l.length ≤ 1000000) : ref04_Put l row = some (putG l row) := by
  refine Ok.val ?_
  unfold ref04_Put
  refine Ok.for (fun q => q.2.1) l.length (fun i q => (q.1 = false ∧ (∀ x ∈ l.take i, hd x ≤ hd row) ∧ q.2.2 = (l.take i).filter (fun x => decide (hd x < hd row))) ∨
    (q.1 = true ∧ (∃ x ∈ l.take i, hd row < hd x) ∧ q.2.2 = (l.take i).filter (fun x => decide (hd x < hd row)) ++ row :: (l.take i).filter (fun x => decide (hd row < hd x)))) 0 (Nat.zero_le _) rfl (.inl ⟨rfl, by simp, by simp⟩) (by omega) (fun rec q hq hI => ?_) fun rec i q hi hq hI ih => ?_
  · simp only [ref04_Put_b1, hq]
    rw [bif_f (by omega)]
    rw [List.take_length] at hI
    rcases hI with ⟨h1, h2, h3⟩ | ⟨h1, h2, h3⟩
    · rw [h1]
      refine Ok.yes rfl (Ok.rm ?_ (Ok.some ?_))
      · rw [h3]; have := List.length_filter_le (fun x => decide (hd x < hd row)) l; simp; omega
      · rw [h3, putG]
        congr 2
        symm
        rw [List.filter_eq_nil_iff]
        intro x hx
        have := h2 x hx
        simp; omega
    · rw [h1]
      exact Ok.no rfl (Ok.some h3)
  · simp only [ref04_Put_b1, hq]
    rw [bif_t (by omega)]
    have hne := hl _ (List.getElem_mem hi)
    have hmem : ∀ x ∈ l.take i, hd x < hd l[i] := by
      intro x hx
      obtain ⟨k, hk, rfl⟩ := List.mem_iff_getElem.1 hx
      have hk2 : k < i := by simp at hk; omega
      rw [List.getElem_take]
      exact (List.pairwise_iff_getElem.1 hs) k i (by omega) hi hk2
    have hf1 := take_succ_filter l (fun x => decide (hd x < hd row)) hi
    have hf2 := take_succ_filter l (fun x => decide (hd row < hd x)) hi
    have hlen1 : q.2.2.length ≤ i + 1 := by
      have e0 : (l.take i).length = i := by simp; omega
      have e1 : ((l.take i).filter (fun x => decide (hd x < hd row))).length + ((l.take i).filter (fun x => decide (hd row < hd x))).length ≤ i := by
        have := putG_length (l.take i) row
        unfold putG at this
        rw [List.length_append, List.length_cons, e0] at this
        omega
      rcases hI with ⟨_, _, h3⟩ | ⟨_, _, h3⟩
      · rw [h3]; omega
      · rw [h3, List.length_append, List.length_cons]; omega
    refine Ok.idxn hi (Ok.bindE (idx_hd hne) (Ok.bindE (idx_hd hr) (Ok.br (fun heq => ih _ (inc (by omega)) ?_) fun hneq => ?_)))
    · have heq : hd l[i] = hd row := by simpa using heq
      rw [hf1, hf2]
      have e1 : decide (hd l[i] < hd row) = false := decide_eq_false (by omega)
      have e2 : decide (hd row < hd l[i]) = false := decide_eq_false (by omega)
      simp only [e1, e2, Bool.false_eq_true, if_false, List.append_nil]
      rcases hI with ⟨h1, h2, h3⟩ | ⟨h1, h2, h3⟩
      · refine .inl ⟨h1, fun x hx => ?_, h3⟩
        rw [List.take_succ_eq_append_getElem hi] at hx
        rcases List.mem_append.1 hx with hx | hx
        · exact h2 x hx
        · simp at hx; subst hx; omega
      · obtain ⟨x, hx, hx2⟩ := h2
        have := hmem x hx
        omega
    · have hneq : hd l[i] ≠ hd row := by simpa using hneq
      refine Ok.idxn hi (Ok.bindE (idx_hd hne) (Ok.bindE (idx_hd hr) (Ok.br (fun hc => ?_) fun hc => ?_)))
      · -- the row comes in
        obtain ⟨hgt, hnd⟩ : hd row < hd l[i] ∧ q.1 = false := by
          by_cases hg : hd l[i] > hd row
          · rw [decide_eq_true hg] at hc; exact ⟨hg, by simpa using hc⟩
          · rw [decide_eq_false hg] at hc; cases hc
        rcases hI with ⟨h1, h2, h3⟩ | ⟨h1, h2, h3⟩
        · refine Ok.rm (by simp; omega) (Ok.idxn hi (Ok.rm (by simp; omega) (ih _ (inc (by omega)) (.inr ⟨rfl, ⟨l[i], ?_, hgt⟩, ?_⟩))))
          · rw [List.take_succ_eq_append_getElem hi]; exact List.mem_append_right _ (List.mem_singleton.2 rfl)
          · rw [hf1, hf2, decide_eq_false (by omega), decide_eq_true hgt, h3]
            have : (l.take i).filter (fun x => decide (hd row < hd x)) = [] := by
              rw [List.filter_eq_nil_iff]
              intro x hx
              have := h2 x hx
              simp; omega
            rw [this]
            simp
        · rw [h1] at hnd; cases hnd
      · refine Ok.idxn hi (Ok.rm (by simp; omega) (ih _ (inc (by omega)) ?_))
        rw [hf1, hf2]
        rcases hI with ⟨h1, h2, h3⟩ | ⟨h1, h2, h3⟩
        · have hlt : hd l[i] < hd row := by
            by_cases hg : hd l[i] > hd row
            · rw [decide_eq_true hg, h1] at hc; cases hc
            · omega
          refine .inl ⟨h1, fun x hx => ?_, by rw [decide_eq_true hlt, h3]; simp⟩
          rw [List.take_succ_eq_append_getElem hi] at hx
          rcases List.mem_append.1 hx with hx | hx
          · exact h2 x hx
          · simp at hx; subst hx; omega
        · obtain ⟨x, hx, hx2⟩ := h2
          have hxi := hmem x hx
          refine .inr ⟨h1, ⟨x, ?_, hx2⟩, ?_⟩
          · rw [List.take_succ_eq_append_getElem hi]; exact List.mem_append_left _ hx
          · rw [decide_eq_false (by omega : ¬ hd l[i] < hd row), decide_eq_true (by omega : hd row < hd l[i]), h3]
            simp
/-! ### Sources -/
structure SrcOK (x : ASource) (n : Nat) : Prop where
  schema : DS x.Schema
  rows : ∀ r ∈ x.Rows, RowOK x.Schema r
  asc : Asc x.Rows
  len : x.Rows.length ≤ n
  gone : x.Gone = []
  version : x.Version = 0
theorem RowOK.ne (h : DS s) {r : List Int} (hr : RowOK s r) : r ≠ [] := by
  intro e
  have := hr.1
  have := h.cols_length
  rw [e] at *
  simp at *
  omega
theorem source_ok {c : DrawCodes} (hc : OKc c) {n : Nat} (hn : n ≤ 50) : Ok (draw_Codes_Source c n) fun r => OKc r.2 ∧ SrcOK r.1 n := by
  unfold draw_Codes_Source
  refine Ok.bind (schema_ok hc) fun x hx => ?_
  have e : IntKind.i64.wrap ((n : Int) + 1) = (n : Int) + 1 := wr (by omega) (by omega)
  rw [e]
  refine Ok.bind (next_ok hx.1 (by omega) (by omega)) fun y hy => ?_
  obtain ⟨hy1, hy2, hy3⟩ := hy
  refine Ok.loop (fun q => 0 ≤ q.1 ∧ OKc q.2.1 ∧ (∀ r ∈ q.2.2, RowOK x.1 r) ∧ Asc q.2.2 ∧ (q.2.2.length : Int) + q.1 ≤ n) (fun q => q.1.toNat) ⟨hy2, hy1, (fun r hr => by cases hr), List.Pairwise.nil, by show ((0 : Nat) : Int) + y.1 ≤ n; omega⟩ (by unfold FUEL; show y.1.toNat < _; omega) fun rec q hq ih => ?_
  obtain ⟨h0, h1, h2, h3, h4⟩ := hq
  simp only [draw_Codes_Source_b1]
  refine Ok.brd (fun hp => Ok.bind (row_ok hx.2 h1) fun z hz => ?_) fun hp => ?_
  · have hput := put_ok (l := q.2.2) (row := z.1) (fun r hr => (h2 r hr).ne hx.2) (hz.2.ne hx.2) h3 (by omega)
    have hpl := putG_length q.2.2 z.1
    refine Ok.bindE hput (ih _ ⟨?_, hz.1, fun r hr => ?_, putG_asc h3, ?_⟩ ?_)
    · show 0 ≤ IntKind.i64.wrap (q.1 - 1); rw [wr (by omega) (by omega)]; omega
    · rcases putG_mem hr with rfl | hr
      · exact hz.2
      · exact h2 r hr
    · show ((putG q.2.2 z.1).length : Int) + IntKind.i64.wrap (q.1 - 1) ≤ n; rw [wr (by omega) (by omega)]; omega
    · show (IntKind.i64.wrap (q.1 - 1)).toNat < q.1.toNat; rw [wr (by omega) (by omega)]; omega
  · exact Ok.some ⟨h1, hx.2, h2, h3, by show q.2.2.length ≤ n; omega, rfl, rfl⟩
end Go.Proofs.YtejfnieiaecpkaaGreatDoor.P
