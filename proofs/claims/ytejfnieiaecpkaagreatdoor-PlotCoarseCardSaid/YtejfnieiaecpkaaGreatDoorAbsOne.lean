/-
  The abstract machine: an operation, whatever it is, has the effect that the machine says.
-/
import Derived.Test.YtejfnieiaecpkaaGreatDoorAbsClo
import Derived.Test.YtejfnieiaecpkaaGreatDoorAbsMap
set_option linter.unusedVariables false
set_option linter.unusedSimpArgs false
namespace Go.Abs
open Go.RowKit (Below)

section
variable {P : Program} {X : Cx} {G : Nat → Prop} {β : Nat → Value} {S : AS} {a : Act} {w : World} {o : Oper}

theorem arr_one {α : Type} {x : Array α} {p : α} (h : x.toList = [p]) : x = #[p] := by cases x; simp_all
theorem arr_two {α : Type} {x : Array α} {p q : α} (h : x.toList = [p, q]) : x = #[p, q] := by cases x; simp_all

theorem plainly {K : Eff → Prop} (h : ∃ e, K e ∧ Does P X G S a w o e) : ∃ e, K e ∧ (homesOK S e.homes = true → Does P X G S a w o e) := by
  obtain ⟨e, h1, h2⟩ := h
  exact ⟨e, h1, fun _ => h2⟩

set_option maxHeartbeats 2000000 in
theorem yA_sound (h : SimB X G β S a w) {g : Option (Nat × Bool)} (hg : GuardOK g a) {d : Nat} (hd : d < S.length) {K : Eff → Prop} (hy : yA P (σOf S) (ρOf S) g o d (sget S d).ver K) :
    ∃ e, K e ∧ (homesOK S e.homes = true → Does P X G S a w o e) := by
  unfold yA at hy
  split at hy
  · rename_i x ho
    exact plainly ⟨_, hy, does_move h hg (.inl ho)⟩
  · rename_i x ho
    split at hy
    · rename_i hn
      split at hy
      · rename_i e _
        obtain ⟨h1, hy⟩ := ite_false_prop hy
        exact plainly ⟨_, hy, does_nil h hd ho hn h1⟩
      · exact hy.elim
    · exact plainly ⟨_, hy, does_move h hg (.inr ho)⟩
  · rename_i t x y ho
    split at hy
    · rename_i hc; have h1 := ρ_sound h hg (.tmp t); rw [hc] at h1; exact h1.elim
    · rename_i c hc
      split at hy
      · rename_i h1
        split at hy
        · rename_i b2 h2
          exact plainly ⟨_, hy, does_pickL h hg ho hc h1 h2⟩
        · exact hy.elim
      · rename_i b1 h1
        split at hy
        · rename_i h2
          exact plainly ⟨_, hy, does_pickR h hg ho hc h1 h2⟩
        · rename_i b2 h2
          exact plainly ⟨_, hy, does_pick h hg ho hc h1 h2⟩
        · exact hy.elim
      · exact hy.elim
    · exact hy.elim
  · rename_i T x ho
    exact plainly (does_box h hg hd ho hy)
  · rename_i T ho
    split at hy
    · rename_i l hl
      exact plainly (does_alloc h hd ho hl hy)
    · exact hy.elim
  · rename_i t parts ho
    split at hy
    · rename_i fields hu
      split at hy
      · rename_i zd hzd
        obtain ⟨hall, hy⟩ := ite_false_prop hy
        split at hy
        · exact plainly (does_build h hg ho hu hzd hall hy)
        · rcases hy.go with hy | hy
          · exact plainly (does_build h hg ho hu hzd hall hy)
          · exact plainly (does_buildC h hg ho hu hzd hall hy)
      · exact hy.elim
    · exact hy.elim
  · rename_i t n parts ho
    split at hy
    · rename_i e hu
      exact plainly (does_buildSlice h hg hd ho hu hy)
    · exact hy.elim
  · rename_i t x y ho
    split at hy
    · rename_i e hu
      split at hy
      · rename_i k l hl
        split at hy
        · rename_i k' c hc
          obtain ⟨⟨h1, h2⟩, hy⟩ := ite_false_prop hy
          exact plainly (does_make h hg hd ho hu h1 h2 hl hc hy)
        · exact hy.elim
      · exact hy.elim
    · exact hy.elim
  · rename_i f first caps ho
    split at hy
    · rename_i hf
      split at hy
      · exact plainly (does_func h hg ho hf hy)
      · rcases hy.go with hy | hy
        · exact plainly (does_func h hg ho hf hy)
        · exact plainly (does_funcC h hg ho hf hy)
    · exact hy.elim
  · rename_i t x ho
    have hr := ρ_sound h hg x
    split at hy
    · rename_i hx; rw [hx] at hr; exact hr.elim
    · rename_i id n off cs hx
      rw [hx] at hr
      exact plainly (does_load_v h ho hr hy)
    · rename_i cs hx
      rw [hx] at hr
      exact plainly (does_load_c h ho hr hy)
    · rename_i id n sz e xs i off hx
      rw [hx] at hr
      exact plainly (does_load_e h ho hr hy)
    · exact hy.elim
  · rename_i t p x ho
    obtain ⟨hi, hy⟩ := ite_false_prop hy
    obtain ⟨i, hi⟩ := Option.isSome_iff_exists.1 hi
    have hr := ρ_sound h hg p
    split at hy
    · rename_i id n off cs hx
      rw [hx] at hr
      exact plainly (does_store_v h hg ho hr hi hy)
    · rename_i id n sz e xs k off hx
      rw [hx] at hr
      exact plainly (does_store_e h hg ho hr hi hy)
    · exact hy.elim
  · rename_i x ho
    have hr := ρ_sound h hg x
    split at hy
    · rename_i id n off cs hx
      rw [hx] at hr
      have hb := back_sound (tm := a.tmps) hr
      obtain ⟨_, _, b, _, hv⟩ := hr
      exact plainly ⟨_, hy, does_nilCheck h ho (.inl ⟨_, hv⟩) hb.1 hb.2⟩
    · rename_i cs hx
      rw [hx] at hr
      have hb := back_sound (tm := a.tmps) hr
      obtain ⟨b, off, hv, _⟩ := repD_ptr hr
      exact plainly ⟨_, hy, does_nilCheck h ho (.inl ⟨_, hv⟩) hb.1 hb.2⟩
    · rename_i f cs hx
      rw [hx] at hr
      have hb := back_sound (tm := a.tmps) hr
      obtain ⟨vs, hv, _⟩ := repD_fn hr
      exact plainly ⟨_, hy, does_nilCheck h ho (.inr ⟨f, vs, hv⟩) hb.1 hb.2⟩
    · rename_i id n sz e xs i off hx
      rw [hx] at hr
      have hb := back_sound (tm := a.tmps) hr
      obtain ⟨_, _, b, m, cap, _, hv⟩ := hr
      exact plainly ⟨_, hy, does_nilCheck h ho (.inl ⟨_, hv⟩) hb.1 hb.2⟩
    · exact hy.elim
  · rename_i op t x y U ho
    have hrx := ρ_sound h hg x
    have hry := ρ_sound h hg y
    split at hy
    · rename_i hp; rw [hp] at hrx; exact hrx.elim
    · rename_i p hp
      rw [hp] at hrx
      split at hy
      · rename_i hq; rw [hq] at hry; exact hry.elim
      · rename_i q hq
        rw [hq] at hry
        exact plainly (does_binOp h ho hrx hry hy)
      · exact hy.elim
    · exact hy.elim
  · rename_i op t x ho
    have hrx := ρ_sound h hg x
    split at hy
    · rename_i hp; rw [hp] at hrx; exact hrx.elim
    · rename_i p hp
      rw [hp] at hrx
      exact plainly (does_unOp h ho hrx hy)
    · exact hy.elim
  · rename_i s t x ho
    have hrx := ρ_sound h hg x
    split at hy
    · rename_i ds hs
      split at hy
      · rename_i k ht
        split at hy
        · rename_i hx; rw [hx] at hrx; exact hrx.elim
        · rename_i k' n hx
          rw [hx] at hrx
          exact plainly ⟨_, hy, does_convert h ho ht ⟨_, hs⟩ hrx⟩
        · exact hy.elim
      · rename_i ht
        split at hy
        · rename_i hx; rw [hx] at hrx; exact hrx.elim
        · rename_i b hx
          rw [hx] at hrx
          exact plainly ⟨_, hy, does_convstr h ho ht ⟨_, hs⟩ hrx⟩
        · exact hy.elim
      · rename_i e ht
        split at hy <;> try exact hy.elim
        rename_i he
        split at hy
        · rename_i hx; rw [hx] at hrx; exact hrx.elim
        · rename_i b hx
          rw [hx] at hrx
          exact plainly ⟨_, hy, does_convbytes h ho ht he ⟨_, hs⟩ hrx⟩
        · exact hy.elim
      · exact hy.elim
    · exact hy.elim
  · rename_i s x f ho
    split at hy
    · rename_i fields hu
      split at hy
      · rename_i fd hf
        obtain ⟨hz, hy⟩ := ite_false_prop hy
        exact plainly (does_fieldAddr h hg ho hu hf hz hy)
      · exact hy.elim
    · exact hy.elim
  · rename_i s x f ho
    have hrx := ρ_sound h hg x
    split at hy
    · rename_i fields hu
      split at hy
      · rename_i fd hf
        split at hy
        · rename_i hx; rw [hx] at hrx; exact hrx.elim
        · rename_i cs hx
          rw [hx] at hrx
          exact plainly (does_field h ho hu hf hrx hy)
        · exact hy.elim
      · exact hy.elim
    · exact hy.elim
  · rename_i t x ix ho
    have hrx := ρ_sound h hg x
    have hri := ρ_sound h hg ix
    split at hy
    · rename_i e hu
      split at hy
      · rename_i k i hi
        rw [hi] at hri
        split at hy
        · rename_i sz xs hx
          rw [hx] at hrx
          obtain ⟨⟨hs, hs0⟩, hy⟩ := ite_false_prop hy
          exact plainly (does_index_c h ho hu hs hs0 hri hrx hy)
        · rename_i sz xs hx
          rw [hx] at hrx
          obtain ⟨⟨hs, hs0⟩, hy⟩ := ite_false_prop hy
          exact plainly (does_index_c h ho hu hs hs0 hri hrx.1 hy)
        · rename_i id n sz e' xs hx
          rw [hx] at hrx
          obtain ⟨hs, hy⟩ := ite_false_prop hy
          obtain ⟨⟨h0, h1⟩, hy⟩ := hy
          exact plainly ⟨_, hy, does_index_row h ho hu hri hs hrx h0 h1⟩
        · exact hy.elim
      · exact hy.elim
    · rename_i n e hu
      split at hy
      · rename_i k i hi
        rw [hi] at hri
        split at hy
        · rename_i cs hx
          rw [hx] at hrx
          obtain ⟨hs, hy⟩ := ite_false_prop hy
          obtain ⟨hn, hy⟩ := hy
          exact plainly (does_index_arr h ho hu hs hri hrx hn hy)
        · exact hy.elim
      · exact hy.elim
    · exact hy.elim
  · rename_i t x ix ho
    have hrx := ρ_sound h hg x
    have hri := ρ_sound h hg ix
    split at hy
    · rename_i hu
      split at hy
      · rename_i k i hi
        rw [hi] at hri
        split at hy
        · rename_i b hx
          rw [hx] at hrx
          obtain ⟨⟨h0, h1⟩, hy⟩ := hy
          exact plainly ⟨_, hy, does_index_s h ho hu hri hrx h0 h1⟩
        · exact hy.elim
      · exact hy.elim
    · exact hy.elim
  · rename_i t x lo hi mx ho
    have hrx := ρ_sound h hg x
    split at hy
    · rename_i hu
      cases mx with
      | some m => exact hy.elim
      | none =>
        simp only at hy
        split at hy
        · rename_i b hx
          rw [hx] at hrx
          obtain ⟨l, hy, hl⟩ := ixK_sound h hg hy
          obtain ⟨r, hy, hr⟩ := ixK_sound h hg hy
          obtain ⟨⟨h0, h1, h2⟩, hy⟩ := hy
          exact plainly ⟨_, hy, does_slice_s h ho hu hrx hl hr h0 h1 h2⟩
        · exact hy.elim
    · rename_i e hu
      split at hy
      · rename_i sz xs hx
        rw [hx] at hrx
        obtain ⟨⟨hs, hs0⟩, hy⟩ := ite_false_prop hy
        exact plainly (does_slice_d h hg ho hu hs hs0 (bx := []) trivial hrx hy)
      · rename_i sz hx
        rw [hx] at hrx
        obtain ⟨⟨hs, hs0⟩, hy⟩ := ite_false_prop hy
        exact plainly (does_slice_d h hg ho hu hs hs0 (bx := []) (xs := []) trivial (RepD.norm hrx) hy)
      · rename_i sz xs hx
        rw [hx] at hrx
        obtain ⟨⟨hs, hs0⟩, hy⟩ := ite_false_prop hy
        exact plainly (does_slice_d h hg ho hu hs hs0 (bx := []) trivial hrx.1 hy)
      · rename_i id n sz e' xs hx
        rw [hx] at hrx
        obtain ⟨⟨hs, hs0⟩, hy⟩ := ite_false_prop hy
        rcases hy.go with hy | hy
        · obtain ⟨y, b, hK, hF, _, hh⟩ := asD_sound (x := X) (G := G) (a := a) (K := fun y b => y = .list sz xs ∧ b = [(id, Body.frow sz xs, n)]) hrx ⟨rfl, rfl⟩
          obtain ⟨rfl, rfl⟩ := hK
          exact plainly (does_slice_d h hg ho hu hs hs0 hF (hh.now h hF) hy)
        · cases lo with
          | some q => exact hy.elim
          | none =>
            cases mx with
            | some q => exact hy.elim
            | none =>
              simp only at hy
              obtain ⟨r, hy, hr⟩ := ixK_sound h hg hy
              obtain ⟨⟨h0, h2⟩, hy⟩ := hy
              exact plainly ⟨_, hy, does_cut h ho hu hs hs0 hrx hr h0 h2⟩
      · exact hy.elim
    · exact hy.elim
  · rename_i c ho
    split at hy
    · rename_i fo hc
      split at hy
      · rename_i f caps hf
        exact does_call h hg hd ho hc hf hy
      · rename_i f cs k id n rid rn hf
        split at hy <;> try exact hy.elim
        rename_i hr
        exact plainly (does_wcall h hg ho hc hf hr hy)
      · exact hy.elim
    · rename_i hc
      split at hy
      · rename_i x t hx ht
        have hce : c = ⟨.builtin .len, #[x], #[t]⟩ := by
          obtain ⟨callee, args, ts⟩ := c
          simp only at hc hx ht
          rw [hc, arr_one hx, arr_one ht]
        rw [hce] at ho
        have hrx := ρ_sound h hg x
        split at hy
        · rename_i hu
          split at hy
          · rename_i hs; rw [hs] at hrx; exact hrx.elim
          · rename_i s hs
            rw [hs] at hrx
            exact plainly ⟨_, hy, does_lens h ho (repD_str hrx) hu⟩
          · exact hy.elim
        · rename_i e hu
          split at hy
          · rename_i hs; rw [hs] at hrx; exact hrx.elim
          · obtain ⟨sz, ys, hK, ad, c', hv, _⟩ := src_sound h hrx hy
            exact plainly ⟨_, hK, does_len h ho ⟨ad, c', hv⟩ hu⟩
        · exact hy.elim
      · exact hy.elim
    · rename_i hc
      split at hy
      · rename_i x y hx
        have hce : c = ⟨.builtin .min, #[x, y], c.argTypes⟩ := by
          obtain ⟨callee, args, ts⟩ := c
          simp only at hc hx
          rw [hc, arr_two hx]
        rw [hce] at ho
        split at hy
        · rename_i k m hm
          have hrx := ρ_sound h hg x
          rw [hm] at hrx
          split at hy
          · rename_i k' n hn
            have hry := ρ_sound h hg y
            rw [hn] at hry
            exact plainly ⟨_, hy, (does_minmax h ho hrx hry).1 rfl⟩
          · exact hy.elim
        · exact hy.elim
      · exact hy.elim
    · rename_i hc
      split at hy
      · rename_i x y hx
        have hce : c = ⟨.builtin .max, #[x, y], c.argTypes⟩ := by
          obtain ⟨callee, args, ts⟩ := c
          simp only at hc hx
          rw [hc, arr_two hx]
        rw [hce] at ho
        split at hy
        · rename_i k m hm
          have hrx := ρ_sound h hg x
          rw [hm] at hrx
          split at hy
          · rename_i k' n hn
            have hry := ρ_sound h hg y
            rw [hn] at hry
            exact plainly ⟨_, hy, (does_minmax h ho hrx hry).2 rfl⟩
          · exact hy.elim
        · exact hy.elim
      · exact hy.elim
    · rename_i hc
      split at hy
      · rename_i x y t u hx ht
        have hce : t = u → c = ⟨.builtin .append, #[x, y], #[t, t]⟩ := by
          intro e
          subst e
          obtain ⟨callee, args, ts⟩ := c
          simp only at hc hx ht
          rw [hc, arr_two hx, arr_two ht]
        split at hy
        · rename_i e hu
          obtain ⟨⟨htu, hs0, hz⟩, hy⟩ := ite_false_prop hy
          rw [hce htu] at ho
          obtain ⟨sz', ys, hK, ad, c', hv, hys⟩ := src_sound h (ρ_sound h hg y) hy
          have hrx := ρ_sound h hg x
          split at hK
          · rename_i id n sz e' xs hxr
            obtain ⟨⟨he, hsz⟩, hK2⟩ := ite_false_prop hK
            subst he
            rw [hxr] at hrx
            obtain ⟨⟨h1, h2, h3⟩, hK3⟩ := hK2
            exact plainly ⟨_, hK3, does_append h ho hu hrx hsz hz hv hys h1 h2 (by rw [hsz]; exact h3)⟩
          · rename_i s hxr
            rw [hxr] at hrx
            have hrx : RepD (OS β X S) w (a.eval x) (.nil s) := hrx
            obtain ⟨⟨h1, h2, h3⟩, hK3⟩ := hK
            have hx0 : ∃ ad0, a.eval x = .slice ad0 0 0 := by
              generalize a.eval x = v at hrx
              cases hrx
              exact ⟨_, rfl⟩
            obtain ⟨ad0, hx0⟩ := hx0
            exact plainly ⟨_, hK3, does_append_new h hd ho hu (xs := []) rfl hs0 hz hv hys (by simpa using h1) (by simpa using h2) h3 (.inl ⟨ad0, hx0, rfl⟩)⟩
          · rename_i sz xs hxr
            obtain ⟨hsz, hK2⟩ := ite_false_prop hK
            rw [hxr] at hrx
            obtain ⟨⟨⟨h1, h2, h3⟩, h4⟩, hK3⟩ := hK2
            exact plainly ⟨_, hK3, does_append_new h hd ho hu hsz (by rw [hsz]; exact hs0) hz hv hys h1 h2 (by rw [hsz]; exact h3) (.inr ⟨hrx.1, hrx.2, h4⟩)⟩
          · exact hK.elim
        · exact hy.elim
      · exact hy.elim
    · exact hy.elim
  · rename_i t i ho
    have hrx := ρ_sound h hg t
    split at hy
    · rename_i xs hx
      rw [hx] at hrx
      split at hy
      · rename_i y hyy
        exact plainly ⟨_, hy, (does_extract h ho hrx hyy).1 _ rfl⟩
      · rename_i id n hyy
        exact plainly ⟨_, hy, (does_extract h ho hrx hyy).2 _ _ rfl⟩
      · exact hy.elim
    · exact hy.elim
  · rename_i t ho
    split at hy
    · exact plainly ⟨_, hy, does_makeMap h hd ho⟩
    · exact hy.elim
  · rename_i t x ix ok ho
    split at hy
    · rename_i kt et hu
      unfold lookK at hy
      split at hy <;> try exact hy.elim
      rename_i id n es hx
      split at hy <;> try exact hy.elim
      rename_i q hq
      split at hy <;> try exact hy.elim
      rename_i kd hkq
      obtain ⟨⟨hku, hkk⟩, hy⟩ := hy
      split at hy <;> try exact hy.elim
      rename_i z hz
      obtain ⟨v, b, rfl, rfl, hy⟩ := hy.go
      have hd' := does_lookup h hg ho hu hx hq hkq hku hkk hz
      cases ok
      · exact plainly ⟨_, hy, by simpa using hd'⟩
      · exact plainly ⟨_, hy, by simpa using hd'⟩
    · exact hy.elim
  · rename_i t m k x ho
    split at hy
    · rename_i kt et hu
      unfold updK at hy
      split at hy <;> try exact hy.elim
      rename_i id n es hm
      split at hy <;> try exact hy.elim
      rename_i q hq
      split at hy <;> try exact hy.elim
      rename_i y hyy
      split at hy <;> try exact hy.elim
      rename_i kd hkq
      obtain ⟨⟨hb, hku, hkk⟩, hy⟩ := hy
      exact plainly ⟨_, hy, does_update h hg ho hu hm hq hyy hb hkq hku hkk⟩
    · exact hy.elim
  · exact hy.elim

/-! ### Under a guard that may not hold -/
theorem ldD_ex {t : TypeId} {cs : List D} {K : D → Prop} (hy : ldD P t cs K) : ∃ x, K x := by
  unfold ldD at hy
  split at hy
  · split at hy
    · rw [forceS_eq] at hy
      exact ⟨_, (ite_false_prop hy).2⟩
    · exact hy.elim
  · split at hy
    · exact ⟨_, hy⟩
    · exact hy.elim
  · exact hy.elim
theorem arith_ex {op : BinOp} {k : IntKind} {m n : Int} {K : D → Prop} (hy : arith op k m n K) : ∃ x, K x := by
  cases op <;> simp only [arith] at hy <;> first | exact hy.elim | exact ⟨_, hy⟩ | exact ⟨_, hy.2⟩
theorem strD_ex {op : BinOp} {x y : ByteArray} {K : D → Prop} (hy : strD op x y K) : ∃ x, K x := by
  cases op <;> simp only [strD] at hy <;> first | exact hy.elim | exact ⟨_, hy⟩ | exact ⟨_, hy.2⟩
theorem eqC_ex : ∀ (n : Nat) {t : TypeId} {xs ys : List D} {K : Bool → Prop}, eqC P n t xs ys K → ∃ b, K b
  | 0, _, _, _, _, h => h.elim
  | n + 1, t, xs, ys, K, h => by
    unfold eqC at h
    split at h
    · split at h
      · exact ⟨_, (ite_false_prop h).2⟩
      · exact h.elim
    · split at h
      · exact ⟨_, h⟩
      · exact h.elim
    · split at h
      · exact ⟨_, h⟩
      · exact h.elim
    · obtain ⟨_, h⟩ := h
      · have key : ∀ (l : List Field) (K : Bool → Prop), List.rec (motive := fun _ => (Bool → Prop) → Prop) (fun K => K true)
            (fun f _ ih K => eqC P n f.type ((xs.drop f.offset).take (sizeT P f.type)) ((ys.drop f.offset).take (sizeT P f.type)) fun a => ih fun b => K (a && b)) l K → ∃ b, K b := by
          intro l
          induction l with
          | nil => intro K h; exact ⟨_, h⟩
          | cons f r ih =>
            intro K h
            obtain ⟨a, ha⟩ := eqC_ex n h
            obtain ⟨b, hb⟩ := ih _ ha
            exact ⟨_, hb⟩
        exact key _ _ h
    · exact h.elim
theorem binD_ex {t : TypeId} {op : BinOp} {x y : D} {K : D → Prop} (hy : binD P t op x y K) : ∃ x, K x := by
  cases x <;> cases y <;> simp only [binD] at hy
  case bool.bool =>
    split at hy
    · cases op <;> first | exact hy.elim | exact ⟨_, hy⟩
    · exact hy.elim
  case int.int k m k' n =>
    have sh : op = .shl ∨ op = .shr ∨ (op ≠ .shl ∧ op ≠ .shr) := by cases op <;> simp
    rcases sh with rfl | rfl | ⟨hs1, hs2⟩
    · exact ⟨_, hy.2⟩
    · exact ⟨_, hy.2⟩
    · have hb' : if k = k' then arith op k m n K else False := by cases op <;> first | exact hy | exact absurd rfl hs1 | exact absurd rfl hs2
      exact arith_ex (ite_false_prop hb').2
  case str.str => exact strD_ex hy
  case agg.agg =>
    obtain ⟨_, hy⟩ := hy
    cases op <;> first | exact hy.elim | (obtain ⟨b, hb⟩ := eqC_ex 12 hy; exact ⟨_, hb⟩)
theorem unD_ex {op : UnOp} {x : D} {K : D → Prop} (hy : unD op x K) : ∃ x, K x := by
  cases op <;> cases x <;> simp only [unD] at hy <;> exact ⟨_, hy⟩
theorem listOf_ex {r : RV} {K : Nat → List D → Prop} (hy : listOf r K) : ∃ n xs, K n xs := by
  cases r <;> simp only [listOf] at hy
  case d x => cases x <;> simp only at hy <;> exact ⟨_, _, hy⟩
  case lim => exact ⟨_, _, hy⟩
  case row => exact ⟨_, _, hy⟩
theorem asD_ex {r : RV} {K : D → Bx → Prop} (hy : asD r K) : ∃ x b, K x b := by
  cases r <;> simp only [asD] at hy <;> exact ⟨_, _, hy⟩
theorem cellsK_ex {σ : Nat → Nat → RV} : ∀ {cs : List C} {K : List D → Bx → Prop}, cellsK σ cs K → ∃ l b, K l b
  | [], K, h => ⟨_, _, h⟩
  | .d x :: r, K, h => by
    have h : cellsK σ r fun l b => K (x :: l) b := h
    obtain ⟨l, b, h⟩ := cellsK_ex h
    exact ⟨_, _, h⟩
  | .sl id n :: r, K, h => by
    have h : asD (σ id n) fun x b => cellsK σ r fun l b' => K (x :: l) (b ++ b') := h
    obtain ⟨x, b, h⟩ := asD_ex h
    obtain ⟨l, b', h⟩ := cellsK_ex h
    exact ⟨_, _, h⟩
  | .own _ _ _ :: r, K, h => h.elim
theorem ldC_ex {σ : Nat → Nat → RV} {t : TypeId} {cs : List C} {K : Eff → Prop} (hy : ldC P σ t cs K) : ∃ e, K e ∧ e.av.guards = [] := by
  unfold ldC at hy
  split at hy
  · split at hy
    · rw [forceS_eq] at hy
      obtain ⟨l, b, h⟩ := cellsK_ex (ite_false_prop hy).2
      exact ⟨_, h, rfl⟩
    · exact hy.elim
  · split at hy
    · exact ⟨_, hy, rfl⟩
    · exact ⟨_, hy, rfl⟩
    · exact hy.elim
  · exact hy.elim

theorem back_guards (r : RV) : (back r).guards = [] := by cases r <;> rfl
theorem yA_harmless {σ : Nat → Nat → RV} {ρ : Option (Nat × Bool) → Operand → RV} {g : Option (Nat × Bool)} {d n : Nat} {K : Eff → Prop} (hh : harmless o.op = true) (hy : yA P σ ρ g o d n K) : ∃ e, K e ∧ e.av.guards = [] := by
  unfold yA at hy
  split at hy
  all_goals (rename_i ho; try (rw [ho] at hh; simp [harmless] at hh; done))
  · exact ⟨_, hy, back_guards _⟩
  · split at hy
    · exact ⟨_, hy, rfl⟩
    · split at hy
      · split at hy
        · exact ⟨_, hy, rfl⟩
        · exact hy.elim
      · split at hy
        · exact ⟨_, hy, rfl⟩
        · exact ⟨_, hy, rfl⟩
        · exact hy.elim
      · exact hy.elim
    · exact hy.elim
  · split at hy
    · exact ⟨_, hy, rfl⟩
    · exact ldC_ex hy
    · obtain ⟨x, hx⟩ := ldD_ex hy; exact ⟨_, hx, rfl⟩
    · obtain ⟨_, y, _, hy⟩ := hy.go
      obtain ⟨x, hx⟩ := ldD_ex hy; exact ⟨_, hx, rfl⟩
    · exact hy.elim
  · split at hy
    · exact ⟨_, hy, rfl⟩
    · split at hy
      · exact ⟨_, hy, rfl⟩
      · obtain ⟨x, hx⟩ := binD_ex hy; exact ⟨_, hx, rfl⟩
      · exact hy.elim
    · exact hy.elim
  · split at hy
    · exact ⟨_, hy, rfl⟩
    · obtain ⟨x, hx⟩ := unD_ex hy; exact ⟨_, hx, rfl⟩
    · exact hy.elim
  · split at hy
    · split at hy
      · split at hy
        · exact ⟨_, hy, rfl⟩
        · exact ⟨_, hy, rfl⟩
        · exact hy.elim
      · split at hy
        · exact ⟨_, hy, rfl⟩
        · exact ⟨_, hy, rfl⟩
        · exact hy.elim
      · split at hy <;> try exact hy.elim
        split at hy
        · exact ⟨_, hy, rfl⟩
        · exact ⟨_, hy, rfl⟩
        · exact hy.elim
      · exact hy.elim
    · exact hy.elim
  · split at hy
    · split at hy
      · have hy := (ite_false_prop hy).2
        split at hy
        · exact ⟨_, hy, rfl⟩
        · exact ⟨_, hy, rfl⟩
        · rw [forceS_eq] at hy; exact ⟨_, hy, rfl⟩
        · exact ⟨_, hy, rfl⟩
        · exact hy.elim
      · exact hy.elim
    · exact hy.elim
  · split at hy
    · split at hy
      · split at hy
        · exact ⟨_, hy, rfl⟩
        · obtain ⟨x, hx⟩ := ldD_ex hy; exact ⟨_, hx, rfl⟩
        · exact hy.elim
      · exact hy.elim
    · exact hy.elim
  · rw [ho] at hh
    split at hy
    · rename_i hc; simp [harmless, hc] at hh
    · split at hy
      · split at hy
        · split at hy
          · exact ⟨_, hy, rfl⟩
          · exact ⟨_, hy, rfl⟩
          · exact hy.elim
        · split at hy
          · exact ⟨_, hy, rfl⟩
          · obtain ⟨_, _, hx⟩ := listOf_ex hy; exact ⟨_, hx, rfl⟩
        · exact hy.elim
      · exact hy.elim
    · rename_i hc; simp [harmless, hc] at hh
    · rename_i hc; simp [harmless, hc] at hh
    · rename_i hc; simp [harmless, hc] at hh
    · exact hy.elim
  · exact hy.elim
end
end Go.Abs
