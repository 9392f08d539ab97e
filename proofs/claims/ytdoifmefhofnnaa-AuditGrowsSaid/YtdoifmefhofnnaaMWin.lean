/- What the printed functions of package window, and of its reference, compute. -/
import Derived.Test.YtdoifmefhofnnaaMSat
import Derived.Test.YtdoifmefhofnnaaDx13
import Derived.Test.YtdoifmefhofnnaaDx14
namespace Go.Proofs.Ytdoifmefhofnnaa.M
set_option linter.unusedVariables false
open Go.RowKit Go.Proofs.Ytdoifmefhofnnaa.D Go.Proofs.YtdoifmefhofnnaaW.PrintWords Go.Proofs.YtdoifmefhofnnaaW.PrintMore
theorem div_U {a b : Int} (ha : U a) (hb : 0 ≤ b) : U (a / b) := by
  have h0 : 0 ≤ a / b := Int.ediv_nonneg ha.1 hb
  have h1 : a / b ≤ a := Int.ediv_le_self _ ha.1
  exact ⟨h0, by have := ha.2; omega⟩
theorem dv {a b : Int} (ha : U a) (hb : U b) : IntKind.u64.wrap (Int.tdiv a b) = a / b := by
  rw [tdiv_of ha.1]; exact wr_id (div_U ha hb.1)
def wLeft (lim sp ix c now : Int) : Int := if sp = 0 then 0 else if ix < now / sp then lim else if now / sp = ix ∧ c < lim then lim - c else 0
def wOk (lim sp ix c now n : Int) : Bool := decide (1 ≤ n ∧ n ≤ wLeft lim sp ix c now)
theorem wOk_iff {lim sp ix c now n : Int} : wOk lim sp ix c now n = true ↔ (1 ≤ n ∧ n ≤ wLeft lim sp ix c now) := by unfold wOk; simp
theorem wLeft_le {lim sp ix c now : Int} (hl : U lim) (hc : U c) : 0 ≤ wLeft lim sp ix c now ∧ wLeft lim sp ix c now ≤ lim := by
  unfold wLeft U at *
  split
  · omega
  · split
    · omega
    · split <;> omega
theorem wLeft_U {lim sp ix c now : Int} (hl : U lim) (hc : U c) : U (wLeft lim sp ix c now) := by
  have := wLeft_le (sp := sp) (ix := ix) (now := now) hl hc
  unfold U at *; omega
theorem WLeft {lim sp ix c now : Int} (hl : U lim) (hs : U sp) (hi : U ix) (hc : U c) (hn : U now) : window_Left.f lim sp ix c now = some (wLeft lim sp ix c now) := by
  unfold window_Left.f wLeft
  rw [dv hn hs]
  generalize now / sp = q
  by_cases h0 : sp = 0
  · rw [if_pos h0, if_pos h0]
  · rw [if_neg h0, if_neg h0]
    by_cases h1 : ix < q
    · rw [if_pos h1, if_pos h1]
    · rw [if_neg h1, if_neg h1]
      by_cases h2 : q = ix
      · rw [if_pos h2]
        by_cases h3 : c < lim
        · rw [if_pos h3, if_pos ⟨h2, h3⟩, wr_id (by unfold U at *; omega)]
        · rw [if_neg h3, if_neg (by omega)]
      · rw [if_neg h2, if_neg (by omega)]
/-- The window and the count behind n admitted units. -/
def wNext (sp ix c now n : Int) : Int × Int := if ix < now / sp then (now / sp, n) else (ix, c + n)
theorem WAdmit {lim sp ix c now n : Int} (hl : U lim) (hs : U sp) (hi : U ix) (hc : U c) (hw : U now) (hn : U n) (k : Nat) :
    window_Admit.f (k + 1) lim sp ix c now n = some (if wOk lim sp ix c now n = true then ((wNext sp ix c now n).1, (wNext sp ix c now n).2, true) else (ix, c, false)) := by
  unfold window_Admit.f
  by_cases h0 : n = 0
  · rw [if_pos h0, window_Admit.j0, if_pos rfl, if_neg (by rw [wOk_iff]; omega)]
  · rw [if_neg h0, WLeft hl hs hi hc hw, Option.bind_some, window_Admit.j0]
    have h1 : 1 ≤ n := by unfold U at hn; omega
    by_cases h2 : n > wLeft lim sp ix c now
    · rw [if_pos (by simpa using h2), if_neg (by rw [wOk_iff]; omega)]
    · rw [if_neg (by simpa using h2), if_pos (wOk_iff.2 ⟨h1, by omega⟩)]
      have hs0 : sp ≠ 0 := by
        intro e
        unfold wLeft at h2
        rw [if_pos e] at h2
        omega
      rw [if_neg hs0, dv hw hs]
      unfold wNext
      unfold wLeft at h2
      rw [if_neg hs0] at h2
      by_cases h3 : now / sp > ix
      · rw [if_pos h3, if_pos h3]
      · rw [if_neg h3, if_neg h3]
        rw [if_neg h3] at h2
        by_cases h4 : now / sp = ix ∧ c < lim
        · rw [if_pos h4] at h2
          rw [wr_id (by unfold U at *; omega)]
        · rw [if_neg h4] at h2
          omega
theorem WNext_U {lim sp ix c now n : Int} (hl : U lim) (hs : U sp) (hi : U ix) (hc : U c) (hw : U now) (hn : U n) (h : wOk lim sp ix c now n = true) : U (wNext sp ix c now n).1 ∧ U (wNext sp ix c now n).2 := by
  obtain ⟨h1, h2⟩ := wOk_iff.1 h
  have hd := div_U hw hs.1
  unfold wNext
  unfold wLeft at h2
  by_cases h0 : sp = 0
  · rw [if_pos h0] at h2; omega
  · rw [if_neg h0] at h2
    by_cases h3 : ix < now / sp
    · rw [if_pos h3]; exact ⟨hd, hn⟩
    · rw [if_neg h3] at h2 ⊢
      by_cases h4 : now / sp = ix ∧ c < lim
      · rw [if_pos h4] at h2
        exact ⟨hi, by unfold U at *; simp only; omega⟩
      · rw [if_neg h4] at h2; omega
theorem WStart {sp w : Int} (hs : U sp) (hw : U w) : window_start.f sp w = some (sp * w % 18446744073709551616, decide (sp * w < 18446744073709551616)) := by
  unfold window_start.f
  rw [Mul64 hs hw, Option.bind_some]
  have h := (V_mul hs hw).1
  unfold W
  congr 2
  rw [Bool.eq_iff_iff]
  simp only [beq_iff_eq, decide_eq_true_eq]
  generalize sp * w = x at *
  omega
/-- The earliest time from now on at which n units would be admitted. -/
def wRetry (lim sp ix c now n : Int) : Int :=
  if n = 0 ∨ lim < n ∨ sp = 0 then 18446744073709551615
  else if wOk lim sp ix c now n = true then now
  else if now / sp < ix ∧ c ≤ lim ∧ n ≤ lim - c then (if sp * ix < 18446744073709551616 then sp * ix else 18446744073709551615)
  else if sp * (ix + 1) < 18446744073709551616 then sp * (ix + 1) else 18446744073709551615
theorem WTry {lim sp ix c now n x : Int} (hl : U lim) (hs : U sp) (hi : U ix) (hc : U c) (hn : U n) (hx : U x) (k : Nat) :
    window_Retry.try_ (k + 1) lim sp ix c now n x = some (if sp * x < 18446744073709551616 ∧ ix ≤ x ∧ now ≤ sp * x ∧ wOk lim sp ix c (sp * x) n = true then some (sp * x) else none) := by
  unfold window_Retry.try_
  have h := (V_mul hs hx).1
  rw [WStart hs hx, Option.bind_some]
  dsimp only
  by_cases h1 : sp * x < 18446744073709551616
  · rw [if_pos (by simpa using h1), Int.emod_eq_of_lt h h1]
    by_cases h2 : x < ix
    · rw [if_pos h2, if_neg (by omega)]
    · rw [if_neg h2]
      by_cases h3 : sp * x < now
      · rw [if_pos h3, if_neg (by omega)]
      · rw [if_neg h3, WAdmit hl hs hi hc ⟨h, h1⟩ hn, Option.bind_some]
        by_cases h4 : wOk lim sp ix c (sp * x) n = true
        · rw [if_pos h4, if_pos rfl, if_pos ⟨h1, by omega, by omega, h4⟩]
        · rw [if_neg h4, if_neg (by simp), if_neg (fun hh => h4 hh.2.2.2)]
  · rw [if_neg (by simpa using h1), if_neg (fun hh => h1 hh.1)]
theorem WRetry {lim sp ix c now n : Int} (hl : U lim) (hs : U sp) (hi : U ix) (hc : U c) (hw : U now) (hn : U n) (k : Nat) : window_Retry.f (k + 1) lim sp ix c now n = some (wRetry lim sp ix c now n) := by
  unfold window_Retry.f
  rw [WAdmit hl hs hi hc hw hn, Option.bind_some]
  unfold wRetry
  have hle := fun t => (wLeft_le (sp := sp) (ix := ix) (now := t) hl hc).2
  by_cases h3 : wOk lim sp ix c now n = true
  · rw [if_pos h3, if_pos rfl]
    have h4 := wOk_iff.1 h3
    have := hle now
    have hs0 : sp ≠ 0 := by
      intro e
      have h5 := h4.2
      unfold wLeft at h5
      rw [if_pos e] at h5
      omega
    rw [if_neg (by omega), if_pos h3]
  rw [if_neg h3, if_neg (by simp)]
  by_cases h2 : sp = 0
  · rw [if_pos h2, if_pos (Or.inr (Or.inr h2))]
  rw [if_neg h2]
  have hp : 1 ≤ sp := by unfold U at hs; omega
  have hd1 : now / sp * sp ≤ now := Int.ediv_mul_le _ (by omega)
  have hd2 : now < (now / sp + 1) * sp := by
    have := Int.lt_ediv_add_one_mul_self now (show 0 < sp by omega)
    exact this
  have hw1 : U (IntKind.u64.wrap (ix + 1)) := U_wr _
  unfold window_Retry.rem0
  rw [WTry hl hs hi hc hn hi, Option.bind_some]
  have q0 : sp * ix / sp = ix := Int.mul_ediv_cancel_left _ h2
  have q1 : sp * (ix + 1) / sp = ix + 1 := Int.mul_ediv_cancel_left _ h2
  have l0 : wLeft lim sp ix c (sp * ix) = if c < lim then lim - c else 0 := by
    unfold wLeft
    rw [if_neg h2, q0, if_neg (by omega)]
    by_cases hh : c < lim
    · rw [if_pos ⟨rfl, hh⟩, if_pos hh]
    · rw [if_neg (by omega), if_neg hh]
  have l1 : wLeft lim sp ix c (sp * (ix + 1)) = lim := by
    unfold wLeft
    rw [if_neg h2, q1, if_pos (by omega)]
  by_cases hbad : n = 0 ∨ lim < n
  · have hno : ∀ t, wOk lim sp ix c t n = false := by
      intro t
      cases h : wOk lim sp ix c t n with
      | false => rfl
      | true => have := wOk_iff.1 h; have := hle t; omega
    rw [if_neg (by rw [hno]; simp), if_pos (by omega)]
    show window_Retry.rem1 _ _ _ _ _ _ _ _ = _
    unfold window_Retry.rem1
    rw [WTry hl hs hi hc hn hw1, Option.bind_some, if_neg (by rw [hno]; simp)]
    rfl
  have hn1 : 1 ≤ n ∧ n ≤ lim := by unfold U at hn; omega
  rw [if_neg (show ¬ (n = 0 ∨ lim < n ∨ sp = 0) by omega), if_neg h3]
  have hnow : ¬ ix < now / sp := by
    intro hh
    apply h3
    rw [wOk_iff]
    unfold wLeft
    rw [if_neg h2, if_pos hh]
    exact hn1
  by_cases ha : now / sp < ix ∧ c ≤ lim ∧ n ≤ lim - c
  · rw [if_pos ha]
    have hok : wOk lim sp ix c (sp * ix) n = true := by
      rw [wOk_iff, l0, if_pos (by omega)]; omega
    have hge : now ≤ sp * ix := by
      have := Int.mul_le_mul_of_nonneg_right (show now / sp + 1 ≤ ix by omega) (show (0 : Int) ≤ sp by omega)
      rw [Int.mul_comm sp ix]
      omega
    by_cases hf : sp * ix < 18446744073709551616
    · rw [if_pos ⟨hf, Int.le_refl _, hge, hok⟩, if_pos hf]
      rfl
    · rw [if_neg (fun hh => hf hh.1), if_neg hf]
      show window_Retry.rem1 _ _ _ _ _ _ _ _ = _
      unfold window_Retry.rem1
      rw [WTry hl hs hi hc hn hw1, Option.bind_some, if_neg ?_]
      · rfl
      · rintro ⟨h1, h4, _⟩
        have := Int.mul_le_mul_of_nonneg_left h4 (show (0 : Int) ≤ sp by omega)
        omega
  · rw [if_neg ha]
    have hno : ¬ (sp * ix < 18446744073709551616 ∧ ix ≤ ix ∧ now ≤ sp * ix ∧ wOk lim sp ix c (sp * ix) n = true) := by
      rintro ⟨h1, _, h4, h5⟩
      have h6 := wOk_iff.1 h5
      rw [l0] at h6
      by_cases hh : c < lim
      · rw [if_pos hh] at h6
        by_cases h7 : now / sp = ix
        · apply h3
          rw [wOk_iff]
          unfold wLeft
          rw [if_neg h2, if_neg hnow, if_pos ⟨h7, hh⟩]
          exact h6
        · exact ha ⟨by omega, by omega, h6.2⟩
      · rw [if_neg hh] at h6; omega
    rw [if_neg hno]
    show window_Retry.rem1 _ _ _ _ _ _ _ _ = _
    unfold window_Retry.rem1
    rw [WTry hl hs hi hc hn hw1, Option.bind_some]
    by_cases hm : ix = 18446744073709551615
    · have e : IntKind.u64.wrap (ix + 1) = 0 := by rw [wr, hm]; decide
      have : ¬ sp * (ix + 1) < 18446744073709551616 := by
        have := Int.mul_le_mul_of_nonneg_right hp (show (0 : Int) ≤ ix + 1 by omega)
        rw [Int.one_mul] at this
        omega
      rw [e, if_neg (by omega), if_neg this]
      rfl
    · have e : IntKind.u64.wrap (ix + 1) = ix + 1 := wr_id (by unfold U at *; omega)
      rw [e]
      by_cases hf : sp * (ix + 1) < 18446744073709551616
      · have hge : now ≤ sp * (ix + 1) := by
          have := Int.mul_le_mul_of_nonneg_right (show now / sp + 1 ≤ ix + 1 by omega) (show (0 : Int) ≤ sp by omega)
          rw [Int.mul_comm sp (ix + 1)]
          omega
        rw [if_pos ⟨hf, by omega, hge, by rw [wOk_iff, l1]; exact hn1⟩, if_pos hf]
        rfl
      · rw [if_neg (fun hh => hf hh.1), if_neg hf]
        rfl
end Go.Proofs.Ytdoifmefhofnnaa.M
