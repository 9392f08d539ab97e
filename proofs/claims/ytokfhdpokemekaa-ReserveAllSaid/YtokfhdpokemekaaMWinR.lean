/- What the reference of layer 5 computes: the same. -/
import Derived.Test.YtokfhdpokemekaaMWin
import Derived.Test.YtokfhdpokemekaaQx25
import Derived.Test.YtokfhdpokemekaaQx26
import Derived.Test.YtokfhdpokemekaaQx27
namespace Go.Proofs.Ytokfhdpokemekaa.M
set_option linter.unusedVariables false
open Go.RowKit Go.Proofs.Ytokfhdpokemekaa.Q Go.Proofs.YtokfhdpokemekaaW.PrintWords Go.Proofs.YtokfhdpokemekaaW.PrintMore
theorem R5Left {lim sp ix c now : Int} (hl : U lim) (hs : U sp) (hi : U ix) (hc : U c) (hn : U now) : turnstileref05_Left.f lim sp ix c now = some (wLeft lim sp ix c now) := by
  unfold turnstileref05_Left.f wLeft
  rw [dv hn hs]
  generalize now / sp = q
  by_cases h0 : sp = 0
  · rw [if_pos h0, if_pos h0]
  · rw [if_neg h0, if_neg h0]
    by_cases h1 : ix < q
    · rw [if_pos h1, if_pos h1]
    · rw [if_neg h1, if_neg h1]
      by_cases h2 : q < ix
      · rw [if_pos h2, if_neg (by omega)]
      · rw [if_neg h2]
        by_cases h3 : c ≥ lim
        · rw [if_pos h3, if_neg (by omega)]
        · rw [if_neg h3, if_pos (by omega), wr_id (by unfold U at *; omega)]
theorem R5Admit {lim sp ix c now n : Int} (hl : U lim) (hs : U sp) (hi : U ix) (hc : U c) (hw : U now) (hn : U n) (k : Nat) :
    turnstileref05_Admit.f (k + 1) lim sp ix c now n = some (if wOk lim sp ix c now n = true then ((wNext sp ix c now n).1, (wNext sp ix c now n).2, true) else (ix, c, false)) := by
  unfold turnstileref05_Admit.f
  by_cases h0 : n = 0
  · rw [if_pos h0, turnstileref05_Admit.j0, if_pos rfl, if_neg (by rw [wOk_iff]; omega)]
  · rw [if_neg h0, R5Left hl hs hi hc hw, Option.bind_some, turnstileref05_Admit.j0]
    have h1 : 1 ≤ n := by unfold U at hn; omega
    by_cases h2 : n > wLeft lim sp ix c now
    · rw [if_pos (by simpa using h2), if_neg (by rw [wOk_iff]; omega)]
    · rw [if_neg (by simpa using h2), if_pos (wOk_iff.2 ⟨h1, by omega⟩)]
      have hs0 : sp ≠ 0 := by
        intro e
        unfold wLeft at h2
        rw [if_pos e] at h2
        omega
      rw [if_neg hs0, dv hw hs]
      unfold wNext
      unfold wLeft at h2
      rw [if_neg hs0] at h2
      by_cases h3 : now / sp > ix
      · rw [if_neg (by omega), if_pos h3]
      · rw [if_neg h3] at h2
        by_cases h4 : now / sp = ix ∧ c < lim
        · rw [if_pos h4] at h2
          rw [if_pos h4.1, if_neg h3, wr_id (by unfold U at *; omega)]
        · rw [if_neg h4] at h2
          omega
theorem R5Start {sp w : Int} (hs : U sp) (hw : U w) : turnstileref05_Start.f sp w = some (if sp * w < 18446744073709551616 then sp * w else 18446744073709551615) := by
  unfold turnstileref05_Start.f turnstileref05_fits.f
  have h := (V_mul hs hw).1
  by_cases h0 : sp = 0
  · rw [if_pos h0, Option.bind_some, if_pos rfl, h0, Int.zero_mul, if_pos (by decide)]
    rfl
  · rw [if_neg h0, Option.bind_some]
    have hp : 0 < sp := by unfold U at hs; omega
    have hq : IntKind.u64.wrap (18446744073709551615 / sp) = 18446744073709551615 / sp := wr_id (div_U ⟨by decide, by decide⟩ hs.1)
    rw [hq]
    have e : (w ≤ 18446744073709551615 / sp) ↔ sp * w < 18446744073709551616 := by
      rw [Int.le_ediv_iff_mul_le hp, Int.mul_comm w sp]; omega
    by_cases h1 : sp * w < 18446744073709551616
    · rw [if_pos (by simpa using e.2 h1), if_pos h1, wr_id ⟨h, h1⟩]
    · rw [if_neg (by simp only [decide_eq_true_eq]; exact fun h => h1 (e.1 h)), if_neg h1]
theorem R5Retry {lim sp ix c now n : Int} (hl : U lim) (hs : U sp) (hi : U ix) (hc : U c) (hw : U now) (hn : U n) (k : Nat) : turnstileref05_Retry.f (k + 3) lim sp ix c now n = some (wRetry lim sp ix c now n) := by
  unfold turnstileref05_Retry.f wRetry
  by_cases h0 : n = 0
  · rw [if_pos h0, turnstileref05_Retry.j0, if_pos rfl, if_pos (Or.inl h0)]
  rw [if_neg h0]
  by_cases h1 : n > lim
  · rw [if_pos h1, turnstileref05_Retry.j0, if_pos rfl, if_pos (Or.inr (Or.inl h1))]
  rw [if_neg h1, turnstileref05_Retry.j0]
  by_cases h2 : sp = 0
  · rw [if_pos (by simpa using h2), if_pos (Or.inr (Or.inr h2))]
  rw [if_neg (by simpa using h2), if_neg (by omega), show k + 2 = (k + 1) + 1 from rfl, R5Admit hl hs hi hc hw hn (k + 1), Option.bind_some]
  by_cases h3 : wOk lim sp ix c now n = true
  · rw [if_pos h3, if_pos rfl, if_neg (by omega), if_pos h3]
  rw [if_neg h3, if_neg (by simp), dv hw hs, if_neg (show ¬ (n = 0 ∨ lim < n ∨ sp = 0) by omega), if_neg h3]
  have hp : 1 ≤ sp := by unfold U at hs; omega
  have hsub : c ≤ lim → IntKind.u64.wrap (lim - c) = lim - c := fun h => wr_id (by unfold U at *; omega)
  have tail : ∀ k, turnstileref05_Retry.j1 (k + 1) sp ix false = some (if sp * (ix + 1) < 18446744073709551616 then sp * (ix + 1) else 18446744073709551615) := by
    intro k
    rw [turnstileref05_Retry.j1, if_neg (by decide)]
    by_cases h4 : ix = 18446744073709551615
    · rw [if_pos h4]
      have : ¬ sp * (ix + 1) < 18446744073709551616 := by
        have := Int.mul_le_mul_of_nonneg_right hp (show (0 : Int) ≤ ix + 1 by omega)
        rw [Int.one_mul] at this
        omega
      rw [if_neg this]
    · have e : IntKind.u64.wrap (ix + 1) = ix + 1 := wr_id (by unfold U at *; omega)
      rw [if_neg h4, e, R5Start hs (by unfold U at *; omega), Option.bind_some]
  by_cases h4 : now / sp < ix
  · rw [if_pos h4]
    by_cases h5 : c ≤ lim
    · rw [if_pos h5, hsub h5]
      by_cases h6 : n ≤ lim - c
      · rw [if_pos ⟨h4, h5, h6⟩, turnstileref05_Retry.j1, if_pos (by simpa using h6), R5Start hs hi, Option.bind_some]
      · rw [if_neg (by omega), decide_eq_false h6, tail]
    · rw [if_neg h5, if_neg (by omega), tail]
  · rw [if_neg h4, if_neg (by omega), tail]
end Go.Proofs.Ytokfhdpokemekaa.M
