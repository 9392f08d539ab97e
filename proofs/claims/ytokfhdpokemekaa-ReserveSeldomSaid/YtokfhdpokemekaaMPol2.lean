/- What the policy laws say, in plain numbers. -/
import Derived.Test.YtokfhdpokemekaaMPol
import Derived.Test.YtokfhdpokemekaaMGcraL
namespace Go.Proofs.Ytokfhdpokemekaa.M
set_option linter.unusedVariables false
open Go.RowKit Go.Proofs.Ytokfhdpokemekaa.Q Go.Proofs.YtokfhdpokemekaaW.PrintWords Go.Proofs.YtokfhdpokemekaaW.PrintMore
theorem cov_refl (p : Pol) (a : Lev) : pCov p a a = true := by
  rw [pCov_iff]; split <;> omega
theorem cov_total {p : Pol} {a b : Lev} (h : pCov p a b ≠ true) : pCov p b a = true := by
  rw [Ne, pCov_iff] at h; rw [pCov_iff]; split at h <;> simp_all <;> omega
theorem cov_trans {p : Pol} {a b c : Lev} (h : pCov p a b = true) (h' : pCov p b c = true) : pCov p a c = true := by
  rw [pCov_iff] at *; split at h <;> simp_all <;> omega
theorem cov_anti {p : Pol} {a b : Lev} : (pCov p a b = true ∧ pCov p b a = true) ↔ pF p a = pF p b := by
  cases a with | mk a1 a2 a3 =>
  cases b with | mk b1 b2 b3 =>
  rw [pCov_iff, pCov_iff]
  unfold pF
  by_cases h1 : p.kind = 1
  · simp only [if_pos h1, Lev.mk.injEq, and_true]; omega
  · simp only [if_neg h1, Lev.mk.injEq, true_and]; omega
theorem max_cov {p : Pol} (hv : pv p = true) (a b : Lev) : pCov p (pMax p a b) a = true ∧ pCov p (pMax p a b) b = true := by
  unfold pMax
  rw [if_pos hv]
  by_cases h : pCov p a b = true
  · rw [if_pos h, (pCov_pF p a _).1, (pCov_pF p a _).1]; exact ⟨cov_refl p a, h⟩
  · rw [if_neg h, (pCov_pF p b _).1, (pCov_pF p b _).1]; exact ⟨cov_total h, cov_refl p b⟩
theorem max_self {p : Pol} (hv : pv p = true) (a : Lev) : pMax p a a = pF p a := by
  unfold pMax; rw [if_pos hv]; split <;> rfl
theorem next_cov {p : Pol} {v : Lev} {now n : Int} (hp : p.U) (h : pOk p v now n = true) : pCov p (pNext p v now n) v = true ∧ pCov p v (pNext p v now n) = false := by
  have e : ∀ b : Bool, b = false ↔ ¬ b = true := fun b => by cases b <;> simp
  rw [e, pCov_iff, pCov_iff]
  unfold pOk at h
  unfold pNext
  by_cases h1 : p.kind = 1
  · simp only [if_pos h1] at h ⊢
    obtain ⟨h2, h3, _, _⟩ := gOk_iff.1 h
    have h4 := Int.mul_le_mul h2 h3 (by decide) (by omega)
    have h5 := (mx_le (a := v.tat) (b := now)).1
    generalize n * p.gap = x at *
    omega
  · simp only [if_neg h1] at h ⊢
    obtain ⟨h2, h3⟩ := wOk_iff.1 h
    unfold wNext
    by_cases h5 : v.ix < now / p.span
    · simp only [if_pos h5]; omega
    · simp [if_neg h5]; omega
/-- The window's first time: none, or the least from now on. -/
theorem wleast {lim sp ix c now n : Int} (hl : U lim) (hs : U sp) (hi : U ix) (hc : U c) (hw : U now) (hn : U n) :
    now ≤ wRetry lim sp ix c now n ∧ (wRetry lim sp ix c now n = 18446744073709551615 ∨ wOk lim sp ix c (wRetry lim sp ix c now n) n = true) ∧ (∀ t, U t → now ≤ t → wOk lim sp ix c t n = true → wRetry lim sp ix c now n ≤ t) := by
  have hle := fun t => (wLeft_le (sp := sp) (ix := ix) (now := t) hl hc).2
  unfold wRetry
  by_cases h0 : n = 0 ∨ lim < n ∨ sp = 0
  · rw [if_pos h0]
    refine ⟨by unfold U at hw; omega, Or.inl rfl, fun t _ _ h => ?_⟩
    have h1 := wOk_iff.1 h
    have h2 := hle t
    have h3 : sp = 0 → wLeft lim sp ix c t = 0 := fun e => by unfold wLeft; rw [if_pos e]
    omega
  rw [if_neg h0]
  by_cases h3 : wOk lim sp ix c now n = true
  · rw [if_pos h3]; exact ⟨Int.le_refl _, Or.inr h3, fun t _ h _ => h⟩
  rw [if_neg h3]
  have h2 : sp ≠ 0 := by omega
  have hp : 1 ≤ sp := by unfold U at hs; omega
  have hn1 : 1 ≤ n ∧ n ≤ lim := by unfold U at hn; omega
  have hd1 : now / sp * sp ≤ now := Int.ediv_mul_le _ (by omega)
  have hd2 : now < (now / sp + 1) * sp := Int.lt_ediv_add_one_mul_self now (show 0 < sp by omega)
  have hnow : ¬ ix < now / sp := by
    intro hh; apply h3; rw [wOk_iff]; unfold wLeft; rw [if_neg h2, if_pos hh]; exact hn1
  have q0 : sp * ix / sp = ix := Int.mul_ediv_cancel_left _ h2
  have q1 : sp * (ix + 1) / sp = ix + 1 := Int.mul_ediv_cancel_left _ h2
  -- a time at which they are admitted lies in the level's window, or behind it
  have hat : ∀ t, wOk lim sp ix c t n = true → (t / sp = ix ∧ c < lim ∧ n ≤ lim - c) ∨ ix < t / sp := by
    intro t h
    have h4 := wOk_iff.1 h
    unfold wLeft at h4
    rw [if_neg h2] at h4
    by_cases h5 : ix < t / sp
    · exact Or.inr h5
    · rw [if_neg h5] at h4
      by_cases h6 : t / sp = ix ∧ c < lim
      · rw [if_pos h6] at h4; exact Or.inl ⟨h6.1, h6.2, h4.2⟩
      · rw [if_neg h6] at h4; omega
  have hbig : ∀ t, ix < t / sp → sp * (ix + 1) ≤ t := by
    intro t h
    have h4 : t / sp * sp ≤ t := Int.ediv_mul_le _ (by omega)
    have h5 := Int.mul_le_mul_of_nonneg_right (show ix + 1 ≤ t / sp by omega) (show (0 : Int) ≤ sp by omega)
    rw [Int.mul_comm sp (ix + 1)]
    omega
  have hge1 : now ≤ sp * (ix + 1) := by
    have := Int.mul_le_mul_of_nonneg_right (show now / sp + 1 ≤ ix + 1 by omega) (show (0 : Int) ≤ sp by omega)
    rw [Int.mul_comm sp (ix + 1)]
    omega
  have e0 : sp * (ix + 1) = sp * ix + sp := by rw [Int.mul_add, Int.mul_one]
  by_cases ha : now / sp < ix ∧ c ≤ lim ∧ n ≤ lim - c
  · rw [if_pos ha]
    have hge : now ≤ sp * ix := by
      have := Int.mul_le_mul_of_nonneg_right (show now / sp + 1 ≤ ix by omega) (show (0 : Int) ≤ sp by omega)
      rw [Int.mul_comm sp ix]
      omega
    have hmin : ∀ t, U t → now ≤ t → wOk lim sp ix c t n = true → sp * ix ≤ t := by
      intro t _ _ h
      rcases hat t h with h4 | h4
      · have h5 : t / sp * sp ≤ t := Int.ediv_mul_le _ (by omega)
        rw [h4.1, Int.mul_comm] at h5
        exact h5
      · have := hbig t h4; omega
    by_cases hf : sp * ix < 18446744073709551616
    · rw [if_pos hf]
      refine ⟨hge, Or.inr ?_, hmin⟩
      rw [wOk_iff]; unfold wLeft; rw [if_neg h2, q0, if_neg (by omega), if_pos (by omega)]; omega
    · rw [if_neg hf]
      refine ⟨by unfold U at hw; omega, Or.inl rfl, fun t ht h4 h5 => ?_⟩
      have := hmin t ht h4 h5
      unfold U at ht; omega
  · rw [if_neg ha]
    have hmin : ∀ t, U t → now ≤ t → wOk lim sp ix c t n = true → sp * (ix + 1) ≤ t := by
      intro t ht h4 h
      rcases hat t h with h5 | h5
      · exfalso
        have h6 : now / sp ≤ t / sp := Int.ediv_le_ediv (by omega) h4
        by_cases h7 : now / sp = ix
        · apply h3
          rw [wOk_iff]; unfold wLeft; rw [if_neg h2, if_neg hnow, if_pos ⟨h7, h5.2.1⟩]; omega
        · exact ha ⟨by omega, by omega, h5.2.2⟩
      · exact hbig t h5
    by_cases hf : sp * (ix + 1) < 18446744073709551616
    · rw [if_pos hf]
      refine ⟨hge1, Or.inr ?_, hmin⟩
      rw [wOk_iff]; unfold wLeft; rw [if_neg h2, q1, if_pos (by omega)]; exact hn1
    · rw [if_neg hf]
      refine ⟨by unfold U at hw; omega, Or.inl rfl, fun t ht h4 h5 => ?_⟩
      have := hmin t ht h4 h5
      unfold U at ht; omega
theorem wRetry_U {lim sp ix c now n : Int} (hl : U lim) (hs : U sp) (hi : U ix) (hc : U c) (hw : U now) (hn : U n) : U (wRetry lim sp ix c now n) := by
  have h0 := (wleast hl hs hi hc hw hn).1
  refine ⟨by unfold U at hw; omega, ?_⟩
  unfold wRetry
  unfold U at hw
  (repeat' split) <;> omega
theorem pRetry_U {p : Pol} {v : Lev} {now n : Int} (hp : p.U) (hv : v.U) (hw : U now) (hn : U n) : U (pRetry p v now n) := by
  unfold pRetry
  by_cases h1 : p.kind = 1
  · rw [if_pos h1]; exact retry_U hp.1 hp.2.1 hv.1 hw hn
  · rw [if_neg h1]; exact wRetry_U hp.2.2.1 hp.2.2.2 hv.2.1 hv.2.2 hw hn
/-- What Retry tells is the first time from now on, unless there is none. -/
theorem pleast {p : Pol} {v : Lev} {now n : Int} (hp : p.U) (hv : v.U) (hw : U now) (hn : U n) :
    now ≤ pRetry p v now n ∧ (pRetry p v now n = 18446744073709551615 ∨ pOk p v (pRetry p v now n) n = true) ∧ (∀ t, U t → now ≤ t → pOk p v t n = true → pRetry p v now n ≤ t) := by
  unfold pRetry pOk
  by_cases h1 : p.kind = 1
  · simp only [if_pos h1]
    obtain ⟨h2, h3⟩ := least hp.1 hp.2.1 hv.1 hw hn
    by_cases h4 : gRetry p.gap p.slack v.tat now n = 18446744073709551615
    · refine ⟨by rw [h4]; unfold U at hw; omega, Or.inl h4, fun t ht h5 h6 => ?_⟩
      rw [h2 h4 t ht h5] at h6
      cases h6
    · obtain ⟨h5, _, h6, h7⟩ := h3 h4
      refine ⟨h5, Or.inr h6, fun t ht h8 h9 => ?_⟩
      by_cases h10 : t < gRetry p.gap p.slack v.tat now n
      · rw [h7 t h8 h10] at h9; cases h9
      · omega
  · simp only [if_neg h1]
    exact wleast hp.2.2.1 hp.2.2.2 hv.2.1 hv.2.2 hw hn
end Go.Proofs.Ytokfhdpokemekaa.M
