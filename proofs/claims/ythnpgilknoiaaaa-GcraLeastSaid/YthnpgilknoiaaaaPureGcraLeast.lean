/- GcraLeast: the least time, and Never. -/
import Derived.Test.YthnpgilknoiaaaaMLives
import Derived.Test.YthnpgilknoiaaaaQSGcraLeast
namespace Go.Proofs.Ythnpgilknoiaaaa.Pure
set_option linter.unusedVariables false
open Go.RowKit Go.Proofs.Ythnpgilknoiaaaa.Q Go.Proofs.Ythnpgilknoiaaaa.M Go.Proofs.YthnpgilknoiaaaaW.PrintWords Go.Proofs.YthnpgilknoiaaaaW.PrintMore
/-- When units are admitted, by Retry. -/
theorem least {g s t now n : Int} (hg : U g) (hs : U s) (ht : U t) (hw : U now) (hn : U n) :
    (gRetry g s t now n = 18446744073709551615 → ∀ p, U p → now ≤ p → gOk g s t p n = false) ∧
    (gRetry g s t now n ≠ 18446744073709551615 → now ≤ gRetry g s t now n ∧ gOk g s t (gRetry g s t now n) n = true ∧ ∀ p, now ≤ p → p < gRetry g s t now n → gOk g s t p n = false) := by
  have hmf := mul_facts hg hn
  have hU := retry_U hg hs ht hw hn
  have hf : ∀ p, (gOk g s t p n = false ↔ ¬ (1 ≤ n ∧ 1 ≤ g ∧ n * g + mx t p ≤ 18446744073709551615 ∧ n * g - g + mx t p ≤ p + s)) := fun p => by rw [← gOk_iff]; simp
  have hm : ∀ p, t ≤ mx t p ∧ p ≤ mx t p ∧ (mx t p = t ∨ mx t p = p) := fun p => mx_le
  unfold gRetry at hU ⊢
  unfold U at hg hs ht hw hn hU
  have hm0 := hm now
  constructor
  · intro h p hp hle
    rw [hf]
    have hmp := hm p
    unfold U at hp
    split at h
    · omega
    · rename_i hc
      have hmr := @mx_le now (if s - (n * g - g) ≤ t then t - (s - (n * g - g)) else 0)
      rw [h] at hmr
      have h3 := hmf.2 (by omega) (by omega)
      split at hmr <;> omega
  · intro h
    split at h
    · exact absurd rfl h
    · rename_i hc
      rw [if_neg hc]
      have hmr := @mx_le now (if s - (n * g - g) ≤ t then t - (s - (n * g - g)) else 0)
      rw [if_neg hc] at hU
      generalize mx now (if s - (n * g - g) ≤ t then t - (s - (n * g - g)) else 0) = r at *
      have hmr2 := hm r
      have h3 := hmf.2 (by omega) (by omega)
      refine ⟨by omega, ?_, ?_⟩
      · rw [gOk_iff]
        split at hmr <;> omega
      · intro p h1 h2
        rw [hf]
        have hmp := hm p
        split at hmr <;> omega
theorem GcraLeast : GcraLeast.Pure := by
  intro x p hx hp
  obtain ⟨hg, hs, ht, hw, hn⟩ := hx
  replace hg := U_wf hg
  replace hs := U_wf hs
  replace ht := U_wf ht
  replace hw := U_wf hw
  replace hn := U_wf hn
  replace hp := U_wf hp
  generalize x.f0 = g at *
  generalize x.f1 = s at *
  generalize x.f2 = t at *
  generalize x.f3 = now at *
  generalize x.f4 = n at *
  obtain ⟨l1, l2⟩ := least hg hs ht hw hn
  have hU := retry_U hg hs ht hw hn
  obtain ⟨k, hk⟩ : ∃ k : Nat, 30 ≤ k := ⟨30, Nat.le_refl _⟩
  refine ⟨k + 1 + 1, ?_⟩
  unfold turnstilelaw04_GcraLeast.f
  rw [lives (k + 1) (by omega), Retry hg hs ht hw hn]
  simp only [Option.bind_some, if_true]
  by_cases hr : gRetry g s t now n = 18446744073709551615
  · rw [if_pos hr, yes hg hs ht hw hn, yes hg hs ht ht hn, yes hg hs ht hp hn, l1 hr now hw (Int.le_refl _)]
    simp only [Option.bind_some]
    rw [if_neg (by simp)]
    have e2 : ¬ t < now → gOk g s t t n = false := fun h => l1 hr t ht (by omega)
    have e3 : ¬ p < now → gOk g s t p n = false := fun h => l1 hr p hp (by omega)
    by_cases h1 : p < now
    · rw [if_pos h1]
      by_cases h2 : t < now
      · rw [if_pos h2]
      · rw [if_neg h2, e2 h2]; rfl
    · rw [if_neg h1, e3 h1, if_neg (by simp)]
      by_cases h2 : t < now
      · rw [if_pos h2]
      · rw [if_neg h2, e2 h2]; rfl
  · obtain ⟨h1, h2, h3⟩ := l2 hr
    rw [if_neg hr, if_neg (by omega), yes hg hs ht hU hn, h2]
    simp only [Option.bind_some]
    generalize hR : gRetry g s t now n = r at *
    rw [Bool.not_true, turnstilelaw04_GcraLeast.j0, if_neg (by simp)]
    have tail : (if r = now then some true else (turnstilelaw04_yes.f (k + 1) g s t now n (IntKind.u64.wrap (r - 1)) n).bind fun t559 => some (!t559)) = some true := by
      by_cases h4 : r = now
      · rw [if_pos h4]
      · have u4 : U (r - 1) := by unfold U at *; omega
        rw [if_neg h4, wr_id u4, yes hg hs ht u4 hn, h3 (r - 1) (by omega) (by omega)]; rfl
    by_cases h5 : p ≥ now
    · rw [if_pos h5]
      by_cases h6 : p < r
      · rw [if_pos h6, yes hg hs ht hp hn, h3 p (by omega) h6]
        simp only [Option.bind_some]
        rw [if_neg (by simp)]
        exact tail
      · rw [if_neg h6]; exact tail
    · rw [if_neg h5]; exact tail
end Go.Proofs.Ythnpgilknoiaaaa.Pure
