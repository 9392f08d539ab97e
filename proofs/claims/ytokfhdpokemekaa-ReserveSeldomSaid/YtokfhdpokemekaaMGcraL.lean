/- Retry of gcra is the least time. -/
import Derived.Test.YtokfhdpokemekaaMGcraA
namespace Go.Proofs.Ytokfhdpokemekaa.M
set_option linter.unusedVariables false
open Go.RowKit Go.Proofs.Ytokfhdpokemekaa.Q Go.Proofs.YtokfhdpokemekaaW.PrintWords Go.Proofs.YtokfhdpokemekaaW.PrintMore
/-- When units are admitted, by Retry. -/
theorem least {g s t now n : Int} (hg : U g) (hs : U s) (ht : U t) (hw : U now) (hn : U n) :
    (gRetry g s t now n = 18446744073709551615 → ∀ p, U p → now ≤ p → gOk g s t p n = false) ∧
    (gRetry g s t now n ≠ 18446744073709551615 → now ≤ gRetry g s t now n ∧ gRetry g s t now n ≤ mx now t ∧ gOk g s t (gRetry g s t now n) n = true ∧ ∀ p, now ≤ p → p < gRetry g s t now n → gOk g s t p n = false) := by
  have hmf := mul_facts hg hn
  have hU := retry_U hg hs ht hw hn
  have hf : ∀ p, (gOk g s t p n = false ↔ ¬ (1 ≤ n ∧ 1 ≤ g ∧ n * g + mx t p ≤ 18446744073709551615 ∧ n * g - g + mx t p ≤ p + s)) := fun p => by rw [← gOk_iff]; simp
  have hm : ∀ p, t ≤ mx t p ∧ p ≤ mx t p ∧ (mx t p = t ∨ mx t p = p) := fun p => mx_le
  have hnt := @mx_le now t
  unfold gRetry at hU ⊢
  unfold U at hg hs ht hw hn hU
  have hm0 := hm now
  constructor
  · intro h p hp hle
    rw [hf]
    have hmp := hm p
    unfold U at hp
    split at h
    · omega
    · rename_i hc
      have hmr := @mx_le now (if s - (n * g - g) ≤ t then t - (s - (n * g - g)) else 0)
      rw [h] at hmr
      have h3 := hmf.2 (by omega) (by omega)
      split at hmr <;> omega
  · intro h
    split at h
    · exact absurd rfl h
    · rename_i hc
      rw [if_neg hc]
      have hmr := @mx_le now (if s - (n * g - g) ≤ t then t - (s - (n * g - g)) else 0)
      rw [if_neg hc] at hU
      generalize mx now (if s - (n * g - g) ≤ t then t - (s - (n * g - g)) else 0) = r at *
      have hmr2 := hm r
      have h3 := hmf.2 (by omega) (by omega)
      refine ⟨by omega, by split at hmr <;> omega, ?_, ?_⟩
      · rw [gOk_iff]
        split at hmr <;> omega
      · intro p h1 h2
        rw [hf]
        have hmp := hm p
        split at hmr <;> omega
/-- Between now and tat: once admitted, admitted later. -/
theorem mono_time {g s t p q n : Int} (h : gOk g s t p n = true) (hpq : p ≤ q) (hq : q ≤ t) : gOk g s t q n = true := by
  have h1 := gOk_iff.1 h
  have a := @mx_le t p
  have b := @mx_le t q
  rw [gOk_iff]
  omega
end Go.Proofs.Ytokfhdpokemekaa.M
