/- GcraSplits: n units and then m are n + m. -/
import Derived.Test.YthnpgilknoiaaaaMLives
import Derived.Test.YthnpgilknoiaaaaQSGcraSplits
namespace Go.Proofs.Ythnpgilknoiaaaa.Pure
set_option linter.unusedVariables false
open Go.RowKit Go.Proofs.Ythnpgilknoiaaaa.Q Go.Proofs.Ythnpgilknoiaaaa.M Go.Proofs.YthnpgilknoiaaaaW.PrintWords Go.Proofs.YthnpgilknoiaaaaW.PrintMore
theorem splits {g s t now n m : Int} (hg : U g) (ht : U t) (hw : U now) (hn : U n) (hm : U m) (h1 : 1 ≤ n) (h2 : 1 ≤ m) :
    (gOk g s t now (n + m) = true ↔ (gOk g s t now n = true ∧ gOk g s (mx t now + n * g) now m = true)) ∧ (1 ≤ g → mx (mx t now + n * g) now + m * g = mx t now + (n + m) * g) := by
  have hmul : (n + m) * g = n * g + m * g := Int.add_mul _ _ _
  have hx := @mx_le t now
  have fn := (mul_facts hg hn).2 h1
  have fm := (mul_facts hg hm).2 h2
  have n0 : 0 ≤ n * g := Int.mul_nonneg hn.1 hg.1
  have e : mx (mx t now + n * g) now = mx t now + n * g := by
    have h3 := @mx_le (mx t now + n * g) now
    omega
  simp only [gOk_iff]
  rw [hmul, e]
  constructor
  · constructor
    · intro h; omega
    · intro h; omega
  · intro _; omega
theorem GcraSplits : GcraSplits.Pure := by
  intro x m hx hm
  obtain ⟨hg, hs, ht, hw, hn⟩ := hx
  replace hg := U_wf hg
  replace hs := U_wf hs
  replace ht := U_wf ht
  replace hw := U_wf hw
  replace hn := U_wf hn
  replace hm := U_wf hm
  generalize x.f0 = g at *
  generalize x.f1 = s at *
  generalize x.f2 = t at *
  generalize x.f3 = now at *
  generalize x.f4 = n at *
  obtain ⟨k, hk⟩ : ∃ k : Nat, 30 ≤ k := ⟨30, Nat.le_refl _⟩
  refine ⟨k + 1 + 1, ?_⟩
  unfold turnstilelaw04_GcraSplits.f
  rw [lives (k + 1) (by omega)]
  simp only [Option.bind_some, if_true]
  by_cases h0 : n = 0
  · rw [if_pos h0, turnstilelaw04_GcraSplits.j0, if_pos rfl]
  rw [if_neg h0]
  by_cases h1 : m = 0
  · rw [if_pos h1, turnstilelaw04_GcraSplits.j0, if_pos rfl]
  have hn' := hn; have hm' := hm
  unfold U at hn' hm'
  rw [if_neg h1, wr_id (n := 18446744073709551615 - m) (U_le (by omega) (by omega)), turnstilelaw04_GcraSplits.j0]
  by_cases h2 : n > 18446744073709551615 - m
  · rw [if_pos (by simpa using h2)]
  have unm : U (n + m) := U_le (by omega) (by omega)
  rw [if_neg (by simpa using h2), wr_id unm, Admit hg hs ht hw unm, Admit hg hs ht hw hn]
  simp only [Option.bind_some]
  obtain ⟨hsp, he⟩ := @splits g s t now n m hg ht hw hn hm (by omega) (by omega)
  cases hA : gOk g s t now (n + m) with
  | true =>
    have := hsp.1 hA
    rw [if_pos rfl, if_pos this.1]
    dsimp only
    rw [Admit hg hs (admit_U ht hw this.1) hw hm, if_pos this.2]
    simp only [Option.bind_some, if_true]
    rw [he (gOk_iff.1 hA).2.1]
    simp
  | false =>
    simp only [Bool.false_eq_true, if_false]
    cases hB : gOk g s t now n with
    | false =>
      simp only [Bool.false_eq_true, if_false]
      rw [Admit hg hs ht hw hm]
      simp
    | true =>
      simp only [if_true]
      rw [Admit hg hs (admit_U ht hw hB) hw hm]
      have : gOk g s (mx t now + n * g) now m = false := by
        cases hC : gOk g s (mx t now + n * g) now m with
        | false => rfl
        | true => have := hsp.2 ⟨hB, hC⟩; rw [hA] at this; cases this
      rw [this]
      simp
end Go.Proofs.Ythnpgilknoiaaaa.Pure
