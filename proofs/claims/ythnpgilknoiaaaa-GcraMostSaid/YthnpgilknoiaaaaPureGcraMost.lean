/- GcraMost: so many units, and no more. -/
import Derived.Test.YthnpgilknoiaaaaMLives
import Derived.Test.YthnpgilknoiaaaaQSGcraMost
namespace Go.Proofs.Ythnpgilknoiaaaa.Pure
set_option linter.unusedVariables false
open Go.RowKit Go.Proofs.Ythnpgilknoiaaaa.Q Go.Proofs.Ythnpgilknoiaaaa.M Go.Proofs.YthnpgilknoiaaaaW.PrintWords Go.Proofs.YthnpgilknoiaaaaW.PrintMore
theorem GcraMost : GcraMost.Pure := by
  intro x hx
  obtain ⟨hg, hs, ht, hw, hn⟩ := hx
  replace hg := U_wf hg
  replace hs := U_wf hs
  replace ht := U_wf ht
  replace hw := U_wf hw
  replace hn := U_wf hn
  generalize x.f0 = g at *
  generalize x.f1 = s at *
  generalize x.f2 = t at *
  generalize x.f3 = now at *
  generalize x.f4 = n at *
  have hB := burst_iff hg hs ht hw
  have hU := burst_U hg hs ht hw
  have u1 : U 1 := by unfold U; omega
  obtain ⟨k, hk⟩ : ∃ k : Nat, 30 ≤ k := ⟨30, Nat.le_refl _⟩
  refine ⟨k + 1, ?_⟩
  unfold turnstilelaw04_GcraMost.f
  rw [lives k (by omega), Burst hg hs ht hw k (by omega)]
  simp only [Option.bind_some, if_true]
  generalize hb : gBurst g s t now = b at *
  have hz : ∀ m, ¬ 1 ≤ m → gOk g s t now m = false := by
    intro m hm
    cases h : gOk g s t now m with
    | false => rfl
    | true => have := gOk_iff.1 h; omega
  have hbit : ∀ m, gOk g s t now m = decide (1 ≤ m ∧ m ≤ b) := by
    intro m
    by_cases hm : 1 ≤ m
    · by_cases h : m ≤ b
      · rw [(hB m hm).2 h]; simp [hm, h]
      · cases h' : gOk g s t now m with
        | false => simp [h]
        | true => exact absurd ((hB m hm).1 h') h
    · rw [hz m hm]; simp [hm]
  by_cases h0 : b = 0
  · rw [if_pos h0, yes hg hs ht hw u1, hbit 1]
    subst h0
    rfl
  · have hb1 : 1 ≤ b := by unfold U at hU; omega
    rw [if_neg h0, yes hg hs ht hw hU, hbit b, decide_eq_true ⟨hb1, Int.le_refl _⟩]
    simp only [Option.bind_some, if_true]
    have tail : (if n ≥ 1 then (turnstilelaw04_yes.f (k + 1) g s t now n now n).bind fun t568 => some (decide (n ≤ b) == t568) else (turnstilelaw04_yes.f (k + 1) g s t now n now n).bind fun t569 => some (false == t569)) = some true := by
      rw [yes hg hs ht hw hn, hbit n]
      by_cases h1 : n ≥ 1
      · rw [if_pos h1]
        simp [h1]
      · rw [if_neg h1]
        simp [h1]
    by_cases h2 : b < 18446744073709551615
    · have u2 : U (b + 1) := by unfold U at *; omega
      rw [if_pos h2, wr_id u2, yes hg hs ht hw u2, hbit (b + 1), decide_eq_false (by omega)]
      simp only [Option.bind_some]
      rw [if_neg (by simp)]
      exact tail
    · rw [if_neg h2]
      exact tail
end Go.Proofs.Ythnpgilknoiaaaa.Pure
