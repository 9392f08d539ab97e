/- GcraLesser: over a lesser tat, and later. -/
import Derived.Test.YthnpgilknoiaaaaMLives
import Derived.Test.YthnpgilknoiaaaaQSGcraLesser
namespace Go.Proofs.Ythnpgilknoiaaaa.Pure
set_option linter.unusedVariables false
open Go.RowKit Go.Proofs.Ythnpgilknoiaaaa.Q Go.Proofs.Ythnpgilknoiaaaa.M Go.Proofs.YthnpgilknoiaaaaW.PrintWords Go.Proofs.YthnpgilknoiaaaaW.PrintMore
theorem lesser {g s t u now n : Int} (h : gOk g s t now n = true) (hu : u ≤ t) : gOk g s u now n = true ∧ mx u now + n * g ≤ mx t now + n * g := by
  have h1 := gOk_iff.1 h
  have a := @mx_le t now
  have b := @mx_le u now
  rw [gOk_iff]
  omega
theorem later {g s t l now n : Int} (h : gOk g s t now n = true) (hl : now ≤ l) : gOk g s t l n = decide (n * g + mx t l ≤ 18446744073709551615) := by
  have h1 := gOk_iff.1 h
  have a := @mx_le t now
  have b := @mx_le t l
  unfold gOk
  rw [decide_eq_decide]
  omega
theorem GcraLesser : GcraLesser.Pure := by
  intro x u l hx hu hl
  obtain ⟨hg, hs, ht, hw, hn⟩ := hx
  replace hg := U_wf hg
  replace hs := U_wf hs
  replace ht := U_wf ht
  replace hw := U_wf hw
  replace hn := U_wf hn
  replace hu := U_wf hu
  replace hl := U_wf hl
  generalize x.f0 = g at *
  generalize x.f1 = s at *
  generalize x.f2 = t at *
  generalize x.f3 = now at *
  generalize x.f4 = n at *
  obtain ⟨k, hk⟩ : ∃ k : Nat, 30 ≤ k := ⟨30, Nat.le_refl _⟩
  refine ⟨k + 1 + 1 + 1, ?_⟩
  unfold turnstilelaw04_GcraLesser.f
  rw [lives (k + 1 + 1) (by omega), Admit hg hs ht hw hn]
  simp only [Option.bind_some, if_true]
  cases hA : gOk g s t now n with
  | false => simp
  | true =>
    simp only [if_true]
    have tail : turnstilelaw04_GcraLesser.j0 (k + 1 + 1 + 1) l g s t now n = some true := by
      rw [turnstilelaw04_GcraLesser.j0]
      by_cases h1 : l < now
      · rw [if_pos h1]
      · rw [if_neg h1]
        have e : ∀ b, b = mx t l → turnstilelaw04_GcraLesser.j1 (k + 1 + 1) l b g s t now n = some true := by
          intro b hb
          have um : U 18446744073709551615 := by unfold U; omega
          have ub : U b := by rw [hb]; exact mx_U ht hl
          rw [turnstilelaw04_GcraLesser.j1, Product hn hg, OfW ub, OfW um]
          have hp := V_mul hn hg
          have hlt := later hA (show now ≤ l by omega)
          have ub' := ub
          unfold U at ub'
          simp only [Option.bind_some]
          rw [Plus (V_prod hn hg) (V_U ub), if_pos (by omega), Admit hg hs ht hl hn]
          simp only [Option.bind_some]
          rw [Cmp (by unfold V; omega) (V_U um), hlt, ← hb]
          simp only [Option.bind_some]
          congr 1
          by_cases h2 : n * g + b ≤ 18446744073709551615
          · rw [decide_eq_true h2, decide_eq_true (by split <;> (try split) <;> omega)]; rfl
          · rw [decide_eq_false h2, decide_eq_false (by rw [if_neg (by omega), if_neg (by omega)]; omega)]; rfl
        by_cases h2 : t > l
        · rw [if_pos h2]; exact e t (by unfold mx; rw [if_neg (by omega)])
        · rw [if_neg h2]; exact e l (by unfold mx; split <;> omega)
    by_cases h1 : u ≤ t
    · obtain ⟨a1, a2⟩ := lesser hA h1
      rw [if_pos h1, Admit hg hs hu hw hn, a1]
      simp only [Option.bind_some, if_true]
      rw [if_neg (by omega)]
      exact tail
    · rw [if_neg h1]; exact tail
end Go.Proofs.Ythnpgilknoiaaaa.Pure
