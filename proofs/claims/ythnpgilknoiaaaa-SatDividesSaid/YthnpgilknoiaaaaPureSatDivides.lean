/- SatDivides: quotient and remainder give the number back. -/
import Derived.Test.YthnpgilknoiaaaaMAwake3
import Derived.Test.YthnpgilknoiaaaaQSSatDivides
namespace Go.Proofs.Ythnpgilknoiaaaa.Pure
set_option linter.unusedVariables false
open Go.RowKit Go.Proofs.Ythnpgilknoiaaaa.Q Go.Proofs.Ythnpgilknoiaaaa.M
theorem SatDivides : SatDivides.Pure := by
  intro x d hx hd
  obtain ⟨hh, hl⟩ := hx
  replace hh := U_wf hh
  replace hl := U_wf hl
  replace hd := U_wf hd
  generalize x.f0 = h at *
  generalize x.f1 = l at *
  refine ⟨20, ?_⟩
  unfold turnstilelaw03_SatDivides.f
  rw [awake3 20 (by omega), DivMod hh hl hd 20 (by omega)]
  simp only [Option.bind_some, if_true]
  by_cases h0 : d = 0
  · rw [if_pos h0, if_pos h0]; rfl
  rw [if_neg h0, if_neg h0]
  have hN := V_of hh hl
  generalize hn : h * 18446744073709551616 + l = N at *
  have hd' := hd
  unfold U at hd'
  have hN' := hN
  unfold V at hN'
  have e := Int.mul_ediv_add_emod N d
  have q0 : 0 ≤ N / d := Int.ediv_nonneg hN'.1 (by omega)
  have q1 : N / d ≤ N := Int.ediv_le_self _ hN'.1
  have r0 : 0 ≤ N % d := Int.emod_nonneg _ h0
  have r1 : N % d < d := Int.emod_lt_of_pos _ (by omega)
  generalize hq : N / d = q at *
  generalize hr : N % d = r at *
  have vq : V q := by unfold V; omega
  have ur : U r := by unfold U; omega
  rw [Product (U_W1 vq) hd, Product (U_W2 q) hd]
  simp only [Option.bind_some]
  have hs0 : ∀ a b : Int, a * 18446744073709551616 + b = q → a * d * 18446744073709551616 + b * d = d * q := by
    intro a b h; subst h; grind
  have hs := hs0 (W q).1 (W q).2 (by unfold W; simp only; omega)
  clear hs0
  have p1 := V_mul (U_W1 vq) hd
  have p2 := V_mul (U_W2 q) hd
  generalize (W q).1 * d = A at *
  generalize (W q).2 * d = C at *
  have hA : A < 18446744073709551616 := by omega
  rw [Narrow (by unfold V; omega), if_pos hA]
  simp only [Option.bind_some]
  have hW : ((A, 0) : Int × Int) = W (A * 18446744073709551616) := by unfold W; congr 1 <;> omega
  have e1 : A = (W (A * 18446744073709551616)).1 := by rw [← hW]
  have e2 : (0 : Int) = (W (A * 18446744073709551616)).2 := by rw [← hW]
  have hp : sat_Wide_Plus.f (W C).1 (W C).2 A 0 = sat_Wide_Plus.f (W C).1 (W C).2 (W (A * 18446744073709551616)).1 (W (A * 18446744073709551616)).2 := by rw [← hW]
  rw [hp, Plus (by unfold V; omega) (by unfold V; omega), if_pos (by omega), OfW ur]
  simp only [Option.bind_some]
  rw [Plus (by unfold V; omega) (V_U ur), if_pos (by omega)]
  simp only [Option.bind_some, if_true]
  rw [if_pos r1, show C + A * 18446744073709551616 + r = N by omega, ← hn, W_of hl]
  simp
end Go.Proofs.Ythnpgilknoiaaaa.Pure
