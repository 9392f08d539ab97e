/- Burst of gcra. -/
import Derived.Test.YtokfhdpokemekaaMGcraA
import Derived.Test.YtokfhdpokemekaaMDiv
import Derived.Test.YtokfhdpokemekaaQx11
namespace Go.Proofs.Ytokfhdpokemekaa.M
set_option linter.unusedVariables false
open Go.RowKit Go.Proofs.Ytokfhdpokemekaa.Q Go.Proofs.YtokfhdpokemekaaW.PrintWords Go.Proofs.YtokfhdpokemekaaW.PrintMore

def gBurst (g s t now : Int) : Int := if g = 0 ∨ now + s < mx t now then 0 else if (18446744073709551615 - mx t now) / g < (now + s - mx t now) / g + 1 then (18446744073709551615 - mx t now) / g else (now + s - mx t now) / g + 1
theorem Burst {g s t now : Int} (hg : U g) (hs : U s) (ht : U t) (hw : U now) (k : Nat) (hk : 20 ≤ k) : gcra_Burst.f (k + 1) g s t now = some (gBurst g s t now) := by
  have hm := mx_U ht hw
  have u1 : U 1 := by unfold U; omega
  unfold gcra_Burst.f gBurst
  have hw' := hw; have hs' := hs; have hm' := hm; have hg' := hg
  unfold U at hw' hs' hm' hg'
  rw [OfW hw, OfW hs, OfW hm]
  simp only [Option.bind_some]
  rw [Plus (V_U hw) (V_U hs), if_pos (by omega)]
  simp only [Option.bind_some]
  by_cases h1 : g = 0
  · rw [if_pos h1, gcra_Burst.j0, if_pos rfl, if_pos (.inl h1)]
  rw [if_neg h1, Cmp (by unfold V; omega) (V_U hm)]
  simp only [Option.bind_some]
  by_cases h2 : now + s < mx t now
  · rw [show decide ((if now + s = mx t now then (0 : Int) else if now + s < mx t now then -1 else 1) < 0) = true by rw [if_neg (by omega), if_pos h2]; rfl, gcra_Burst.j0, if_pos rfl, if_pos (.inr h2)]
  · rw [show decide ((if now + s = mx t now then (0 : Int) else if now + s < mx t now then -1 else 1) < 0) = false by
      rw [decide_eq_false_iff_not]; split <;> (try split) <;> omega, gcra_Burst.j0, if_neg (by simp), if_neg (c := g = 0 ∨ _) (by omega), OfW hm]
    simp only [Option.bind_some]
    rw [Minus (by unfold V; omega) (V_U hm), if_pos (by omega)]
    simp only [Option.bind_some]
    have hvd : V (now + s - mx t now) := by unfold V; omega
    rw [DivMod (U_W1 hvd) (U_W2 _) hg k hk, if_neg h1, show (W (now + s - mx t now)).1 * 18446744073709551616 + (W (now + s - mx t now)).2 = now + s - mx t now by unfold W; simp only; omega]
    simp only [Option.bind_some]
    have q0 : 0 ≤ (now + s - mx t now) / g := Int.ediv_nonneg (by omega) (by omega)
    have q1 : (now + s - mx t now) / g ≤ now + s - mx t now := Int.ediv_le_self _ (by omega)
    have t0 : 0 ≤ (18446744073709551615 - mx t now) / g := Int.ediv_nonneg (by omega) (by omega)
    have t1 : (18446744073709551615 - mx t now) / g ≤ 18446744073709551615 - mx t now := Int.ediv_le_self _ (by omega)
    rw [OfW u1]
    simp only [Option.bind_some]
    rw [Plus (by unfold V; omega) (V_U u1), if_pos (by omega)]
    simp only [Option.bind_some]
    rw [if_neg h1, wr_id (n := 18446744073709551615 - mx t now) (U_le (by omega) (by omega)), tdiv_of (by omega), wr_id (U_le t0 (by omega)), OfW (U_le t0 (by omega))]
    simp only [Option.bind_some]
    rw [Cmp (by unfold V; omega) (V_U (U_le t0 (by omega)))]
    simp only [Option.bind_some]
    by_cases h3 : (18446744073709551615 - mx t now) / g < (now + s - mx t now) / g + 1
    · rw [if_pos (by rw [if_neg (by omega), if_neg (by omega)]; omega), if_pos h3]
    · rw [if_neg (by split <;> (try split) <;> omega), if_neg h3]
      congr 1
      unfold W; simp only; omega
/-- Burst is the greatest number of units that are admitted. -/
theorem burst_iff {g s t now : Int} (hg : U g) (hs : U s) (ht : U t) (hw : U now) (n : Int) (hn : 1 ≤ n) : gOk g s t now n = true ↔ n ≤ gBurst g s t now := by
  rw [gOk_iff]
  unfold gBurst
  have hm := @mx_le t now
  have hm' := mx_U ht hw
  unfold U at hg hs hw hm'
  by_cases h0 : g = 0
  · rw [if_pos (.inl h0)]; omega
  have hg1 : 0 < g := by omega
  have a1 : n ≤ (18446744073709551615 - mx t now) / g ↔ n * g ≤ 18446744073709551615 - mx t now := Int.le_ediv_iff_mul_le hg1
  have a2 : n - 1 ≤ (now + s - mx t now) / g ↔ (n - 1) * g ≤ now + s - mx t now := Int.le_ediv_iff_mul_le hg1
  have e2 : (n - 1) * g = n * g - g := by rw [Int.sub_mul, Int.one_mul]
  have e3 : 0 ≤ (n - 1) * g := Int.mul_nonneg (by omega) (by omega)
  rw [e2] at a2 e3
  by_cases h1 : now + s < mx t now
  · rw [if_pos (.inr h1)]; omega
  rw [if_neg (by omega)]
  split <;> omega
theorem burst_U {g s t now : Int} (hg : U g) (hs : U s) (ht : U t) (hw : U now) : U (gBurst g s t now) := by
  unfold gBurst
  have hm' := mx_U ht hw
  unfold U at hg hs hw hm'
  by_cases h0 : g = 0
  · rw [if_pos (.inl h0)]; unfold U; omega
  have t0 : 0 ≤ (18446744073709551615 - mx t now) / g := Int.ediv_nonneg (by omega) (by omega)
  have t1 : (18446744073709551615 - mx t now) / g ≤ 18446744073709551615 - mx t now := Int.ediv_le_self _ (by omega)
  by_cases h1 : now + s < mx t now
  · rw [if_pos (.inr h1)]; unfold U; omega
  have q0 : 0 ≤ (now + s - mx t now) / g := Int.ediv_nonneg (by omega) (by omega)
  rw [if_neg (by omega)]
  unfold U
  split <;> omega
end Go.Proofs.Ytokfhdpokemekaa.M
