/- SatLadder: the 64-bit calls are the 128-bit ones, cut at the end. -/
import Derived.Test.YthnpgilknoiaaaaMAwake3
import Derived.Test.YthnpgilknoiaaaaQx16
namespace Go.Proofs.Ythnpgilknoiaaaa.Pure
set_option linter.unusedVariables false
open Go.RowKit Go.Proofs.Ythnpgilknoiaaaa.Q Go.Proofs.Ythnpgilknoiaaaa.M
theorem ladder1 {a b s p : Int} (ha : U a) (hb : U b) (k : Nat) (hs : s = (if a + b < 18446744073709551616 then a + b else 18446744073709551615)) (hp : p = (if a * b < 18446744073709551616 then a * b else 18446744073709551615)) : turnstilelaw03_SatLadder.j1 (k + 1) a b s p = some true := by
  have ha' := ha; have hb' := hb
  unfold U at ha' hb'
  rw [turnstilelaw03_SatLadder.j1, OfW ha, OfW hb]
  simp only [Option.bind_some]
  rw [Minus (V_U ha) (V_U hb)]
  simp only [Option.bind_some]
  have hD : ∃ D, D = (if b ≤ a then a - b else 0) ∧ 0 ≤ D ∧ D < 18446744073709551616 := ⟨_, rfl, by split <;> omega, by split <;> omega⟩
  obtain ⟨D, hD, hD0, hD1⟩ := hD
  rw [← hD, Narrow (by unfold V; omega), if_pos hD1, Add ha hb, Mul ha hb, Sub ha hb, Cmp (V_U ha) (V_U hb)]
  simp only [Option.bind_some, if_true]
  rw [if_pos hs, if_pos hp, if_pos hD]
  congr 1
  by_cases h1 : a = b
  · subst h1; simp
  · by_cases h2 : a < b
    · simp [h1, h2]
    · simp [h1, h2]
theorem ladder0 {a b s : Int} (ha : U a) (hb : U b) (k : Nat) (hs : s = (if a + b < 18446744073709551616 then a + b else 18446744073709551615)) : turnstilelaw03_SatLadder.j0 (k + 1 + 1) a b s = some true := by
  rw [turnstilelaw03_SatLadder.j0]
  rw [Product ha hb]
  simp only [Option.bind_some]
  rw [Narrow (V_prod ha hb)]
  by_cases h : a * b < 18446744073709551616
  · have := @ladder1 a b s (a * b) ha hb k hs (by rw [if_pos h])
    rw [if_pos h, Option.bind_some, if_pos rfl]
    dsimp only
    exact this
  · have := @ladder1 a b s 18446744073709551615 ha hb k hs (by rw [if_neg h])
    rw [if_neg h, Option.bind_some, if_neg (by simp)]
    exact this
theorem SatLadder : turnstilelaw03_SatLadder.Pure := by
  intro a b ha hb
  replace ha := U_wf ha
  replace hb := U_wf hb
  obtain ⟨k, hk⟩ : ∃ k : Nat, 20 ≤ k := ⟨20, Nat.le_refl _⟩
  refine ⟨k + 1 + 1, ?_⟩
  unfold turnstilelaw03_SatLadder.f
  have ha' := ha; have hb' := hb
  unfold U at ha' hb'
  rw [awake3 (k + 1 + 1) (by omega), OfW ha, OfW hb]
  simp only [Option.bind_some, if_true]
  rw [Plus (V_U ha) (V_U hb), if_pos (by omega)]
  simp only [Option.bind_some]
  rw [Narrow (by unfold V; omega)]
  by_cases h : a + b < 18446744073709551616
  · rw [if_pos h]
    simp only [Option.bind_some, if_true]
    exact ladder0 ha hb k (by rw [if_pos h])
  · rw [if_neg h]
    simp only [Option.bind_some]
    rw [if_neg (by simp)]
    exact ladder0 ha hb k (by rw [if_neg h])
end Go.Proofs.Ythnpgilknoiaaaa.Pure
