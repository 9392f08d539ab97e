/- What the printed functions of package gcra compute, on numbers without end. -/
import Derived.Test.YtdoifmefhofnnaaMUtil
import Derived.Test.YtdoifmefhofnnaaDx6
import Derived.Test.YtdoifmefhofnnaaDx7
import Derived.Test.YtdoifmefhofnnaaDx8
namespace Go.Proofs.Ytdoifmefhofnnaa.M
set_option linter.unusedVariables false
open Go.RowKit Go.Proofs.Ytdoifmefhofnnaa.D Go.Proofs.YtdoifmefhofnnaaW.PrintWords Go.Proofs.YtdoifmefhofnnaaW.PrintMore

/-- The later one. -/
theorem mx_U {a b : Int} (ha : U a) (hb : U b) : U (mx a b) := by unfold mx U at *; split <;> omega
theorem mx_le {a b : Int} : a ≤ mx a b ∧ b ≤ mx a b ∧ (mx a b = a ∨ mx a b = b) := by unfold mx; split <;> omega
/-- Are n units admitted at now over t? -/
def gOk (g s t now n : Int) : Bool := decide (1 ≤ n ∧ 1 ≤ g ∧ n * g + mx t now ≤ 18446744073709551615 ∧ n * g - g + mx t now ≤ now + s)
theorem gOk_iff {g s t now n : Int} : gOk g s t now n = true ↔ (1 ≤ n ∧ 1 ≤ g ∧ n * g + mx t now ≤ 18446744073709551615 ∧ n * g - g + mx t now ≤ now + s) := by unfold gOk; simp
theorem mul_facts {g n : Int} (hg : U g) (hn : U n) : V (n * g) ∧ (1 ≤ n → 1 ≤ g → g ≤ n * g ∧ n ≤ n * g) := by
  refine ⟨V_prod hn hg, fun h1 h2 => ⟨?_, ?_⟩⟩
  · have := Int.mul_le_mul_of_nonneg_right h1 hg.1; omega
  · have := Int.mul_le_mul_of_nonneg_left h2 hn.1; omega
theorem room_f {g base n : Int} (hg : U g) (hb : U base) (hn : U n) : gcra_room.f g base n = some (decide (n * g + base ≤ 18446744073709551615)) := by
  unfold gcra_room.f
  have hp := V_mul hn hg
  have um : U 18446744073709551615 := by unfold U; omega
  have hb' := hb
  unfold U at hb'
  rw [Product hn hg, OfW hb, OfW um]
  generalize n * g = p at *
  simp only [Option.bind_some]
  rw [Plus (by unfold V; omega) (V_U hb), if_pos (by omega)]
  simp only [Option.bind_some]
  rw [Cmp (by unfold V; omega) (V_U um)]
  simp only [Option.bind_some]
  congr 1
  rw [decide_eq_decide]
  split
  · omega
  · split <;> omega
theorem Admit {g s t now n : Int} (hg : U g) (hs : U s) (ht : U t) (hw : U now) (hn : U n) (k : Nat) : gcra_Admit.f (k + 1) g s t now n = some (if gOk g s t now n = true then (mx t now + n * g, true) else (t, false)) := by
  have hm := mx_U ht hw
  have hmf := mul_facts hg hn
  have hgo := @gOk_iff g s t now n
  unfold gcra_Admit.f
  by_cases h0 : n = 0
  · rw [if_pos h0, gcra_Admit.j0, if_pos rfl, if_neg (by rw [hgo]; omega)]
  rw [if_neg h0]
  by_cases h1 : g = 0
  · rw [if_pos h1, gcra_Admit.j0, if_pos rfl, if_neg (by rw [hgo]; omega)]
  rw [if_neg h1, room_f hg hm hn]
  simp only [Option.bind_some]
  have hn1 : 1 ≤ n := by unfold U at hn; omega
  have hg1 : 1 ≤ g := by unfold U at hg; omega
  obtain ⟨hv, hle⟩ := hmf
  obtain ⟨hle1, hle2⟩ := hle hn1 hg1
  by_cases h2 : n * g + mx t now ≤ 18446744073709551615
  · rw [decide_eq_true h2, Bool.not_true, gcra_Admit.j0, if_neg (by simp)]
    have hw' := hw; have hs' := hs; have hm' := hm; have hn' := hn
    unfold U at hw' hs' hm' hn'
    have e : IntKind.u64.wrap (n - 1) = n - 1 := wr_id (U_le (by omega) (by omega))
    have e2 : (n - 1) * g = n * g - g := by rw [Int.sub_mul, Int.one_mul]
    rw [e, Product (U_le (by omega) (by omega)) hg, OfW hm, OfW hw, OfW hs, e2]
    unfold U at hg
    unfold V at hv
    simp only [Option.bind_some]
    rw [Plus (by unfold V; omega) (V_U hm), Plus (V_U hw) (V_U hs), if_pos (by omega), if_pos (by omega)]
    simp only [Option.bind_some]
    rw [Cmp (by unfold V; omega) (by unfold V; omega)]
    simp only [Option.bind_some]
    by_cases h3 : n * g - g + mx t now ≤ now + s
    · rw [if_neg (by split <;> (try split) <;> omega), if_pos (by rw [hgo]; omega), wr_id (n := n * g) (U_le (by omega) (by omega)), wr_id (U_le (by omega) (by omega))]
    · rw [if_pos (by rw [if_neg (by omega), if_neg (by omega)]; omega), if_neg (by rw [hgo]; omega)]
  · rw [decide_eq_false h2, Bool.not_false, gcra_Admit.j0, if_pos rfl, if_neg (by rw [hgo]; omega)]
def gRetry (g s t now n : Int) : Int := if n = 0 ∨ g = 0 ∨ 18446744073709551615 < n * g + mx t now ∨ s < n * g - g then 18446744073709551615 else mx now (if s - (n * g - g) ≤ t then t - (s - (n * g - g)) else 0)
theorem Retry {g s t now n : Int} (hg : U g) (hs : U s) (ht : U t) (hw : U now) (hn : U n) (k : Nat) : gcra_Retry.f (k + 1) g s t now n = some (gRetry g s t now n) := by
  have hm := mx_U ht hw
  have hmf := mul_facts hg hn
  unfold gcra_Retry.f gRetry
  by_cases h0 : n = 0
  · rw [if_pos h0, gcra_Retry.j0, if_pos rfl, if_pos (.inl h0)]
  rw [if_neg h0]
  by_cases h1 : g = 0
  · rw [if_pos h1, gcra_Retry.j0, if_pos rfl, if_pos (.inr (.inl h1))]
  rw [if_neg h1, room_f hg hm hn]
  simp only [Option.bind_some]
  have hn1 : 1 ≤ n := by unfold U at hn; omega
  have hg1 : 1 ≤ g := by unfold U at hg; omega
  obtain ⟨hv, hle⟩ := hmf
  obtain ⟨hle1, hle2⟩ := hle hn1 hg1
  by_cases h2 : n * g + mx t now ≤ 18446744073709551615
  · rw [decide_eq_true h2, Bool.not_true, gcra_Retry.j0, if_neg (by simp)]
    have hw' := hw; have hs' := hs; have hm' := hm; have hn' := hn
    unfold U at hw' hs' hm' hn'
    have e : IntKind.u64.wrap (n - 1) = n - 1 := wr_id (U_le (by omega) (by omega))
    have e2 : (n - 1) * g = n * g - g := by rw [Int.sub_mul, Int.one_mul]
    rw [e, Product (U_le (by omega) (by omega)) hg, e2]
    unfold V at hv
    simp only [Option.bind_some]
    rw [Narrow (by unfold V; omega), if_pos (by unfold U at hg; omega)]
    simp only [Option.bind_some, if_true]
    by_cases h3 : n * g - g > s
    · rw [if_pos h3, if_pos (by omega)]
    · rw [if_neg h3, wr_id (U_le (by omega) (by omega)), Sub ht (U_le (by omega) (by omega)), if_neg (c := n = 0 ∨ _) (by omega)]
      rfl
  · rw [decide_eq_false h2, Bool.not_false, gcra_Retry.j0, if_pos rfl, if_pos (by omega)]
theorem retry_U {g s t now n : Int} (hg : U g) (hs : U s) (ht : U t) (hw : U now) (hn : U n) : U (gRetry g s t now n) := by
  unfold gRetry
  have hmf := (mul_facts hg hn).1
  unfold U V at *
  split
  · omega
  · unfold mx; split <;> split <;> omega
theorem admit_U {g s t now n : Int} (ht : U t) (hw : U now) (h : gOk g s t now n = true) : U (mx t now + n * g) := by
  have := gOk_iff.1 h
  have hm := mx_U ht hw
  unfold U at *
  have : 0 ≤ n * g := Int.mul_nonneg (by omega) (by omega)
  omega
end Go.Proofs.Ytdoifmefhofnnaa.M
