/- SatRing: products and sums that fit keep the laws. -/
import Derived.Test.YthnpgilknoiaaaaMAwake3
import Derived.Test.YthnpgilknoiaaaaQx7
namespace Go.Proofs.Ythnpgilknoiaaaa.Pure
set_option linter.unusedVariables false
open Go.RowKit Go.Proofs.Ythnpgilknoiaaaa.Q Go.Proofs.Ythnpgilknoiaaaa.M
theorem SatRing : turnstilelaw03_SatRing.Pure := by
  intro a b c ha hb hc
  replace ha := U_wf ha
  replace hb := U_wf hb
  replace hc := U_wf hc
  refine ⟨30, ?_⟩
  unfold turnstilelaw03_SatRing.f
  have vx := V_mul ha hb
  have vy := V_mul ha hc
  rw [awake3 30 (by omega), Product ha hb, Product ha hc, Product hb ha, Int.mul_comm b a]
  simp only [Option.bind_some, if_true]
  generalize hx : a * b = x at *
  generalize hy : a * c = y at *
  have Vx : V x := by unfold V; omega
  have Vy : V y := by unfold V; omega
  rw [Plus Vx Vy]
  simp only [Option.bind_some]
  rw [if_neg (by simp), Plus Vy Vx, Int.add_comm y x]
  simp only [Option.bind_some]
  rw [if_neg (by simp)]
  generalize hs : (if x + y < 340282366920938463463374607431768211456 then x + y else 340282366920938463463374607431768211455) = s at *
  have Vs : V s := by rw [← hs]; unfold V; split <;> omega
  have sx : x ≤ s := by rw [← hs]; split <;> omega
  have sy : y ≤ s := by rw [← hs]; split <;> omega
  rw [Cmp Vs Vx, Cmp Vs Vy]
  simp only [Option.bind_some]
  rw [if_neg (by split <;> (try split) <;> omega)]
  have hlt : decide ((if s = y then (0 : Int) else if s < y then -1 else 1) < 0) = false := by
    rw [decide_eq_false_iff_not]; split <;> (try split) <;> omega
  rw [hlt, turnstilelaw03_SatRing.j0, if_neg (by simp), Minus Vs Vx, Minus Vs Vy]
  simp only [Option.bind_some]
  have tail : ∀ k, (W s).1 = (W s).1 → (turnstilelaw03_SatRing.j1 (k + 1) a b c false (W s).1 (W s).2) = some true := by
    intro k _
    rw [turnstilelaw03_SatRing.j1, if_neg (by simp)]
    unfold U at hb hc
    rw [wr_id (n := 18446744073709551615 - b) (U_le (by omega) (by omega))]
    by_cases hf : c ≤ 18446744073709551615 - b
    · rw [if_pos hf, wr_id (n := b + c) (U_le (by omega) (by omega)), Product ha (U_le (by omega) (by omega)), Int.mul_add, hx, hy]
      simp only [Option.bind_some]
      have e : a * (b + c) = x + y := by rw [Int.mul_add, hx, hy]
      have := V_mul ha (show U (b + c) from U_le (by omega) (by omega))
      rw [← hs, if_pos (by omega)]
      simp
    · rw [if_neg hf]
  by_cases htop : (!((W s).1 == 18446744073709551615) || !((W s).2 == 18446744073709551615)) = true
  · rw [if_pos htop, if_pos sx, if_pos sy]
    have hfit : x + y < 340282366920938463463374607431768211456 := by
      rcases Int.lt_or_le (x + y) 340282366920938463463374607431768211456 with h | h
      · exact h
      · exfalso
        rw [if_neg (by omega)] at hs
        rw [← hs] at htop
        exact absurd htop (by decide +kernel)
    rw [if_pos hfit] at hs
    have e1 : s - x = y := by omega
    have e2 : s - y = x := by omega
    rw [e1, e2]
    rw [if_neg (by simp)]
    have hz : (!((W x).1 == (W x).1) || !((W x).2 == (W x).2)) = false := by simp
    rw [hz]
    exact tail _ rfl
  · rw [if_neg htop]
    exact tail _ rfl
end Go.Proofs.Ythnpgilknoiaaaa.Pure
