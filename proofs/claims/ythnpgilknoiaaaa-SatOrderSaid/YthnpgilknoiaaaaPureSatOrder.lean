/- SatOrder: Cmp is an order; differences and the greatest. -/
import Derived.Test.YthnpgilknoiaaaaMAwake3
import Derived.Test.YthnpgilknoiaaaaQSSatOrder
namespace Go.Proofs.Ythnpgilknoiaaaa.Pure
set_option linter.unusedVariables false
open Go.RowKit Go.Proofs.Ythnpgilknoiaaaa.Q Go.Proofs.Ythnpgilknoiaaaa.M
theorem Weq (a b : Int) : ((W a).1 == (W b).1 && ((W a).2 == (W b).2)) = decide (a = b) := by
  rw [Bool.eq_iff_iff, Bool.and_eq_true, beq_iff_eq, beq_iff_eq, decide_eq_true_iff]
  unfold W
  simp only
  constructor
  · rintro ⟨h1, h2⟩; omega
  · rintro rfl; exact ⟨rfl, rfl⟩
theorem W0 {a : Int} : ((W a).1 == 0 && ((W a).2 == 0)) = decide (a = 0) := by
  have := Weq a 0
  exact this
theorem Wtop (a : Int) : ((W a).1 == 18446744073709551615 && ((W a).2 == 18446744073709551615)) = decide (a = 340282366920938463463374607431768211455) := by
  have := Weq a 340282366920938463463374607431768211455
  exact this
theorem order2 {x y : Int} (vx : V x) (vy : V y) (k : Nat) : turnstilelaw03_SatOrder.j2 (k + 1) false (W x).1 (W x).2 (W y).1 (W y).2 = some true := by
  rw [turnstilelaw03_SatOrder.j2, if_neg (by simp)]
  have vt : V 340282366920938463463374607431768211455 := by unfold V; omega
  have hm := Minus vt vy
  have ht : W 340282366920938463463374607431768211455 = (18446744073709551615, 18446744073709551615) := by decide +kernel
  rw [ht] at hm
  rw [hm, Plus vx vy]
  simp only [Option.bind_some]
  unfold V at vx vy
  rw [if_pos (show y ≤ 340282366920938463463374607431768211455 by omega)]
  have vr : V (340282366920938463463374607431768211455 - y) := by unfold V; omega
  rw [Cmp (show V x from vx) vr]
  simp only [Option.bind_some]
  generalize hs : (if x + y < 340282366920938463463374607431768211456 then x + y else 340282366920938463463374607431768211455) = s
  have vs : V s := by rw [← hs]; unfold V; split <;> omega
  have e : (decide (s = 340282366920938463463374607431768211455) == decide ((if x = 340282366920938463463374607431768211455 - y then (0 : Int) else if x < 340282366920938463463374607431768211455 - y then -1 else 1) ≥ 0)) = true := by
    rw [beq_iff_eq, decide_eq_decide, ← hs]
    constructor
    · intro h
      split at h <;> (split <;> (try split) <;> omega)
    · intro h
      split at h
      · split <;> omega
      · split at h
        · exact absurd h (by omega)
        · split <;> omega
  rw [Wtop, if_pos e]
  by_cases hq : decide (s = 340282366920938463463374607431768211455) = true
  · rw [if_pos hq]
  · rw [if_neg hq, Minus vs vx]
    simp only [Option.bind_some]
    rw [decide_eq_true_iff] at hq
    have h1 : s = x + y := by
      rw [← hs]; rw [← hs] at hq
      split at hq
      · split
        · rfl
        · omega
      · exact absurd rfl hq
    have h2 : (if x ≤ s then s - x else 0) = y := by rw [if_pos (by omega)]; omega
    rw [h2, Weq y y]
    simp
theorem order1 {x y c : Int} (vx : V x) (vy : V y) (hc : c = if x = y then 0 else if x < y then -1 else 1) (k : Nat) : turnstilelaw03_SatOrder.j1 (k + 2) c false (W x).1 (W x).2 (W y).1 (W y).2 = some true := by
  rw [turnstilelaw03_SatOrder.j1, if_neg (by simp), Minus vx vy]
  simp only [Option.bind_some]
  rw [W0]
  have e : ¬ (decide ((if y ≤ x then x - y else 0) = 0) != decide (c ≤ 0)) = true := by
    rw [Bool.not_eq_true, bne_eq_false_iff_eq, decide_eq_decide, hc]
    constructor
    · intro h
      split at h
      · split <;> (try split) <;> omega
      · split <;> (try split) <;> omega
    · intro h
      split at h
      · split <;> omega
      · split at h
        · split <;> omega
        · omega
  rw [if_neg e]
  by_cases h0 : c > 0
  · rw [if_pos h0]
    have hlt : y ≤ x := by
      rw [hc] at h0
      split at h0
      · omega
      · split at h0 <;> omega
    rw [if_pos hlt]
    have vd : V (x - y) := by unfold V at *; omega
    rw [Plus vd vy]
    simp only [Option.bind_some]
    have e2 : x - y + y = x := by omega
    rw [e2, if_pos (by unfold V at vx; omega)]
    have e3 : (!((W x).1 == (W x).1) || !((W x).2 == (W x).2)) = false := by simp
    rw [e3]
    exact order2 vx vy k
  · rw [if_neg h0]
    exact order2 vx vy k
theorem SatOrder : SatOrder.Pure := by
  intro x y hx hy
  obtain ⟨hh, hl⟩ := hx
  obtain ⟨mh, ml⟩ := hy
  replace hh := U_wf hh
  replace hl := U_wf hl
  replace mh := U_wf mh
  replace ml := U_wf ml
  generalize x.f0 = h at *
  generalize x.f1 = l at *
  generalize y.f0 = m at *
  generalize y.f1 = n at *
  refine ⟨20, ?_⟩
  have vx := V_of hh hl
  have vy := V_of mh ml
  have ex := W_of (h := h) hl
  have ey := W_of (h := m) ml
  have hc := Cmp vx vy
  have hc2 := Cmp vy vx
  unfold turnstilelaw03_SatOrder.f
  rw [awake3 20 (by omega)]
  have e1 : (W (h * 18446744073709551616 + l)).1 = h := by rw [ex]
  have e2 : (W (h * 18446744073709551616 + l)).2 = l := by rw [ex]
  have e3 : (W (m * 18446744073709551616 + n)).1 = m := by rw [ey]
  have e4 : (W (m * 18446744073709551616 + n)).2 = n := by rw [ey]
  unfold U at hh hl mh ml
  have hw := Weq (h * 18446744073709551616 + l) (m * 18446744073709551616 + n)
  have key : ∀ b : Bool, b = decide (h * 18446744073709551616 + l < m * 18446744073709551616 + n) → ∀ c : Int, c = (if h * 18446744073709551616 + l = m * 18446744073709551616 + n then 0 else if h * 18446744073709551616 + l < m * 18446744073709551616 + n then -1 else 1) → turnstilelaw03_SatOrder.j0 20 c b h l m n = some true := by
    intro b hb c hcc
    have h1 := order1 vx vy hcc 17
    rw [e1, e2, e3, e4] at h1 hc2 hw
    rw [turnstilelaw03_SatOrder.j0, hb]
    rw [if_neg (by
      rw [Bool.not_eq_true, bne_eq_false_iff_eq, decide_eq_decide, hcc]
      constructor
      · intro q; split at q <;> (try split at q) <;> omega
      · intro q; split <;> (try split) <;> omega)]
    rw [hw, if_neg (by
      rw [Bool.not_eq_true, bne_eq_false_iff_eq, Bool.eq_iff_iff, beq_iff_eq, decide_eq_true_iff, hcc]
      constructor
      · intro q; split at q <;> (try split at q) <;> omega
      · intro q; rw [if_pos q])]
    rw [if_neg (by rw [hcc]; split <;> (try split) <;> omega), if_neg (by rw [hcc]; split <;> (try split) <;> omega), hc2]
    simp only [Option.bind_some]
    have e5 : ((if m * 18446744073709551616 + n = h * 18446744073709551616 + l then (0 : Int) else if m * 18446744073709551616 + n < h * 18446744073709551616 + l then -1 else 1) != wrap64 (-c)) = false := by
      rw [bne_eq_false_iff_eq, hcc]
      rcases Int.lt_trichotomy (h * 18446744073709551616 + l) (m * 18446744073709551616 + n) with q | q | q
      · rw [if_neg (by omega), if_neg (by omega), if_neg (by omega), if_pos q]; decide +kernel
      · rw [if_pos q.symm, if_pos q]; decide +kernel
      · rw [if_neg (by omega), if_pos q, if_neg (by omega), if_neg (by omega)]; decide +kernel
    rw [e5]
    exact h1
  rw [e1, e2, e3, e4] at hc
  rw [hc]
  simp only [Option.bind_some, if_true]
  by_cases p1 : h < m
  · rw [if_pos p1]; exact key _ (by symm; rw [decide_eq_true_iff]; omega) _ rfl
  rw [if_neg p1]
  by_cases p2 : h = m
  · rw [if_pos p2]; exact key _ (by rw [decide_eq_decide]; omega) _ rfl
  rw [if_neg p2]
  exact key _ (by symm; rw [decide_eq_false_iff_not]; omega) _ rfl
end Go.Proofs.Ythnpgilknoiaaaa.Pure
