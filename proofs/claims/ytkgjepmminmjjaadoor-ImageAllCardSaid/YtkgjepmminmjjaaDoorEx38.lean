/- Written by the session's own program hyb.py: what functions of the program compute; Lean checks it. -/
import Derived.Test.YtkgjepmminmjjaaDoorEx0
namespace Go.Proofs.YtkgjepmminmjjaaDoor.E
open Go.RowKit Go.Proofs.YtkgjepmminmjjaaDoorW.PrintWords Go.Proofs.YtkgjepmminmjjaaDoorW.PrintLast Go.Proofs.YtkgjepmminmjjaaDoorW.PrintMore Go.Proofs.YtkgjepmminmjjaaDoorW.PrintShort
attribute [local go_sem] run_Add64 run_Sub64
attribute [local go_sem] max2_int min2_int max_two min_two max_three min_three max_four min_four   -- for this text's walks alone
set_option linter.unusedVariables false
set_option linter.unusedSimpArgs false

/-! ### turnstileref11_Policy: function 59 -/
def turnstileref11_Policy.f (a0 : Int) (a1 : Int) (a2 : Int) : Option (Int × Int × Int × Int × Int) := if a0 = 1 then (some (a0, a1, a2, 0, 0)) else (some (a0, 0, 0, a1, a2))
set_option maxHeartbeats 8000000 in
set_option maxRecDepth 100000 in
theorem turnstileref11_Policy.calls (a0 : Int) (a1 : Int) (a2 : Int) (r1 : Int) (r2 : Int) (r3 : Int) (r4 : Int) (r5 : Int) (w : World) (h : turnstileref11_Policy.f a0 a1 a2 = some (r1, r2, r3, r4, r5)) :
    Calls Tryd.prog 59 #[.int .i64 a0, .int .u64 a1, .int .u64 a2] w fun e w' => e = .returned (.agg #[.int .i64 r1, .int .u64 r2, .int .u64 r3, .int .u64 r4, .int .u64 r5]) ∧ Below w.heap.size w w' := by
  have hu28 := Tryd.underlying28
  have HB := Aside0.mk (Below.refl w.heap.size w)
  have H : (if a0 = 1 then (some (a0, a1, a2, 0, 0)) else (some (a0, 0, 0, a1, a2))) = some (r1, r2, r3, r4, r5) := h
  clear h
  by_cases c4 : a0 = 1
  · rw [if_pos c4] at H
    have c4b0 : (a0 == 1) = true := beq_iff_eq.mpr c4
    have c4b1 : (a0 != 1) = false := bne_eq_false_iff_eq.mpr c4
    clear c4
    simp only [Option.some.injEq, Prod.mk.injEq] at H
    obtain ⟨rfl, rfl, rfl, rfl, rfl⟩ := H
    go_enter Tryd.func59, Tryd.ntmps59
    go_wp2_with (first | ((with_reducible refine gate_dst (N := 6) rfl ?_); refine bx 6 #[.int .i64 0, .int .u64 0, .int .u64 0, .int .u64 0, .int .u64 0] 28 ?_; intro gb450 hg w5 hbox hb; have BK450 := Aside0.mk (hbox); have GW450 := sz HB hg; have GE450 := sz HB hg; replace HB := bs HB hb; clear hb hbox hg; obtain ⟨hcz6_0, hcz6_1, hcz6_2, hcz6_3, hcz6_4, hfz6_0, hfz6_1, hfz6_2, hfz6_3, hfz6_4⟩ := bc5 BK450))
    refine bodyPost_ret (results_cell_row rfl _ _ gb450 28 #[.int .i64 a0, .int .u64 a1, .int .u64 a2, .int .u64 0, .int .u64 0] (0, 0) _ rfl (bk BK450) Tryd.underlying28 rfl (by kernel_rfl)) rfl ?_
    exact ⟨re, bw HB⟩
  · rw [if_neg c4] at H
    have c4b0 : (a0 == 1) = false := beq_eq_false_iff_ne.mpr c4
    have c4b1 : (a0 != 1) = true := bne_iff_ne.mpr c4
    simp only [Option.some.injEq, Prod.mk.injEq] at H
    obtain ⟨rfl, rfl, rfl, rfl, rfl⟩ := H
    go_enter Tryd.func59, Tryd.ntmps59
    go_wp2_with (first | ((with_reducible refine gate_dst (N := 6) rfl ?_); refine bx 6 #[.int .i64 0, .int .u64 0, .int .u64 0, .int .u64 0, .int .u64 0] 28 ?_; intro gb450 hg w7 hbox hb; have BK450 := Aside0.mk (hbox); have GW450 := sz HB hg; have GE450 := sz HB hg; replace HB := bs HB hb; clear hb hbox hg; obtain ⟨hcz8_0, hcz8_1, hcz8_2, hcz8_3, hcz8_4, hfz8_0, hfz8_1, hfz8_2, hfz8_3, hfz8_4⟩ := bc5 BK450))
    refine bodyPost_ret (results_cell_row rfl _ _ gb450 28 #[.int .i64 a0, .int .u64 0, .int .u64 0, .int .u64 a1, .int .u64 a2] (0, 0) _ rfl (bk BK450) Tryd.underlying28 rfl (by kernel_rfl)) rfl ?_
    exact ⟨re, bw HB⟩

end Go.Proofs.YtkgjepmminmjjaaDoor.E
