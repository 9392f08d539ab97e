/- Written by the session's own program hyb.py: what functions of the program compute; Lean checks it. -/
import Derived.Test.YtdoifmefhofnnaaDx0
namespace Go.Proofs.Ytdoifmefhofnnaa.D
open Go.RowKit Go.Proofs.YtdoifmefhofnnaaW.PrintWords Go.Proofs.YtdoifmefhofnnaaW.PrintLast Go.Proofs.YtdoifmefhofnnaaW.PrintMore Go.Proofs.YtdoifmefhofnnaaW.PrintShort
attribute [local go_sem] run_Add64 run_Sub64
attribute [local go_sem] max2_int min2_int max_two min_two max_three min_three max_four min_four   -- for this text's walks alone
set_option linter.unusedVariables false
set_option linter.unusedSimpArgs false

/-! ### sat_Add: function 22 -/
def sat_Add.f (a0 : Int) (a1 : Int) : Option (Int) := if (add64c a0 a1 0) = 0 then (some (add64s a0 a1 0)) else (some 18446744073709551615)
set_option maxHeartbeats 8000000 in
set_option maxRecDepth 100000 in
theorem sat_Add.calls (a0 : Int) (a1 : Int) (r : Int) (w : World) (h : sat_Add.f a0 a1 = some r) :
    Calls Try.prog 22 #[.int .u64 a0, .int .u64 a1] w fun e w' => e = .returned (.int .u64 r) ∧ Drawn0 w w' := by
  have H : (if (add64c a0 a1 0) = 0 then (some (add64s a0 a1 0)) else (some 18446744073709551615)) = some r := h
  clear h
  by_cases c3 : (add64c a0 a1 0) = 0
  · rw [if_pos c3] at H
    have c3b0 : ((add64c a0 a1 0) == 0) = true := beq_iff_eq.mpr c3
    have c3b1 : ((add64c a0 a1 0) != 0) = false := bne_eq_false_iff_eq.mpr c3
    clear c3
    obtain rfl := Option.some.inj H
    go_enter Try.func22, Try.ntmps22
    go_wp2
    go_ret
    exact ⟨rs, by repeat (first | exact Drawn0.refl _ | apply Drawn0.step)⟩
  · rw [if_neg c3] at H
    have c3b0 : ((add64c a0 a1 0) == 0) = false := beq_eq_false_iff_ne.mpr c3
    have c3b1 : ((add64c a0 a1 0) != 0) = true := bne_iff_ne.mpr c3
    obtain rfl := Option.some.inj H
    go_enter Try.func22, Try.ntmps22
    go_wp2
    go_ret
    exact ⟨rs, by repeat (first | exact Drawn0.refl _ | apply Drawn0.step)⟩

end Go.Proofs.Ytdoifmefhofnnaa.D
