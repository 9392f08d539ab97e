/- Written by the session's own program hyb.py: what functions of the program compute; Lean checks it. -/
import Derived.Test.YtdoifmefhofnnaaDx0
import Derived.Test.YtdoifmefhofnnaaDx8
namespace Go.Proofs.Ytdoifmefhofnnaa.D
open Go.RowKit Go.Proofs.YtdoifmefhofnnaaW.PrintWords Go.Proofs.YtdoifmefhofnnaaW.PrintLast Go.Proofs.YtdoifmefhofnnaaW.PrintMore Go.Proofs.YtdoifmefhofnnaaW.PrintShort
attribute [local go_sem] run_Add64 run_Sub64
attribute [local go_sem] max2_int min2_int max_two min_two max_three min_three max_four min_four   -- for this text's walks alone
set_option linter.unusedVariables false
set_option linter.unusedSimpArgs false
/-! ### sat_Wide_Minus: function 76 -/
def sat_Wide_Minus.f (a0_0 : Int) (a0_1 : Int) (a1_0 : Int) (a1_1 : Int) : Option (Int × Int) := if (sub64b a0_1 a1_1 0) ≤ 1 then (if (sub64b a0_0 a1_0 (sub64b a0_1 a1_1 0)) = 0 then (some (sub64s a0_0 a1_0 (sub64b a0_1 a1_1 0), sub64s a0_1 a1_1 0)) else (some (0, 0))) else (none)
end Go.Proofs.Ytdoifmefhofnnaa.D
