/- Written by the session's own program hyb.py: what functions of the program compute; Lean checks it. -/
import Derived.Test.YtdoifmefhofnnaaDx0
import Derived.Test.YtdoifmefhofnnaaDx4
import Derived.Test.YtdoifmefhofnnaaDx6
namespace Go.Proofs.Ytdoifmefhofnnaa.D
open Go.RowKit Go.Proofs.YtdoifmefhofnnaaW.PrintWords Go.Proofs.YtdoifmefhofnnaaW.PrintLast Go.Proofs.YtdoifmefhofnnaaW.PrintMore Go.Proofs.YtdoifmefhofnnaaW.PrintShort
attribute [local go_sem] run_Add64 run_Sub64
attribute [local go_sem] max2_int min2_int max_two min_two max_three min_three max_four min_four   -- for this text's walks alone
set_option linter.unusedVariables false
set_option linter.unusedSimpArgs false
attribute [local go_sem high] eqA60
/-! ### sat_Sub: function 23 -/
def sat_Sub.f (a0 : Int) (a1 : Int) : Option (Int) := if a1 > a0 then (some 0) else (some (IntKind.u64.wrap (a0 - a1)))
/-! ### sat_Wide_Narrow: function 75 -/
def sat_Wide_Narrow.f (a0_0 : Int) (a0_1 : Int) : Option (Int × Bool) := (sat_Of.f a0_1).bind fun bt146 => (if (!(a0_0 == bt146.1) || (!(a0_1 == bt146.2))) = true then (some (0, false)) else (some (a0_1, true)))
end Go.Proofs.Ytdoifmefhofnnaa.D
