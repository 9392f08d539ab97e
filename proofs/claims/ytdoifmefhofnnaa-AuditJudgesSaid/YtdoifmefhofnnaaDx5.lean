/- Written by the session's own program hyb.py: what functions of the program compute; Lean checks it. -/
import Derived.Test.YtdoifmefhofnnaaDx0
import Derived.ChangeKeysEq
namespace Go.Proofs.Ytdoifmefhofnnaa.D
open Go.RowKit Go.Proofs.YtdoifmefhofnnaaW.PrintWords Go.Proofs.YtdoifmefhofnnaaW.PrintLast Go.Proofs.YtdoifmefhofnnaaW.PrintMore Go.Proofs.YtdoifmefhofnnaaW.PrintShort
attribute [local go_sem] run_Add64 run_Sub64
attribute [local go_sem] max2_int min2_int max_two min_two max_three min_three max_four min_four   -- for this text's walks alone
set_option linter.unusedVariables false
set_option linter.unusedSimpArgs false

theorem eqA76 (d : Nat) (w : World) (x0 y0 : Int) (x1 y1 : Int) (x2 y2 : Int) :
    (Op.equalIn (d + 2) 76 (.agg #[.int .u64 x0, .int .u64 x1, .int .u64 x2]) (.agg #[.int .u64 y0, .int .u64 y1, .int .u64 y2])).run Try.prog w = .ok (x0 == y0 && (x1 == y1 && (x2 == y2))) w := by
  have hi_ : Try.prog.info? 22 = some (Try.prog.info? 22).get! := by kernel_rfl
  rw [show d + 2 = (d + 1) + 1 from rfl]
  refine (run_equalIn_array (P := Try.prog) (w := w) (hu := Try.underlying76) (hi := hi_) ..).trans ?_
  have hc : Try.prog.cellsOf 22 = 1 := by kernel_rfl
  rw [hc, show List.range 3 = [0, 1, 2] from rfl]
  simp only [Op.eqItems]
  go_simp
  by_cases h0 : x0 = y0 <;> by_cases h1 : x1 = y1 <;> by_cases h2 : x2 = y2 <;> simp [h0, h1, h2]
end Go.Proofs.Ytdoifmefhofnnaa.D
