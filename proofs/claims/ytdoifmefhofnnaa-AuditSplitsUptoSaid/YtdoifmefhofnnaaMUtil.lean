import Derived.Test.YtdoifmefhofnnaaMSat
namespace Go.Proofs.Ytdoifmefhofnnaa.M
set_option linter.unusedVariables false
open Go.RowKit Go.Proofs.Ytdoifmefhofnnaa.D
theorem U_W1 {n : Int} (h : V n) : U (W n).1 := by unfold U W V at *; simp only; omega
theorem U_W2 (n : Int) : U (W n).2 := by unfold U W; simp only; omega
theorem V_prod {a b : Int} (ha : U a) (hb : U b) : V (a * b) := by have := V_mul ha hb; unfold V; omega
theorem V_U {a : Int} (ha : U a) : V a := by unfold U V at *; omega
theorem U_le {n : Int} (h0 : 0 ≤ n) (h1 : n ≤ 18446744073709551615) : U n := ⟨h0, by omega⟩
end Go.Proofs.Ytdoifmefhofnnaa.M
