import Derived.Test.YthnpgilknoiaaaaMDiv
import Derived.Test.YthnpgilknoiaaaaQx4
namespace Go.Proofs.Ythnpgilknoiaaaa.M
set_option linter.unusedVariables false
open Go.RowKit Go.Proofs.Ythnpgilknoiaaaa.Q
theorem U_W1 {n : Int} (h : V n) : U (W n).1 := by unfold U W V at *; simp only; omega
theorem U_W2 (n : Int) : U (W n).2 := by unfold U W; simp only; omega
theorem V_prod {a b : Int} (ha : U a) (hb : U b) : V (a * b) := by have := V_mul ha hb; unfold V; omega
theorem V_U {a : Int} (ha : U a) : V a := by unfold U V at *; omega
theorem awake3 (k : Nat) (hk : 20 ≤ k) : turnstilelaw03_awake.f k = some true := by
  have u1 : U 1 := by unfold U; omega
  have u0 : U 0 := by unfold U; omega
  have u10 : U 10 := by unfold U; omega
  have um : U 18446744073709551615 := by unfold U; omega
  have up : U 4294967296 := by unfold U; omega
  have uq : U 2147483648 := by unfold U; omega
  have u3 : U 3 := by unfold U; omega
  have u5 : U 5 := by unfold U; omega
  unfold turnstilelaw03_awake.f
  rw [DivMod u1 u0 u10 k hk, Add um u1, Sub u3 u5, Mul up uq, Product um um]
  decide +kernel
end Go.Proofs.Ythnpgilknoiaaaa.M
