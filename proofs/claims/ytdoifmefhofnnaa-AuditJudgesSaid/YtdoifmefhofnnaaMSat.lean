/- What the printed functions of package sat compute, on numbers without end. -/
import Derived.Test.YtdoifmefhofnnaaMBase
import Derived.Test.YtdoifmefhofnnaaDx45
import Derived.Test.YtdoifmefhofnnaaDx6
import Derived.Test.YtdoifmefhofnnaaDx8
import Derived.Test.YtdoifmefhofnnaaDx9
namespace Go.Proofs.Ytdoifmefhofnnaa.M
set_option linter.unusedVariables false
open Go.RowKit Go.Proofs.Ytdoifmefhofnnaa.D
/-- A number of 128 bits as its halves. -/
def W (n : Int) : Int × Int := (n / 18446744073709551616, n % 18446744073709551616)
theorem V_mul {a b : Int} (ha : U a) (hb : U b) : 0 ≤ a * b ∧ a * b ≤ 340282366920938463426481119284349108225 := by
  have h := @mul_lt a b 18446744073709551615 18446744073709551615 ha.1 hb.1 (by unfold U at ha; omega) (by unfold U at hb; omega)
  exact ⟨h.1, by have := h.2; omega⟩
theorem Mul64 {a b : Int} (ha : U a) (hb : U b) : bits_Mul64.f a b = some (W (a * b)) := by
  unfold bits_Mul64.f
  rw [and32 ha, and32 hb]
  have hx : a = (a / 4294967296) * 4294967296 + a % 4294967296 := by omega
  have hy : b = (b / 4294967296) * 4294967296 + b % 4294967296 := by omega
  have hx1 : 0 ≤ a / 4294967296 ∧ a / 4294967296 ≤ 4294967295 := by unfold U at ha; omega
  have hy1 : 0 ≤ b / 4294967296 ∧ b / 4294967296 ≤ 4294967295 := by unfold U at hb; omega
  have hx0 : 0 ≤ a % 4294967296 ∧ a % 4294967296 ≤ 4294967295 := by omega
  have hy0 : 0 ≤ b % 4294967296 ∧ b % 4294967296 ≤ 4294967295 := by omega
  have hab : a * b = ((a / 4294967296) * (b / 4294967296)) * 18446744073709551616 + ((a / 4294967296) * (b % 4294967296) + (a % 4294967296) * (b / 4294967296)) * 4294967296 + (a % 4294967296) * (b % 4294967296) := by
    generalize a / 4294967296 = x1 at *
    generalize b / 4294967296 = y1 at *
    generalize a % 4294967296 = x0 at *
    generalize b % 4294967296 = y0 at *
    subst hx hy
    grind
  have b11 := mul_lt hx1.1 hy1.1 hx1.2 hy1.2
  have b10 := mul_lt hx1.1 hy0.1 hx1.2 hy0.2
  have b01 := mul_lt hx0.1 hy1.1 hx0.2 hy1.2
  have b00 := mul_lt hx0.1 hy0.1 hx0.2 hy0.2
  generalize hp11 : (a / 4294967296) * (b / 4294967296) = p11 at *
  generalize hp10 : (a / 4294967296) * (b % 4294967296) = p10 at *
  generalize hp01 : (a % 4294967296) * (b / 4294967296) = p01 at *
  generalize hp00 : (a % 4294967296) * (b % 4294967296) = p00 at *
  have w11 : IntKind.u64.wrap p11 = p11 := wr_id (by unfold U; omega)
  have w10 : IntKind.u64.wrap p10 = p10 := wr_id (by unfold U; omega)
  have w01 : IntKind.u64.wrap p01 = p01 := wr_id (by unfold U; omega)
  have w00 : IntKind.u64.wrap p00 = p00 := wr_id (by unfold U; omega)
  rw [w11, w10, w01, w00]
  have wt : IntKind.u64.wrap (p10 + p00 / 4294967296) = p10 + p00 / 4294967296 := wr_id (by unfold U; omega)
  rw [wt, and32 (by unfold U; omega)]
  have w1 : IntKind.u64.wrap ((p10 + p00 / 4294967296) % 4294967296 + p01) = (p10 + p00 / 4294967296) % 4294967296 + p01 := wr_id (by unfold U; omega)
  rw [w1]
  have w2 : IntKind.u64.wrap (p11 + (p10 + p00 / 4294967296) / 4294967296) = p11 + (p10 + p00 / 4294967296) / 4294967296 := wr_id (by unfold U; omega)
  rw [w2, hab]
  unfold W
  rw [wr, wr]
  congr 2
  omega
end Go.Proofs.Ytdoifmefhofnnaa.M
