/- What the printed functions of package sat compute, on numbers without end. -/
import Derived.Test.YtdoifmefhofnnaaMBase
import Derived.Test.YtdoifmefhofnnaaDx41
import Derived.Test.YtdoifmefhofnnaaDx6
import Derived.Test.YtdoifmefhofnnaaDx8
import Derived.Test.YtdoifmefhofnnaaDx9
namespace Go.Proofs.Ytdoifmefhofnnaa.M
set_option linter.unusedVariables false
open Go.RowKit Go.Proofs.Ytdoifmefhofnnaa.D

abbrev B64 : Int := 18446744073709551616
/-- A number of 128 bits as its halves. -/
def W (n : Int) : Int × Int := (n / 18446744073709551616, n % 18446744073709551616)
def V (n : Int) : Prop := 0 ≤ n ∧ n < 340282366920938463463374607431768211456
theorem W_of {h l : Int} (hl : U l) : W (h * 18446744073709551616 + l) = (h, l) := by
  unfold W U at *
  congr 1 <;> omega
theorem V_of {h l : Int} (hh : U h) (hl : U l) : V (h * 18446744073709551616 + l) := by
  unfold V U at *; omega
theorem V_mul {a b : Int} (ha : U a) (hb : U b) : 0 ≤ a * b ∧ a * b ≤ 340282366920938463426481119284349108225 := by
  have h := @mul_lt a b 18446744073709551615 18446744073709551615 ha.1 hb.1 (by unfold U at ha; omega) (by unfold U at hb; omega)
  exact ⟨h.1, by have := h.2; omega⟩
theorem Mul64 {a b : Int} (ha : U a) (hb : U b) : bits_Mul64.f a b = some (W (a * b)) := by
  unfold bits_Mul64.f
  rw [and32 ha, and32 hb]
  have hx : a = (a / 4294967296) * 4294967296 + a % 4294967296 := by omega
  have hy : b = (b / 4294967296) * 4294967296 + b % 4294967296 := by omega
  have hx1 : 0 ≤ a / 4294967296 ∧ a / 4294967296 ≤ 4294967295 := by unfold U at ha; omega
  have hy1 : 0 ≤ b / 4294967296 ∧ b / 4294967296 ≤ 4294967295 := by unfold U at hb; omega
  have hx0 : 0 ≤ a % 4294967296 ∧ a % 4294967296 ≤ 4294967295 := by omega
  have hy0 : 0 ≤ b % 4294967296 ∧ b % 4294967296 ≤ 4294967295 := by omega
  have hab : a * b = ((a / 4294967296) * (b / 4294967296)) * 18446744073709551616 + ((a / 4294967296) * (b % 4294967296) + (a % 4294967296) * (b / 4294967296)) * 4294967296 + (a % 4294967296) * (b % 4294967296) := by
    generalize a / 4294967296 = x1 at *
    generalize b / 4294967296 = y1 at *
    generalize a % 4294967296 = x0 at *
    generalize b % 4294967296 = y0 at *
    subst hx hy
    grind
  have b11 := mul_lt hx1.1 hy1.1 hx1.2 hy1.2
  have b10 := mul_lt hx1.1 hy0.1 hx1.2 hy0.2
  have b01 := mul_lt hx0.1 hy1.1 hx0.2 hy1.2
  have b00 := mul_lt hx0.1 hy0.1 hx0.2 hy0.2
  generalize hp11 : (a / 4294967296) * (b / 4294967296) = p11 at *
  generalize hp10 : (a / 4294967296) * (b % 4294967296) = p10 at *
  generalize hp01 : (a % 4294967296) * (b / 4294967296) = p01 at *
  generalize hp00 : (a % 4294967296) * (b % 4294967296) = p00 at *
  have w11 : IntKind.u64.wrap p11 = p11 := wr_id (by unfold U; omega)
  have w10 : IntKind.u64.wrap p10 = p10 := wr_id (by unfold U; omega)
  have w01 : IntKind.u64.wrap p01 = p01 := wr_id (by unfold U; omega)
  have w00 : IntKind.u64.wrap p00 = p00 := wr_id (by unfold U; omega)
  rw [w11, w10, w01, w00]
  have wt : IntKind.u64.wrap (p10 + p00 / 4294967296) = p10 + p00 / 4294967296 := wr_id (by unfold U; omega)
  rw [wt, and32 (by unfold U; omega)]
  have w1 : IntKind.u64.wrap ((p10 + p00 / 4294967296) % 4294967296 + p01) = (p10 + p00 / 4294967296) % 4294967296 + p01 := wr_id (by unfold U; omega)
  rw [w1]
  have w2 : IntKind.u64.wrap (p11 + (p10 + p00 / 4294967296) / 4294967296) = p11 + (p10 + p00 / 4294967296) / 4294967296 := wr_id (by unfold U; omega)
  rw [w2, hab]
  unfold W
  rw [wr, wr]
  congr 2
  omega
theorem Product {a b : Int} (ha : U a) (hb : U b) : sat_Product.f a b = some (W (a * b)) := by
  unfold sat_Product.f; rw [Mul64 ha hb]; rfl
theorem Of (x : Int) : sat_Of.f x = some (0, x) := rfl
theorem OfW {x : Int} (h : U x) : sat_Of.f x = some (W x) := by
  unfold sat_Of.f W U at *; congr 2 <;> omega
theorem Add {a b : Int} (ha : U a) (hb : U b) : sat_Add.f a b = some (if a + b < 18446744073709551616 then a + b else 18446744073709551615) := by
  unfold sat_Add.f add64c add64s U at *
  by_cases h : a + b < 18446744073709551616
  · rw [if_pos (by omega), if_pos h]; congr 1; omega
  · rw [if_neg (by omega), if_neg h]
theorem Sub {a b : Int} (ha : U a) (hb : U b) : sat_Sub.f a b = some (if b ≤ a then a - b else 0) := by
  unfold sat_Sub.f U at *
  by_cases h : b ≤ a
  · rw [if_neg (by omega), if_pos h, wr]; congr 1; omega
  · rw [if_pos (by omega), if_neg h]
theorem Plus {a b : Int} (ha : V a) (hb : V b) : sat_Wide_Plus.f (W a).1 (W a).2 (W b).1 (W b).2 = some (W (if a + b < 340282366920938463463374607431768211456 then a + b else 340282366920938463463374607431768211455)) := by
  unfold sat_Wide_Plus.f sat_greatest.f add64c add64s W V at *
  simp only [Option.bind_some]
  rw [if_pos (by omega)]
  by_cases h : a + b < 340282366920938463463374607431768211456
  · rw [if_pos (by omega), if_pos h]; congr 2 <;> omega
  · rw [if_neg (by omega), if_neg h]; rfl
theorem sub64b_one {x y b : Int} (hx : 0 ≤ x) (hy : 0 ≤ y) (hb : 0 ≤ b) (h : x < y + b) : sub64b x y b = 1 := by
  unfold sub64b; rw [if_pos (by omega)]; rfl
theorem sub64b_zero {x y b : Int} (hx : 0 ≤ x) (hy : 0 ≤ y) (hb : 0 ≤ b) (h : ¬ x < y + b) : sub64b x y b = 0 := by
  unfold sub64b; rw [if_neg (by omega)]; rfl
theorem Minus {a b : Int} (ha : V a) (hb : V b) : sat_Wide_Minus.f (W a).1 (W a).2 (W b).1 (W b).2 = some (W (if b ≤ a then a - b else 0)) := by
  unfold sat_Wide_Minus.f W V at *
  have hz : ((0 / 18446744073709551616, 0 % 18446744073709551616) : Int × Int) = (0, 0) := rfl
  dsimp only
  by_cases h0 : a % 18446744073709551616 < b % 18446744073709551616
  · rw [sub64b_one (by omega) (by omega) (by omega) (by omega), if_pos (by omega)]
    by_cases h1 : a / 18446744073709551616 < b / 18446744073709551616 + 1
    · rw [sub64b_one (by omega) (by omega) (by omega) h1, if_neg (by omega), if_neg (by omega), hz]
    · rw [sub64b_zero (by omega) (by omega) (by omega) h1, if_pos rfl, if_pos (by omega)]
      unfold sub64s; congr 2 <;> omega
  · rw [sub64b_zero (by omega) (by omega) (by omega) (by omega), if_pos (by omega)]
    by_cases h1 : a / 18446744073709551616 < b / 18446744073709551616 + 0
    · rw [sub64b_one (by omega) (by omega) (by omega) h1, if_neg (by omega), if_neg (by omega), hz]
    · rw [sub64b_zero (by omega) (by omega) (by omega) h1, if_pos rfl, if_pos (by omega)]
      unfold sub64s; congr 2 <;> omega
theorem Cmp {a b : Int} (ha : V a) (hb : V b) : sat_Wide_Cmp.f (W a).1 (W a).2 (W b).1 (W b).2 = some (if a = b then 0 else if a < b then -1 else 1) := by
  unfold sat_Wide_Cmp.f W V at *
  by_cases h : a = b
  · subst h; simp
  · rw [if_neg h, if_neg (by simp; omega)]
    by_cases h1 : a < b
    · rw [if_pos h1]
      by_cases h2 : a / 18446744073709551616 < b / 18446744073709551616
      · rw [if_pos h2]
      · rw [if_neg h2, if_pos (by omega), if_pos (by omega)]
    · rw [if_neg h1, if_neg (by omega)]
      by_cases h2 : a / 18446744073709551616 = b / 18446744073709551616
      · rw [if_pos h2, if_neg (by omega)]
      · rw [if_neg h2]
theorem Narrow {a : Int} (ha : V a) : sat_Wide_Narrow.f (W a).1 (W a).2 = some (if a < 18446744073709551616 then (a, true) else (0, false)) := by
  unfold sat_Wide_Narrow.f sat_Of.f W V at *
  simp only [Option.bind_some]
  by_cases h : a < 18446744073709551616
  · rw [if_pos h, if_neg (by simp; omega)]; congr 2; omega
  · rw [if_neg h, if_pos (by simp; omega)]
end Go.Proofs.Ytdoifmefhofnnaa.M
