/- bits.Div64 and DivMod: what the printed functions compute. -/
import Derived.Test.YtokfhdpokemekaaMUtil
import Derived.Test.YtokfhdpokemekaaMLz
import Derived.Test.YtokfhdpokemekaaQx10
import Derived.Test.YtokfhdpokemekaaQx9
namespace Go.Proofs.Ytokfhdpokemekaa.M
set_option linter.unusedVariables false
open Go.RowKit Go.Proofs.Ytokfhdpokemekaa.Q Go.Proofs.YtokfhdpokemekaaW.PrintWords Go.Proofs.YtokfhdpokemekaaW.PrintMore

/-- One digit of the quotient. y = y1 * 2^32 + y0, A = u * 2^32 + un. -/
structure Dig (y y1 y0 u un q r : Int) : Prop where
  hy : y = y1 * 4294967296 + y0
  y1l : 2147483648 ≤ y1
  y1h : y1 < 4294967296
  y0l : 0 ≤ y0
  y0h : y0 < 4294967296
  ul : 0 ≤ u
  uh : u < y
  unl : 0 ≤ un
  unh : un < 4294967296
  inv : u = q * y1 + r
  rl : 0 ≤ r
  rh : r < 4294967296
  qh : q ≤ 4294967297
  ge : (u * 4294967296 + un) / y ≤ q
theorem dig_start {y y1 y0 u un : Int} (hy : y = y1 * 4294967296 + y0) (y1l : 2147483648 ≤ y1) (y1h : y1 < 4294967296) (y0l : 0 ≤ y0) (y0h : y0 < 4294967296) (ul : 0 ≤ u) (uh : u < y) (unl : 0 ≤ un) (unh : un < 4294967296) : Dig y y1 y0 u un (u / y1) (u % y1) := by
  have e := Int.mul_ediv_add_emod u y1
  have r0 := Int.emod_nonneg u (show y1 ≠ 0 by omega)
  have r1 := Int.emod_lt_of_pos u (show 0 < y1 by omega)
  have hc : y1 * (u / y1) = u / y1 * y1 := Int.mul_comm _ _
  refine ⟨hy, y1l, y1h, y0l, y0h, ul, uh, unl, unh, by omega, r0, by omega, ?_, ?_⟩
  · have : u / y1 < 4294967298 := by
      apply Int.ediv_lt_of_lt_mul (by omega)
      omega
    omega
  · have hq : u < (u / y1 + 1) * y1 := by
      have : (u / y1 + 1) * y1 = u / y1 * y1 + y1 := by rw [Int.add_mul, Int.one_mul]
      omega
    have hlt : (u * 4294967296 + un) / y < u / y1 + 1 := by
      apply Int.ediv_lt_of_lt_mul (by omega)
      have q0 : 0 ≤ u / y1 := Int.ediv_nonneg ul (by omega)
      have h1 : (u / y1 + 1) * y = (u / y1 + 1) * y1 * 4294967296 + (u / y1 + 1) * y0 := by rw [hy, Int.mul_add, ← Int.mul_assoc]
      have h2 : 0 ≤ (u / y1 + 1) * y0 := Int.mul_nonneg (by omega) y0l
      omega
    omega
theorem Dig.pos {y y1 y0 u un q r : Int} (d : Dig y y1 y0 u un q r) : 0 < y := by have := d.hy; have := d.y1l; have := d.y0l; omega
theorem Dig.q0 {y y1 y0 u un q r : Int} (d : Dig y y1 y0 u un q r) : 0 ≤ q := by
  have h := d.ge
  have : 0 ≤ (u * 4294967296 + un) / y := Int.ediv_nonneg (by have := d.ul; have := d.unl; omega) (by have := d.pos; omega)
  omega
theorem Dig.rest {y y1 y0 u un q r : Int} (d : Dig y y1 y0 u un q r) : u * 4294967296 + un - q * y = r * 4294967296 + un - q * y0 := by
  have h := d.inv; have hy := d.hy
  subst hy
  rw [h]; grind
theorem Dig.test {y y1 y0 u un q r : Int} (d : Dig y y1 y0 u un q r) : (r * 4294967296 + un < q * y0) ↔ (u * 4294967296 + un) / y < q := by
  have h := d.rest
  have hm : q ≤ (u * 4294967296 + un) / y ↔ q * y ≤ u * 4294967296 + un := Int.le_ediv_iff_mul_le d.pos
  constructor
  · intro h1
    have : ¬ q ≤ (u * 4294967296 + un) / y := by rw [hm]; omega
    omega
  · intro h1
    have : ¬ q * y ≤ u * 4294967296 + un := by rw [← hm]; omega
    omega
theorem Dig.small {y y1 y0 u un q r : Int} (d : Dig y y1 y0 u un q r) : (u * 4294967296 + un) / y < 4294967296 := by
  apply Int.ediv_lt_of_lt_mul d.pos
  have := d.uh; have := d.unh
  omega
theorem Dig.mulb {y y1 y0 u un q r : Int} (d : Dig y y1 y0 u un q r) : 0 ≤ q * y0 ∧ q * y0 ≤ 18446744073709551615 := by
  have := mul_lt d.q0 d.y0l d.qh (show y0 ≤ 4294967295 by have := d.y0h; omega)
  omega
/-- Too great a digit: the next one. -/
theorem Dig.down {y y1 y0 u un q r : Int} (d : Dig y y1 y0 u un q r) (h : (u * 4294967296 + un) / y < q) (hr : r + y1 < 4294967296) : Dig y y1 y0 u un (q - 1) (r + y1) := by
  refine ⟨d.hy, d.y1l, d.y1h, d.y0l, d.y0h, d.ul, d.uh, d.unl, d.unh, ?_, by have := d.rl; have := d.y1l; omega, hr, by have := d.qh; omega, by omega⟩
  have := d.inv
  rw [Int.sub_mul]; omega
/-- .. which is it, if nothing is left to hold against it. -/
theorem Dig.last {y y1 y0 u un q r : Int} (d : Dig y y1 y0 u un q r) (h : (u * 4294967296 + un) / y < q) (hr : ¬ r + y1 < 4294967296) : (u * 4294967296 + un) / y = q - 1 := by
  have hm : q - 1 ≤ (u * 4294967296 + un) / y := by
    rw [Int.le_ediv_iff_mul_le d.pos]
    have h1 := d.rest
    have h2 : (q - 1) * y = q * y - y := by rw [Int.sub_mul, Int.one_mul]
    have h3 : (q - 1) * y0 = q * y0 - y0 := by rw [Int.sub_mul, Int.one_mul]
    have h4 := mul_lt (show 0 ≤ q - 1 by have : 0 ≤ (u * 4294967296 + un) / y := Int.ediv_nonneg (by have := d.ul; have := d.unl; omega) (by have := d.pos; omega)
                                         omega) d.y0l (show q - 1 ≤ 4294967296 by have := d.qh; omega) (show y0 ≤ 4294967295 by have := d.y0h; omega)
    have := d.hy; have := d.unl
    omega
  omega
/-- The first loop of Div64 ends at the digit. -/
theorem loop0 {y y1 y0 u un : Int} (x8 x14 : Int) : ∀ (m : Nat) (k : Nat) (q r : Int), Dig y y1 y0 u un q r → 4294967296 ≤ r + (m : Int) * 2147483648 + 2147483648 → 2 * m + 2 ≤ k → ∃ k', k ≤ k' + 2 * m + 2 ∧ bits_Div64.l0 k y x8 y1 y0 u un x14 q r = bits_Div64.j2 k' y x8 y1 y0 u un x14 ((u * 4294967296 + un) / y) := by
  intro m
  induction m with
  | zero =>
    intro k q r d hm hk
    obtain ⟨k, rfl⟩ : ∃ j, k = j + 2 := ⟨k - 2, by omega⟩
    have hb := d.mulb; have hq := d.q0; have hqh := d.qh; have hs := d.small
    have hr0 := d.rl; have hrh := d.rh; have hul := d.unl; have huh := d.unh
    have hy1l := d.y1l; have hy1h := d.y1h
    have hQ0 : 0 ≤ (u * 4294967296 + un) / y := Int.ediv_nonneg (by have := d.ul; omega) (by have := d.pos; omega)
    refine ⟨k, by omega, ?_⟩
    rw [bits_Div64.l0]
    have hbig : ¬ IntKind.u64.wrap (r + y1) < 4294967296 := by rw [wr_id (U_le (by omega) (by omega))]; omega
    by_cases h1 : q ≥ 4294967296
    · rw [if_pos h1, bits_Div64.j1, if_pos rfl, if_pos (by omega), wr_id (U_le (by omega) (by omega)), d.last (by omega) (by omega)]
    · rw [if_neg h1, bits_Div64.j1]
      rw [wr_id (U_le hb.1 (by omega)), wr_id (n := 4294967296 * r) (U_le (by omega) (by omega)), wr_id (n := 4294967296 * r + un) (U_le (by omega) (by omega))]
      by_cases h2 : q * y0 > 4294967296 * r + un
      · rw [if_pos (by simpa using h2), if_pos (by omega), wr_id (U_le (by have := d.test.1 (by omega); omega) (by omega)), d.last (d.test.1 (by omega)) (by omega)]
      · rw [if_neg (by simpa using h2)]
        have : ¬ (u * 4294967296 + un) / y < q := fun h => h2 (by have := d.test.2 h; omega)
        have := d.ge
        rw [show (u * 4294967296 + un) / y = q by omega]
  | succ m ih =>
    intro k q r d hm hk
    obtain ⟨k, rfl⟩ : ∃ j, k = j + 2 := ⟨k - 2, by omega⟩
    have hb := d.mulb; have hq := d.q0; have hqh := d.qh; have hs := d.small
    have hr0 := d.rl; have hrh := d.rh; have hul := d.unl; have huh := d.unh
    have hy1l := d.y1l; have hy1h := d.y1h
    have hQ0 : 0 ≤ (u * 4294967296 + un) / y := Int.ediv_nonneg (by have := d.ul; omega) (by have := d.pos; omega)
    have hw : IntKind.u64.wrap (r + y1) = r + y1 := wr_id (U_le (by omega) (by omega))
    have more : (u * 4294967296 + un) / y < q → ∃ k', k + 2 ≤ k' + 2 * (m + 1) + 2 ∧ (if IntKind.u64.wrap (r + y1) ≥ 4294967296 then bits_Div64.j2 k y x8 y1 y0 u un x14 (IntKind.u64.wrap (q - 1)) else bits_Div64.l0 k y x8 y1 y0 u un x14 (IntKind.u64.wrap (q - 1)) (IntKind.u64.wrap (r + y1))) = bits_Div64.j2 k' y x8 y1 y0 u un x14 ((u * 4294967296 + un) / y) := by
      intro h
      rw [hw, wr_id (n := q - 1) (U_le (by omega) (by omega))]
      by_cases h3 : r + y1 ≥ 4294967296
      · rw [if_pos h3]
        exact ⟨k, by omega, by rw [d.last h (by omega)]⟩
      · rw [if_neg h3]
        obtain ⟨k', hk', e⟩ := ih k (q - 1) (r + y1) (d.down h (by omega)) (by rw [Int.natCast_add, Int.add_mul] at hm; omega) (by omega)
        exact ⟨k', by omega, e⟩
    rw [bits_Div64.l0]
    by_cases h1 : q ≥ 4294967296
    · rw [if_pos h1, bits_Div64.j1, if_pos rfl]
      exact more (by omega)
    · rw [if_neg h1, bits_Div64.j1]
      rw [wr_id (U_le hb.1 (by omega)), wr_id (n := 4294967296 * r) (U_le (by omega) (by omega)), wr_id (n := 4294967296 * r + un) (U_le (by omega) (by omega))]
      by_cases h2 : q * y0 > 4294967296 * r + un
      · rw [if_pos (by simpa using h2)]
        exact more (d.test.1 (by omega))
      · rw [if_neg (by simpa using h2)]
        have : ¬ (u * 4294967296 + un) / y < q := fun h => h2 (by have := d.test.2 h; omega)
        have := d.ge
        exact ⟨k, by omega, by rw [show (u * 4294967296 + un) / y = q by omega]⟩
/-- What stands at the second loop's end. -/
def Fin (y : Int) (s : Int) (un q1 u Q : Int) : Option (Int × Int) := some (IntKind.u64.wrap (IntKind.u64.wrap (q1 * 4294967296) + Q), shr .u64 (IntKind.u64.wrap (IntKind.u64.wrap (IntKind.u64.wrap (u * 4294967296) + un) - IntKind.u64.wrap (Q * y))) s)
theorem loop1 {y y1 y0 u un : Int} (x8 q1 : Int) (h8 : 0 ≤ x8) : ∀ (m : Nat) (k : Nat) (q r : Int), Dig y y1 y0 u un q r → 4294967296 ≤ r + (m : Int) * 2147483648 + 2147483648 → 2 * m + 2 ≤ k → bits_Div64.l1 k y x8 y1 y0 un q1 r u q = Fin y x8 un q1 u ((u * 4294967296 + un) / y) := by
  intro m
  induction m with
  | zero =>
    intro k q r d hm hk
    obtain ⟨k, rfl⟩ : ∃ j, k = j + 2 := ⟨k - 2, by omega⟩
    have hb := d.mulb; have hq := d.q0; have hqh := d.qh; have hs := d.small
    have hr0 := d.rl; have hrh := d.rh; have hul := d.unl; have huh := d.unh
    have hy1l := d.y1l; have hy1h := d.y1h
    have hQ0 : 0 ≤ (u * 4294967296 + un) / y := Int.ediv_nonneg (by have := d.ul; omega) (by have := d.pos; omega)
    rw [bits_Div64.l1]
    have hbig : ¬ IntKind.u64.wrap (r + y1) < 4294967296 := by rw [wr_id (U_le (by omega) (by omega))]; omega
    by_cases h1 : q ≥ 4294967296
    · rw [if_pos h1, bits_Div64.j4, if_pos rfl, if_pos (by omega), if_pos h8, wr_id (n := q - 1) (U_le (by omega) (by omega)), d.last (by omega) (by omega)]; rfl
    · rw [if_neg h1, bits_Div64.j4]
      rw [wr_id (n := q * y0) (U_le hb.1 (by omega)), wr_id (n := 4294967296 * r) (U_le (by omega) (by omega)), wr_id (n := 4294967296 * r + un) (U_le (by omega) (by omega))]
      by_cases h2 : q * y0 > 4294967296 * r + un
      · rw [if_pos (by simpa using h2), if_pos (by omega), if_pos h8, wr_id (n := q - 1) (U_le (by have := d.test.1 (by omega); omega) (by omega)), d.last (d.test.1 (by omega)) (by omega)]; rfl
      · rw [if_neg (by simpa using h2), if_pos h8]
        have : ¬ (u * 4294967296 + un) / y < q := fun h => h2 (by have := d.test.2 h; omega)
        have := d.ge
        rw [show (u * 4294967296 + un) / y = q by omega]; rfl
  | succ m ih =>
    intro k q r d hm hk
    obtain ⟨k, rfl⟩ : ∃ j, k = j + 2 := ⟨k - 2, by omega⟩
    have hb := d.mulb; have hq := d.q0; have hqh := d.qh; have hs := d.small
    have hr0 := d.rl; have hrh := d.rh; have hul := d.unl; have huh := d.unh
    have hy1l := d.y1l; have hy1h := d.y1h
    have hQ0 : 0 ≤ (u * 4294967296 + un) / y := Int.ediv_nonneg (by have := d.ul; omega) (by have := d.pos; omega)
    have hw : IntKind.u64.wrap (r + y1) = r + y1 := wr_id (U_le (by omega) (by omega))
    have more : (u * 4294967296 + un) / y < q → (if IntKind.u64.wrap (r + y1) ≥ 4294967296 then (if 0 ≤ x8 then Fin y x8 un q1 u (IntKind.u64.wrap (q - 1)) else none) else bits_Div64.l1 k y x8 y1 y0 un q1 (IntKind.u64.wrap (r + y1)) u (IntKind.u64.wrap (q - 1))) = Fin y x8 un q1 u ((u * 4294967296 + un) / y) := by
      intro h
      rw [hw, wr_id (n := q - 1) (U_le (by omega) (by omega)), if_pos h8]
      by_cases h3 : r + y1 ≥ 4294967296
      · rw [if_pos h3, d.last h (by omega)]
      · rw [if_neg h3]
        exact ih k (q - 1) (r + y1) (d.down h (by omega)) (by rw [Int.natCast_add, Int.add_mul] at hm; omega) (by omega)
    rw [bits_Div64.l1]
    by_cases h1 : q ≥ 4294967296
    · rw [if_pos h1, bits_Div64.j4, if_pos rfl]
      exact more (by omega)
    · rw [if_neg h1, bits_Div64.j4]
      rw [wr_id (n := q * y0) (U_le hb.1 (by omega)), wr_id (n := 4294967296 * r) (U_le (by omega) (by omega)), wr_id (n := 4294967296 * r + un) (U_le (by omega) (by omega))]
      by_cases h2 : q * y0 > 4294967296 * r + un
      · rw [if_pos (by simpa using h2)]
        exact more (d.test.1 (by omega))
      · rw [if_neg (by simpa using h2), if_pos h8]
        have : ¬ (u * 4294967296 + un) / y < q := fun h => h2 (by have := d.test.2 h; omega)
        have := d.ge
        rw [show (u * 4294967296 + un) / y = q by omega]; rfl
theorem or_join {x y : Int} (i : Nat) (hi : i ≤ 64) (hx : U (x * 2 ^ i)) (hy : 0 ≤ y) (hy2 : y < 2 ^ i) : Go.bits .or .u64 (x * 2 ^ i) y = x * 2 ^ i + y := by
  have h64 : (2 : Int) ^ i ≤ 2 ^ 64 := by
    have := Nat.pow_le_pow_right (show 0 < 2 by omega) hi
    exact_mod_cast this
  exact bits_join .u64 64 (by decide) hk64 i _ _ hx.1 (Int.mul_emod_left _ _) (by have := hx.2; simpa using this) hy hy2 (by omega)
theorem Div64 {hi lo d : Int} (hh : U hi) (hl : U lo) (hd : U d) (hlt : hi < d) (k : Nat) (hk : 20 ≤ k) : bits_Div64.f k hi lo d = some ((hi * 18446744073709551616 + lo) / d, (hi * 18446744073709551616 + lo) % d) := by
  have hh' := hh; have hl' := hl; have hd' := hd
  unfold U at hh' hl' hd'
  unfold bits_Div64.f
  rw [if_neg (by omega), if_neg (by omega)]
  by_cases h0 : hi = 0
  · rw [if_pos h0, tdiv_of hl'.1, tmod_of hl'.1, h0]
    have q0 : 0 ≤ lo / d := Int.ediv_nonneg hl'.1 (by omega)
    have q1 : lo / d ≤ lo := Int.ediv_le_self _ hl'.1
    rw [wr_id (U_le q0 (by omega))]; simp
  rw [if_neg h0]
  obtain ⟨s, hs, e, hs1, hs2⟩ := Lz hd (by omega) k (by omega)
  rw [e]; clear e
  simp only [Option.bind_some]
  have ws : IntKind.u64.wrap (s : Int) = s := wr_id (U_le (by omega) (by omega))
  have ws2 : IntKind.u64.wrap (64 - (s : Int)) = ((64 - s : Nat) : Int) := by rw [wr_id (U_le (by omega) (by omega))]; omega
  rw [ws, ws2, if_pos (by omega), if_pos (by omega)]
  have hp : (0 : Int) < 2 ^ s := Int.pow_pos (by omega)
  have hp2 : (0 : Int) < 2 ^ (64 - s) := Int.pow_pos (by omega)
  have hpp : (2 : Int) ^ s * 2 ^ (64 - s) = 18446744073709551616 := by rw [← Int.pow_add, show s + (64 - s) = 64 by omega]; rfl
  have sy : shl .u64 d s = d * 2 ^ s := by unfold shl; rw [Int.toNat_natCast, show min s IntKind.u64.bits = s from Nat.min_eq_left (by show s ≤ 64; omega), wr_id (U_le (by omega) (by omega))]
  have hle : hi * 2 ^ s + 2 ^ s ≤ d * 2 ^ s := by
    have := Int.mul_le_mul_of_nonneg_right (show hi + 1 ≤ d by omega) (Int.le_of_lt hp)
    rw [Int.add_mul, Int.one_mul] at this; exact this
  have hi0 : 0 ≤ hi * 2 ^ s := Int.mul_nonneg hh'.1 (Int.le_of_lt hp)
  have sh : shl .u64 hi s = hi * 2 ^ s := by unfold shl; rw [Int.toNat_natCast, show min s IntKind.u64.bits = s from Nat.min_eq_left (by show s ≤ 64; omega), wr_id (U_le hi0 (by omega))]
  have sr : shr .u64 lo ((64 - s : Nat) : Int) = lo / 2 ^ (64 - s) := by unfold shr; rw [Int.toNat_natCast, show min (64 - s) IntKind.u64.bits = 64 - s from Nat.min_eq_left (by show 64 - s ≤ 64; omega)]
  have lq0 : 0 ≤ lo / 2 ^ (64 - s) := Int.ediv_nonneg hl'.1 (Int.le_of_lt hp2)
  have lq1 : lo / 2 ^ (64 - s) < 2 ^ s := by apply Int.ediv_lt_of_lt_mul hp2; rw [hpp]; exact hl'.2
  have sl : shl .u64 lo s = lo % 2 ^ (64 - s) * 2 ^ s := by
    unfold shl; rw [Int.toNat_natCast, show min s IntKind.u64.bits = s from Nat.min_eq_left (by show s ≤ 64; omega), wr]
    rw [← hpp, Int.mul_comm lo, Int.mul_emod_mul_of_pos _ _ hp, Int.mul_comm]
  rw [sy, sh, sr, sl, or_join s (by omega) (U_le hi0 (by omega)) lq0 lq1]
  have eu : lo = 2 ^ (64 - s) * (lo / 2 ^ (64 - s)) + lo % 2 ^ (64 - s) := (Int.mul_ediv_add_emod lo _).symm
  have lr0 : 0 ≤ lo % 2 ^ (64 - s) := Int.emod_nonneg _ (by omega)
  have lr1 : lo % 2 ^ (64 - s) < 2 ^ (64 - s) := Int.emod_lt_of_pos _ hp2
  have lv0 : 0 ≤ lo % 2 ^ (64 - s) * 2 ^ s := Int.mul_nonneg lr0 (Int.le_of_lt hp)
  have lv1 : lo % 2 ^ (64 - s) * 2 ^ s < 18446744073709551616 := by
    rw [← hpp, Int.mul_comm (2 ^ s)]; exact Int.mul_lt_mul_of_pos_right lr1 hp
  have hN : (hi * 18446744073709551616 + lo) * 2 ^ s = (hi * 2 ^ s + lo / 2 ^ (64 - s)) * 18446744073709551616 + lo % 2 ^ (64 - s) * 2 ^ s := by
    have e1 : lo * 2 ^ s = 18446744073709551616 * (lo / 2 ^ (64 - s)) + lo % 2 ^ (64 - s) * 2 ^ s := by
      rw [← hpp]
      generalize hA : (2 : Int) ^ s = A at *
      generalize hB : (2 : Int) ^ (64 - s) = B at *
      generalize lo / B = c at *
      generalize lo % B = f at *
      rw [eu]; grind
    rw [Int.add_mul, e1]
    generalize (2 : Int) ^ s = A at *
    generalize lo / 2 ^ (64 - s) = c at *
    grind
  have hdv : ((hi * 18446744073709551616 + lo) * 2 ^ s) / (d * 2 ^ s) = (hi * 18446744073709551616 + lo) / d := Int.mul_ediv_mul_of_pos_left _ _ hp
  have hmd : ((hi * 18446744073709551616 + lo) * 2 ^ s) % (d * 2 ^ s) = (hi * 18446744073709551616 + lo) % d * 2 ^ s := by
    rw [Int.mul_comm _ (2 ^ s), Int.mul_comm d, Int.mul_emod_mul_of_pos _ _ hp, Int.mul_comm]
  rw [hN] at hdv hmd
  rw [← hdv]
  have hR : (hi * 18446744073709551616 + lo) % d = (((hi * 2 ^ s + lo / 2 ^ (64 - s)) * 18446744073709551616 + lo % 2 ^ (64 - s) * 2 ^ s) % (d * 2 ^ s)) / 2 ^ s := by
    rw [hmd, Int.mul_ediv_cancel _ (by omega)]
  rw [hR]
  have hu1 : hi * 2 ^ s + lo / 2 ^ (64 - s) < d * 2 ^ s := by omega
  have hu0 : 0 ≤ hi * 2 ^ s + lo / 2 ^ (64 - s) := by omega
  clear hR hdv hmd hN hle eu lr0 lr1 sl sr sh sy lq0 lq1 hi0
  generalize hi * 2 ^ s + lo / 2 ^ (64 - s) = u at *
  generalize lo % 2 ^ (64 - s) * 2 ^ s = v at *
  generalize d * 2 ^ s = y at *
  rw [if_neg (by omega), and32 (U_le (by omega) (by omega)), and32 (U_le (by omega) (by omega)), tdiv_of hu0]
  have d1 := dig_start (y := y) (y1 := y / 4294967296) (y0 := y % 4294967296) (u := u) (un := v / 4294967296) (by omega) (by omega) (by omega) (by omega) (by omega) hu0 hu1 (by omega) (by omega)
  have hq := d1.q0; have hqh := d1.qh
  have hmul : u / (y / 4294967296) * (y / 4294967296) = u - u % (y / 4294967296) := by have := d1.inv; omega
  have hrl := d1.rl; have hrh := d1.rh
  rw [wr_id (n := u / (y / 4294967296)) (U_le hq (by omega)), hmul, wr_id (n := u - u % (y / 4294967296)) (U_le (by have := Int.mul_nonneg hq (show 0 ≤ y / 4294967296 by omega); omega) (by omega)), show u - (u - u % (y / 4294967296)) = u % (y / 4294967296) by omega, wr_id (n := u % (y / 4294967296)) (U_le hrl (by omega))]
  obtain ⟨k', hk', e⟩ := loop0 (s : Int) (v % 4294967296) 2 k _ _ d1 (by omega) (by omega)
  rw [e]
  obtain ⟨k', rfl⟩ : ∃ j, k' = j + 1 := ⟨k' - 1, by omega⟩
  rw [bits_Div64.j2, if_neg (by omega)]
  have hsm := d1.small
  have hQ0 : 0 ≤ (u * 4294967296 + v / 4294967296) / y := Int.ediv_nonneg (by omega) (by omega)
  have hQm : (u * 4294967296 + v / 4294967296) / y * y = u * 4294967296 + v / 4294967296 - (u * 4294967296 + v / 4294967296) % y := by
    have := Int.mul_ediv_add_emod (u * 4294967296 + v / 4294967296) y
    rw [Int.mul_comm] at this; omega
  have hm0 : 0 ≤ (u * 4294967296 + v / 4294967296) % y := Int.emod_nonneg _ (by omega)
  have hm1 : (u * 4294967296 + v / 4294967296) % y < y := Int.emod_lt_of_pos _ (by omega)
  have hA : IntKind.u64.wrap (IntKind.u64.wrap (IntKind.u64.wrap (u * 4294967296) + v / 4294967296) - IntKind.u64.wrap ((u * 4294967296 + v / 4294967296) / y * y)) = (u * 4294967296 + v / 4294967296) % y := by
    rw [hQm]; simp only [wr]; omega
  rw [hA]
  generalize hq1 : (u * 4294967296 + v / 4294967296) / y = Q1 at *
  generalize hu2 : (u * 4294967296 + v / 4294967296) % y = u2 at *
  rw [tdiv_of hm0]
  have d2 := dig_start (y := y) (y1 := y / 4294967296) (y0 := y % 4294967296) (u := u2) (un := v % 4294967296) (by omega) (by omega) (by omega) (by omega) (by omega) hm0 hm1 (by omega) (by omega)
  have hq' := d2.q0; have hqh' := d2.qh
  have hmul' : u2 / (y / 4294967296) * (y / 4294967296) = u2 - u2 % (y / 4294967296) := by have := d2.inv; omega
  have hrl' := d2.rl; have hrh' := d2.rh
  rw [wr_id (n := u2 / (y / 4294967296)) (U_le hq' (by omega)), hmul', wr_id (n := u2 - u2 % (y / 4294967296)) (U_le (by have := Int.mul_nonneg hq' (show 0 ≤ y / 4294967296 by omega); omega) (by omega)), show u2 - (u2 - u2 % (y / 4294967296)) = u2 % (y / 4294967296) by omega, wr_id (n := u2 % (y / 4294967296)) (U_le hrl' (by omega))]
  rw [loop1 (s : Int) Q1 (by omega) 2 k' _ _ d2 (by omega) (by omega)]
  have hsm2 := d2.small
  have hP0 : 0 ≤ (u2 * 4294967296 + v % 4294967296) / y := Int.ediv_nonneg (by omega) (by omega)
  have hPm : (u2 * 4294967296 + v % 4294967296) / y * y = u2 * 4294967296 + v % 4294967296 - (u2 * 4294967296 + v % 4294967296) % y := by
    have := Int.mul_ediv_add_emod (u2 * 4294967296 + v % 4294967296) y
    rw [Int.mul_comm] at this; omega
  have hn0 : 0 ≤ (u2 * 4294967296 + v % 4294967296) % y := Int.emod_nonneg _ (by omega)
  have hn1 : (u2 * 4294967296 + v % 4294967296) % y < y := Int.emod_lt_of_pos _ (by omega)
  have hB : IntKind.u64.wrap (IntKind.u64.wrap (IntKind.u64.wrap (u2 * 4294967296) + v % 4294967296) - IntKind.u64.wrap ((u2 * 4294967296 + v % 4294967296) / y * y)) = (u2 * 4294967296 + v % 4294967296) % y := by
    rw [hPm]; simp only [wr]; omega
  unfold Fin
  rw [hB]
  generalize hq2 : (u2 * 4294967296 + v % 4294967296) / y = Q2 at *
  generalize hu3 : (u2 * 4294967296 + v % 4294967296) % y = u3 at *
  have htot : u * 18446744073709551616 + v = (Q1 * 4294967296 + Q2) * y + u3 := by
    have : (Q1 * 4294967296 + Q2) * y = Q1 * y * 4294967296 + Q2 * y := by grind
    omega
  have f1 : (u * 18446744073709551616 + v) / y = Q1 * 4294967296 + Q2 := by
    rw [htot, Int.add_comm, Int.add_mul_ediv_right _ _ (by omega), Int.ediv_eq_zero_of_lt hn0 hn1]; omega
  have f2 : (u * 18446744073709551616 + v) % y = u3 := by
    rw [htot, Int.add_comm, Int.add_mul_emod_self_right, Int.emod_eq_of_lt hn0 hn1]
  rw [f1, f2]
  congr 2
  · simp only [wr]; omega
  · unfold shr; rw [Int.toNat_natCast, show min s IntKind.u64.bits = s from Nat.min_eq_left (by show s ≤ 64; omega)]
theorem DivMod {h l d : Int} (hh : U h) (hl : U l) (hd : U d) (k : Nat) (hk : 20 ≤ k) : sat_Wide_DivMod.f k h l d = some (if d = 0 then (0, 0, 0) else ((W ((h * 18446744073709551616 + l) / d)).1, (W ((h * 18446744073709551616 + l) / d)).2, (h * 18446744073709551616 + l) % d)) := by
  unfold sat_Wide_DivMod.f
  by_cases h0 : d = 0
  · rw [if_pos h0, if_pos h0]
  rw [if_neg h0, if_neg h0]
  have hh' := hh; have hl' := hl; have hd' := hd
  unfold U at hh' hl' hd'
  have hm0 : 0 ≤ h % d := Int.emod_nonneg _ h0
  have hm1 : h % d < d := Int.emod_lt_of_pos _ (by omega)
  have hq0 : 0 ≤ h / d := Int.ediv_nonneg hh'.1 (by omega)
  have hq1 : h / d ≤ h := Int.ediv_le_self _ hh'.1
  rw [tmod_of hh'.1, tdiv_of hh'.1, Div64 (U_le hm0 (by omega)) hl hd hm1 k hk, wr_id (U_le hq0 (by omega))]
  simp only [Option.bind_some]
  have hd1 : (h % d * 18446744073709551616 + l) / d < 18446744073709551616 := by
    apply Int.ediv_lt_of_lt_mul (by omega)
    omega
  have hd0 : 0 ≤ (h % d * 18446744073709551616 + l) / d := Int.ediv_nonneg (by omega) (by omega)
  have e : h * 18446744073709551616 + l = (h % d * 18446744073709551616 + l) + (h / d * 18446744073709551616) * d := by
    have := Int.mul_ediv_add_emod h d
    have h2 : (h / d * 18446744073709551616) * d = (d * (h / d)) * 18446744073709551616 := by grind
    omega
  have e1 : (h * 18446744073709551616 + l) / d = (h % d * 18446744073709551616 + l) / d + h / d * 18446744073709551616 := by
    rw [e, Int.add_mul_ediv_right _ _ h0]
  have e2 : (h * 18446744073709551616 + l) % d = (h % d * 18446744073709551616 + l) % d := by
    rw [e, Int.add_mul_emod_self_right]
  rw [e1, e2]
  unfold W
  congr 2
  · simp only; omega
  · congr 1; simp only; omega
end Go.Proofs.Ytokfhdpokemekaa.M
