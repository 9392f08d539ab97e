/- The reference's DivMod of layer 3: bit by bit. -/
import Derived.Test.YthnpgilknoiaaaaMAwake3
import Derived.Test.YthnpgilknoiaaaaQx15
namespace Go.Proofs.Ythnpgilknoiaaaa.M
set_option linter.unusedVariables false
open Go.RowKit Go.Proofs.Ythnpgilknoiaaaa.Q Go.Proofs.YthnpgilknoiaaaaW.PrintWords Go.Proofs.YthnpgilknoiaaaaW.PrintMore
theorem half_step {M d Q R b : Int} (hM : 0 ≤ M) (hd : 0 < d) (hQ : Q = M / 2 / d) (hR : R = M / 2 % d) (hb : b = M % 2) :
    0 ≤ R ∧ R < d ∧ (b = 0 ∨ b = 1) ∧ 0 ≤ Q ∧ (if d ≤ 2 * R + b then M / d = 2 * Q + 1 ∧ M % d = 2 * R + b - d else M / d = 2 * Q ∧ M % d = 2 * R + b) := by
  have h1 : 0 ≤ R := by rw [hR]; exact Int.emod_nonneg _ (by omega)
  have h2 : R < d := by rw [hR]; exact Int.emod_lt_of_pos _ hd
  have h3 : d * Q + R = M / 2 := by rw [hQ, hR]; exact Int.mul_ediv_add_emod _ _
  have h4 : b = 0 ∨ b = 1 := by omega
  have h5 : 0 ≤ Q := by rw [hQ]; exact Int.ediv_nonneg (by omega) (by omega)
  refine ⟨h1, h2, h4, h5, ?_⟩
  have e : M = 2 * (d * Q) + (2 * R + b) := by omega
  clear hQ hR
  split
  · rename_i hge
    have := (Int.ediv_emod_unique (a := M) (b := d) (q := 2 * Q + 1) (r := 2 * R + b - d) hd).2 ⟨by grind, by omega, by omega⟩
    exact this
  · rename_i hge
    have := (Int.ediv_emod_unique (a := M) (b := d) (q := 2 * Q) (r := 2 * R + b) hd).2 ⟨by grind, by omega, by omega⟩
    exact this
/-- The step over one bit, in numbers of 64 bits. -/
theorem j1_step {k : Nat} {d r b i i' h l qh ql M : Int} (ud : U d) (hd : d ≠ 0) (hM : 0 ≤ M) (hr : r = M / 2 % d) (hb : b = M % 2) (hi' : wrap64 (i - 1) = i')
    (q : Int) (hq : q = if i ≥ 64 then qh else ql) (hQ : q = M / 2 / d) (hU : M / d < 18446744073709551616) :
    turnstileref03_Wide_DivMod.j1 (k + 2) d r i b h l qh ql = turnstileref03_Wide_DivMod.l0 k d (M % d) i' h l (if i ≥ 64 then M / d else qh) (if i ≥ 64 then ql else M / d) := by
  have hd0 : 0 < d := by unfold U at ud; omega
  obtain ⟨r0, r1, b01, q0, hc⟩ := half_step hM hd0 hQ hr hb
  have hdu : d < 18446744073709551616 := ud.2
  generalize M / d = Md at *
  generalize M % d = Mm at *
  clear hQ hr hb
  have w2 : IntKind.u64.wrap (IntKind.u64.wrap (2 * r) + b) = (2 * r + b) % 18446744073709551616 := by
    rw [wr, wr]; omega
  rw [turnstileref03_Wide_DivMod.j1, w2]
  by_cases over : r ≥ 9223372036854775808
  · rw [if_pos over, turnstileref03_Wide_DivMod.j2, if_pos rfl, hi']
    rw [if_pos (by omega)] at hc
    have e1 : IntKind.u64.wrap ((2 * r + b) % 18446744073709551616 - d) = Mm := by rw [wr]; omega
    rw [e1]
    by_cases h64 : i ≥ 64
    · rw [if_pos h64] at hq ⊢
      subst hq
      rw [if_pos h64, if_pos h64, wr_id (n := 2 * q) (by unfold U; omega), wr_id (n := 2 * q + 1) (by unfold U; omega), hc.1]
    · rw [if_neg h64] at hq ⊢
      subst hq
      rw [if_neg h64, if_neg h64, wr_id (n := 2 * q) (by unfold U; omega), wr_id (n := 2 * q + 1) (by unfold U; omega), hc.1]
  · rw [if_neg over, turnstileref03_Wide_DivMod.j2, hi']
    have e0 : (2 * r + b) % 18446744073709551616 = 2 * r + b := by omega
    rw [e0]
    by_cases hge : 2 * r + b ≥ d
    · rw [if_pos (by simpa using hge)]
      rw [if_pos hge] at hc
      have e1 : IntKind.u64.wrap (2 * r + b - d) = Mm := by rw [wr]; omega
      rw [e1]
      by_cases h64 : i ≥ 64
      · rw [if_pos h64] at hq ⊢
        subst hq
        rw [if_pos h64, if_pos h64, wr_id (n := 2 * q) (by unfold U; omega), wr_id (n := 2 * q + 1) (by unfold U; omega), hc.1]
      · rw [if_neg h64] at hq ⊢
        subst hq
        rw [if_neg h64, if_neg h64, wr_id (n := 2 * q) (by unfold U; omega), wr_id (n := 2 * q + 1) (by unfold U; omega), hc.1]
    · rw [if_neg (by simpa using hge)]
      rw [if_neg hge] at hc
      rw [hc.2.symm]
      by_cases h64 : i ≥ 64
      · rw [if_pos h64] at hq ⊢
        subst hq
        rw [if_pos h64, if_pos h64, wr_id (n := 2 * q) (by unfold U; omega), Int.add_zero, wr_id (n := 2 * q) (by unfold U; omega), hc.1]
      · rw [if_neg h64] at hq ⊢
        subst hq
        rw [if_neg h64, if_neg h64, wr_id (n := 2 * q) (by unfold U; omega), Int.add_zero, wr_id (n := 2 * q) (by unfold U; omega), hc.1]
theorem shr_bit {x : Int} (u : U x) (t : Nat) (ht : t < 64) : Int.tmod (shr .u64 x (t : Int)) 2 = x / 2 ^ t % 2 := by
  have e : shr .u64 x (t : Int) = x / 2 ^ t := by
    unfold shr; rw [Int.toNat_natCast, show min t IntKind.u64.bits = t from Nat.min_eq_left (by show t ≤ 64; omega)]
  rw [e]
  exact tmod_of (Int.ediv_nonneg u.1 (Int.le_of_lt (Int.pow_pos (by decide))))
theorem bit_of (r0 x : Int) (t : Nat) (ht : t < 64) : (r0 * 18446744073709551616 + x) / 2 ^ t % 2 = x / 2 ^ t % 2 := by
  have e : (18446744073709551616 : Int) = 2 * 2 ^ (63 - t) * 2 ^ t := by
    rw [Int.mul_assoc, ← Int.pow_add, show 63 - t + t = 63 by omega]; rfl
  have p : (2 : Int) ^ t ≠ 0 := Int.ne_of_gt (Int.pow_pos (by decide))
  rw [e, ← Int.mul_assoc, Int.add_comm, Int.add_mul_ediv_right _ _ p]
  generalize (2 : Int) ^ (63 - t) = Z
  rw [show r0 * (2 * Z) = 2 * (r0 * Z) by grind]
  omega
theorem half_of (Y : Int) (t : Nat) : Y / 2 ^ t / 2 = Y / 2 ^ (t + 1) := by
  rw [Int.pow_succ, Int.ediv_ediv_of_nonneg (Int.le_of_lt (Int.pow_pos (by decide)))]
theorem div_bound {Y d : Int} (hY : 0 ≤ Y) (hd : 0 < d) (h : Y / d < 18446744073709551616) (t : Nat) : Y / 2 ^ t / d < 18446744073709551616 := by
  refine Int.lt_of_le_of_lt ?_ h
  refine Int.ediv_le_ediv hd ?_
  exact Int.ediv_le_self _ hY
/-- The high half, from its bit t - 1 on. -/
theorem dm_high {d h l : Int} (ud : U d) (hd : d ≠ 0) (uh : U h) : ∀ (t k : Nat), t ≤ 64 →
    turnstileref03_Wide_DivMod.l0 (k + 3 * t) d (h / 2 ^ t % d) ((63 + t : Nat) : Int) h l (h / 2 ^ t / d) 0 = turnstileref03_Wide_DivMod.l0 k d (h % d) 63 h l (h / d) 0
  | 0, k, _ => by simp
  | t + 1, k, ht => by
    have hd0 : 0 < d := by unfold U at ud; omega
    have w1 : wrap64 (((63 + (t + 1) : Nat) : Int) - 64) = (t : Int) := by unfold wrap64; omega
    have w2 : wrap64 (((63 + (t + 1) : Nat) : Int) - 1) = ((63 + t : Nat) : Int) := by unfold wrap64; omega
    rw [show k + 3 * (t + 1) = k + 3 * t + 2 + 1 by omega, turnstileref03_Wide_DivMod.l0, if_pos (by omega), if_pos (by omega), w1, if_pos (by omega), shr_bit uh t (by omega)]
    have hp : (0 : Int) ≤ h / 2 ^ t := Int.ediv_nonneg uh.1 (Int.le_of_lt (Int.pow_pos (by decide)))
    have hb : h / d < 18446744073709551616 := Int.lt_of_le_of_lt (Int.ediv_le_self _ uh.1) uh.2
    rw [j1_step (M := h / 2 ^ t) ud hd hp (by rw [half_of]) rfl w2 (h / 2 ^ (t + 1) / d) (by rw [if_pos (by omega)]) (by rw [half_of]) (div_bound uh.1 hd0 hb t), if_pos (by omega), if_pos (by omega)]
    exact dm_high ud hd uh t k (by omega)
/-- The low half, from its bit t - 1 on. -/
theorem dm_low {d h l r0 qh : Int} (ud : U d) (hd : d ≠ 0) (ul : U l) (h0 : 0 ≤ r0) (h1 : r0 < d) : ∀ (t k : Nat), t ≤ 64 →
    turnstileref03_Wide_DivMod.l0 (k + 1 + 3 * t) d ((r0 * 18446744073709551616 + l) / 2 ^ t % d) ((t : Int) - 1) h l qh ((r0 * 18446744073709551616 + l) / 2 ^ t / d) = some (qh, (r0 * 18446744073709551616 + l) / d, (r0 * 18446744073709551616 + l) % d)
  | 0, k, _ => by
    rw [turnstileref03_Wide_DivMod.l0, if_neg (by omega)]; simp
  | t + 1, k, ht => by
    have hd0 : 0 < d := by unfold U at ud; omega
    have w2 : wrap64 (((t + 1 : Nat) : Int) - 1 - 1) = (t : Int) - 1 := by unfold wrap64; omega
    have w3 : ((t + 1 : Nat) : Int) - 1 = (t : Int) := by omega
    rw [w3] at w2
    rw [w3, show k + 1 + 3 * (t + 1) = k + 1 + 3 * t + 2 + 1 by omega, turnstileref03_Wide_DivMod.l0, if_pos (by omega), if_neg (by omega), if_pos (by omega), shr_bit ul t (by omega)]
    have hY : 0 ≤ r0 * 18446744073709551616 + l := by unfold U at ul; omega
    have hp : (0 : Int) ≤ (r0 * 18446744073709551616 + l) / 2 ^ t := Int.ediv_nonneg hY (Int.le_of_lt (Int.pow_pos (by decide)))
    have hb : (r0 * 18446744073709551616 + l) / d < 18446744073709551616 := by
      rw [Int.ediv_lt_iff_lt_mul hd0]; unfold U at ul; omega
    rw [j1_step (M := (r0 * 18446744073709551616 + l) / 2 ^ t) ud hd hp (by rw [half_of]) (bit_of r0 l t (by omega)).symm w2 ((r0 * 18446744073709551616 + l) / 2 ^ (t + 1) / d) (by rw [if_neg (by omega)]) (by rw [half_of]) (div_bound hY hd0 hb t), if_neg (by omega), if_neg (by omega)]
    exact dm_low ud hd ul h0 h1 t k (by omega)
/-- The reference's DivMod. -/
theorem RefDivMod {h l d : Int} (uh : U h) (ul : U l) (ud : U d) (k : Nat) (hk : 400 ≤ k) :
    turnstileref03_Wide_DivMod.f k h l d = some (if d = 0 then (0, 0, 0) else ((W ((h * 18446744073709551616 + l) / d)).1, (W ((h * 18446744073709551616 + l) / d)).2, (h * 18446744073709551616 + l) % d)) := by
  unfold turnstileref03_Wide_DivMod.f
  by_cases hd : d = 0
  · rw [if_pos hd, if_pos hd]
  · rw [if_neg hd, if_neg hd]
    have hd0 : 0 < d := by unfold U at ud; omega
    obtain ⟨m, rfl⟩ : ∃ m, k = m + 1 + 3 * 64 + 3 * 64 := ⟨k - 385, by omega⟩
    have z1 : h / 2 ^ 64 = 0 := by unfold U at uh; omega
    have e1 := dm_high (l := l) ud hd uh 64 (m + 1 + 3 * 64) (by omega)
    rw [z1] at e1
    simp only [Int.zero_emod, Int.zero_ediv] at e1
    rw [show ((63 + 64 : Nat) : Int) = 127 from rfl] at e1
    rw [e1]
    have h0 : 0 ≤ h % d := Int.emod_nonneg _ hd
    have h1 : h % d < d := Int.emod_lt_of_pos _ hd0
    have z2 : (h % d * 18446744073709551616 + l) / 2 ^ 64 = h % d := by unfold U at ul; omega
    have e2 := dm_low (h := h) (qh := h / d) ud hd ul h0 h1 64 m (by omega)
    rw [z2, Int.emod_eq_of_lt h0 h1, Int.ediv_eq_zero_of_lt h0 h1] at e2
    rw [show ((64 : Nat) : Int) - 1 = 63 from rfl] at e2
    rw [e2]
    have hs := Int.mul_ediv_add_emod h d
    have hY := Int.mul_ediv_add_emod (h % d * 18446744073709551616 + l) d
    have hY0 : 0 ≤ (h % d * 18446744073709551616 + l) % d := Int.emod_nonneg _ hd
    have hY1 : (h % d * 18446744073709551616 + l) % d < d := Int.emod_lt_of_pos _ hd0
    have hb : (h % d * 18446744073709551616 + l) / d < 18446744073709551616 := by
      rw [Int.ediv_lt_iff_lt_mul hd0]; unfold U at ul; omega
    have hb0 : 0 ≤ (h % d * 18446744073709551616 + l) / d := Int.ediv_nonneg (by unfold U at ul; omega) (by omega)
    generalize (h % d * 18446744073709551616 + l) / d = q2 at *
    generalize (h % d * 18446744073709551616 + l) % d = r2 at *
    generalize h / d = q1 at *
    generalize h % d = r1 at *
    have := (Int.ediv_emod_unique (a := h * 18446744073709551616 + l) (b := d) (q := q1 * 18446744073709551616 + q2) (r := r2) hd0).2 ⟨by grind, hY0, hY1⟩
    rw [this.1, this.2, W_of ⟨hb0, hb⟩]
end Go.Proofs.Ythnpgilknoiaaaa.M
