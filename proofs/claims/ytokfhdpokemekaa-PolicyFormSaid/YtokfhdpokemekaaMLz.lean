/- bits.Len64, bits.Div64 and DivMod: what the printed functions compute. -/
import Derived.Test.YtokfhdpokemekaaMSat
import Derived.Test.YtokfhdpokemekaaQx10
import Derived.Test.YtokfhdpokemekaaQx8
import Derived.Test.YtokfhdpokemekaaQx9
namespace Go.Proofs.Ytokfhdpokemekaa.M
set_option linter.unusedVariables false
open Go.RowKit Go.Proofs.Ytokfhdpokemekaa.Q Go.Proofs.YtokfhdpokemekaaW.PrintWords Go.Proofs.YtokfhdpokemekaaW.PrintMore

def T8 : ByteArray := (⟨#[0, 1, 2, 2, 3, 3, 3, 3, 4, 4, 4, 4, 4, 4, 4, 4, 5, 5, 5, 5, 5, 5, 5, 5, 5, 5, 5, 5, 5, 5, 5, 5, 6, 6, 6, 6, 6, 6, 6, 6, 6, 6, 6, 6, 6, 6, 6, 6, 6, 6, 6, 6, 6, 6, 6, 6, 6, 6, 6, 6, 6, 6, 6, 6, 7, 7, 7, 7, 7, 7, 7, 7, 7, 7, 7, 7, 7, 7, 7, 7, 7, 7, 7, 7, 7, 7, 7, 7, 7, 7, 7, 7, 7, 7, 7, 7, 7, 7, 7, 7, 7, 7, 7, 7, 7, 7, 7, 7, 7, 7, 7, 7, 7, 7, 7, 7, 7, 7, 7, 7, 7, 7, 7, 7, 7, 7, 7, 7, 8, 8, 8, 8, 8, 8, 8, 8, 8, 8, 8, 8, 8, 8, 8, 8, 8, 8, 8, 8, 8, 8, 8, 8, 8, 8, 8, 8, 8, 8, 8, 8, 8, 8, 8, 8, 8, 8, 8, 8, 8, 8, 8, 8, 8, 8, 8, 8, 8, 8, 8, 8, 8, 8, 8, 8, 8, 8, 8, 8, 8, 8, 8, 8, 8, 8, 8, 8, 8, 8, 8, 8, 8, 8, 8, 8, 8, 8, 8, 8, 8, 8, 8, 8, 8, 8, 8, 8, 8, 8, 8, 8, 8, 8, 8, 8, 8, 8, 8, 8, 8, 8, 8, 8, 8, 8, 8, 8, 8, 8, 8, 8, 8, 8, 8, 8, 8, 8, 8, 8, 8, 8, 8, 8, 8, 8, 8, 8]⟩ : ByteArray)
theorem T8_eq : T8 = (⟨#[0, 1, 2, 2, 3, 3, 3, 3, 4, 4, 4, 4, 4, 4, 4, 4, 5, 5, 5, 5, 5, 5, 5, 5, 5, 5, 5, 5, 5, 5, 5, 5, 6, 6, 6, 6, 6, 6, 6, 6, 6, 6, 6, 6, 6, 6, 6, 6, 6, 6, 6, 6, 6, 6, 6, 6, 6, 6, 6, 6, 6, 6, 6, 6, 7, 7, 7, 7, 7, 7, 7, 7, 7, 7, 7, 7, 7, 7, 7, 7, 7, 7, 7, 7, 7, 7, 7, 7, 7, 7, 7, 7, 7, 7, 7, 7, 7, 7, 7, 7, 7, 7, 7, 7, 7, 7, 7, 7, 7, 7, 7, 7, 7, 7, 7, 7, 7, 7, 7, 7, 7, 7, 7, 7, 7, 7, 7, 7, 8, 8, 8, 8, 8, 8, 8, 8, 8, 8, 8, 8, 8, 8, 8, 8, 8, 8, 8, 8, 8, 8, 8, 8, 8, 8, 8, 8, 8, 8, 8, 8, 8, 8, 8, 8, 8, 8, 8, 8, 8, 8, 8, 8, 8, 8, 8, 8, 8, 8, 8, 8, 8, 8, 8, 8, 8, 8, 8, 8, 8, 8, 8, 8, 8, 8, 8, 8, 8, 8, 8, 8, 8, 8, 8, 8, 8, 8, 8, 8, 8, 8, 8, 8, 8, 8, 8, 8, 8, 8, 8, 8, 8, 8, 8, 8, 8, 8, 8, 8, 8, 8, 8, 8, 8, 8, 8, 8, 8, 8, 8, 8, 8, 8, 8, 8, 8, 8, 8, 8, 8, 8, 8, 8, 8, 8, 8, 8]⟩ : ByteArray) := rfl
def v8 (n : Nat) : Int := if n = 0 then (0 : Int) else if n < 2 then 1 else if n < 4 then 2 else if n < 8 then 3 else if n < 16 then 4 else if n < 32 then 5 else if n < 64 then 6 else if n < 128 then 7 else 8
theorem tab8n : ∀ n : Nat, n < 256 → bt T8 (n : Int) = v8 n := by
  decide +kernel
theorem tab8 {i : Int} (h0 : 1 ≤ i) (h1 : i < 256) : ∃ v : Int, bt T8 i = v ∧ ((v = 1 ∧ 1 ≤ i ∧ i < 2) ∨ (v = 2 ∧ 2 ≤ i ∧ i < 4) ∨ (v = 3 ∧ 4 ≤ i ∧ i < 8) ∨ (v = 4 ∧ 8 ≤ i ∧ i < 16) ∨ (v = 5 ∧ 16 ≤ i ∧ i < 32) ∨ (v = 6 ∧ 32 ≤ i ∧ i < 64) ∨ (v = 7 ∧ 64 ≤ i ∧ i < 128) ∨ (v = 8 ∧ 128 ≤ i ∧ i < 256)) := by
  obtain ⟨n, rfl⟩ := Int.eq_ofNat_of_zero_le (show 0 ≤ i by omega)
  refine ⟨_, tab8n n (by omega), ?_⟩
  unfold v8
  (repeat' split) <;> omega
theorem w64 {n : Int} (h0 : -9223372036854775808 ≤ n) (h1 : n < 9223372036854775808) : wrap64 n = n := by unfold wrap64; omega
set_option maxHeartbeats 1600000 in
/-- How far a number may be moved to the left: its head becomes the 64th place. -/
theorem Lz {x : Int} (h : U x) (hx : x ≠ 0) (k : Nat) (hk : 1 ≤ k) : ∃ s : Nat, s ≤ 63 ∧ bits_LeadingZeros64.f k x = some (s : Int) ∧ 9223372036854775808 ≤ x * 2 ^ s ∧ x * 2 ^ s < 18446744073709551616 := by
  obtain ⟨k, rfl⟩ : ∃ m, k = m + 1 := ⟨k - 1, by omega⟩
  have fin : ∀ (c v : Int) (t : Int), bits_Len64.f (k + 1) x = some (c + v) → ((v = 1 ∧ 1 ≤ t ∧ t < 2) ∨ (v = 2 ∧ 2 ≤ t ∧ t < 4) ∨ (v = 3 ∧ 4 ≤ t ∧ t < 8) ∨ (v = 4 ∧ 8 ≤ t ∧ t < 16) ∨ (v = 5 ∧ 16 ≤ t ∧ t < 32) ∨ (v = 6 ∧ 32 ≤ t ∧ t < 64) ∨ (v = 7 ∧ 64 ≤ t ∧ t < 128) ∨ (v = 8 ∧ 128 ≤ t ∧ t < 256)) → ((c = 0 ∧ t = x / 1) ∨ (c = 8 ∧ t = x / 256) ∨ (c = 16 ∧ t = x / 65536) ∨ (c = 24 ∧ t = x / 16777216) ∨ (c = 32 ∧ t = x / 4294967296) ∨ (c = 40 ∧ t = x / 1099511627776) ∨ (c = 48 ∧ t = x / 281474976710656) ∨ (c = 56 ∧ t = x / 72057594037927936)) →
      ∃ s : Nat, s ≤ 63 ∧ bits_LeadingZeros64.f (k + 1) x = some (s : Int) ∧ 9223372036854775808 ≤ x * 2 ^ s ∧ x * 2 ^ s < 18446744073709551616 := by
    intro c v t hl hv hc
    refine ⟨(64 - c - v).toNat, by omega, ?_, ?_⟩
    · unfold bits_LeadingZeros64.f; rw [hl]; simp only [Option.bind_some]; congr 1; rw [w64 (by omega) (by omega)]; omega
    · unfold U at h
      rcases hv with ⟨rfl, hv⟩ | ⟨rfl, hv⟩ | ⟨rfl, hv⟩ | ⟨rfl, hv⟩ | ⟨rfl, hv⟩ | ⟨rfl, hv⟩ | ⟨rfl, hv⟩ | ⟨rfl, hv⟩ <;> rcases hc with ⟨rfl, hc⟩ | ⟨rfl, hc⟩ | ⟨rfl, hc⟩ | ⟨rfl, hc⟩ | ⟨rfl, hc⟩ | ⟨rfl, hc⟩ | ⟨rfl, hc⟩ | ⟨rfl, hc⟩ <;> (simp only [Int.reduceSub, Int.reduceToNat, Int.reducePow]; omega)
  have step : ∀ (y c : Int), 0 < y → y < 4294967296 → 0 ≤ c → c ≤ 32 → ∃ d v t : Int, bits_Len64.j0 (k + 1) y c = some (c + d + v) ∧ ((v = 1 ∧ 1 ≤ t ∧ t < 2) ∨ (v = 2 ∧ 2 ≤ t ∧ t < 4) ∨ (v = 3 ∧ 4 ≤ t ∧ t < 8) ∨ (v = 4 ∧ 8 ≤ t ∧ t < 16) ∨ (v = 5 ∧ 16 ≤ t ∧ t < 32) ∨ (v = 6 ∧ 32 ≤ t ∧ t < 64) ∨ (v = 7 ∧ 64 ≤ t ∧ t < 128) ∨ (v = 8 ∧ 128 ≤ t ∧ t < 256)) ∧ ((d = 0 ∧ t = y / 1) ∨ (d = 8 ∧ t = y / 256) ∨ (d = 16 ∧ t = y / 65536) ∨ (d = 24 ∧ t = y / 16777216)) := by
    intro y c hy hy2 hc hc2
    rw [bits_Len64.j0, ← T8_eq]
    by_cases h1 : y ≥ 65536
    · rw [if_pos h1]
      by_cases h2 : y / 65536 ≥ 256
      · rw [if_pos h2, if_pos (by omega), if_pos (by omega)]
        obtain ⟨v, e, hv⟩ := @tab8 (y / 65536 / 256 % 256) (by omega) (by omega)
        rw [e]; clear e
        refine ⟨24, v, y / 65536 / 256 % 256, ?_, hv, by omega⟩
        congr 1
        rw [w64 (n := c + 16) (by omega) (by omega), w64 (n := c + 16 + 8) (by omega) (by omega), w64 (n := v) (by omega) (by omega), w64 (by omega) (by omega)]; omega
      · rw [if_neg h2, if_pos (by omega), if_pos (by omega)]
        obtain ⟨v, e, hv⟩ := @tab8 (y / 65536 % 256) (by omega) (by omega)
        rw [e]; clear e
        refine ⟨16, v, y / 65536 % 256, ?_, hv, by omega⟩
        congr 1
        rw [w64 (n := c + 16) (by omega) (by omega), w64 (n := v) (by omega) (by omega), w64 (by omega) (by omega)]
    · rw [if_neg h1]
      by_cases h2 : y ≥ 256
      · rw [if_pos h2, if_pos (by omega), if_pos (by omega)]
        obtain ⟨v, e, hv⟩ := @tab8 (y / 256 % 256) (by omega) (by omega)
        rw [e]; clear e
        refine ⟨8, v, y / 256 % 256, ?_, hv, by omega⟩
        congr 1
        rw [w64 (n := c + 8) (by omega) (by omega), w64 (n := v) (by omega) (by omega), w64 (by omega) (by omega)]
      · rw [if_neg h2, if_pos (by omega), if_pos (by omega)]
        obtain ⟨v, e, hv⟩ := @tab8 (y % 256) (by omega) (by omega)
        rw [e]; clear e
        refine ⟨0, v, y % 256, ?_, hv, by omega⟩
        congr 1
        rw [w64 (n := v) (by omega) (by omega), w64 (by omega) (by omega)]; omega
  by_cases hb : x ≥ 4294967296
  · obtain ⟨d, v, t, e, hv, hd⟩ := step (x / 4294967296) 32 (by omega) (by unfold U at h; omega) (by omega) (by omega)
    refine fin (32 + d) v t ?_ hv (by clear hv e; rcases hd with ⟨rfl, rfl⟩ | ⟨rfl, rfl⟩ | ⟨rfl, rfl⟩ | ⟨rfl, rfl⟩ <;> omega)
    have hf : bits_Len64.f (k + 1) x = bits_Len64.j0 (k + 1) (x / 4294967296) 32 := if_pos hb
    exact hf.trans e
  · obtain ⟨d, v, t, e, hv, hd⟩ := step x 0 (by unfold U at h; omega) (by omega) (by omega) (by omega)
    refine fin (0 + d) v t ?_ hv (by clear hv e; rcases hd with ⟨rfl, rfl⟩ | ⟨rfl, rfl⟩ | ⟨rfl, rfl⟩ | ⟨rfl, rfl⟩ <;> omega)
    have hf : bits_Len64.f (k + 1) x = bits_Len64.j0 (k + 1) x 0 := if_neg hb
    exact hf.trans e
end Go.Proofs.Ytokfhdpokemekaa.M
