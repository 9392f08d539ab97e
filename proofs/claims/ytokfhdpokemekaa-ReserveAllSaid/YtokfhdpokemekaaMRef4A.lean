/- What the reference of layer 4 computes: the same. -/
import Derived.Test.YtokfhdpokemekaaMGcraL
import Derived.Test.YtokfhdpokemekaaQx23
import Derived.Test.YtokfhdpokemekaaQx24
import Derived.Test.YtokfhdpokemekaaQx25
namespace Go.Proofs.Ytokfhdpokemekaa.M
set_option linter.unusedVariables false
open Go.RowKit Go.Proofs.Ytokfhdpokemekaa.Q Go.Proofs.YtokfhdpokemekaaW.PrintWords Go.Proofs.YtokfhdpokemekaaW.PrintMore
theorem r4of {x : Int} (h : U x) : turnstileref04_of.f x = some (W x) := by
  unfold turnstileref04_of.f W U at *; congr 2 <;> omega
theorem r4plus {a b : Int} (ha : V a) (hb : V b) (h : V (a + b)) : turnstileref04_plus.f (W a).1 (W a).2 (W b).1 (W b).2 = some (W (a + b)) := by
  unfold turnstileref04_plus.f W V at *
  simp only [wr]
  by_cases h1 : (a % 18446744073709551616 + b % 18446744073709551616) % 18446744073709551616 < a % 18446744073709551616
  · rw [if_pos h1]; congr 2 <;> omega
  · rw [if_neg h1]; congr 2 <;> omega
theorem r4above {a b : Int} (ha : V a) (hb : V b) : turnstileref04_above.f (W a).1 (W a).2 (W b).1 (W b).2 = some (decide (b < a)) := by
  unfold turnstileref04_above.f W V at *
  by_cases h1 : a / 18446744073709551616 > b / 18446744073709551616
  · rw [if_pos h1, decide_eq_true (by omega)]
  · rw [if_neg h1]
    by_cases h2 : a / 18446744073709551616 = b / 18446744073709551616
    · rw [if_pos h2]; congr 1; rw [decide_eq_decide]; omega
    · rw [if_neg h2, decide_eq_false (by omega)]
theorem r4times {a b : Int} (ha : U a) (hb : U b) : turnstileref04_times.f a b = some (W (a * b)) := by
  unfold turnstileref04_times.f
  rw [tdiv_of ha.1, tmod_of ha.1, tdiv_of hb.1, tmod_of hb.1]
  have hx : a = (a / 4294967296) * 4294967296 + a % 4294967296 := by omega
  have hy : b = (b / 4294967296) * 4294967296 + b % 4294967296 := by omega
  have hx1 : 0 ≤ a / 4294967296 ∧ a / 4294967296 ≤ 4294967295 := by unfold U at ha; omega
  have hy1 : 0 ≤ b / 4294967296 ∧ b / 4294967296 ≤ 4294967295 := by unfold U at hb; omega
  have hx0 : 0 ≤ a % 4294967296 ∧ a % 4294967296 ≤ 4294967295 := by omega
  have hy0 : 0 ≤ b % 4294967296 ∧ b % 4294967296 ≤ 4294967295 := by omega
  have hab : a * b = ((a / 4294967296) * (b / 4294967296)) * 18446744073709551616 + ((a / 4294967296) * (b % 4294967296) + (a % 4294967296) * (b / 4294967296)) * 4294967296 + (a % 4294967296) * (b % 4294967296) := by
    generalize a / 4294967296 = x1 at *
    generalize b / 4294967296 = y1 at *
    generalize a % 4294967296 = x0 at *
    generalize b % 4294967296 = y0 at *
    subst hx hy
    grind
  rw [wr_id (n := a / 4294967296) (U_le hx1.1 (by omega)), wr_id (n := b / 4294967296) (U_le hy1.1 (by omega))]
  have b11 := mul_lt hx1.1 hy1.1 hx1.2 hy1.2
  have b10 := mul_lt hx1.1 hy0.1 hx1.2 hy0.2
  have b01 := mul_lt hx0.1 hy1.1 hx0.2 hy1.2
  have b00 := mul_lt hx0.1 hy0.1 hx0.2 hy0.2
  generalize hp11 : (a / 4294967296) * (b / 4294967296) = p11 at *
  generalize hp10 : (a / 4294967296) * (b % 4294967296) = p10 at *
  generalize hp01 : (a % 4294967296) * (b / 4294967296) = p01 at *
  generalize hp00 : (a % 4294967296) * (b % 4294967296) = p00 at *
  have u11 : U p11 := by unfold U; omega
  have u10 : U p10 := by unfold U; omega
  have u01 : U p01 := by unfold U; omega
  have u00 : U p00 := by unfold U; omega
  rw [wr_id u11, wr_id u10, wr_id u01, wr_id u00, r4of u10, r4of u01, r4of u00]
  simp only [Option.bind_some]
  rw [r4plus (V_U u10) (V_U u01) (by unfold V; omega)]
  simp only [Option.bind_some]
  have hW : W (p11 * 18446744073709551616) = (p11, 0) := by unfold W; congr 1 <;> omega
  have e1 : turnstileref04_plus.f p11 0 (W p00).1 (W p00).2 = turnstileref04_plus.f (W (p11 * 18446744073709551616)).1 (W (p11 * 18446744073709551616)).2 (W p00).1 (W p00).2 := by rw [hW]
  rw [e1, r4plus (by unfold V; omega) (V_U u00) (by unfold V; omega)]
  simp only [Option.bind_some]
  have e2 : (IntKind.u64.wrap (IntKind.u64.wrap ((W (p10 + p01)).1 * 4294967296) + IntKind.u64.wrap ((W (p10 + p01)).2.tdiv 4294967296))) = (W ((p10 + p01) * 4294967296)).1 := by
    unfold W; simp only
    rw [tdiv_of (by omega)]
    simp only [wr]; omega
  have e3 : IntKind.u64.wrap ((W (p10 + p01)).2 * 4294967296) = (W ((p10 + p01) * 4294967296)).2 := by
    unfold W; simp only [wr]; omega
  rw [e2, e3, r4plus (by unfold V; omega) (by unfold V; omega) (by unfold V; omega)]
  simp only [Option.bind_some]
  rw [hab, show p11 * 18446744073709551616 + p00 + (p10 + p01) * 4294967296 = p11 * 18446744073709551616 + (p10 + p01) * 4294967296 + p00 by omega]
theorem r4later {a b : Int} : turnstileref04_later.f a b = some (mx a b) := by
  unfold turnstileref04_later.f mx
  by_cases h : a > b
  · rw [if_pos h, if_neg (by omega)]
  · rw [if_neg h]
    by_cases h2 : a < b
    · rw [if_pos h2]
    · rw [if_neg h2]; congr 1; omega
theorem r4fits {g s t now n : Int} (hg : U g) (hs : U s) (ht : U t) (hw : U now) (hn : U n) (k : Nat) : turnstileref04_fits.f (k + 1) g s t now n = some (gOk g s t now n) := by
  have hm := mx_U ht hw
  have hmf := mul_facts hg hn
  have hgo : gOk g s t now n = decide (1 ≤ n ∧ 1 ≤ g ∧ n * g + mx t now ≤ 18446744073709551615 ∧ n * g - g + mx t now ≤ now + s) := rfl
  have um : U 18446744073709551615 := by unfold U; omega
  unfold turnstileref04_fits.f
  by_cases h0 : n = 0
  · rw [if_pos h0, turnstileref04_fits.j0, if_pos rfl, hgo, decide_eq_false (by omega)]
  rw [if_neg h0]
  by_cases h1 : g = 0
  · rw [show (g == 0) = true by simpa using h1, turnstileref04_fits.j0, if_pos rfl, hgo, decide_eq_false (by omega)]
  have hn1 : 1 ≤ n := by unfold U at hn; omega
  have hg1 : 1 ≤ g := by unfold U at hg; omega
  obtain ⟨hv, hle⟩ := hmf
  obtain ⟨hle1, hle2⟩ := hle hn1 hg1
  have hw' := hw; have hs' := hs; have hm' := hm; have hn' := hn; have hv' := hv; have hp := V_mul hn hg
  unfold U at hw' hs' hm' hn'
  unfold V at hv'
  have e2 : (n - 1) * g = n * g - g := by rw [Int.sub_mul, Int.one_mul]
  rw [show (g == 0) = false by simpa using h1, turnstileref04_fits.j0, if_neg (by simp), r4later]
  simp only [Option.bind_some]
  rw [r4of hm, wr_id (n := n - 1) (U_le (by omega) (by omega)), r4times (U_le (by omega) (by omega)) hg, r4of hw, r4of hs, e2, r4of um, r4times hn hg]
  simp only [Option.bind_some]
  rw [r4plus (V_U hm) (by unfold V; omega) (by unfold V; omega), r4plus (V_U hw) (V_U hs) (by unfold V; omega), r4plus (V_U hm) hv (by unfold V; omega)]
  simp only [Option.bind_some]
  rw [r4above (by unfold V; omega) (by unfold V; omega), r4above (by unfold V; omega) (V_U um)]
  simp only [Option.bind_some]
  rw [hgo]
  by_cases h3 : now + s < mx t now + (n * g - g)
  · rw [decide_eq_true h3, if_pos rfl, decide_eq_false (by omega)]
  · rw [decide_eq_false h3, if_neg (by simp)]
    congr 1
    by_cases h4 : 18446744073709551615 < mx t now + n * g
    · rw [decide_eq_true h4, decide_eq_false (by omega)]; rfl
    · rw [decide_eq_false h4, decide_eq_true (by omega)]; rfl
theorem r4Admit {g s t now n : Int} (hg : U g) (hs : U s) (ht : U t) (hw : U now) (hn : U n) (k : Nat) : turnstileref04_Admit.f (k + 1) g s t now n = some (if gOk g s t now n = true then (mx t now + n * g, true) else (t, false)) := by
  unfold turnstileref04_Admit.f
  rw [r4fits hg hs ht hw hn]
  simp only [Option.bind_some]
  cases h : gOk g s t now n with
  | false => rfl
  | true =>
    have h1 := gOk_iff.1 h
    have hm := mx_U ht hw
    have hv := (mul_facts hg hn).1
    simp only [if_true]
    rw [r4later]
    simp only [Option.bind_some]
    rw [r4of hm, r4times hn hg]
    simp only [Option.bind_some]
    unfold V U at *
    rw [r4plus (V_U hm) hv (by unfold V; omega)]
    simp only [Option.bind_some]
    congr 2
    unfold W; simp only; omega
theorem r4loop {g s t n : Int} (hg : U g) (hs : U s) (ht : U t) (hn : U n) : ∀ (d : Nat) (k : Nat) (no yes : Int), 0 ≤ no → no < yes → yes ≤ t → yes - no ≤ 2 ^ d → d + 2 ≤ k → gOk g s t no n = false → gOk g s t yes n = true →
    ∃ r, turnstileref04_Retry.l0 k g s t n no yes = some r ∧ no < r ∧ r ≤ yes ∧ gOk g s t r n = true ∧ gOk g s t (r - 1) n = false := by
  intro d
  have ht' := ht
  unfold U at ht'
  induction d with
  | zero =>
    intro k no yes h0 h1 h2 h3 hk hno hyes
    obtain ⟨k, rfl⟩ : ∃ j, k = j + 1 := ⟨k - 1, by omega⟩
    rw [turnstileref04_Retry.l0, wr_id (n := yes - no) (U_le (by omega) (by omega)), if_neg (by simp at h3; omega)]
    have : yes - 1 = no := by simp at h3; omega
    exact ⟨yes, rfl, h1, Int.le_refl _, hyes, by rw [this]; exact hno⟩
  | succ d ih =>
    intro k no yes h0 h1 h2 h3 hk hno hyes
    obtain ⟨k, rfl⟩ : ∃ j, k = j + 1 := ⟨k - 1, by omega⟩
    rw [turnstileref04_Retry.l0, wr_id (n := yes - no) (U_le (by omega) (by omega))]
    have h3' : yes - no ≤ 2 * 2 ^ d := by rw [Int.pow_succ] at h3; omega
    by_cases hc : yes - no > 1
    · obtain ⟨k, rfl⟩ : ∃ j, k = j + 1 := ⟨k - 1, by omega⟩
      rw [if_pos hc, tdiv_of (by omega), wr_id (n := (yes - no) / 2) (U_le (by omega) (by omega)), wr_id (n := no + (yes - no) / 2) (U_le (by omega) (by omega)), r4fits hg hs ht (U_le (by omega) (by omega)) hn]
      simp only [Option.bind_some]
      cases hmid : gOk g s t (no + (yes - no) / 2) n with
      | true =>
        rw [if_pos rfl]
        obtain ⟨r, e, a1, a2, a3, a4⟩ := ih (k + 1) no (no + (yes - no) / 2) h0 (by omega) (by omega) (by omega) (by omega) hno hmid
        exact ⟨r, e, a1, by omega, a3, a4⟩
      | false =>
        rw [if_neg (by simp)]
        obtain ⟨r, e, a1, a2, a3, a4⟩ := ih (k + 1) (no + (yes - no) / 2) yes (by omega) (by omega) h2 (by omega) (by omega) hmid hyes
        exact ⟨r, e, by omega, a2, a3, a4⟩
    · rw [if_neg hc]
      have : yes - 1 = no := by omega
      exact ⟨yes, rfl, h1, Int.le_refl _, hyes, by rw [this]; exact hno⟩
theorem r4Retry {g s t now n : Int} (hg : U g) (hs : U s) (ht : U t) (hw : U now) (hn : U n) (k : Nat) (hk : 70 ≤ k) : turnstileref04_Retry.f (k + 1) g s t now n = some (gRetry g s t now n) := by
  obtain ⟨l1, l2⟩ := least hg hs ht hw hn
  have hw' := hw; have ht' := ht
  unfold U at hw' ht'
  have hnt := @mx_le now t
  unfold turnstileref04_Retry.f
  rw [r4fits hg hs ht hw hn, r4fits hg hs ht ht hn]
  simp only [Option.bind_some]
  cases h1 : gOk g s t now n with
  | true =>
    rw [if_pos rfl]
    by_cases hr : gRetry g s t now n = 18446744073709551615
    · have := l1 hr now hw (Int.le_refl _)
      rw [h1] at this; cases this
    · obtain ⟨a1, a2, a3, a4⟩ := l2 hr
      rcases Int.lt_or_le now (gRetry g s t now n) with h | h
      · have := a4 now (Int.le_refl _) h
        rw [h1] at this; cases this
      · rw [show gRetry g s t now n = now by omega]
  | false =>
    rw [if_neg (by simp)]
    by_cases h2 : now ≥ t
    · rw [if_pos h2, turnstileref04_Retry.j0, if_pos rfl]
      by_cases hr : gRetry g s t now n = 18446744073709551615
      · rw [hr]
      · obtain ⟨a1, a2, a3, a4⟩ := l2 hr
        rw [show gRetry g s t now n = now by omega, h1] at a3
        cases a3
    · rw [if_neg h2]
      cases h3 : gOk g s t t n with
      | false =>
        rw [Bool.not_false, turnstileref04_Retry.j0, if_pos rfl]
        by_cases hr : gRetry g s t now n = 18446744073709551615
        · rw [hr]
        · obtain ⟨a1, a2, a3, a4⟩ := l2 hr
          have := mono_time a3 (show gRetry g s t now n ≤ t by omega) (Int.le_refl _)
          rw [h3] at this; cases this
      | true =>
        rw [Bool.not_true, turnstileref04_Retry.j0, if_neg (by simp)]
        obtain ⟨r, e, b1, b2, b3, b4⟩ := r4loop hg hs ht hn 64 k now t hw'.1 (by omega) (Int.le_refl _) (by omega) (by omega) h1 h3
        rw [e]
        by_cases hr : gRetry g s t now n = 18446744073709551615
        · have := l1 hr t ht (by omega)
          rw [h3] at this; cases this
        · obtain ⟨a1, a2, a3, a4⟩ := l2 hr
          congr 1
          rcases Int.lt_or_le (gRetry g s t now n) r with h | h
          · have := mono_time a3 (show gRetry g s t now n ≤ r - 1 by omega) (by omega)
            rw [b4] at this; cases this
          · rcases Int.lt_or_le r (gRetry g s t now n) with h' | h'
            · have := a4 r (by omega) h'
              rw [b3] at this; cases this
            · omega
end Go.Proofs.Ytokfhdpokemekaa.M
