/- The reference's product of layer 3: the school's way, row by row. -/
import Derived.Test.YthnpgilknoiaaaaMRef3P
import Derived.Test.YthnpgilknoiaaaaQx11
import Derived.Test.YthnpgilknoiaaaaQx9
namespace Go.Proofs.Ythnpgilknoiaaaa.M
set_option linter.unusedVariables false
open Go.RowKit Go.Proofs.Ythnpgilknoiaaaa.Q Go.Proofs.YthnpgilknoiaaaaW.PrintWords
theorem pr_end {k : Nat} {x0 x1 p : List Int} {i : Int} {c : Int} {e e' : Int} (h1 : wrap64 (i + 8) = e) (h2 : wrap64 (i + 1) = e') (h0 : 0 ≤ e) (hl : e < (p.length : Int)) :
    turnstileref03_product.l1 (k + 1) x0 x1 p i c 8 = turnstileref03_product.l0 k x0 x1 (p.set e.toNat (IntKind.u64.wrap (rd p e + c))) e' := by
  rw [turnstileref03_product.l1, if_neg (by decide), h1, h2, if_pos h0, if_pos hl]
theorem pr_step {k : Nat} {x0 x1 p : List Int} {i j e e' : Int} {c s : Int} (hj : j < 8) (h1 : wrap64 (i + j) = e) (h2 : wrap64 (j + 1) = e') (h0 : 0 ≤ e) (hl : e < (p.length : Int)) (hi0 : 0 ≤ i) (hi : i < (x0.length : Int)) (hj0 : 0 ≤ j) (hj1 : j < (x1.length : Int))
    (hs : IntKind.u64.wrap (c + IntKind.u64.wrap (rd p e + IntKind.u64.wrap (rd x0 i * rd x1 j))) = s) :
    turnstileref03_product.l1 (k + 1) x0 x1 p i c j = turnstileref03_product.l1 k x0 x1 (p.set e.toNat (Int.tmod s 65536)) i (IntKind.u64.wrap (Int.tdiv s 65536)) e' := by
  rw [turnstileref03_product.l1, if_pos hj, h1, h2, if_pos h0, if_pos hl, if_pos hi0, if_pos hi, if_pos hj0, if_pos hj1, hs]
theorem wnat (a b : Nat) (h : a + b < 1000) : wrap64 ((a : Int) + (b : Int)) = ((a + b : Nat) : Int) := by
  have := wn64 (a + b) h
  rw [← this]; congr 1
theorem getD_set_ne {l : List Int} {i j : Nat} {x : Int} (h : i ≠ j) : (l.set i x).getD j 0 = l.getD j 0 := by
  rw [List.getD_eq_getElem?_getD, List.getElem?_set_ne h, ← List.getD_eq_getElem?_getD]
theorem prod_in {x0 x1 : List Int} (D0 : Digs x0) (D1 : Digs x1) (L0 : x0.length = 8) (L1 : x1.length = 8) (i : Nat) (hi : i < 8) : ∀ (m j k : Nat) (p : List Int) (c : Int), j + m = 8 → Digs p → p.length = 17 → 0 ≤ c ∧ c < 65536 → m + 1 ≤ k → p.getD (i + 8) 0 = 0 →
    ∃ p', Digs p' ∧ p'.length = 17 ∧ (∀ t, i + 8 < t → p'.getD t 0 = p.getD t 0) ∧ val p' = val p + c * 65536 ^ (i + j) + x0.getD i 0 * (val (x1.drop j) * 65536 ^ (i + j)) ∧
      ∃ k', k' + m + 1 = k ∧ turnstileref03_product.l1 k x0 x1 p i c j = turnstileref03_product.l0 k' x0 x1 p' ((i + 1 : Nat) : Int)
  | 0, j, k, p, c, hj, Dp, Lp, hc, hk, h0 => by
    obtain ⟨q, rfl⟩ : ∃ q, k = q + 1 := ⟨k - 1, by omega⟩
    obtain rfl : j = 8 := by omega
    refine ⟨p.set (i + 8) c, Dp.set _ hc, by simpa using Lp, fun t ht => getD_set_ne (by omega), ?_, q, by omega, ?_⟩
    · rw [val_set _ _ _ (by omega), h0, List.drop_eq_nil_of_le (by omega)]
      simp [val]
    · have e := pr_end (k := q) (x0 := x0) (x1 := x1) (p := p) (i := (i : Int)) (c := c) (wnat i 8 (by omega)) (wnat i 1 (by omega)) (by omega) (by omega)
      rw [rdN, h0, Int.toNat_natCast, Int.zero_add, wr_id (by unfold U; omega)] at e
      exact e
  | m + 1, j, k, p, c, hj, Dp, Lp, hc, hk, h0 => by
    obtain ⟨q, rfl⟩ : ∃ q, k = q + 1 := ⟨k - 1, by omega⟩
    have ba := D0.getD i
    have bb := D1.getD j
    have bp := Dp.getD (i + j)
    have hj1 : j < x1.length := by omega
    have hset : i + j < p.length := by omega
    have hvd := val_drop x1 j hj1
    have hvs := fun x => val_set p (i + j) x hset
    have hstep := fun s hs => pr_step (k := q) (x0 := x0) (x1 := x1) (p := p) (i := (i : Int)) (j := (j : Int)) (c := c) (s := s) (by omega) (wnat i j (by omega)) (wnat j 1 (by omega)) (by omega) (by omega) (by omega) (by omega) (by omega) (by omega) hs
    obtain ⟨a, ha⟩ : ∃ a, x0.getD i 0 = a := ⟨_, rfl⟩
    obtain ⟨b, hb⟩ : ∃ b, x1.getD j 0 = b := ⟨_, rfl⟩
    obtain ⟨y, hy⟩ : ∃ y, p.getD (i + j) 0 = y := ⟨_, rfl⟩
    simp only [rdN, Int.toNat_natCast, ha, hb, hy] at hstep
    rw [ha] at ba
    rw [hb] at bb hvd
    rw [hy] at bp
    simp only [hy] at hvs
    have Ha := Aside0.mk ha
    clear ha hb hy
    have hab := mul_lt ba.1 bb.1 (show a ≤ 65535 by omega) (show b ≤ 65535 by omega)
    have es : IntKind.u64.wrap (c + IntKind.u64.wrap (y + IntKind.u64.wrap (a * b))) = c + y + a * b := by
      clear hvd hvs hstep h0 Ha
      generalize a * b = ab at *
      rw [wr_id (n := ab) (by unfold U; omega), wr_id (n := y + ab) (by unfold U; omega), wr_id (by unfold U; omega)]
      omega
    have hrun := hstep _ es
    clear hstep es
    have us : 0 ≤ c + y + a * b ∧ c + y + a * b < 4294967296 := by
      clear hvd hvs hrun h0 Ha
      generalize a * b = ab at *
      omega
    have hs : ∃ s, s = c + y + a * b := ⟨_, rfl⟩
    obtain ⟨s, hs⟩ := hs
    rw [← hs] at hrun us
    have U1 : U s := by clear hvd hvs hrun h0 Ha hs; unfold U; omega
    rw [tm16 U1, td16 U1] at hrun
    have hlo : 0 ≤ s % 65536 ∧ s % 65536 < 65536 := by clear hvd hvs hrun h0 Ha hs; omega
    have hhi : 0 ≤ s / 65536 ∧ s / 65536 < 65536 := by clear hvd hvs hrun h0 Ha hs; omega
    obtain ⟨p', Dp', Lp', ht', hv', k', ek, hrun'⟩ := prod_in D0 D1 L0 L1 i hi m (j + 1) q (p.set (i + j) (s % 65536)) (s / 65536) (by omega) (Dp.set _ hlo) (by simpa using Lp) hhi (by omega)
      (by rw [getD_set_ne (by omega)]; exact h0)
    refine ⟨p', Dp', Lp', fun t ht => ?_, ?_, k', by omega, hrun.trans hrun'⟩
    · rw [ht' t ht, getD_set_ne (by omega)]
    · rw [Ha.out] at hv' ⊢
      rw [hv', hvs, hvd]
      have hsplit := Int.emod_add_mul_ediv s 65536
      have e3 : (65536 : Int) ^ (i + (j + 1)) = 65536 ^ (i + j) * 65536 := by rw [← Int.pow_succ]; rfl
      rw [e3]
      clear hrun hrun' hvs hvd hv' Ha
      generalize (65536 : Int) ^ (i + j) = B
      generalize val (x1.drop (j + 1)) = V'
      generalize val p = vp
      generalize s % 65536 = sr at *
      generalize s / 65536 = sq at *
      grind
theorem val_take : ∀ (l : List Int) (i : Nat), i < l.length → val (l.take (i + 1)) = val (l.take i) + l.getD i 0 * 65536 ^ i
  | [], i, h => by simp at h
  | d :: t, 0, h => by simp [val]
  | d :: t, i + 1, h => by
    have e := val_take t i (by simpa using h)
    simp only [List.take_succ_cons, val, List.getD_cons_succ, e, Int.pow_succ]
    grind
theorem prod_out {x0 x1 : List Int} (D0 : Digs x0) (D1 : Digs x1) (L0 : x0.length = 8) (L1 : x1.length = 8) : ∀ (m i k : Nat) (p : List Int), i + m = 8 → Digs p → p.length = 17 → m * 10 + 1 ≤ k → (∀ t, i + 8 ≤ t → p.getD t 0 = 0) → val p = val (x0.take i) * val x1 →
    ∃ p', Digs p' ∧ p'.length = 17 ∧ val p' = val x0 * val x1 ∧ turnstileref03_product.l0 k x0 x1 p (i : Int) = some p'
  | 0, i, k, p, hi, Dp, Lp, hk, h0, hv => by
    obtain ⟨q, rfl⟩ : ∃ q, k = q + 1 := ⟨k - 1, by omega⟩
    obtain rfl : i = 8 := by omega
    refine ⟨p, Dp, Lp, ?_, ?_⟩
    · rw [hv, List.take_of_length_le (by omega)]
    · rw [turnstileref03_product.l0, if_neg (by omega)]
  | m + 1, i, k, p, hi, Dp, Lp, hk, h0, hv => by
    obtain ⟨q, rfl⟩ : ∃ q, k = q + 1 := ⟨k - 1, by omega⟩
    obtain ⟨p', Dp', Lp', ht', hv', k', ek, hrun⟩ := prod_in D0 D1 L0 L1 i (by omega) 8 0 q p 0 (by omega) Dp Lp (by omega) (by omega) (h0 _ (by omega))
    obtain ⟨p2, D2, L2, v2, run2⟩ := prod_out D0 D1 L0 L1 m (i + 1) k' p' (by omega) Dp' Lp' (by omega) (fun t ht => by rw [ht' t (by omega)]; exact h0 t (by omega)) (by
      rw [hv', hv, val_take x0 i (by omega), List.drop_zero, Nat.add_zero]; grind)
    refine ⟨p2, D2, L2, v2, ?_⟩
    rw [turnstileref03_product.l0, if_pos (by omega)]
    exact hrun.trans run2
theorem Digs_of {n a0 a1 a2 a3 a4 a5 a6 a7 : Int} (A : Dg n a0 a1 a2 a3 a4 a5 a6 a7) : Digs [a0, a1, a2, a3, a4, a5, a6, a7] ∧ val [a0, a1, a2, a3, a4, a5, a6, a7] = n := by
  obtain ⟨p0, p1, p2, p3, p4, p5, p6, p7, hn⟩ := A
  refine ⟨fun d hd => ?_, ?_⟩
  · simp only [List.mem_cons, List.not_mem_nil, or_false] at hd
    rcases hd with rfl | rfl | rfl | rfl | rfl | rfl | rfl | rfl <;> assumption
  · simp only [val]; omega
theorem cons8 {p : List Int} (h : p.length = 17) : ∃ a0 a1 a2 a3 a4 a5 a6 a7 t, p = a0 :: a1 :: a2 :: a3 :: a4 :: a5 :: a6 :: a7 :: t ∧ t.length = 9 := by
  obtain _ | ⟨a0, p⟩ := p; · simp at h
  obtain _ | ⟨a1, p⟩ := p; · simp at h
  obtain _ | ⟨a2, p⟩ := p; · simp at h
  obtain _ | ⟨a3, p⟩ := p; · simp at h
  obtain _ | ⟨a4, p⟩ := p; · simp at h
  obtain _ | ⟨a5, p⟩ := p; · simp at h
  obtain _ | ⟨a6, p⟩ := p; · simp at h
  obtain _ | ⟨a7, p⟩ := p; · simp at h
  exact ⟨a0, a1, a2, a3, a4, a5, a6, a7, p, rfl, by simpa using h⟩
/-- The reference's Product. -/
theorem RefProduct {a b : Int} (ua : U a) (ub : U b) (k : Nat) (hk : 200 ≤ k) : turnstileref03_Product.f k a b = some (W (a * b)) := by
  have u0 : U 0 := ⟨by decide, by decide⟩
  obtain ⟨a0, a1, a2, a3, a4, a5, a6, a7, ea, A⟩ := Ref_of u0 ua k (by omega)
  obtain ⟨b0, b1, b2, b3, b4, b5, b6, b7, eb, B⟩ := Ref_of u0 ub k (by omega)
  obtain ⟨DA, vA⟩ := Digs_of A
  obtain ⟨DB, vB⟩ := Digs_of B
  have Dr : Digs (List.replicate 17 0) := fun d hd => by
    have := List.eq_of_mem_replicate hd
    omega
  have vr : val (List.replicate 17 0) = 0 := by decide
  obtain ⟨p, Dp, Lp, vp, run⟩ := prod_out DA DB rfl rfl 8 0 k (List.replicate 17 0) rfl Dr (by simp) (by omega) (fun t ht => by
    by_cases h : t < 17
    · rw [gd_lt (by simpa using h)]; exact List.getElem_replicate ..
    · exact gd_ge (by simp; omega)) (by rw [vr]; simp [val])
  have hV := V_prod ua ub
  rw [vA, vB, show (0 : Int) * 18446744073709551616 + a = a by omega, show (0 : Int) * 18446744073709551616 + b = b by omega] at vp
  obtain ⟨c0, c1, c2, c3, c4, c5, c6, c7, t, rfl, ht⟩ := cons8 Lp
  have Dt : Digs t := fun d hd => Dp d (by simp [hd])
  have ht0 := val_nonneg Dt
  have q0 := Dp c0 (by simp)
  have q1 := Dp c1 (by simp)
  have q2 := Dp c2 (by simp)
  have q3 := Dp c3 (by simp)
  have q4 := Dp c4 (by simp)
  have q5 := Dp c5 (by simp)
  have q6 := Dp c6 (by simp)
  have q7 := Dp c7 (by simp)
  simp only [val] at vp
  generalize a * b = n at *
  unfold V at hV
  have hz : val t = 0 := by omega
  rw [hz] at vp
  have C : Dg n c0 c1 c2 c3 c4 c5 c6 c7 := ⟨q0, q1, q2, q3, q4, q5, q6, q7, by omega⟩
  have hn := num_tail C t (by omega) (val_zero Dt hz) 9 0 k (by omega) (by omega)
  unfold turnstileref03_Product.f turnstileref03_product.f turnstileref03_number.f
  rw [ea, Option.bind_some, eb, Option.bind_some, if_pos (by decide)]
  have run' : turnstileref03_product.l0 k [a0, a1, a2, a3, a4, a5, a6, a7] [b0, b1, b2, b3, b4, b5, b6, b7] (List.replicate 17 0) 0 = _ := run
  rw [run', Option.bind_some]
  have hn' : turnstileref03_number.l0 k (c0 :: c1 :: c2 :: c3 :: c4 :: c5 :: c6 :: c7 :: t) 8 = _ := hn
  rw [hn', Option.bind_some]
/-- The reference's Mul. -/
theorem RefMul {a b : Int} (ua : U a) (ub : U b) (k : Nat) (hk : 200 ≤ k) : turnstileref03_Mul.f k a b = some (if a * b < 18446744073709551616 then a * b else 18446744073709551615) := by
  have hV := V_prod ua ub
  unfold turnstileref03_Mul.f
  rw [RefProduct ua ub k hk, Option.bind_some]
  generalize a * b = n at *
  unfold V at hV
  unfold turnstileref03_low.f W
  simp only
  by_cases h : n < 18446744073709551616
  · rw [if_pos h, if_pos (by omega)]; simp only [Option.bind_some]; congr 1; omega
  · rw [if_neg h, if_neg (by omega)]; rfl
end Go.Proofs.Ythnpgilknoiaaaa.M
