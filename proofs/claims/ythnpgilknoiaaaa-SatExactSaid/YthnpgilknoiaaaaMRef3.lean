/- The reference's numbers of layer 3: digits in base 2^16. -/
import Derived.Test.YthnpgilknoiaaaaMAwake3
import Derived.Test.YthnpgilknoiaaaaQx10
import Derived.Test.YthnpgilknoiaaaaQx11
import Derived.Test.YthnpgilknoiaaaaQx12
import Derived.Test.YthnpgilknoiaaaaQx13
import Derived.Test.YthnpgilknoiaaaaQx14
import Derived.Test.YthnpgilknoiaaaaQx9
namespace Go.Proofs.Ythnpgilknoiaaaa.M
set_option linter.unusedVariables false
open Go.RowKit Go.Proofs.Ythnpgilknoiaaaa.Q Go.Proofs.YthnpgilknoiaaaaW.PrintWords
theorem tm16 {x : Int} (u : U x) : Int.tmod x 65536 = x % 65536 := tmod_of u.1
theorem td16 {x : Int} (u : U x) : IntKind.u64.wrap (Int.tdiv x 65536) = x / 65536 := by
  rw [tdiv_of u.1]
  exact wr_id (by unfold U at *; omega)
theorem U16 {x : Int} (u : U x) : U (x / 65536) := by unfold U at *; omega
theorem of_l0 {x0 x1 i : Int} {d : List Int} {k : Nat} (hi : i < 4) (hl : d.length < 17592186044416) (u : U x1) :
    turnstileref03_of.l0 (k + 1) x0 x1 d i = turnstileref03_of.l0 k x0 (x1 / 65536) (d ++ [x1 % 65536]) (wrap64 (i + 1)) := by
  rw [turnstileref03_of.l0, if_pos hi, if_pos hl, td16 u, tm16 u]
theorem of_l1 {x0 i : Int} {d : List Int} {k : Nat} (hi : i < 4) (hl : d.length < 17592186044416) (u : U x0) :
    turnstileref03_of.l1 (k + 1) x0 d i = turnstileref03_of.l1 k (x0 / 65536) (d ++ [x0 % 65536]) (wrap64 (i + 1)) := by
  rw [turnstileref03_of.l1, if_pos hi, if_pos hl, td16 u, tm16 u]
/-- Eight digits of a number, the lowest first. -/
structure Dg (n : Int) (a0 a1 a2 a3 a4 a5 a6 a7 : Int) : Prop where
  h0 : 0 ≤ a0 ∧ a0 < 65536
  h1 : 0 ≤ a1 ∧ a1 < 65536
  h2 : 0 ≤ a2 ∧ a2 < 65536
  h3 : 0 ≤ a3 ∧ a3 < 65536
  h4 : 0 ≤ a4 ∧ a4 < 65536
  h5 : 0 ≤ a5 ∧ a5 < 65536
  h6 : 0 ≤ a6 ∧ a6 < 65536
  h7 : 0 ≤ a7 ∧ a7 < 65536
  hn : n = a0 + 65536 * (a1 + 65536 * (a2 + 65536 * (a3 + 65536 * (a4 + 65536 * (a5 + 65536 * (a6 + 65536 * a7))))))
theorem Ref_of {h l : Int} (uh : U h) (ul : U l) (k : Nat) (hk : 20 ≤ k) :
    ∃ a0 a1 a2 a3 a4 a5 a6 a7, turnstileref03_of.f k h l = some [a0, a1, a2, a3, a4, a5, a6, a7] ∧ Dg (h * 18446744073709551616 + l) a0 a1 a2 a3 a4 a5 a6 a7 := by
  obtain ⟨m, rfl⟩ : ∃ m, k = m + 20 := ⟨k - 20, by omega⟩
  refine ⟨l % 65536, l / 65536 % 65536, l / 65536 / 65536 % 65536, l / 65536 / 65536 / 65536 % 65536, h % 65536, h / 65536 % 65536, h / 65536 / 65536 % 65536, h / 65536 / 65536 / 65536 % 65536, ?_, ?_⟩
  · unfold turnstileref03_of.f
    rw [of_l0 (by decide) (by decide) ul, of_l0 (by decide +kernel) (by simp) (U16 ul), of_l0 (by decide +kernel) (by simp) (U16 (U16 ul)), of_l0 (by decide +kernel) (by simp) (U16 (U16 (U16 ul)))]
    rw [turnstileref03_of.l0, if_neg (by decide +kernel)]
    rw [of_l1 (by decide) (by simp) uh, of_l1 (by decide +kernel) (by simp) (U16 uh), of_l1 (by decide +kernel) (by simp) (U16 (U16 uh)), of_l1 (by decide +kernel) (by simp) (U16 (U16 (U16 uh)))]
    rw [turnstileref03_of.l1, if_neg (by decide +kernel)]
    rfl
  · unfold U at uh ul
    constructor <;> omega
theorem sum_step {x0 x1 d : List Int} {c i j x y : Int} {k : Nat} (hj : wrap64 (i + 1) = j) (hi : 0 ≤ i ∧ i < 8) (h0 : i < (x0.length : Int)) (h1 : i < (x1.length : Int)) (hd : d.length < 17592186044416)
    (hx : rd x0 i = x) (hy : rd x1 i = y) (bx : 0 ≤ x ∧ x < 65536) (by_ : 0 ≤ y ∧ y < 65536) (bc : 0 ≤ c ∧ c ≤ 1) :
    turnstileref03_sum.l0 (k + 1) x0 x1 d c i = turnstileref03_sum.l0 k x0 x1 (d ++ [(c + x + y) % 65536]) ((c + x + y) / 65536) j := by
  subst hj
  have e : IntKind.u64.wrap (c + IntKind.u64.wrap (x + y)) = c + x + y := by
    rw [wr_id (n := x + y) (by unfold U; omega), wr_id (by unfold U; omega)]; omega
  have u : U (c + x + y) := by unfold U; omega
  rw [turnstileref03_sum.l0, if_pos hi.2, if_pos hi.1, if_pos h0, if_pos h1, if_pos hd, hx, hy, e, tm16 u, td16 u]
/-- The sum of two numbers of eight digits: nine digits. -/
theorem Ref_sum {n m a0 a1 a2 a3 a4 a5 a6 a7 b0 b1 b2 b3 b4 b5 b6 b7 : Int} (A : Dg n a0 a1 a2 a3 a4 a5 a6 a7) (B : Dg m b0 b1 b2 b3 b4 b5 b6 b7) (k : Nat) (hk : 20 ≤ k) :
    ∃ s0 s1 s2 s3 s4 s5 s6 s7 c v, turnstileref03_sum.f k [a0, a1, a2, a3, a4, a5, a6, a7] [b0, b1, b2, b3, b4, b5, b6, b7] = some [s0, s1, s2, s3, s4, s5, s6, s7, c] ∧ Dg v s0 s1 s2 s3 s4 s5 s6 s7 ∧ 0 ≤ c ∧ c ≤ 1 ∧ n + m = v + 340282366920938463463374607431768211456 * c := by
  obtain ⟨q, rfl⟩ : ∃ q, k = q + 20 := ⟨k - 20, by omega⟩
  obtain ⟨p0, p1, p2, p3, p4, p5, p6, p7, hn⟩ := A
  obtain ⟨r0, r1, r2, r3, r4, r5, r6, r7, hm⟩ := B
  unfold turnstileref03_sum.f
  rw [sum_step (j := 1) (by decide +kernel) (by decide) (by simp) (by simp) (by decide) (x := a0) (y := b0) rfl rfl p0 r0 (by decide)]
  generalize hc1 : (0 + a0 + b0) / 65536 = c1
  generalize hs0 : (0 + a0 + b0) % 65536 = s0
  rw [sum_step (j := 2) (by decide +kernel) (by decide) (by simp) (by simp) (by simp) (x := a1) (y := b1) rfl rfl p1 r1 (by omega)]
  generalize hc2 : (c1 + a1 + b1) / 65536 = c2
  generalize hs1 : (c1 + a1 + b1) % 65536 = s1
  rw [sum_step (j := 3) (by decide +kernel) (by decide) (by simp) (by simp) (by simp) (x := a2) (y := b2) rfl rfl p2 r2 (by omega)]
  generalize hc3 : (c2 + a2 + b2) / 65536 = c3
  generalize hs2 : (c2 + a2 + b2) % 65536 = s2
  rw [sum_step (j := 4) (by decide +kernel) (by decide) (by simp) (by simp) (by simp) (x := a3) (y := b3) rfl rfl p3 r3 (by omega)]
  generalize hc4 : (c3 + a3 + b3) / 65536 = c4
  generalize hs3 : (c3 + a3 + b3) % 65536 = s3
  rw [sum_step (j := 5) (by decide +kernel) (by decide) (by simp) (by simp) (by simp) (x := a4) (y := b4) rfl rfl p4 r4 (by omega)]
  generalize hc5 : (c4 + a4 + b4) / 65536 = c5
  generalize hs4 : (c4 + a4 + b4) % 65536 = s4
  rw [sum_step (j := 6) (by decide +kernel) (by decide) (by simp) (by simp) (by simp) (x := a5) (y := b5) rfl rfl p5 r5 (by omega)]
  generalize hc6 : (c5 + a5 + b5) / 65536 = c6
  generalize hs5 : (c5 + a5 + b5) % 65536 = s5
  rw [sum_step (j := 7) (by decide +kernel) (by decide) (by simp) (by simp) (by simp) (x := a6) (y := b6) rfl rfl p6 r6 (by omega)]
  generalize hc7 : (c6 + a6 + b6) / 65536 = c7
  generalize hs6 : (c6 + a6 + b6) % 65536 = s6
  rw [sum_step (j := 8) (by decide +kernel) (by decide) (by simp) (by simp) (by simp) (x := a7) (y := b7) rfl rfl p7 r7 (by omega)]
  generalize hc8 : (c7 + a7 + b7) / 65536 = c8
  generalize hs7 : (c7 + a7 + b7) % 65536 = s7
  rw [turnstileref03_sum.l0, if_neg (by decide +kernel), if_pos (by simp)]
  exact ⟨s0, s1, s2, s3, s4, s5, s6, s7, c8, _, rfl, ⟨by omega, by omega, by omega, by omega, by omega, by omega, by omega, by omega, rfl⟩, by omega, by omega, by omega⟩
theorem num_hi {x0 : List Int} {h lo i j x : Int} {k : Nat} (hj : wrap64 (i - 1) = j) (hi : 4 ≤ i) (hl : i < (x0.length : Int)) (hx : rd x0 i = x) (bx : 0 ≤ x ∧ x < 65536) (bh : 0 ≤ h ∧ h < 281474976710656) :
    turnstileref03_number.l1 (k + 1) x0 i h lo = turnstileref03_number.l1 k x0 j (h * 65536 + x) lo := by
  subst hj
  rw [turnstileref03_number.l1, if_pos (by omega), if_pos hl, if_pos (by omega), if_pos (by omega), hx, wr_id (n := h * 65536) (by unfold U; omega), wr_id (by unfold U; omega)]
theorem num_lo {x0 : List Int} {h lo i j x : Int} {k : Nat} (hj : wrap64 (i - 1) = j) (hi : 0 ≤ i ∧ i < 4) (hl : i < (x0.length : Int)) (hx : rd x0 i = x) (bx : 0 ≤ x ∧ x < 65536) (bh : 0 ≤ lo ∧ lo < 281474976710656) :
    turnstileref03_number.l1 (k + 1) x0 i h lo = turnstileref03_number.l1 k x0 j h (lo * 65536 + x) := by
  subst hj
  rw [turnstileref03_number.l1, if_pos (by omega), if_pos hl, if_pos (by omega), if_neg (by omega), hx, wr_id (n := lo * 65536) (by unfold U; omega), wr_id (by unfold U; omega)]
theorem num1 {v a0 a1 a2 a3 a4 a5 a6 a7 : Int} (A : Dg v a0 a1 a2 a3 a4 a5 a6 a7) (t : List Int) (k : Nat) (hk : 10 ≤ k) :
    turnstileref03_number.l1 k (a0 :: a1 :: a2 :: a3 :: a4 :: a5 :: a6 :: a7 :: t) 7 0 0 = some (W v) := by
  obtain ⟨q, rfl⟩ : ∃ q, k = q + 10 := ⟨k - 10, by omega⟩
  obtain ⟨p0, p1, p2, p3, p4, p5, p6, p7, hn⟩ := A
  rw [num_hi (j := 6) (by decide +kernel) (by decide) (by simp; omega) (x := a7) rfl p7 (by decide),
    num_hi (j := 5) (by decide +kernel) (by decide) (by simp; omega) (x := a6) rfl p6 (by omega),
    num_hi (j := 4) (by decide +kernel) (by decide) (by simp; omega) (x := a5) rfl p5 (by omega),
    num_hi (j := 3) (by decide +kernel) (by decide) (by simp; omega) (x := a4) rfl p4 (by omega),
    num_lo (j := 2) (by decide +kernel) (by decide) (by simp; omega) (x := a3) rfl p3 (by decide),
    num_lo (j := 1) (by decide +kernel) (by decide) (by simp; omega) (x := a2) rfl p2 (by omega),
    num_lo (j := 0) (by decide +kernel) (by decide) (by simp; omega) (x := a1) rfl p1 (by omega),
    num_lo (j := -1) (by decide +kernel) (by decide) (by simp; omega) (x := a0) rfl p0 (by omega)]
  rw [turnstileref03_number.l1, if_neg (by decide)]
  have e := W_of (h := (((0 * 65536 + a7) * 65536 + a6) * 65536 + a5) * 65536 + a4) (l := (((0 * 65536 + a3) * 65536 + a2) * 65536 + a1) * 65536 + a0) (by unfold U; omega)
  rw [← e]
  congr 2
  omega
theorem Ref_number8 {v a0 a1 a2 a3 a4 a5 a6 a7 : Int} (A : Dg v a0 a1 a2 a3 a4 a5 a6 a7) (k : Nat) (hk : 20 ≤ k) :
    turnstileref03_number.f k [a0, a1, a2, a3, a4, a5, a6, a7] = some (W v) := by
  obtain ⟨q, rfl⟩ : ∃ q, k = q + 1 := ⟨k - 1, by omega⟩
  unfold turnstileref03_number.f
  rw [turnstileref03_number.l0, if_neg (by simp)]
  exact num1 A [] q (by omega)
theorem Ref_number9 {v a0 a1 a2 a3 a4 a5 a6 a7 c : Int} (A : Dg v a0 a1 a2 a3 a4 a5 a6 a7) (k : Nat) (hk : 20 ≤ k) :
    turnstileref03_number.f k [a0, a1, a2, a3, a4, a5, a6, a7, c] = some (if c = 0 then W v else (18446744073709551615, 18446744073709551615)) := by
  obtain ⟨q, rfl⟩ : ∃ q, k = q + 2 := ⟨k - 2, by omega⟩
  unfold turnstileref03_number.f
  rw [turnstileref03_number.l0, if_pos (by simp), if_pos (by decide)]
  have e : rd [a0, a1, a2, a3, a4, a5, a6, a7, c] 8 = c := rfl
  rw [e]
  by_cases h : c = 0
  · rw [if_pos h, if_pos h, turnstileref03_number.l0, if_neg (by simp; decide +kernel)]
    exact num1 A [c] q (by omega)
  · rw [if_neg h, if_neg h]
theorem Wmost : W 340282366920938463463374607431768211455 = (18446744073709551615, 18446744073709551615) := by decide +kernel
/-- The reference's Plus. -/
theorem RefPlus {h l h' l' : Int} (uh : U h) (ul : U l) (uh' : U h') (ul' : U l') (k : Nat) (hk : 20 ≤ k) :
    turnstileref03_Wide_Plus.f k h l h' l' = some (W (if (h * 18446744073709551616 + l) + (h' * 18446744073709551616 + l') < 340282366920938463463374607431768211456 then (h * 18446744073709551616 + l) + (h' * 18446744073709551616 + l') else 340282366920938463463374607431768211455)) := by
  obtain ⟨a0, a1, a2, a3, a4, a5, a6, a7, ea, A⟩ := Ref_of uh ul k hk
  obtain ⟨b0, b1, b2, b3, b4, b5, b6, b7, eb, B⟩ := Ref_of uh' ul' k hk
  obtain ⟨s0, s1, s2, s3, s4, s5, s6, s7, c, v, es, S, c0, c1, e⟩ := Ref_sum A B k hk
  unfold turnstileref03_Wide_Plus.f
  rw [ea, Option.bind_some, eb, Option.bind_some, es, Option.bind_some, Ref_number9 S k hk, Option.bind_some]
  obtain ⟨p0, p1, p2, p3, p4, p5, p6, p7, hn⟩ := S
  by_cases h : c = 0
  · rw [if_pos h, e, h, if_pos (by omega)]; simp
  · rw [if_neg h, if_neg (by omega), Wmost]
/-- The reference's Add. -/
theorem RefAdd {a b : Int} (ua : U a) (ub : U b) (k : Nat) (hk : 20 ≤ k) :
    turnstileref03_Add.f k a b = some (if a + b < 18446744073709551616 then a + b else 18446744073709551615) := by
  have u0 : U 0 := ⟨by decide, by decide⟩
  obtain ⟨a0, a1, a2, a3, a4, a5, a6, a7, ea, A⟩ := Ref_of u0 ua k hk
  obtain ⟨b0, b1, b2, b3, b4, b5, b6, b7, eb, B⟩ := Ref_of u0 ub k hk
  obtain ⟨s0, s1, s2, s3, s4, s5, s6, s7, c, v, es, S, c0, c1, e⟩ := Ref_sum A B k hk
  unfold turnstileref03_Add.f
  rw [ea, Option.bind_some, eb, Option.bind_some, es, Option.bind_some, Ref_number9 S k hk, Option.bind_some]
  obtain ⟨p0, p1, p2, p3, p4, p5, p6, p7, hn⟩ := S
  unfold U at ua ub
  have hc : c = 0 := by omega
  rw [if_pos hc]
  have hv : v = a + b := by omega
  subst hv
  unfold turnstileref03_low.f W
  simp only
  by_cases h : a + b < 18446744073709551616
  · rw [if_pos h, if_pos (by omega)]; simp only [Option.bind_some]; congr 1; omega
  · rw [if_neg h, if_neg (by omega)]; rfl
theorem cmp_step {x5 x6 : List Int} {i j x y : Int} {k : Nat} (hj : wrap64 (i - 1) = j) (hi : 0 ≤ i) (h0 : i < (x5.length : Int)) (h1 : i < (x6.length : Int)) (hx : rd x5 i = x) (hy : rd x6 i = y) :
    turnstileref03_Wide_Cmp.l0 (k + 1) x5 x6 i = if x < y then some (-1) else if x > y then some 1 else turnstileref03_Wide_Cmp.l0 k x5 x6 j := by
  subst hj
  rw [turnstileref03_Wide_Cmp.l0, if_pos (by omega), if_pos hi, if_pos h0, if_pos h1, hx, hy]
theorem cmp3 {a b n m : Int} {r : Option Int} (hl : a < b → n < m) (hg : a > b → n > m) (he : a = b → r = some (if n = m then 0 else if n < m then -1 else 1)) :
    (if a < b then some (-1) else if a > b then some 1 else r) = some (if n = m then 0 else if n < m then -1 else 1) := by
  by_cases h1 : a < b
  · have := hl h1
    rw [if_pos h1, if_neg (by omega), if_pos this]
  · rw [if_neg h1]
    by_cases h2 : a > b
    · have := hg h2
      rw [if_pos h2, if_neg (by omega), if_neg (by omega)]
    · rw [if_neg h2]
      exact he (by omega)
theorem Cmp_digits {n m a0 a1 a2 a3 a4 a5 a6 a7 b0 b1 b2 b3 b4 b5 b6 b7 : Int} (A : Dg n a0 a1 a2 a3 a4 a5 a6 a7) (B : Dg m b0 b1 b2 b3 b4 b5 b6 b7) (k : Nat) (hk : 20 ≤ k) :
    turnstileref03_Wide_Cmp.l0 k [a0, a1, a2, a3, a4, a5, a6, a7] [b0, b1, b2, b3, b4, b5, b6, b7] 7 = some (if n = m then 0 else if n < m then -1 else 1) := by
  obtain ⟨q, rfl⟩ : ∃ q, k = q + 20 := ⟨k - 20, by omega⟩
  obtain ⟨p0, p1, p2, p3, p4, p5, p6, p7, hn⟩ := A
  obtain ⟨r0, r1, r2, r3, r4, r5, r6, r7, hm⟩ := B
  rw [cmp_step (j := 6) (by decide +kernel) (by decide) (by simp) (by simp) (x := a7) (y := b7) rfl rfl]
  refine cmp3 (fun _ => by omega) (fun _ => by omega) (fun e7 => ?_)
  rw [cmp_step (j := 5) (by decide +kernel) (by decide) (by simp) (by simp) (x := a6) (y := b6) rfl rfl]
  refine cmp3 (fun _ => by omega) (fun _ => by omega) (fun e6 => ?_)
  rw [cmp_step (j := 4) (by decide +kernel) (by decide) (by simp) (by simp) (x := a5) (y := b5) rfl rfl]
  refine cmp3 (fun _ => by omega) (fun _ => by omega) (fun e5 => ?_)
  rw [cmp_step (j := 3) (by decide +kernel) (by decide) (by simp) (by simp) (x := a4) (y := b4) rfl rfl]
  refine cmp3 (fun _ => by omega) (fun _ => by omega) (fun e4 => ?_)
  rw [cmp_step (j := 2) (by decide +kernel) (by decide) (by simp) (by simp) (x := a3) (y := b3) rfl rfl]
  refine cmp3 (fun _ => by omega) (fun _ => by omega) (fun e3 => ?_)
  rw [cmp_step (j := 1) (by decide +kernel) (by decide) (by simp) (by simp) (x := a2) (y := b2) rfl rfl]
  refine cmp3 (fun _ => by omega) (fun _ => by omega) (fun e2 => ?_)
  rw [cmp_step (j := 0) (by decide +kernel) (by decide) (by simp) (by simp) (x := a1) (y := b1) rfl rfl]
  refine cmp3 (fun _ => by omega) (fun _ => by omega) (fun e1 => ?_)
  rw [cmp_step (j := -1) (by decide +kernel) (by decide) (by simp) (by simp) (x := a0) (y := b0) rfl rfl]
  refine cmp3 (fun _ => by omega) (fun _ => by omega) (fun e0 => ?_)
  rw [turnstileref03_Wide_Cmp.l0, if_neg (by decide), if_pos (by omega)]
/-- The reference's Cmp. -/
theorem RefCmp {h l h' l' : Int} (uh : U h) (ul : U l) (uh' : U h') (ul' : U l') (k : Nat) (hk : 20 ≤ k) :
    turnstileref03_Wide_Cmp.f k h l h' l' = some (if h * 18446744073709551616 + l = h' * 18446744073709551616 + l' then 0 else if h * 18446744073709551616 + l < h' * 18446744073709551616 + l' then -1 else 1) := by
  obtain ⟨a0, a1, a2, a3, a4, a5, a6, a7, ea, A⟩ := Ref_of uh ul k hk
  obtain ⟨b0, b1, b2, b3, b4, b5, b6, b7, eb, B⟩ := Ref_of uh' ul' k hk
  unfold turnstileref03_Wide_Cmp.f
  rw [ea, Option.bind_some, eb, Option.bind_some]
  exact Cmp_digits A B k hk
theorem minus_step {x0 x1 d : List Int} {c i j x y : Int} {k : Nat} (hj : wrap64 (i + 1) = j) (hi : 0 ≤ i ∧ i < 8) (h0 : i < (x0.length : Int)) (h1 : i < (x1.length : Int)) (hd : d.length < 17592186044416)
    (hx : rd x0 i = x) (hy : rd x1 i = y) (bx : 0 ≤ x ∧ x < 65536) (by_ : 0 ≤ y ∧ y < 65536) (bc : 0 ≤ c ∧ c ≤ 1) :
    turnstileref03_Wide_Minus.l0 (k + 1) x0 x1 d c i = turnstileref03_Wide_Minus.l0 k x0 x1 (d ++ [(x + 65536 - y - c) % 65536]) (1 - (x + 65536 - y - c) / 65536) j := by
  subst hj
  have e : IntKind.u64.wrap (IntKind.u64.wrap (IntKind.u64.wrap (x + 65536) - y) - c) = x + 65536 - y - c := by
    rw [wr_id (n := x + 65536) (by unfold U; omega), wr_id (n := x + 65536 - y) (by unfold U; omega), wr_id (by unfold U; omega)]
  have u : U (x + 65536 - y - c) := by unfold U; omega
  have e2 : IntKind.u64.wrap (1 - (x + 65536 - y - c) / 65536) = 1 - (x + 65536 - y - c) / 65536 := wr_id (by unfold U; omega)
  rw [turnstileref03_Wide_Minus.l0, if_pos hi.2, if_pos hi.1, if_pos h0, if_pos h1, if_pos hd, hx, hy, e, tm16 u, td16 u, e2]
/-- The reference's Minus. -/
theorem RefMinus {h l h' l' : Int} (uh : U h) (ul : U l) (uh' : U h') (ul' : U l') (k : Nat) (hk : 40 ≤ k) :
    turnstileref03_Wide_Minus.f k h l h' l' = some (W (if h' * 18446744073709551616 + l' ≤ h * 18446744073709551616 + l then (h * 18446744073709551616 + l) - (h' * 18446744073709551616 + l') else 0)) := by
  unfold turnstileref03_Wide_Minus.f
  rw [RefCmp uh ul uh' ul' k (by omega), Option.bind_some]
  obtain ⟨a0, a1, a2, a3, a4, a5, a6, a7, ea, A⟩ := Ref_of uh ul k (by omega)
  obtain ⟨b0, b1, b2, b3, b4, b5, b6, b7, eb, B⟩ := Ref_of uh' ul' k (by omega)
  rw [ea, eb]
  generalize h * 18446744073709551616 + l = n at *
  generalize h' * 18446744073709551616 + l' = m at *
  obtain ⟨p0, p1, p2, p3, p4, p5, p6, p7, hn⟩ := A
  obtain ⟨r0, r1, r2, r3, r4, r5, r6, r7, hm⟩ := B
  by_cases hlt : n < m
  · have hc : (if n = m then (0 : Int) else if n < m then -1 else 1) < 0 := by rw [if_neg (by omega), if_pos hlt]; decide
    rw [if_pos hc, if_neg (by omega)]; rfl
  rw [if_neg (by split <;> (try split) <;> omega), if_pos (by omega), Option.bind_some, Option.bind_some]
  obtain ⟨q, rfl⟩ : ∃ q, k = q + 40 := ⟨k - 40, by omega⟩
  rw [minus_step (j := 1) (by decide +kernel) (by decide) (by simp) (by simp) (by decide) (x := a0) (y := b0) rfl rfl p0 r0 (by decide)]
  generalize hc1 : 1 - (a0 + 65536 - b0 - 0) / 65536 = c1
  generalize hs0 : (a0 + 65536 - b0 - 0) % 65536 = s0
  rw [minus_step (j := 2) (by decide +kernel) (by decide) (by simp) (by simp) (by simp) (x := a1) (y := b1) rfl rfl p1 r1 (by omega)]
  generalize hc2 : 1 - (a1 + 65536 - b1 - c1) / 65536 = c2
  generalize hs1 : (a1 + 65536 - b1 - c1) % 65536 = s1
  rw [minus_step (j := 3) (by decide +kernel) (by decide) (by simp) (by simp) (by simp) (x := a2) (y := b2) rfl rfl p2 r2 (by omega)]
  generalize hc3 : 1 - (a2 + 65536 - b2 - c2) / 65536 = c3
  generalize hs2 : (a2 + 65536 - b2 - c2) % 65536 = s2
  rw [minus_step (j := 4) (by decide +kernel) (by decide) (by simp) (by simp) (by simp) (x := a3) (y := b3) rfl rfl p3 r3 (by omega)]
  generalize hc4 : 1 - (a3 + 65536 - b3 - c3) / 65536 = c4
  generalize hs3 : (a3 + 65536 - b3 - c3) % 65536 = s3
  rw [minus_step (j := 5) (by decide +kernel) (by decide) (by simp) (by simp) (by simp) (x := a4) (y := b4) rfl rfl p4 r4 (by omega)]
  generalize hc5 : 1 - (a4 + 65536 - b4 - c4) / 65536 = c5
  generalize hs4 : (a4 + 65536 - b4 - c4) % 65536 = s4
  rw [minus_step (j := 6) (by decide +kernel) (by decide) (by simp) (by simp) (by simp) (x := a5) (y := b5) rfl rfl p5 r5 (by omega)]
  generalize hc6 : 1 - (a5 + 65536 - b5 - c5) / 65536 = c6
  generalize hs5 : (a5 + 65536 - b5 - c5) % 65536 = s5
  rw [minus_step (j := 7) (by decide +kernel) (by decide) (by simp) (by simp) (by simp) (x := a6) (y := b6) rfl rfl p6 r6 (by omega)]
  generalize hc7 : 1 - (a6 + 65536 - b6 - c6) / 65536 = c7
  generalize hs6 : (a6 + 65536 - b6 - c6) % 65536 = s6
  rw [minus_step (j := 8) (by decide +kernel) (by decide) (by simp) (by simp) (by simp) (x := a7) (y := b7) rfl rfl p7 r7 (by omega)]
  generalize hc8 : 1 - (a7 + 65536 - b7 - c7) / 65536 = c8
  generalize hs7 : (a7 + 65536 - b7 - c7) % 65536 = s7
  rw [turnstileref03_Wide_Minus.l0, if_neg (by decide)]
  have S : Dg (s0 + 65536 * (s1 + 65536 * (s2 + 65536 * (s3 + 65536 * (s4 + 65536 * (s5 + 65536 * (s6 + 65536 * s7))))))) s0 s1 s2 s3 s4 s5 s6 s7 := ⟨by omega, by omega, by omega, by omega, by omega, by omega, by omega, by omega, rfl⟩
  have e := Ref_number8 S (q + 31) (by omega)
  have ev : s0 + 65536 * (s1 + 65536 * (s2 + 65536 * (s3 + 65536 * (s4 + 65536 * (s5 + 65536 * (s6 + 65536 * s7)))))) = n - m := by omega
  rw [ev] at e
  show (turnstileref03_number.f (q + 31) [s0, s1, s2, s3, s4, s5, s6, s7]).bind _ = _
  rw [e, Option.bind_some]
end Go.Proofs.Ythnpgilknoiaaaa.M
