/- Written by the session's own program hyb.py: what functions of the program compute; Lean checks it. -/
import Derived.Test.YtokfhdpokemekaaQx0
import Derived.Test.YtokfhdpokemekaaQx20
import Derived.Test.YtokfhdpokemekaaQx22
import Derived.Test.YtokfhdpokemekaaQx23
namespace Go.Proofs.Ytokfhdpokemekaa.Q
open Go.RowKit Go.Proofs.YtokfhdpokemekaaW.PrintWords Go.Proofs.YtokfhdpokemekaaW.PrintLast Go.Proofs.YtokfhdpokemekaaW.PrintMore Go.Proofs.YtokfhdpokemekaaW.PrintShort
attribute [local go_sem] run_Add64 run_Sub64
attribute [local go_sem] max2_int min2_int max_two min_two max_three min_three max_four min_four   -- for this text's walks alone
set_option linter.unusedVariables false
set_option linter.unusedSimpArgs false

/-! ### turnstileref04_Burst: function 66 -/
def turnstileref04_Burst.l0 : Nat → Int → Int → Int → Int → Int → Int → Option (Int)
  | 0, _, _, _, _, _, _ => none
  | k + 1, x0, x1, x2, x3, x9, x10 => if (IntKind.u64.wrap (x10 - x9)) > 1 then ((turnstileref04_fits.f k x0 x1 x2 x3 (IntKind.u64.wrap (x9 + (IntKind.u64.wrap (Int.tdiv (IntKind.u64.wrap (x10 - x9)) 2))))).bind fun t364 => (if t364 = true then (turnstileref04_Burst.l0 k x0 x1 x2 x3 (IntKind.u64.wrap (x9 + (IntKind.u64.wrap (Int.tdiv (IntKind.u64.wrap (x10 - x9)) 2)))) x10) else (turnstileref04_Burst.l0 k x0 x1 x2 x3 x9 (IntKind.u64.wrap (x9 + (IntKind.u64.wrap (Int.tdiv (IntKind.u64.wrap (x10 - x9)) 2))))))) else (some x9)
def turnstileref04_Burst.f (k : Nat) (a0 : Int) (a1 : Int) (a2 : Int) (a3 : Int) : Option (Int) := (turnstileref04_fits.f k a0 a1 a2 a3 1).bind fun t362 => (if t362 = true then ((turnstileref04_fits.f k a0 a1 a2 a3 18446744073709551615).bind fun t363 => (if t363 = true then (some 18446744073709551615) else (turnstileref04_Burst.l0 k a0 a1 a2 a3 1 18446744073709551615))) else (some 0))
theorem turnstileref04_Burst.mono_l : ∀ k, (∀ y0 y1 y2 y3 y4 y5, LeO (turnstileref04_Burst.l0 k y0 y1 y2 y3 y4 y5) (turnstileref04_Burst.l0 (k + 1) y0 y1 y2 y3 y4 y5))
  | 0 => fun _ _ _ _ _ _ r h => by simp [turnstileref04_Burst.l0] at h
  | k + 1 => by
    have ih0 := turnstileref04_Burst.mono_l k
    · intro y0 y1 y2 y3 y4 y5
      unfold turnstileref04_Burst.l0
      repeat' first
      | (with_reducible exact ih0 _ _ _ _ _ _)
      | (with_reducible exact turnstileref04_fits.mono _ _ _ _ _ _)
      | (with_reducible exact LeO.refl _)
      | (with_reducible exact LeO.none _)
      | (with_reducible refine LeO.ite ?_ ?_)
      | (with_reducible refine LeO.bind ?_ (fun _ => ?_))
      | exact ih0 _ _ _ _ _ _
      | exact turnstileref04_fits.mono _ _ _ _ _ _
      | exact LeO.none _
      | refine LeO.ite ?_ ?_
      | refine LeO.bind ?_ (fun _ => ?_)
theorem turnstileref04_Burst.mono : ∀ a0 a1 a2 a3 k, LeO (turnstileref04_Burst.f k a0 a1 a2 a3) (turnstileref04_Burst.f (k + 1) a0 a1 a2 a3) := by
  intro a0 a1 a2 a3 k
  have ih0 := turnstileref04_Burst.mono_l k
  unfold turnstileref04_Burst.f
  repeat' first
      | (with_reducible exact ih0 _ _ _ _ _ _)
      | (with_reducible exact turnstileref04_fits.mono _ _ _ _ _ _)
      | (with_reducible exact LeO.refl _)
      | (with_reducible exact LeO.none _)
      | (with_reducible refine LeO.ite ?_ ?_)
      | (with_reducible refine LeO.bind ?_ (fun _ => ?_))
      | exact ih0 _ _ _ _ _ _
      | exact turnstileref04_fits.mono _ _ _ _ _ _
      | exact LeO.none _
      | refine LeO.ite ?_ ?_
      | refine LeO.bind ?_ (fun _ => ?_)
set_option maxHeartbeats 8000000 in
set_option maxRecDepth 100000 in
theorem turnstileref04_Burst.calls (k : Nat) (a0 : Int) (a1 : Int) (a2 : Int) (a3 : Int) (r : Int) (w : World) (h : turnstileref04_Burst.f k a0 a1 a2 a3 = some r) :
    Calls Try.prog 66 #[.int .u64 a0, .int .u64 a1, .int .u64 a2, .int .u64 a3] w fun e w' => e = .returned (.int .u64 r) ∧ Below w.heap.size w w' := by
  have HB := Aside0.mk (Below.refl w.heap.size w)
  have H : ((turnstileref04_fits.f k a0 a1 a2 a3 1).bind fun t362 => (if t362 = true then ((turnstileref04_fits.f k a0 a1 a2 a3 18446744073709551615).bind fun t363 => (if t363 = true then (some 18446744073709551615) else (turnstileref04_Burst.l0 k a0 a1 a2 a3 1 18446744073709551615))) else (some 0))) = some r := h
  clear h
  replace H := Option.bind_eq_some_iff.mp H
  obtain ⟨t362, A50, H⟩ := H
  replace H : (if t362 = true then ((turnstileref04_fits.f k a0 a1 a2 a3 18446744073709551615).bind fun t363 => (if t363 = true then (some 18446744073709551615) else (turnstileref04_Burst.l0 k a0 a1 a2 a3 1 18446744073709551615))) else (some 0)) = some r := H
  have A5 := Aside0.mk A50
  clear A50
  by_cases c6 : t362 = true
  · subst c6
    have H1 : ((turnstileref04_fits.f k a0 a1 a2 a3 18446744073709551615).bind fun t363 => (if t363 = true then (some 18446744073709551615) else (turnstileref04_Burst.l0 k a0 a1 a2 a3 1 18446744073709551615))) = some r := by rw [if_pos rfl] at H; exact H
    clear H
    have H := H1
    clear H1
    replace H := Option.bind_eq_some_iff.mp H
    obtain ⟨t363, A70, H⟩ := H
    replace H : (if t363 = true then (some 18446744073709551615) else (turnstileref04_Burst.l0 k a0 a1 a2 a3 1 18446744073709551615)) = some r := H
    have A7 := Aside0.mk A70
    clear A70
    by_cases c8 : t363 = true
    · subst c8
      have H1 : (some 18446744073709551615) = some r := by rw [if_pos rfl] at H; exact H
      clear H
      have H := H1
      clear H1
      obtain rfl := Option.some.inj H
      go_enter Try.func66, Try.ntmps66
      go_wp2_with (first | ((with_reducible refine gate_callee (f := 73) rfl ?_); refine gm (some 16) Try.func73 #[.int .u64 a0, .int .u64 a1, .int .u64 a2, .int .u64 a3, .int .u64 1] (turnstileref04_fits.calls k a0 a1 a2 a3 1 true _ A5.out) ?_; intro w9 hb; have n0_ := bs HB hb; clear HB; have HB := n0_; clear n0_; (try clear hb); (try clear hb2); (try clear hk); (try clear hi)) | ((with_reducible refine gate_callee (f := 73) rfl ?_); refine gm (some 22) Try.func73 #[.int .u64 a0, .int .u64 a1, .int .u64 a2, .int .u64 a3, .int .u64 18446744073709551615] (turnstileref04_fits.calls k a0 a1 a2 a3 18446744073709551615 true _ A7.out) ?_; intro w10 hb; have n0_ := bs HB hb; clear HB; have HB := n0_; clear n0_; (try clear hb); (try clear hb2); (try clear hk); (try clear hi)))
      go_ret
      exact ⟨re, bw HB⟩
    · replace c8 := Bool.eq_false_iff.mpr c8
      subst c8
      have H1 : (turnstileref04_Burst.l0 k a0 a1 a2 a3 1 18446744073709551615) = some r := by rw [if_neg (show ¬ (false = true) by decide)] at H; exact H
      clear H
      have H := H1
      clear H1
      have H' := Aside0.mk H
      clear H
      go_enter Try.func66, Try.ntmps66
      go_wp2_with (first | ((with_reducible refine gate_callee (f := 73) rfl ?_); refine gm (some 16) Try.func73 #[.int .u64 a0, .int .u64 a1, .int .u64 a2, .int .u64 a3, .int .u64 1] (turnstileref04_fits.calls k a0 a1 a2 a3 1 true _ A5.out) ?_; intro w11 hb; have n0_ := bs HB hb; clear HB; have HB := n0_; clear n0_; (try clear hb); (try clear hb2); (try clear hk); (try clear hi)) | ((with_reducible refine gate_callee (f := 73) rfl ?_); refine gm (some 22) Try.func73 #[.int .u64 a0, .int .u64 a1, .int .u64 a2, .int .u64 a3, .int .u64 18446744073709551615] (turnstileref04_fits.calls k a0 a1 a2 a3 18446744073709551615 false _ A7.out) ?_; intro w12 hb; have n0_ := bs HB hb; clear HB; have HB := n0_; clear n0_; (try clear hb); (try clear hb2); (try clear hk); (try clear hi)))
      go_loopg [9, 10] k (fun kq v9 v10 w' => ∃ (x9_1 : Int) (x10_1 : Int), v9 = .int .u64 x9_1 ∧ v10 = .int .u64 x10_1 ∧ Aside0 (turnstileref04_Burst.l0 kq a0 a1 a2 a3 x9_1 x10_1 = some r) ∧ Aside0 (kq ≤ k) ∧ Aside0 (Below w.heap.size w w'))
      case atStart => exact ⟨(1), (18446744073709551615), rs, rs, H', ⟨Nat.le_refl _⟩, ⟨bw HB⟩⟩
      case round =>
        clear H'
        try clear p2
        try clear c6
        try clear c7
        try clear c8
        obtain ⟨x9_1, x10_1, rfl, rfl, HA, HK1, HB⟩ := hrel
        cases gk with
        | zero => exact absurd HA.out (by simp [turnstileref04_Burst.l0])
        | succ k1 =>
          have H := HA.out
          clear HA
          simp only [turnstileref04_Burst.l0] at H
          by_cases c13 : (IntKind.u64.wrap (x10_1 - x9_1)) > 1
          · rw [if_pos c13] at H
            have c13b0 : decide (1 < (IntKind.u64.wrap (x10_1 - x9_1))) = true := decide_eq_true c13
            clear c13
            replace H := Option.bind_eq_some_iff.mp H
            obtain ⟨t364, A140, H⟩ := H
            replace H : (if t364 = true then (turnstileref04_Burst.l0 k1 a0 a1 a2 a3 (IntKind.u64.wrap (x9_1 + (IntKind.u64.wrap (Int.tdiv (IntKind.u64.wrap (x10_1 - x9_1)) 2)))) x10_1) else (turnstileref04_Burst.l0 k1 a0 a1 a2 a3 x9_1 (IntKind.u64.wrap (x9_1 + (IntKind.u64.wrap (Int.tdiv (IntKind.u64.wrap (x10_1 - x9_1)) 2)))))) = some r := H
            have A14 := Aside0.mk A140
            clear A140
            by_cases c15 : t364 = true
            · subst c15
              have H1 : (turnstileref04_Burst.l0 k1 a0 a1 a2 a3 (IntKind.u64.wrap (x9_1 + (IntKind.u64.wrap (Int.tdiv (IntKind.u64.wrap (x10_1 - x9_1)) 2)))) x10_1) = some r := by rw [if_pos rfl] at H; exact H
              clear H
              have H := H1
              clear H1
              have H' := Aside0.mk H
              clear H
              go_wp2_with (first | ((with_reducible refine gate_callee (f := 73) rfl ?_); refine gm (some 38) Try.func73 #[.int .u64 a0, .int .u64 a1, .int .u64 a2, .int .u64 a3, .int .u64 (IntKind.u64.wrap (x9_1 + (IntKind.u64.wrap (Int.tdiv (IntKind.u64.wrap (x10_1 - x9_1)) 2))))] (turnstileref04_fits.calls k1 a0 a1 a2 a3 (IntKind.u64.wrap (x9_1 + (IntKind.u64.wrap (Int.tdiv (IntKind.u64.wrap (x10_1 - x9_1)) 2)))) true _ A14.out) ?_; intro w16 hb; have n0_ := bs HB hb; clear HB; have HB := n0_; clear n0_; (try clear hb); (try clear hb2); (try clear hk); (try clear hi)))
              go_roundg k1
              case measure => have := HK1.out; omega
              case rel => exact ⟨(IntKind.u64.wrap (x9_1 + (IntKind.u64.wrap (Int.tdiv (IntKind.u64.wrap (x10_1 - x9_1)) 2)))), (x10_1), rs, rs, H', ⟨by have := HK1.out; omega⟩, ⟨bw HB⟩⟩
            · replace c15 := Bool.eq_false_iff.mpr c15
              subst c15
              have H1 : (turnstileref04_Burst.l0 k1 a0 a1 a2 a3 x9_1 (IntKind.u64.wrap (x9_1 + (IntKind.u64.wrap (Int.tdiv (IntKind.u64.wrap (x10_1 - x9_1)) 2))))) = some r := by rw [if_neg (show ¬ (false = true) by decide)] at H; exact H
              clear H
              have H := H1
              clear H1
              have H' := Aside0.mk H
              clear H
              go_wp2_with (first | ((with_reducible refine gate_callee (f := 73) rfl ?_); refine gm (some 38) Try.func73 #[.int .u64 a0, .int .u64 a1, .int .u64 a2, .int .u64 a3, .int .u64 (IntKind.u64.wrap (x9_1 + (IntKind.u64.wrap (Int.tdiv (IntKind.u64.wrap (x10_1 - x9_1)) 2))))] (turnstileref04_fits.calls k1 a0 a1 a2 a3 (IntKind.u64.wrap (x9_1 + (IntKind.u64.wrap (Int.tdiv (IntKind.u64.wrap (x10_1 - x9_1)) 2)))) false _ A14.out) ?_; intro w17 hb; have n0_ := bs HB hb; clear HB; have HB := n0_; clear n0_; (try clear hb); (try clear hb2); (try clear hk); (try clear hi)))
              go_roundg k1
              case measure => have := HK1.out; omega
              case rel => exact ⟨(x9_1), (IntKind.u64.wrap (x9_1 + (IntKind.u64.wrap (Int.tdiv (IntKind.u64.wrap (x10_1 - x9_1)) 2)))), rs, rs, H', ⟨by have := HK1.out; omega⟩, ⟨bw HB⟩⟩
          · rw [if_neg c13] at H
            have c13b0 : decide (1 < (IntKind.u64.wrap (x10_1 - x9_1))) = false := decide_eq_false c13
            clear c13
            obtain rfl := Option.some.inj H
            go_wp2
            go_ret
            exact ⟨re, bw HB⟩
  · replace c6 := Bool.eq_false_iff.mpr c6
    subst c6
    have H1 : (some 0) = some r := by rw [if_neg (show ¬ (false = true) by decide)] at H; exact H
    clear H
    have H := H1
    clear H1
    obtain rfl := Option.some.inj H
    go_enter Try.func66, Try.ntmps66
    go_wp2_with (first | ((with_reducible refine gate_callee (f := 73) rfl ?_); refine gm (some 16) Try.func73 #[.int .u64 a0, .int .u64 a1, .int .u64 a2, .int .u64 a3, .int .u64 1] (turnstileref04_fits.calls k a0 a1 a2 a3 1 false _ A5.out) ?_; intro w18 hb; have n0_ := bs HB hb; clear HB; have HB := n0_; clear n0_; (try clear hb); (try clear hb2); (try clear hk); (try clear hi)))
    go_ret
    exact ⟨re, bw HB⟩

/-! ### turnstileref06_Left: function 44 -/
def turnstileref06_Left.f (k : Nat) (a0_0 : Int) (a0_1 : Int) (a0_2 : Int) (a0_3 : Int) (a0_4 : Int) (a1_0 : Int) (a1_1 : Int) (a1_2 : Int) (a2 : Int) : Option (Int) := (turnstileref06_Valid.f a0_0 a0_1 a0_2 a0_3 a0_4).bind fun t367 => (if t367 = true then (if a0_0 = 1 then ((turnstileref04_Burst.f k a0_1 a0_2 a1_0 a2).bind fun t368 => (some t368)) else ((turnstileref05_Left.f a0_3 a0_4 a1_1 a1_2 a2).bind fun t369 => (some t369))) else (some 0))
theorem turnstileref06_Left.mono : ∀ a0 a1 a2 a3 a4 a5 a6 a7 a8 k, LeO (turnstileref06_Left.f k a0 a1 a2 a3 a4 a5 a6 a7 a8) (turnstileref06_Left.f (k + 1) a0 a1 a2 a3 a4 a5 a6 a7 a8) := by
  intro a0 a1 a2 a3 a4 a5 a6 a7 a8 k
  unfold turnstileref06_Left.f
  repeat' first
      | (with_reducible exact turnstileref04_Burst.mono _ _ _ _ _)
      | (with_reducible exact LeO.refl _)
      | (with_reducible exact LeO.none _)
      | (with_reducible refine LeO.ite ?_ ?_)
      | (with_reducible refine LeO.bind ?_ (fun _ => ?_))
      | exact turnstileref04_Burst.mono _ _ _ _ _
      | exact LeO.none _
      | refine LeO.ite ?_ ?_
      | refine LeO.bind ?_ (fun _ => ?_)
set_option maxHeartbeats 8000000 in
set_option maxRecDepth 100000 in
theorem turnstileref06_Left.calls (k : Nat) (a0_0 : Int) (a0_1 : Int) (a0_2 : Int) (a0_3 : Int) (a0_4 : Int) (a1_0 : Int) (a1_1 : Int) (a1_2 : Int) (a2 : Int) (r : Int) (w : World) (h : turnstileref06_Left.f k a0_0 a0_1 a0_2 a0_3 a0_4 a1_0 a1_1 a1_2 a2 = some r) :
    Calls Try.prog 44 #[.agg #[.int .i64 a0_0, .int .u64 a0_1, .int .u64 a0_2, .int .u64 a0_3, .int .u64 a0_4], .agg #[.int .u64 a1_0, .int .u64 a1_1, .int .u64 a1_2], .int .u64 a2] w fun e w' => e = .returned (.int .u64 r) ∧ Below w.heap.size w w' := by
  have hu27 := Try.underlying27
  have hu29 := Try.underlying29
  have HB := Aside0.mk (Below.refl w.heap.size w)
  have H : ((turnstileref06_Valid.f a0_0 a0_1 a0_2 a0_3 a0_4).bind fun t367 => (if t367 = true then (if a0_0 = 1 then ((turnstileref04_Burst.f k a0_1 a0_2 a1_0 a2).bind fun t368 => (some t368)) else ((turnstileref05_Left.f a0_3 a0_4 a1_1 a1_2 a2).bind fun t369 => (some t369))) else (some 0))) = some r := h
  clear h
  replace H := Option.bind_eq_some_iff.mp H
  obtain ⟨t367, A40, H⟩ := H
  replace H : (if t367 = true then (if a0_0 = 1 then ((turnstileref04_Burst.f k a0_1 a0_2 a1_0 a2).bind fun t368 => (some t368)) else ((turnstileref05_Left.f a0_3 a0_4 a1_1 a1_2 a2).bind fun t369 => (some t369))) else (some 0)) = some r := H
  have A4 := Aside0.mk A40
  clear A40
  by_cases c5 : t367 = true
  · subst c5
    have H1 : (if a0_0 = 1 then ((turnstileref04_Burst.f k a0_1 a0_2 a1_0 a2).bind fun t368 => (some t368)) else ((turnstileref05_Left.f a0_3 a0_4 a1_1 a1_2 a2).bind fun t369 => (some t369))) = some r := by rw [if_pos rfl] at H; exact H
    clear H
    have H := H1
    clear H1
    by_cases c6 : a0_0 = 1
    · rw [if_pos c6] at H
      have c6b0 : (a0_0 == 1) = true := beq_iff_eq.mpr c6
      have c6b1 : (a0_0 != 1) = false := bne_eq_false_iff_eq.mpr c6
      clear c6
      replace H := Option.bind_eq_some_iff.mp H
      obtain ⟨t368, A70, H⟩ := H
      replace H : (some t368) = some r := H
      have A7 := Aside0.mk A70
      clear A70
      obtain rfl := Option.some.inj H
      go_enter Try.func44, Try.ntmps44
      go_wp2_with (first | ((with_reducible refine gate_dst (N := 3) rfl ?_); refine bx 3 #[.int .i64 a0_0, .int .u64 a0_1, .int .u64 a0_2, .int .u64 a0_3, .int .u64 a0_4] 27 ?_; intro gb365 hg w8 hbox hb; have n0_ := bs HB hb; have n1_ := Aside0.mk (hbox); have n2_ := sz HB hg; have n3_ := sz HB hg; clear HB; have HB := n0_; have BK365 := n1_; have GW365 := n2_; have GE365 := n3_; clear n0_ n1_ n2_ n3_; clear hb hbox hg) | ((with_reducible refine gate_dst (N := 4) rfl ?_); refine bx 4 #[.int .u64 a1_0, .int .u64 a1_1, .int .u64 a1_2] 29 ?_; intro gb366 hg w9 hbox hb; have n0_ := bb BK365 hb; have n1_ := bs HB hb; have n2_ := Aside0.mk (hbox); have n3_ := sz HB hg; have n4_ := sz HB hg; have n5_ := nl BK365 hg; have n6_ := nr BK365 hg; clear BK365; clear HB; have BK365 := n0_; have HB := n1_; have BK366 := n2_; have GW366 := n3_; have GE366 := n4_; have NB365_366 := n5_; have NB366_365 := n6_; clear n0_ n1_ n2_ n3_ n4_ n5_ n6_; clear hb hbox hg; have hnb10 := NB365_366.out; have hnc10 := NB366_365.out; obtain ⟨hcz11_0, hcz11_1, hcz11_2, hcz11_3, hcz11_4, hfz11_0, hfz11_1, hfz11_2, hfz11_3, hfz11_4⟩ := bc5 BK365) | ((with_reducible refine gate_callee (f := 41) rfl ?_); refine gm (some 8) Try.func41 #[.agg #[.int .i64 a0_0, .int .u64 a0_1, .int .u64 a0_2, .int .u64 a0_3, .int .u64 a0_4]] (turnstileref06_Valid.calls a0_0 a0_1 a0_2 a0_3 a0_4 true _ A4.out) ?_; intro w12 hb; have n0_ := bb BK365 hb; have n1_ := bb BK366 hb; have n2_ := bs HB hb; clear BK365; clear BK366; clear HB; have BK365 := n0_; have BK366 := n1_; have HB := n2_; clear n0_ n1_ n2_; (try clear hb); (try clear hb2); (try clear hk); (try clear hi); obtain ⟨hcz13_0, hcz13_1, hcz13_2, hcz13_3, hcz13_4, hfz13_0, hfz13_1, hfz13_2, hfz13_3, hfz13_4⟩ := bc5 BK365; obtain ⟨hcz14_0, hcz14_1, hcz14_2, hfz14_0, hfz14_1, hfz14_2⟩ := bc3 BK366) | ((with_reducible refine gate_callee (f := 66) rfl ?_); refine gm (some 20) Try.func66 #[.int .u64 a0_1, .int .u64 a0_2, .int .u64 a1_0, .int .u64 a2] (turnstileref04_Burst.calls k a0_1 a0_2 a1_0 a2 t368 _ A7.out) ?_; intro w15 hb; have n0_ := bb BK365 hb; have n1_ := bb BK366 hb; have n2_ := bs HB hb; clear BK365; clear BK366; clear HB; have BK365 := n0_; have BK366 := n1_; have HB := n2_; clear n0_ n1_ n2_; (try clear hb); (try clear hb2); (try clear hk); (try clear hi)))
      go_ret
      exact ⟨re, bw HB⟩
    · rw [if_neg c6] at H
      have c6b0 : (a0_0 == 1) = false := beq_eq_false_iff_ne.mpr c6
      have c6b1 : (a0_0 != 1) = true := bne_iff_ne.mpr c6
      replace H := Option.bind_eq_some_iff.mp H
      obtain ⟨t369, A160, H⟩ := H
      replace H : (some t369) = some r := H
      have A16 := Aside0.mk A160
      clear A160
      obtain rfl := Option.some.inj H
      go_enter Try.func44, Try.ntmps44
      go_wp2_with (first | ((with_reducible refine gate_dst (N := 3) rfl ?_); refine bx 3 #[.int .i64 a0_0, .int .u64 a0_1, .int .u64 a0_2, .int .u64 a0_3, .int .u64 a0_4] 27 ?_; intro gb365 hg w17 hbox hb; have n0_ := bs HB hb; have n1_ := Aside0.mk (hbox); have n2_ := sz HB hg; have n3_ := sz HB hg; clear HB; have HB := n0_; have BK365 := n1_; have GW365 := n2_; have GE365 := n3_; clear n0_ n1_ n2_ n3_; clear hb hbox hg) | ((with_reducible refine gate_dst (N := 4) rfl ?_); refine bx 4 #[.int .u64 a1_0, .int .u64 a1_1, .int .u64 a1_2] 29 ?_; intro gb366 hg w18 hbox hb; have n0_ := bb BK365 hb; have n1_ := bs HB hb; have n2_ := Aside0.mk (hbox); have n3_ := sz HB hg; have n4_ := sz HB hg; have n5_ := nl BK365 hg; have n6_ := nr BK365 hg; clear BK365; clear HB; have BK365 := n0_; have HB := n1_; have BK366 := n2_; have GW366 := n3_; have GE366 := n4_; have NB365_366 := n5_; have NB366_365 := n6_; clear n0_ n1_ n2_ n3_ n4_ n5_ n6_; clear hb hbox hg; have hnb19 := NB365_366.out; have hnc19 := NB366_365.out; obtain ⟨hcz20_0, hcz20_1, hcz20_2, hcz20_3, hcz20_4, hfz20_0, hfz20_1, hfz20_2, hfz20_3, hfz20_4⟩ := bc5 BK365) | ((with_reducible refine gate_callee (f := 41) rfl ?_); refine gm (some 8) Try.func41 #[.agg #[.int .i64 a0_0, .int .u64 a0_1, .int .u64 a0_2, .int .u64 a0_3, .int .u64 a0_4]] (turnstileref06_Valid.calls a0_0 a0_1 a0_2 a0_3 a0_4 true _ A4.out) ?_; intro w21 hb; have n0_ := bb BK365 hb; have n1_ := bb BK366 hb; have n2_ := bs HB hb; clear BK365; clear BK366; clear HB; have BK365 := n0_; have BK366 := n1_; have HB := n2_; clear n0_ n1_ n2_; (try clear hb); (try clear hb2); (try clear hk); (try clear hi); obtain ⟨hcz22_0, hcz22_1, hcz22_2, hcz22_3, hcz22_4, hfz22_0, hfz22_1, hfz22_2, hfz22_3, hfz22_4⟩ := bc5 BK365; obtain ⟨hcz23_0, hcz23_1, hcz23_2, hfz23_0, hfz23_1, hfz23_2⟩ := bc3 BK366) | ((with_reducible refine gate_callee (f := 67) rfl ?_); refine gl (some 30) Try.func67 #[.int .u64 a0_3, .int .u64 a0_4, .int .u64 a1_1, .int .u64 a1_2, .int .u64 a2] ?_; (with_reducible refine (turnstileref05_Left.calls a0_3 a0_4 a1_1 a1_2 a2 t369 _ A16.out).mono ?_); rintro e w' ⟨rfl, ⟨nd, rfl⟩⟩; refine ⟨_, rfl, ?_⟩))
      go_ret
      exact ⟨re, bw HB⟩
  · replace c5 := Bool.eq_false_iff.mpr c5
    subst c5
    have H1 : (some 0) = some r := by rw [if_neg (show ¬ (false = true) by decide)] at H; exact H
    clear H
    have H := H1
    clear H1
    obtain rfl := Option.some.inj H
    go_enter Try.func44, Try.ntmps44
    go_wp2_with (first | ((with_reducible refine gate_dst (N := 3) rfl ?_); refine bx 3 #[.int .i64 a0_0, .int .u64 a0_1, .int .u64 a0_2, .int .u64 a0_3, .int .u64 a0_4] 27 ?_; intro gb365 hg w24 hbox hb; have n0_ := bs HB hb; have n1_ := Aside0.mk (hbox); have n2_ := sz HB hg; have n3_ := sz HB hg; clear HB; have HB := n0_; have BK365 := n1_; have GW365 := n2_; have GE365 := n3_; clear n0_ n1_ n2_ n3_; clear hb hbox hg) | ((with_reducible refine gate_dst (N := 4) rfl ?_); refine bx 4 #[.int .u64 a1_0, .int .u64 a1_1, .int .u64 a1_2] 29 ?_; intro gb366 hg w25 hbox hb; have n0_ := bb BK365 hb; have n1_ := bs HB hb; have n2_ := Aside0.mk (hbox); have n3_ := sz HB hg; have n4_ := sz HB hg; have n5_ := nl BK365 hg; have n6_ := nr BK365 hg; clear BK365; clear HB; have BK365 := n0_; have HB := n1_; have BK366 := n2_; have GW366 := n3_; have GE366 := n4_; have NB365_366 := n5_; have NB366_365 := n6_; clear n0_ n1_ n2_ n3_ n4_ n5_ n6_; clear hb hbox hg; have hnb26 := NB365_366.out; have hnc26 := NB366_365.out; obtain ⟨hcz27_0, hcz27_1, hcz27_2, hcz27_3, hcz27_4, hfz27_0, hfz27_1, hfz27_2, hfz27_3, hfz27_4⟩ := bc5 BK365) | ((with_reducible refine gate_callee (f := 41) rfl ?_); refine gm (some 8) Try.func41 #[.agg #[.int .i64 a0_0, .int .u64 a0_1, .int .u64 a0_2, .int .u64 a0_3, .int .u64 a0_4]] (turnstileref06_Valid.calls a0_0 a0_1 a0_2 a0_3 a0_4 false _ A4.out) ?_; intro w28 hb; have n0_ := bb BK365 hb; have n1_ := bb BK366 hb; have n2_ := bs HB hb; clear BK365; clear BK366; clear HB; have BK365 := n0_; have BK366 := n1_; have HB := n2_; clear n0_ n1_ n2_; (try clear hb); (try clear hb2); (try clear hk); (try clear hi)))
    go_ret
    exact ⟨re, bw HB⟩

/-! ### turnstileref06_Covers: function 45 -/
def turnstileref06_Covers.f (a0_0 : Int) (a0_1 : Int) (a0_2 : Int) (a0_3 : Int) (a0_4 : Int) (a1_0 : Int) (a1_1 : Int) (a1_2 : Int) (a2_0 : Int) (a2_1 : Int) (a2_2 : Int) : Option (Bool) := (turnstileref06_Valid.f a0_0 a0_1 a0_2 a0_3 a0_4).bind fun t373 => (if t373 = true then (if a0_0 = 1 then (some (decide (a2_0 ≤ a1_0))) else (if a2_1 = a1_1 then (some (decide (a2_2 ≤ a1_2))) else (some (decide (a2_1 < a1_1))))) else (some false))
set_option maxHeartbeats 8000000 in
set_option maxRecDepth 100000 in
theorem turnstileref06_Covers.calls (a0_0 : Int) (a0_1 : Int) (a0_2 : Int) (a0_3 : Int) (a0_4 : Int) (a1_0 : Int) (a1_1 : Int) (a1_2 : Int) (a2_0 : Int) (a2_1 : Int) (a2_2 : Int) (r : Bool) (w : World) (h : turnstileref06_Covers.f a0_0 a0_1 a0_2 a0_3 a0_4 a1_0 a1_1 a1_2 a2_0 a2_1 a2_2 = some r) :
    Calls Try.prog 45 #[.agg #[.int .i64 a0_0, .int .u64 a0_1, .int .u64 a0_2, .int .u64 a0_3, .int .u64 a0_4], .agg #[.int .u64 a1_0, .int .u64 a1_1, .int .u64 a1_2], .agg #[.int .u64 a2_0, .int .u64 a2_1, .int .u64 a2_2]] w fun e w' => e = .returned (.bool r) ∧ Below w.heap.size w w' := by
  have hu27 := Try.underlying27
  have hu29 := Try.underlying29
  have HB := Aside0.mk (Below.refl w.heap.size w)
  have H : ((turnstileref06_Valid.f a0_0 a0_1 a0_2 a0_3 a0_4).bind fun t373 => (if t373 = true then (if a0_0 = 1 then (some (decide (a2_0 ≤ a1_0))) else (if a2_1 = a1_1 then (some (decide (a2_2 ≤ a1_2))) else (some (decide (a2_1 < a1_1))))) else (some false))) = some r := h
  clear h
  replace H := Option.bind_eq_some_iff.mp H
  obtain ⟨t373, A40, H⟩ := H
  replace H : (if t373 = true then (if a0_0 = 1 then (some (decide (a2_0 ≤ a1_0))) else (if a2_1 = a1_1 then (some (decide (a2_2 ≤ a1_2))) else (some (decide (a2_1 < a1_1))))) else (some false)) = some r := H
  have A4 := Aside0.mk A40
  clear A40
  by_cases c5 : t373 = true
  · subst c5
    have H1 : (if a0_0 = 1 then (some (decide (a2_0 ≤ a1_0))) else (if a2_1 = a1_1 then (some (decide (a2_2 ≤ a1_2))) else (some (decide (a2_1 < a1_1))))) = some r := by rw [if_pos rfl] at H; exact H
    clear H
    have H := H1
    clear H1
    by_cases c6 : a0_0 = 1
    · rw [if_pos c6] at H
      have c6b0 : (a0_0 == 1) = true := beq_iff_eq.mpr c6
      have c6b1 : (a0_0 != 1) = false := bne_eq_false_iff_eq.mpr c6
      clear c6
      obtain rfl := Option.some.inj H
      go_enter Try.func45, Try.ntmps45
      go_wp2_with (first | ((with_reducible refine gate_dst (N := 3) rfl ?_); refine bx 3 #[.int .i64 a0_0, .int .u64 a0_1, .int .u64 a0_2, .int .u64 a0_3, .int .u64 a0_4] 27 ?_; intro gb370 hg w7 hbox hb; have n0_ := bs HB hb; have n1_ := Aside0.mk (hbox); have n2_ := sz HB hg; have n3_ := sz HB hg; clear HB; have HB := n0_; have BK370 := n1_; have GW370 := n2_; have GE370 := n3_; clear n0_ n1_ n2_ n3_; clear hb hbox hg) | ((with_reducible refine gate_dst (N := 4) rfl ?_); refine bx 4 #[.int .u64 a1_0, .int .u64 a1_1, .int .u64 a1_2] 29 ?_; intro gb371 hg w8 hbox hb; have n0_ := bb BK370 hb; have n1_ := bs HB hb; have n2_ := Aside0.mk (hbox); have n3_ := sz HB hg; have n4_ := sz HB hg; have n5_ := nl BK370 hg; have n6_ := nr BK370 hg; clear BK370; clear HB; have BK370 := n0_; have HB := n1_; have BK371 := n2_; have GW371 := n3_; have GE371 := n4_; have NB370_371 := n5_; have NB371_370 := n6_; clear n0_ n1_ n2_ n3_ n4_ n5_ n6_; clear hb hbox hg) | ((with_reducible refine gate_dst (N := 5) rfl ?_); refine bx 5 #[.int .u64 a2_0, .int .u64 a2_1, .int .u64 a2_2] 29 ?_; intro gb372 hg w9 hbox hb; have n0_ := bb BK370 hb; have n1_ := bb BK371 hb; have n2_ := bs HB hb; have n3_ := Aside0.mk (hbox); have n4_ := sz HB hg; have n5_ := sz HB hg; have n6_ := nl BK370 hg; have n7_ := nr BK370 hg; have n8_ := nl BK371 hg; have n9_ := nr BK371 hg; clear BK370; clear BK371; clear HB; have BK370 := n0_; have BK371 := n1_; have HB := n2_; have BK372 := n3_; have GW372 := n4_; have GE372 := n5_; have NB370_372 := n6_; have NB372_370 := n7_; have NB371_372 := n8_; have NB372_371 := n9_; clear n0_ n1_ n2_ n3_ n4_ n5_ n6_ n7_ n8_ n9_; clear hb hbox hg; have hnb10 := NB370_371.out; have hnc10 := NB371_370.out; have hnb11 := NB370_372.out; have hnc11 := NB372_370.out; obtain ⟨hcz12_0, hcz12_1, hcz12_2, hcz12_3, hcz12_4, hfz12_0, hfz12_1, hfz12_2, hfz12_3, hfz12_4⟩ := bc5 BK370) | ((with_reducible refine gate_callee (f := 41) rfl ?_); refine gm (some 8) Try.func41 #[.agg #[.int .i64 a0_0, .int .u64 a0_1, .int .u64 a0_2, .int .u64 a0_3, .int .u64 a0_4]] (turnstileref06_Valid.calls a0_0 a0_1 a0_2 a0_3 a0_4 true _ A4.out) ?_; intro w13 hb; have n0_ := bb BK370 hb; have n1_ := bb BK371 hb; have n2_ := bb BK372 hb; have n3_ := bs HB hb; clear BK370; clear BK371; clear BK372; clear HB; have BK370 := n0_; have BK371 := n1_; have BK372 := n2_; have HB := n3_; clear n0_ n1_ n2_ n3_; (try clear hb); (try clear hb2); (try clear hk); (try clear hi); obtain ⟨hcz14_0, hcz14_1, hcz14_2, hcz14_3, hcz14_4, hfz14_0, hfz14_1, hfz14_2, hfz14_3, hfz14_4⟩ := bc5 BK370; have hnb15 := NB372_371.out; have hnc15 := NB371_372.out; obtain ⟨hcz16_0, hcz16_1, hcz16_2, hfz16_0, hfz16_1, hfz16_2⟩ := bc3 BK372; obtain ⟨hcz17_0, hcz17_1, hcz17_2, hfz17_0, hfz17_1, hfz17_2⟩ := bc3 BK371))
      go_ret
      exact ⟨re, bw HB⟩
    · rw [if_neg c6] at H
      have c6b0 : (a0_0 == 1) = false := beq_eq_false_iff_ne.mpr c6
      have c6b1 : (a0_0 != 1) = true := bne_iff_ne.mpr c6
      by_cases c18 : a2_1 = a1_1
      · rw [if_pos c18] at H
        have c18b0 : (a2_1 == a1_1) = true := beq_iff_eq.mpr c18
        have c18b1 : (a2_1 != a1_1) = false := bne_eq_false_iff_eq.mpr c18
        clear c18
        obtain rfl := Option.some.inj H
        go_enter Try.func45, Try.ntmps45
        go_wp2_with (first | ((with_reducible refine gate_dst (N := 3) rfl ?_); refine bx 3 #[.int .i64 a0_0, .int .u64 a0_1, .int .u64 a0_2, .int .u64 a0_3, .int .u64 a0_4] 27 ?_; intro gb370 hg w19 hbox hb; have n0_ := bs HB hb; have n1_ := Aside0.mk (hbox); have n2_ := sz HB hg; have n3_ := sz HB hg; clear HB; have HB := n0_; have BK370 := n1_; have GW370 := n2_; have GE370 := n3_; clear n0_ n1_ n2_ n3_; clear hb hbox hg) | ((with_reducible refine gate_dst (N := 4) rfl ?_); refine bx 4 #[.int .u64 a1_0, .int .u64 a1_1, .int .u64 a1_2] 29 ?_; intro gb371 hg w20 hbox hb; have n0_ := bb BK370 hb; have n1_ := bs HB hb; have n2_ := Aside0.mk (hbox); have n3_ := sz HB hg; have n4_ := sz HB hg; have n5_ := nl BK370 hg; have n6_ := nr BK370 hg; clear BK370; clear HB; have BK370 := n0_; have HB := n1_; have BK371 := n2_; have GW371 := n3_; have GE371 := n4_; have NB370_371 := n5_; have NB371_370 := n6_; clear n0_ n1_ n2_ n3_ n4_ n5_ n6_; clear hb hbox hg) | ((with_reducible refine gate_dst (N := 5) rfl ?_); refine bx 5 #[.int .u64 a2_0, .int .u64 a2_1, .int .u64 a2_2] 29 ?_; intro gb372 hg w21 hbox hb; have n0_ := bb BK370 hb; have n1_ := bb BK371 hb; have n2_ := bs HB hb; have n3_ := Aside0.mk (hbox); have n4_ := sz HB hg; have n5_ := sz HB hg; have n6_ := nl BK370 hg; have n7_ := nr BK370 hg; have n8_ := nl BK371 hg; have n9_ := nr BK371 hg; clear BK370; clear BK371; clear HB; have BK370 := n0_; have BK371 := n1_; have HB := n2_; have BK372 := n3_; have GW372 := n4_; have GE372 := n5_; have NB370_372 := n6_; have NB372_370 := n7_; have NB371_372 := n8_; have NB372_371 := n9_; clear n0_ n1_ n2_ n3_ n4_ n5_ n6_ n7_ n8_ n9_; clear hb hbox hg; have hnb22 := NB370_371.out; have hnc22 := NB371_370.out; have hnb23 := NB370_372.out; have hnc23 := NB372_370.out; obtain ⟨hcz24_0, hcz24_1, hcz24_2, hcz24_3, hcz24_4, hfz24_0, hfz24_1, hfz24_2, hfz24_3, hfz24_4⟩ := bc5 BK370) | ((with_reducible refine gate_callee (f := 41) rfl ?_); refine gm (some 8) Try.func41 #[.agg #[.int .i64 a0_0, .int .u64 a0_1, .int .u64 a0_2, .int .u64 a0_3, .int .u64 a0_4]] (turnstileref06_Valid.calls a0_0 a0_1 a0_2 a0_3 a0_4 true _ A4.out) ?_; intro w25 hb; have n0_ := bb BK370 hb; have n1_ := bb BK371 hb; have n2_ := bb BK372 hb; have n3_ := bs HB hb; clear BK370; clear BK371; clear BK372; clear HB; have BK370 := n0_; have BK371 := n1_; have BK372 := n2_; have HB := n3_; clear n0_ n1_ n2_ n3_; (try clear hb); (try clear hb2); (try clear hk); (try clear hi); obtain ⟨hcz26_0, hcz26_1, hcz26_2, hcz26_3, hcz26_4, hfz26_0, hfz26_1, hfz26_2, hfz26_3, hfz26_4⟩ := bc5 BK370; have hnb27 := NB372_371.out; have hnc27 := NB371_372.out; obtain ⟨hcz28_0, hcz28_1, hcz28_2, hfz28_0, hfz28_1, hfz28_2⟩ := bc3 BK372; obtain ⟨hcz29_0, hcz29_1, hcz29_2, hfz29_0, hfz29_1, hfz29_2⟩ := bc3 BK371))
        go_ret
        exact ⟨re, bw HB⟩
      · rw [if_neg c18] at H
        have c18b0 : (a2_1 == a1_1) = false := beq_eq_false_iff_ne.mpr c18
        have c18b1 : (a2_1 != a1_1) = true := bne_iff_ne.mpr c18
        obtain rfl := Option.some.inj H
        go_enter Try.func45, Try.ntmps45
        go_wp2_with (first | ((with_reducible refine gate_dst (N := 3) rfl ?_); refine bx 3 #[.int .i64 a0_0, .int .u64 a0_1, .int .u64 a0_2, .int .u64 a0_3, .int .u64 a0_4] 27 ?_; intro gb370 hg w30 hbox hb; have n0_ := bs HB hb; have n1_ := Aside0.mk (hbox); have n2_ := sz HB hg; have n3_ := sz HB hg; clear HB; have HB := n0_; have BK370 := n1_; have GW370 := n2_; have GE370 := n3_; clear n0_ n1_ n2_ n3_; clear hb hbox hg) | ((with_reducible refine gate_dst (N := 4) rfl ?_); refine bx 4 #[.int .u64 a1_0, .int .u64 a1_1, .int .u64 a1_2] 29 ?_; intro gb371 hg w31 hbox hb; have n0_ := bb BK370 hb; have n1_ := bs HB hb; have n2_ := Aside0.mk (hbox); have n3_ := sz HB hg; have n4_ := sz HB hg; have n5_ := nl BK370 hg; have n6_ := nr BK370 hg; clear BK370; clear HB; have BK370 := n0_; have HB := n1_; have BK371 := n2_; have GW371 := n3_; have GE371 := n4_; have NB370_371 := n5_; have NB371_370 := n6_; clear n0_ n1_ n2_ n3_ n4_ n5_ n6_; clear hb hbox hg) | ((with_reducible refine gate_dst (N := 5) rfl ?_); refine bx 5 #[.int .u64 a2_0, .int .u64 a2_1, .int .u64 a2_2] 29 ?_; intro gb372 hg w32 hbox hb; have n0_ := bb BK370 hb; have n1_ := bb BK371 hb; have n2_ := bs HB hb; have n3_ := Aside0.mk (hbox); have n4_ := sz HB hg; have n5_ := sz HB hg; have n6_ := nl BK370 hg; have n7_ := nr BK370 hg; have n8_ := nl BK371 hg; have n9_ := nr BK371 hg; clear BK370; clear BK371; clear HB; have BK370 := n0_; have BK371 := n1_; have HB := n2_; have BK372 := n3_; have GW372 := n4_; have GE372 := n5_; have NB370_372 := n6_; have NB372_370 := n7_; have NB371_372 := n8_; have NB372_371 := n9_; clear n0_ n1_ n2_ n3_ n4_ n5_ n6_ n7_ n8_ n9_; clear hb hbox hg; have hnb33 := NB370_371.out; have hnc33 := NB371_370.out; have hnb34 := NB370_372.out; have hnc34 := NB372_370.out; obtain ⟨hcz35_0, hcz35_1, hcz35_2, hcz35_3, hcz35_4, hfz35_0, hfz35_1, hfz35_2, hfz35_3, hfz35_4⟩ := bc5 BK370) | ((with_reducible refine gate_callee (f := 41) rfl ?_); refine gm (some 8) Try.func41 #[.agg #[.int .i64 a0_0, .int .u64 a0_1, .int .u64 a0_2, .int .u64 a0_3, .int .u64 a0_4]] (turnstileref06_Valid.calls a0_0 a0_1 a0_2 a0_3 a0_4 true _ A4.out) ?_; intro w36 hb; have n0_ := bb BK370 hb; have n1_ := bb BK371 hb; have n2_ := bb BK372 hb; have n3_ := bs HB hb; clear BK370; clear BK371; clear BK372; clear HB; have BK370 := n0_; have BK371 := n1_; have BK372 := n2_; have HB := n3_; clear n0_ n1_ n2_ n3_; (try clear hb); (try clear hb2); (try clear hk); (try clear hi); obtain ⟨hcz37_0, hcz37_1, hcz37_2, hcz37_3, hcz37_4, hfz37_0, hfz37_1, hfz37_2, hfz37_3, hfz37_4⟩ := bc5 BK370; have hnb38 := NB372_371.out; have hnc38 := NB371_372.out; obtain ⟨hcz39_0, hcz39_1, hcz39_2, hfz39_0, hfz39_1, hfz39_2⟩ := bc3 BK372; obtain ⟨hcz40_0, hcz40_1, hcz40_2, hfz40_0, hfz40_1, hfz40_2⟩ := bc3 BK371))
        go_ret
        exact ⟨re, bw HB⟩
  · replace c5 := Bool.eq_false_iff.mpr c5
    subst c5
    have H1 : (some false) = some r := by rw [if_neg (show ¬ (false = true) by decide)] at H; exact H
    clear H
    have H := H1
    clear H1
    obtain rfl := Option.some.inj H
    go_enter Try.func45, Try.ntmps45
    go_wp2_with (first | ((with_reducible refine gate_dst (N := 3) rfl ?_); refine bx 3 #[.int .i64 a0_0, .int .u64 a0_1, .int .u64 a0_2, .int .u64 a0_3, .int .u64 a0_4] 27 ?_; intro gb370 hg w41 hbox hb; have n0_ := bs HB hb; have n1_ := Aside0.mk (hbox); have n2_ := sz HB hg; have n3_ := sz HB hg; clear HB; have HB := n0_; have BK370 := n1_; have GW370 := n2_; have GE370 := n3_; clear n0_ n1_ n2_ n3_; clear hb hbox hg) | ((with_reducible refine gate_dst (N := 4) rfl ?_); refine bx 4 #[.int .u64 a1_0, .int .u64 a1_1, .int .u64 a1_2] 29 ?_; intro gb371 hg w42 hbox hb; have n0_ := bb BK370 hb; have n1_ := bs HB hb; have n2_ := Aside0.mk (hbox); have n3_ := sz HB hg; have n4_ := sz HB hg; have n5_ := nl BK370 hg; have n6_ := nr BK370 hg; clear BK370; clear HB; have BK370 := n0_; have HB := n1_; have BK371 := n2_; have GW371 := n3_; have GE371 := n4_; have NB370_371 := n5_; have NB371_370 := n6_; clear n0_ n1_ n2_ n3_ n4_ n5_ n6_; clear hb hbox hg) | ((with_reducible refine gate_dst (N := 5) rfl ?_); refine bx 5 #[.int .u64 a2_0, .int .u64 a2_1, .int .u64 a2_2] 29 ?_; intro gb372 hg w43 hbox hb; have n0_ := bb BK370 hb; have n1_ := bb BK371 hb; have n2_ := bs HB hb; have n3_ := Aside0.mk (hbox); have n4_ := sz HB hg; have n5_ := sz HB hg; have n6_ := nl BK370 hg; have n7_ := nr BK370 hg; have n8_ := nl BK371 hg; have n9_ := nr BK371 hg; clear BK370; clear BK371; clear HB; have BK370 := n0_; have BK371 := n1_; have HB := n2_; have BK372 := n3_; have GW372 := n4_; have GE372 := n5_; have NB370_372 := n6_; have NB372_370 := n7_; have NB371_372 := n8_; have NB372_371 := n9_; clear n0_ n1_ n2_ n3_ n4_ n5_ n6_ n7_ n8_ n9_; clear hb hbox hg; have hnb44 := NB370_371.out; have hnc44 := NB371_370.out; have hnb45 := NB370_372.out; have hnc45 := NB372_370.out; obtain ⟨hcz46_0, hcz46_1, hcz46_2, hcz46_3, hcz46_4, hfz46_0, hfz46_1, hfz46_2, hfz46_3, hfz46_4⟩ := bc5 BK370) | ((with_reducible refine gate_callee (f := 41) rfl ?_); refine gm (some 8) Try.func41 #[.agg #[.int .i64 a0_0, .int .u64 a0_1, .int .u64 a0_2, .int .u64 a0_3, .int .u64 a0_4]] (turnstileref06_Valid.calls a0_0 a0_1 a0_2 a0_3 a0_4 false _ A4.out) ?_; intro w47 hb; have n0_ := bb BK370 hb; have n1_ := bb BK371 hb; have n2_ := bb BK372 hb; have n3_ := bs HB hb; clear BK370; clear BK371; clear BK372; clear HB; have BK370 := n0_; have BK371 := n1_; have BK372 := n2_; have HB := n3_; clear n0_ n1_ n2_ n3_; (try clear hb); (try clear hb2); (try clear hk); (try clear hi)))
    go_ret
    exact ⟨re, bw HB⟩

/-! ### turnstileref06_Max: function 46 -/
def turnstileref06_Max.f (a0_0 : Int) (a0_1 : Int) (a0_2 : Int) (a0_3 : Int) (a0_4 : Int) (a1_0 : Int) (a1_1 : Int) (a1_2 : Int) (a2_0 : Int) (a2_1 : Int) (a2_2 : Int) : Option (Int × Int × Int) := (turnstileref06_Covers.f a0_0 a0_1 a0_2 a0_3 a0_4 a1_0 a1_1 a1_2 a2_0 a2_1 a2_2).bind fun t378 => (if t378 = true then ((turnstileref06_Form.f a0_0 a0_1 a0_2 a0_3 a0_4 a1_0 a1_1 a1_2).bind fun bt379 => (some (bt379.1, bt379.2.1, bt379.2.2))) else ((turnstileref06_Form.f a0_0 a0_1 a0_2 a0_3 a0_4 a2_0 a2_1 a2_2).bind fun bt382 => (some (bt382.1, bt382.2.1, bt382.2.2))))
set_option maxHeartbeats 8000000 in
set_option maxRecDepth 100000 in
theorem turnstileref06_Max.calls (a0_0 : Int) (a0_1 : Int) (a0_2 : Int) (a0_3 : Int) (a0_4 : Int) (a1_0 : Int) (a1_1 : Int) (a1_2 : Int) (a2_0 : Int) (a2_1 : Int) (a2_2 : Int) (r1 : Int) (r2 : Int) (r3 : Int) (w : World) (h : turnstileref06_Max.f a0_0 a0_1 a0_2 a0_3 a0_4 a1_0 a1_1 a1_2 a2_0 a2_1 a2_2 = some (r1, r2, r3)) :
    Calls Try.prog 46 #[.agg #[.int .i64 a0_0, .int .u64 a0_1, .int .u64 a0_2, .int .u64 a0_3, .int .u64 a0_4], .agg #[.int .u64 a1_0, .int .u64 a1_1, .int .u64 a1_2], .agg #[.int .u64 a2_0, .int .u64 a2_1, .int .u64 a2_2]] w fun e w' => e = .returned (.agg #[.int .u64 r1, .int .u64 r2, .int .u64 r3]) ∧ Below w.heap.size w w' := by
  have hu27 := Try.underlying27
  have hu29 := Try.underlying29
  have HB := Aside0.mk (Below.refl w.heap.size w)
  have H : ((turnstileref06_Covers.f a0_0 a0_1 a0_2 a0_3 a0_4 a1_0 a1_1 a1_2 a2_0 a2_1 a2_2).bind fun t378 => (if t378 = true then ((turnstileref06_Form.f a0_0 a0_1 a0_2 a0_3 a0_4 a1_0 a1_1 a1_2).bind fun bt379 => (some (bt379.1, bt379.2.1, bt379.2.2))) else ((turnstileref06_Form.f a0_0 a0_1 a0_2 a0_3 a0_4 a2_0 a2_1 a2_2).bind fun bt382 => (some (bt382.1, bt382.2.1, bt382.2.2))))) = some (r1, r2, r3) := h
  clear h
  replace H := Option.bind_eq_some_iff.mp H
  obtain ⟨t378, A40, H⟩ := H
  replace H : (if t378 = true then ((turnstileref06_Form.f a0_0 a0_1 a0_2 a0_3 a0_4 a1_0 a1_1 a1_2).bind fun bt379 => (some (bt379.1, bt379.2.1, bt379.2.2))) else ((turnstileref06_Form.f a0_0 a0_1 a0_2 a0_3 a0_4 a2_0 a2_1 a2_2).bind fun bt382 => (some (bt382.1, bt382.2.1, bt382.2.2)))) = some (r1, r2, r3) := H
  have A4 := Aside0.mk A40
  clear A40
  by_cases c5 : t378 = true
  · subst c5
    have H1 : ((turnstileref06_Form.f a0_0 a0_1 a0_2 a0_3 a0_4 a1_0 a1_1 a1_2).bind fun bt379 => (some (bt379.1, bt379.2.1, bt379.2.2))) = some (r1, r2, r3) := by rw [if_pos rfl] at H; exact H
    clear H
    have H := H1
    clear H1
    replace H := Option.bind_eq_some_iff.mp H
    obtain ⟨⟨t379, t380, t381⟩, A60, H⟩ := H
    replace H : (some (t379, t380, t381)) = some (r1, r2, r3) := H
    have A6 := Aside0.mk A60
    clear A60
    simp only [Option.some.injEq, Prod.mk.injEq] at H
    obtain ⟨rfl, rfl, rfl⟩ := H
    go_enter Try.func46, Try.ntmps46
    go_wp2_with (first | ((with_reducible refine gate_dst (N := 3) rfl ?_); refine bx 3 #[.int .i64 a0_0, .int .u64 a0_1, .int .u64 a0_2, .int .u64 a0_3, .int .u64 a0_4] 27 ?_; intro gb374 hg w7 hbox hb; have n0_ := bs HB hb; have n1_ := Aside0.mk (hbox); have n2_ := sz HB hg; have n3_ := sz HB hg; clear HB; have HB := n0_; have BK374 := n1_; have GW374 := n2_; have GE374 := n3_; clear n0_ n1_ n2_ n3_; clear hb hbox hg) | ((with_reducible refine gate_dst (N := 4) rfl ?_); refine bx 4 #[.int .u64 a1_0, .int .u64 a1_1, .int .u64 a1_2] 29 ?_; intro gb375 hg w8 hbox hb; have n0_ := bb BK374 hb; have n1_ := bs HB hb; have n2_ := Aside0.mk (hbox); have n3_ := sz HB hg; have n4_ := sz HB hg; have n5_ := nl BK374 hg; have n6_ := nr BK374 hg; clear BK374; clear HB; have BK374 := n0_; have HB := n1_; have BK375 := n2_; have GW375 := n3_; have GE375 := n4_; have NB374_375 := n5_; have NB375_374 := n6_; clear n0_ n1_ n2_ n3_ n4_ n5_ n6_; clear hb hbox hg) | ((with_reducible refine gate_dst (N := 5) rfl ?_); refine bx 5 #[.int .u64 a2_0, .int .u64 a2_1, .int .u64 a2_2] 29 ?_; intro gb376 hg w9 hbox hb; have n0_ := bb BK374 hb; have n1_ := bb BK375 hb; have n2_ := bs HB hb; have n3_ := Aside0.mk (hbox); have n4_ := sz HB hg; have n5_ := sz HB hg; have n6_ := nl BK374 hg; have n7_ := nr BK374 hg; have n8_ := nl BK375 hg; have n9_ := nr BK375 hg; clear BK374; clear BK375; clear HB; have BK374 := n0_; have BK375 := n1_; have HB := n2_; have BK376 := n3_; have GW376 := n4_; have GE376 := n5_; have NB374_376 := n6_; have NB376_374 := n7_; have NB375_376 := n8_; have NB376_375 := n9_; clear n0_ n1_ n2_ n3_ n4_ n5_ n6_ n7_ n8_ n9_; clear hb hbox hg) | ((with_reducible refine gate_dst (N := 6) rfl ?_); refine bx 6 #[.int .u64 0, .int .u64 0, .int .u64 0] 29 ?_; intro gb377 hg w10 hbox hb; have n0_ := bb BK374 hb; have n1_ := bb BK375 hb; have n2_ := bb BK376 hb; have n3_ := bs HB hb; have n4_ := Aside0.mk (hbox); have n5_ := sz HB hg; have n6_ := sz HB hg; have n7_ := nl BK374 hg; have n8_ := nr BK374 hg; have n9_ := nl BK375 hg; have n10_ := nr BK375 hg; have n11_ := nl BK376 hg; have n12_ := nr BK376 hg; clear BK374; clear BK375; clear BK376; clear HB; have BK374 := n0_; have BK375 := n1_; have BK376 := n2_; have HB := n3_; have BK377 := n4_; have GW377 := n5_; have GE377 := n6_; have NB374_377 := n7_; have NB377_374 := n8_; have NB375_377 := n9_; have NB377_375 := n10_; have NB376_377 := n11_; have NB377_376 := n12_; clear n0_ n1_ n2_ n3_ n4_ n5_ n6_ n7_ n8_ n9_ n10_ n11_ n12_; clear hb hbox hg; have hnb11 := NB374_375.out; have hnc11 := NB375_374.out; have hnb12 := NB374_376.out; have hnc12 := NB376_374.out; have hnb13 := NB374_377.out; have hnc13 := NB377_374.out; obtain ⟨hcz14_0, hcz14_1, hcz14_2, hcz14_3, hcz14_4, hfz14_0, hfz14_1, hfz14_2, hfz14_3, hfz14_4⟩ := bc5 BK374; have hnb15 := NB375_376.out; have hnc15 := NB376_375.out; have hnb16 := NB375_377.out; have hnc16 := NB377_375.out; obtain ⟨hcz17_0, hcz17_1, hcz17_2, hfz17_0, hfz17_1, hfz17_2⟩ := bc3 BK375; have hnb18 := NB376_377.out; have hnc18 := NB377_376.out; obtain ⟨hcz19_0, hcz19_1, hcz19_2, hfz19_0, hfz19_1, hfz19_2⟩ := bc3 BK376) | ((with_reducible refine gate_callee (f := 45) rfl ?_); refine gm (some 10) Try.func45 #[.agg #[.int .i64 a0_0, .int .u64 a0_1, .int .u64 a0_2, .int .u64 a0_3, .int .u64 a0_4], .agg #[.int .u64 a1_0, .int .u64 a1_1, .int .u64 a1_2], .agg #[.int .u64 a2_0, .int .u64 a2_1, .int .u64 a2_2]] (turnstileref06_Covers.calls a0_0 a0_1 a0_2 a0_3 a0_4 a1_0 a1_1 a1_2 a2_0 a2_1 a2_2 true _ A4.out) ?_; intro w20 hb; have n0_ := bb BK374 hb; have n1_ := bb BK375 hb; have n2_ := bb BK376 hb; have n3_ := bb BK377 hb; have n4_ := bs HB hb; clear BK374; clear BK375; clear BK376; clear BK377; clear HB; have BK374 := n0_; have BK375 := n1_; have BK376 := n2_; have BK377 := n3_; have HB := n4_; clear n0_ n1_ n2_ n3_ n4_; (try clear hb); (try clear hb2); (try clear hk); (try clear hi); obtain ⟨hcz21_0, hcz21_1, hcz21_2, hcz21_3, hcz21_4, hfz21_0, hfz21_1, hfz21_2, hfz21_3, hfz21_4⟩ := bc5 BK374; obtain ⟨hcz22_0, hcz22_1, hcz22_2, hfz22_0, hfz22_1, hfz22_2⟩ := bc3 BK375) | ((with_reducible refine gate_callee (f := 61) rfl ?_); refine gm (some 13) Try.func61 #[.agg #[.int .i64 a0_0, .int .u64 a0_1, .int .u64 a0_2, .int .u64 a0_3, .int .u64 a0_4], .agg #[.int .u64 a1_0, .int .u64 a1_1, .int .u64 a1_2]] (turnstileref06_Form.calls a0_0 a0_1 a0_2 a0_3 a0_4 a1_0 a1_1 a1_2 t379 t380 t381 _ A6.out) ?_; intro w23 hb; have n0_ := bb BK374 hb; have n1_ := bb BK375 hb; have n2_ := bb BK376 hb; have n3_ := bb BK377 hb; have n4_ := bs HB hb; clear BK374; clear BK375; clear BK376; clear BK377; clear HB; have BK374 := n0_; have BK375 := n1_; have BK376 := n2_; have BK377 := n3_; have HB := n4_; clear n0_ n1_ n2_ n3_ n4_; (try clear hb); (try clear hb2); (try clear hk); (try clear hi); obtain ⟨hcz24_0, hcz24_1, hcz24_2, hfz24_0, hfz24_1, hfz24_2⟩ := bc3 BK377))
    refine bodyPost_ret (results_cell_row rfl _ _ gb377 29 #[.int .u64 t379, .int .u64 t380, .int .u64 t381] (0, 0) _ rfl (bk BK377) Try.underlying29 rfl (by kernel_rfl)) rfl ?_
    exact ⟨re, bw HB⟩
  · replace c5 := Bool.eq_false_iff.mpr c5
    subst c5
    have H1 : ((turnstileref06_Form.f a0_0 a0_1 a0_2 a0_3 a0_4 a2_0 a2_1 a2_2).bind fun bt382 => (some (bt382.1, bt382.2.1, bt382.2.2))) = some (r1, r2, r3) := by rw [if_neg (show ¬ (false = true) by decide)] at H; exact H
    clear H
    have H := H1
    clear H1
    replace H := Option.bind_eq_some_iff.mp H
    obtain ⟨⟨t382, t383, t384⟩, A250, H⟩ := H
    replace H : (some (t382, t383, t384)) = some (r1, r2, r3) := H
    have A25 := Aside0.mk A250
    clear A250
    simp only [Option.some.injEq, Prod.mk.injEq] at H
    obtain ⟨rfl, rfl, rfl⟩ := H
    go_enter Try.func46, Try.ntmps46
    go_wp2_with (first | ((with_reducible refine gate_dst (N := 3) rfl ?_); refine bx 3 #[.int .i64 a0_0, .int .u64 a0_1, .int .u64 a0_2, .int .u64 a0_3, .int .u64 a0_4] 27 ?_; intro gb374 hg w26 hbox hb; have n0_ := bs HB hb; have n1_ := Aside0.mk (hbox); have n2_ := sz HB hg; have n3_ := sz HB hg; clear HB; have HB := n0_; have BK374 := n1_; have GW374 := n2_; have GE374 := n3_; clear n0_ n1_ n2_ n3_; clear hb hbox hg) | ((with_reducible refine gate_dst (N := 4) rfl ?_); refine bx 4 #[.int .u64 a1_0, .int .u64 a1_1, .int .u64 a1_2] 29 ?_; intro gb375 hg w27 hbox hb; have n0_ := bb BK374 hb; have n1_ := bs HB hb; have n2_ := Aside0.mk (hbox); have n3_ := sz HB hg; have n4_ := sz HB hg; have n5_ := nl BK374 hg; have n6_ := nr BK374 hg; clear BK374; clear HB; have BK374 := n0_; have HB := n1_; have BK375 := n2_; have GW375 := n3_; have GE375 := n4_; have NB374_375 := n5_; have NB375_374 := n6_; clear n0_ n1_ n2_ n3_ n4_ n5_ n6_; clear hb hbox hg) | ((with_reducible refine gate_dst (N := 5) rfl ?_); refine bx 5 #[.int .u64 a2_0, .int .u64 a2_1, .int .u64 a2_2] 29 ?_; intro gb376 hg w28 hbox hb; have n0_ := bb BK374 hb; have n1_ := bb BK375 hb; have n2_ := bs HB hb; have n3_ := Aside0.mk (hbox); have n4_ := sz HB hg; have n5_ := sz HB hg; have n6_ := nl BK374 hg; have n7_ := nr BK374 hg; have n8_ := nl BK375 hg; have n9_ := nr BK375 hg; clear BK374; clear BK375; clear HB; have BK374 := n0_; have BK375 := n1_; have HB := n2_; have BK376 := n3_; have GW376 := n4_; have GE376 := n5_; have NB374_376 := n6_; have NB376_374 := n7_; have NB375_376 := n8_; have NB376_375 := n9_; clear n0_ n1_ n2_ n3_ n4_ n5_ n6_ n7_ n8_ n9_; clear hb hbox hg) | ((with_reducible refine gate_dst (N := 6) rfl ?_); refine bx 6 #[.int .u64 0, .int .u64 0, .int .u64 0] 29 ?_; intro gb377 hg w29 hbox hb; have n0_ := bb BK374 hb; have n1_ := bb BK375 hb; have n2_ := bb BK376 hb; have n3_ := bs HB hb; have n4_ := Aside0.mk (hbox); have n5_ := sz HB hg; have n6_ := sz HB hg; have n7_ := nl BK374 hg; have n8_ := nr BK374 hg; have n9_ := nl BK375 hg; have n10_ := nr BK375 hg; have n11_ := nl BK376 hg; have n12_ := nr BK376 hg; clear BK374; clear BK375; clear BK376; clear HB; have BK374 := n0_; have BK375 := n1_; have BK376 := n2_; have HB := n3_; have BK377 := n4_; have GW377 := n5_; have GE377 := n6_; have NB374_377 := n7_; have NB377_374 := n8_; have NB375_377 := n9_; have NB377_375 := n10_; have NB376_377 := n11_; have NB377_376 := n12_; clear n0_ n1_ n2_ n3_ n4_ n5_ n6_ n7_ n8_ n9_ n10_ n11_ n12_; clear hb hbox hg; have hnb30 := NB374_375.out; have hnc30 := NB375_374.out; have hnb31 := NB374_376.out; have hnc31 := NB376_374.out; have hnb32 := NB374_377.out; have hnc32 := NB377_374.out; obtain ⟨hcz33_0, hcz33_1, hcz33_2, hcz33_3, hcz33_4, hfz33_0, hfz33_1, hfz33_2, hfz33_3, hfz33_4⟩ := bc5 BK374; have hnb34 := NB375_376.out; have hnc34 := NB376_375.out; have hnb35 := NB375_377.out; have hnc35 := NB377_375.out; obtain ⟨hcz36_0, hcz36_1, hcz36_2, hfz36_0, hfz36_1, hfz36_2⟩ := bc3 BK375; have hnb37 := NB376_377.out; have hnc37 := NB377_376.out; obtain ⟨hcz38_0, hcz38_1, hcz38_2, hfz38_0, hfz38_1, hfz38_2⟩ := bc3 BK376) | ((with_reducible refine gate_callee (f := 45) rfl ?_); refine gm (some 10) Try.func45 #[.agg #[.int .i64 a0_0, .int .u64 a0_1, .int .u64 a0_2, .int .u64 a0_3, .int .u64 a0_4], .agg #[.int .u64 a1_0, .int .u64 a1_1, .int .u64 a1_2], .agg #[.int .u64 a2_0, .int .u64 a2_1, .int .u64 a2_2]] (turnstileref06_Covers.calls a0_0 a0_1 a0_2 a0_3 a0_4 a1_0 a1_1 a1_2 a2_0 a2_1 a2_2 false _ A4.out) ?_; intro w39 hb; have n0_ := bb BK374 hb; have n1_ := bb BK375 hb; have n2_ := bb BK376 hb; have n3_ := bb BK377 hb; have n4_ := bs HB hb; clear BK374; clear BK375; clear BK376; clear BK377; clear HB; have BK374 := n0_; have BK375 := n1_; have BK376 := n2_; have BK377 := n3_; have HB := n4_; clear n0_ n1_ n2_ n3_ n4_; (try clear hb); (try clear hb2); (try clear hk); (try clear hi); obtain ⟨hcz40_0, hcz40_1, hcz40_2, hcz40_3, hcz40_4, hfz40_0, hfz40_1, hfz40_2, hfz40_3, hfz40_4⟩ := bc5 BK374; obtain ⟨hcz41_0, hcz41_1, hcz41_2, hfz41_0, hfz41_1, hfz41_2⟩ := bc3 BK376) | ((with_reducible refine gate_callee (f := 61) rfl ?_); refine gm (some 16) Try.func61 #[.agg #[.int .i64 a0_0, .int .u64 a0_1, .int .u64 a0_2, .int .u64 a0_3, .int .u64 a0_4], .agg #[.int .u64 a2_0, .int .u64 a2_1, .int .u64 a2_2]] (turnstileref06_Form.calls a0_0 a0_1 a0_2 a0_3 a0_4 a2_0 a2_1 a2_2 t382 t383 t384 _ A25.out) ?_; intro w42 hb; have n0_ := bb BK374 hb; have n1_ := bb BK375 hb; have n2_ := bb BK376 hb; have n3_ := bb BK377 hb; have n4_ := bs HB hb; clear BK374; clear BK375; clear BK376; clear BK377; clear HB; have BK374 := n0_; have BK375 := n1_; have BK376 := n2_; have BK377 := n3_; have HB := n4_; clear n0_ n1_ n2_ n3_ n4_; (try clear hb); (try clear hb2); (try clear hk); (try clear hi); obtain ⟨hcz43_0, hcz43_1, hcz43_2, hfz43_0, hfz43_1, hfz43_2⟩ := bc3 BK377))
    refine bodyPost_ret (results_cell_row rfl _ _ gb377 29 #[.int .u64 t382, .int .u64 t383, .int .u64 t384] (0, 0) _ rfl (bk BK377) Try.underlying29 rfl (by kernel_rfl)) rfl ?_
    exact ⟨re, bw HB⟩

end Go.Proofs.Ytokfhdpokemekaa.Q
