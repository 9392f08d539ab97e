/- Written by the session's own program hyb.py: what functions of the program compute; Lean checks it. -/
import Derived.Test.YtokfhdpokemekaaQx0
import Derived.Test.YtokfhdpokemekaaQx25
namespace Go.Proofs.Ytokfhdpokemekaa.Q
open Go.RowKit Go.Proofs.YtokfhdpokemekaaW.PrintWords Go.Proofs.YtokfhdpokemekaaW.PrintLast Go.Proofs.YtokfhdpokemekaaW.PrintMore Go.Proofs.YtokfhdpokemekaaW.PrintShort
attribute [local go_sem] run_Add64 run_Sub64
attribute [local go_sem] max2_int min2_int max_two min_two max_three min_three max_four min_four   -- for this text's walks alone
set_option linter.unusedVariables false
set_option linter.unusedSimpArgs false

/-! ### turnstileref05_Admit: function 64 -/
def turnstileref05_Admit.j0 : Nat → Int → Int → Int → Int → Int → Bool → Option (Int × Int × Bool)
  | 0, _, _, _, _, _, _ => none
  | k + 1, x1, x2, x3, x4, x5, x27 => if x27 = true then (some (x2, x3, false)) else (if x1 = 0 then (none) else (if (IntKind.u64.wrap (Int.tdiv x4 x1)) = x2 then (some (x2, IntKind.u64.wrap (x3 + x5), true)) else (some (IntKind.u64.wrap (Int.tdiv x4 x1), x5, true))))
def turnstileref05_Admit.f (k : Nat) (a0 : Int) (a1 : Int) (a2 : Int) (a3 : Int) (a4 : Int) (a5 : Int) : Option (Int × Int × Bool) := if a5 = 0 then (turnstileref05_Admit.j0 k a1 a2 a3 a4 a5 true) else ((turnstileref05_Left.f a0 a1 a2 a3 a4).bind fun t338 => (turnstileref05_Admit.j0 k a1 a2 a3 a4 a5 (decide (a5 > t338))))
theorem turnstileref05_Admit.mono_l : ∀ k, (∀ y0 y1 y2 y3 y4 y5, LeO (turnstileref05_Admit.j0 k y0 y1 y2 y3 y4 y5) (turnstileref05_Admit.j0 (k + 1) y0 y1 y2 y3 y4 y5))
  | 0 => fun _ _ _ _ _ _ r h => by simp [turnstileref05_Admit.j0] at h
  | k + 1 => by
    have ih0 := turnstileref05_Admit.mono_l k
    · intro y0 y1 y2 y3 y4 y5
      unfold turnstileref05_Admit.j0
      repeat' first
      | (with_reducible exact ih0 _ _ _ _ _ _)
      | (with_reducible exact LeO.refl _)
      | (with_reducible exact LeO.none _)
      | (with_reducible refine LeO.ite ?_ ?_)
      | (with_reducible refine LeO.bind ?_ (fun _ => ?_))
      | exact ih0 _ _ _ _ _ _
      | exact LeO.none _
      | refine LeO.ite ?_ ?_
      | refine LeO.bind ?_ (fun _ => ?_)
theorem turnstileref05_Admit.mono : ∀ a0 a1 a2 a3 a4 a5 k, LeO (turnstileref05_Admit.f k a0 a1 a2 a3 a4 a5) (turnstileref05_Admit.f (k + 1) a0 a1 a2 a3 a4 a5) := by
  intro a0 a1 a2 a3 a4 a5 k
  have ih0 := turnstileref05_Admit.mono_l k
  unfold turnstileref05_Admit.f
  repeat' first
      | (with_reducible exact ih0 _ _ _ _ _ _)
      | (with_reducible exact LeO.refl _)
      | (with_reducible exact LeO.none _)
      | (with_reducible refine LeO.ite ?_ ?_)
      | (with_reducible refine LeO.bind ?_ (fun _ => ?_))
      | exact ih0 _ _ _ _ _ _
      | exact LeO.none _
      | refine LeO.ite ?_ ?_
      | refine LeO.bind ?_ (fun _ => ?_)
set_option maxHeartbeats 8000000 in
set_option maxRecDepth 100000 in
theorem turnstileref05_Admit.calls (k : Nat) (a0 : Int) (a1 : Int) (a2 : Int) (a3 : Int) (a4 : Int) (a5 : Int) (r1 : Int) (r2 : Int) (r3 : Bool) (w : World) (h : turnstileref05_Admit.f k a0 a1 a2 a3 a4 a5 = some (r1, r2, r3)) :
    Calls Try.prog 64 #[.int .u64 a0, .int .u64 a1, .int .u64 a2, .int .u64 a3, .int .u64 a4, .int .u64 a5] w fun e w' => e = .returned (.tuple #[.int .u64 r1, .int .u64 r2, .bool r3]) ∧ Drawn0 w w' := by
  have H : (if a5 = 0 then (turnstileref05_Admit.j0 k a1 a2 a3 a4 a5 true) else ((turnstileref05_Left.f a0 a1 a2 a3 a4).bind fun t338 => (turnstileref05_Admit.j0 k a1 a2 a3 a4 a5 (decide (a5 > t338))))) = some (r1, r2, r3) := h
  clear h
  have HC7 := Aside0.mk H
  clear H
  go_enter Try.func64, Try.ntmps64
  go_upto_region 1 with (fail)
  go_cut [27] (fun v27 wc => ∃ (kq : Nat) (x27_6 : Bool), v27 = .bool x27_6 ∧ Aside0 (turnstileref05_Admit.j0 kq a1 a2 a3 a4 a5 x27_6 = some (r1, r2, r3)) ∧ Aside0 (kq ≤ k) ∧ Drawn0 w wc)
  case first =>
    have H := HC7.out
    clear HC7
    by_cases c8 : a5 = 0
    · rw [if_pos c8] at H
      have c8b0 : (a5 == 0) = true := beq_iff_eq.mpr c8
      have c8b1 : (a5 != 0) = false := bne_eq_false_iff_eq.mpr c8
      clear c8
      (first | rw [c8b0] | (simp only [i64_w, i32_w]; rw [c8b0]) | skip)
      have H' := Aside0.mk H
      clear H
      go_wp2
      go_meet
      case rel => exact ⟨_, (true), rs, H', ⟨by first | omega | exact Nat.le_refl _⟩, by repeat (first | exact Drawn0.refl _ | apply Drawn0.step)⟩
    · rw [if_neg c8] at H
      have c8b0 : (a5 == 0) = false := beq_eq_false_iff_ne.mpr c8
      have c8b1 : (a5 != 0) = true := bne_iff_ne.mpr c8
      (first | rw [c8b0] | (simp only [i64_w, i32_w]; rw [c8b0]) | skip)
      replace H := Option.bind_eq_some_iff.mp H
      obtain ⟨t338, A90, H⟩ := H
      replace H : (turnstileref05_Admit.j0 k a1 a2 a3 a4 a5 (decide (a5 > t338))) = some (r1, r2, r3) := H
      have A9 := Aside0.mk A90
      clear A90
      have H' := Aside0.mk H
      clear H
      go_wp2_with (first | (go_at_call 67; (with_reducible refine (turnstileref05_Left.calls a0 a1 a2 a3 a4 t338 _ A9.out).mono ?_); rintro e w' ⟨rfl, ⟨nd, rfl⟩⟩))
      go_meet
      case rel => exact ⟨_, (decide (a5 > t338)), rs, H', ⟨by first | omega | exact Nat.le_refl _⟩, by repeat (first | exact Drawn0.refl _ | apply Drawn0.step)⟩
  case rest =>
    clear HC7
    try clear p2
    try clear c6
    try clear c8
    try clear c8b0
    try clear c8b1
    obtain ⟨kq, x27_6, rfl, HA, HJ6, ⟨mc6, rfl⟩⟩ := hcut
    cases kq with
    | zero => exact absurd HA.out (by simp [turnstileref05_Admit.j0])
    | succ kj6 =>
      have H := HA.out
      clear HA
      simp only [turnstileref05_Admit.j0] at H
      by_cases c10 : x27_6 = true
      · subst c10
        have H1 : (some (a2, a3, false)) = some (r1, r2, r3) := by rw [if_pos rfl] at H; exact H
        clear H
        have H := H1
        clear H1
        simp only [Option.some.injEq, Prod.mk.injEq] at H
        obtain ⟨rfl, rfl, rfl⟩ := H
        go_wp2
        go_ret3
        exact ⟨rs, by repeat (first | exact Drawn0.refl _ | apply Drawn0.step)⟩
      · replace c10 := Bool.eq_false_iff.mpr c10
        subst c10
        have H1 : (if a1 = 0 then (none) else (if (IntKind.u64.wrap (Int.tdiv a4 a1)) = a2 then (some (a2, IntKind.u64.wrap (a3 + a5), true)) else (some (IntKind.u64.wrap (Int.tdiv a4 a1), a5, true)))) = some (r1, r2, r3) := by rw [if_neg (show ¬ (false = true) by decide)] at H; exact H
        clear H
        have H := H1
        clear H1
        by_cases c11 : a1 = 0
        · rw [if_pos c11] at H
          exact absurd H (by simp)
        · rw [if_neg c11] at H
          have c11b0 : (a1 == 0) = false := beq_eq_false_iff_ne.mpr c11
          have c11b1 : (a1 != 0) = true := bne_iff_ne.mpr c11
          by_cases c12 : (IntKind.u64.wrap (Int.tdiv a4 a1)) = a2
          · rw [if_pos c12] at H
            have c12b0 : ((IntKind.u64.wrap (Int.tdiv a4 a1)) == a2) = true := beq_iff_eq.mpr c12
            have c12b1 : ((IntKind.u64.wrap (Int.tdiv a4 a1)) != a2) = false := bne_eq_false_iff_eq.mpr c12
            clear c12
            simp only [Option.some.injEq, Prod.mk.injEq] at H
            obtain ⟨rfl, rfl, rfl⟩ := H
            go_wp2
            go_ret3
            exact ⟨rs, by repeat (first | exact Drawn0.refl _ | apply Drawn0.step)⟩
          · rw [if_neg c12] at H
            have c12b0 : ((IntKind.u64.wrap (Int.tdiv a4 a1)) == a2) = false := beq_eq_false_iff_ne.mpr c12
            have c12b1 : ((IntKind.u64.wrap (Int.tdiv a4 a1)) != a2) = true := bne_iff_ne.mpr c12
            simp only [Option.some.injEq, Prod.mk.injEq] at H
            obtain ⟨rfl, rfl, rfl⟩ := H
            go_wp2
            go_ret3
            exact ⟨rs, by repeat (first | exact Drawn0.refl _ | apply Drawn0.step)⟩

/-! ### turnstileref05_fits: function 93 -/
def turnstileref05_fits.f (a0 : Int) (a1 : Int) : Option (Bool) := if a0 = 0 then (some true) else (some (decide (a1 ≤ (IntKind.u64.wrap ((18446744073709551615 : Int) / a0)))))
set_option maxHeartbeats 8000000 in
set_option maxRecDepth 100000 in
theorem turnstileref05_fits.calls (a0 : Int) (a1 : Int) (r : Bool) (w : World) (h : turnstileref05_fits.f a0 a1 = some r) :
    Calls Try.prog 93 #[.int .u64 a0, .int .u64 a1] w fun e w' => e = .returned (.bool r) ∧ Drawn0 w w' := by
  have H : (if a0 = 0 then (some true) else (some (decide (a1 ≤ (IntKind.u64.wrap ((18446744073709551615 : Int) / a0)))))) = some r := h
  clear h
  by_cases c3 : a0 = 0
  · rw [if_pos c3] at H
    have c3b0 : (a0 == 0) = true := beq_iff_eq.mpr c3
    have c3b1 : (a0 != 0) = false := bne_eq_false_iff_eq.mpr c3
    clear c3
    obtain rfl := Option.some.inj H
    go_enter Try.func93, Try.ntmps93
    go_wp2
    go_ret
    exact ⟨rs, by repeat (first | exact Drawn0.refl _ | apply Drawn0.step)⟩
  · rw [if_neg c3] at H
    have c3b0 : (a0 == 0) = false := beq_eq_false_iff_ne.mpr c3
    have c3b1 : (a0 != 0) = true := bne_iff_ne.mpr c3
    obtain rfl := Option.some.inj H
    go_enter Try.func93, Try.ntmps93
    go_wp2
    go_ret
    exact ⟨rs, by repeat (first | exact Drawn0.refl _ | apply Drawn0.step)⟩

/-! ### turnstileref05_Start: function 78 -/
def turnstileref05_Start.f (a0 : Int) (a1 : Int) : Option (Int) := (turnstileref05_fits.f a0 a1).bind fun t339 => (if t339 = true then (some (IntKind.u64.wrap (a0 * a1))) else (some 18446744073709551615))
set_option maxHeartbeats 8000000 in
set_option maxRecDepth 100000 in
theorem turnstileref05_Start.calls (a0 : Int) (a1 : Int) (r : Int) (w : World) (h : turnstileref05_Start.f a0 a1 = some r) :
    Calls Try.prog 78 #[.int .u64 a0, .int .u64 a1] w fun e w' => e = .returned (.int .u64 r) ∧ Drawn0 w w' := by
  have H : ((turnstileref05_fits.f a0 a1).bind fun t339 => (if t339 = true then (some (IntKind.u64.wrap (a0 * a1))) else (some 18446744073709551615))) = some r := h
  clear h
  replace H := Option.bind_eq_some_iff.mp H
  obtain ⟨t339, A30, H⟩ := H
  replace H : (if t339 = true then (some (IntKind.u64.wrap (a0 * a1))) else (some 18446744073709551615)) = some r := H
  have A3 := Aside0.mk A30
  clear A30
  by_cases c4 : t339 = true
  · subst c4
    have H1 : (some (IntKind.u64.wrap (a0 * a1))) = some r := by rw [if_pos rfl] at H; exact H
    clear H
    have H := H1
    clear H1
    obtain rfl := Option.some.inj H
    go_enter Try.func78, Try.ntmps78
    go_wp2_with (first | ((with_reducible refine gate_callee (f := 93) rfl ?_); refine gl (some 7) Try.func93 #[.int .u64 a0, .int .u64 a1] ?_; (with_reducible refine (turnstileref05_fits.calls a0 a1 true _ A3.out).mono ?_); rintro e w' ⟨rfl, ⟨nd, rfl⟩⟩; refine ⟨_, rfl, ?_⟩))
    go_ret
    exact ⟨rs, by repeat (first | exact Drawn0.refl _ | apply Drawn0.step)⟩
  · replace c4 := Bool.eq_false_iff.mpr c4
    subst c4
    have H1 : (some 18446744073709551615) = some r := by rw [if_neg (show ¬ (false = true) by decide)] at H; exact H
    clear H
    have H := H1
    clear H1
    obtain rfl := Option.some.inj H
    go_enter Try.func78, Try.ntmps78
    go_wp2_with (first | ((with_reducible refine gate_callee (f := 93) rfl ?_); refine gl (some 7) Try.func93 #[.int .u64 a0, .int .u64 a1] ?_; (with_reducible refine (turnstileref05_fits.calls a0 a1 false _ A3.out).mono ?_); rintro e w' ⟨rfl, ⟨nd, rfl⟩⟩; refine ⟨_, rfl, ?_⟩))
    go_ret
    exact ⟨rs, by repeat (first | exact Drawn0.refl _ | apply Drawn0.step)⟩

end Go.Proofs.Ytokfhdpokemekaa.Q
