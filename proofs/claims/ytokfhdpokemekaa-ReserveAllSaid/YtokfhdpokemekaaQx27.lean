/- Written by the session's own program hyb.py: what functions of the program compute; Lean checks it. -/
import Derived.Test.YtokfhdpokemekaaQx0
import Derived.Test.YtokfhdpokemekaaQx26
namespace Go.Proofs.Ytokfhdpokemekaa.Q
open Go.RowKit Go.Proofs.YtokfhdpokemekaaW.PrintWords Go.Proofs.YtokfhdpokemekaaW.PrintLast Go.Proofs.YtokfhdpokemekaaW.PrintMore Go.Proofs.YtokfhdpokemekaaW.PrintShort
attribute [local go_sem] run_Add64 run_Sub64
attribute [local go_sem] max2_int min2_int max_two min_two max_three min_three max_four min_four   -- for this text's walks alone
set_option linter.unusedVariables false
set_option linter.unusedSimpArgs false

/-! ### turnstileref05_Retry: function 65 -/
mutual
def turnstileref05_Retry.j0 : Nat → Int → Int → Int → Int → Int → Int → Bool → Option (Int)
  | 0, _, _, _, _, _, _, _ => none
  | k + 1, x0, x1, x2, x3, x4, x5, x26 => if x26 = true then (some 18446744073709551615) else ((turnstileref05_Admit.f k x0 x1 x2 x3 x4 x5).bind fun bt340 => (if bt340.2.2 = true then (some x4) else (if x1 = 0 then (none) else (if (IntKind.u64.wrap (Int.tdiv x4 x1)) < x2 then (if x3 ≤ x0 then (turnstileref05_Retry.j1 k x1 x2 (decide (x5 ≤ (IntKind.u64.wrap (x0 - x3))))) else (turnstileref05_Retry.j1 k x1 x2 false)) else (turnstileref05_Retry.j1 k x1 x2 false)))))
def turnstileref05_Retry.j1 : Nat → Int → Int → Bool → Option (Int)
  | 0, _, _, _ => none
  | k + 1, x1, x2, x56 => if x56 = true then ((turnstileref05_Start.f x1 x2).bind fun t343 => (some t343)) else (if x2 = 18446744073709551615 then (some 18446744073709551615) else ((turnstileref05_Start.f x1 (IntKind.u64.wrap (x2 + 1))).bind fun t344 => (some t344)))
end
def turnstileref05_Retry.f (k : Nat) (a0 : Int) (a1 : Int) (a2 : Int) (a3 : Int) (a4 : Int) (a5 : Int) : Option (Int) := if a5 = 0 then (turnstileref05_Retry.j0 k a0 a1 a2 a3 a4 a5 true) else (if a5 > a0 then (turnstileref05_Retry.j0 k a0 a1 a2 a3 a4 a5 true) else (turnstileref05_Retry.j0 k a0 a1 a2 a3 a4 a5 (a1 == 0)))
theorem turnstileref05_Retry.mono_l : ∀ k, (∀ y0 y1 y2 y3 y4 y5 y6, LeO (turnstileref05_Retry.j0 k y0 y1 y2 y3 y4 y5 y6) (turnstileref05_Retry.j0 (k + 1) y0 y1 y2 y3 y4 y5 y6)) ∧ (∀ y0 y1 y2, LeO (turnstileref05_Retry.j1 k y0 y1 y2) (turnstileref05_Retry.j1 (k + 1) y0 y1 y2))
  | 0 => ⟨fun _ _ _ _ _ _ _ r h => by simp [turnstileref05_Retry.j0] at h, fun _ _ _ r h => by simp [turnstileref05_Retry.j1] at h⟩
  | k + 1 => by
    obtain ⟨ih0, ih1⟩ := turnstileref05_Retry.mono_l k
    refine ⟨?_, ?_⟩
    · intro y0 y1 y2 y3 y4 y5 y6
      unfold turnstileref05_Retry.j0
      repeat' first
      | (with_reducible exact ih0 _ _ _ _ _ _ _)
      | (with_reducible exact ih1 _ _ _)
      | (with_reducible exact turnstileref05_Admit.mono _ _ _ _ _ _ _)
      | (with_reducible exact LeO.refl _)
      | (with_reducible exact LeO.none _)
      | (with_reducible refine LeO.ite ?_ ?_)
      | (with_reducible refine LeO.bind ?_ (fun _ => ?_))
      | exact ih0 _ _ _ _ _ _ _
      | exact ih1 _ _ _
      | exact turnstileref05_Admit.mono _ _ _ _ _ _ _
      | exact LeO.none _
      | refine LeO.ite ?_ ?_
      | refine LeO.bind ?_ (fun _ => ?_)
    · intro y0 y1 y2
      unfold turnstileref05_Retry.j1
      repeat' first
      | (with_reducible exact ih0 _ _ _ _ _ _ _)
      | (with_reducible exact ih1 _ _ _)
      | (with_reducible exact turnstileref05_Admit.mono _ _ _ _ _ _ _)
      | (with_reducible exact LeO.refl _)
      | (with_reducible exact LeO.none _)
      | (with_reducible refine LeO.ite ?_ ?_)
      | (with_reducible refine LeO.bind ?_ (fun _ => ?_))
      | exact ih0 _ _ _ _ _ _ _
      | exact ih1 _ _ _
      | exact turnstileref05_Admit.mono _ _ _ _ _ _ _
      | exact LeO.none _
      | refine LeO.ite ?_ ?_
      | refine LeO.bind ?_ (fun _ => ?_)
theorem turnstileref05_Retry.mono : ∀ a0 a1 a2 a3 a4 a5 k, LeO (turnstileref05_Retry.f k a0 a1 a2 a3 a4 a5) (turnstileref05_Retry.f (k + 1) a0 a1 a2 a3 a4 a5) := by
  intro a0 a1 a2 a3 a4 a5 k
  obtain ⟨ih0, ih1⟩ := turnstileref05_Retry.mono_l k
  unfold turnstileref05_Retry.f
  repeat' first
      | (with_reducible exact ih0 _ _ _ _ _ _ _)
      | (with_reducible exact ih1 _ _ _)
      | (with_reducible exact turnstileref05_Admit.mono _ _ _ _ _ _ _)
      | (with_reducible exact LeO.refl _)
      | (with_reducible exact LeO.none _)
      | (with_reducible refine LeO.ite ?_ ?_)
      | (with_reducible refine LeO.bind ?_ (fun _ => ?_))
      | exact ih0 _ _ _ _ _ _ _
      | exact ih1 _ _ _
      | exact turnstileref05_Admit.mono _ _ _ _ _ _ _
      | exact LeO.none _
      | refine LeO.ite ?_ ?_
      | refine LeO.bind ?_ (fun _ => ?_)
set_option maxHeartbeats 8000000 in
set_option maxRecDepth 100000 in
theorem turnstileref05_Retry.calls (k : Nat) (a0 : Int) (a1 : Int) (a2 : Int) (a3 : Int) (a4 : Int) (a5 : Int) (r : Int) (w : World) (h : turnstileref05_Retry.f k a0 a1 a2 a3 a4 a5 = some r) :
    Calls Try.prog 65 #[.int .u64 a0, .int .u64 a1, .int .u64 a2, .int .u64 a3, .int .u64 a4, .int .u64 a5] w fun e w' => e = .returned (.int .u64 r) ∧ Drawn0 w w' := by
  have H : (if a5 = 0 then (turnstileref05_Retry.j0 k a0 a1 a2 a3 a4 a5 true) else (if a5 > a0 then (turnstileref05_Retry.j0 k a0 a1 a2 a3 a4 a5 true) else (turnstileref05_Retry.j0 k a0 a1 a2 a3 a4 a5 (a1 == 0)))) = some r := h
  clear h
  have HC7 := Aside0.mk H
  clear H
  go_enter Try.func65, Try.ntmps65
  go_upto_region 1 with (fail)
  go_cut [26] (fun v26 wc => ∃ (kq : Nat) (x26_6 : Bool), v26 = .bool x26_6 ∧ Aside0 (turnstileref05_Retry.j0 kq a0 a1 a2 a3 a4 a5 x26_6 = some r) ∧ Aside0 (kq ≤ k) ∧ Drawn0 w wc)
  case first =>
    have H := HC7.out
    clear HC7
    by_cases c8 : a5 = 0
    · rw [if_pos c8] at H
      have c8b0 : (a5 == 0) = true := beq_iff_eq.mpr c8
      have c8b1 : (a5 != 0) = false := bne_eq_false_iff_eq.mpr c8
      clear c8
      (first | rw [c8b0] | (simp only [i64_w, i32_w]; rw [c8b0]) | skip)
      have H' := Aside0.mk H
      clear H
      go_wp2
      go_meet
      case rel => exact ⟨_, (true), rs, H', ⟨by first | omega | exact Nat.le_refl _⟩, by repeat (first | exact Drawn0.refl _ | apply Drawn0.step)⟩
    · rw [if_neg c8] at H
      have c8b0 : (a5 == 0) = false := beq_eq_false_iff_ne.mpr c8
      have c8b1 : (a5 != 0) = true := bne_iff_ne.mpr c8
      (first | rw [c8b0] | (simp only [i64_w, i32_w]; rw [c8b0]) | skip)
      by_cases c9 : a5 > a0
      · rw [if_pos c9] at H
        have c9b0 : decide (a0 < a5) = true := decide_eq_true c9
        clear c9
        have H' := Aside0.mk H
        clear H
        go_wp2
        go_meet
        case rel => exact ⟨_, (true), rs, H', ⟨by first | omega | exact Nat.le_refl _⟩, by repeat (first | exact Drawn0.refl _ | apply Drawn0.step)⟩
      · rw [if_neg c9] at H
        have c9b0 : decide (a0 < a5) = false := decide_eq_false c9
        clear c9
        have H' := Aside0.mk H
        clear H
        go_wp2
        go_meet
        case rel => exact ⟨_, ((a1 == 0)), rs, H', ⟨by first | omega | exact Nat.le_refl _⟩, by repeat (first | exact Drawn0.refl _ | apply Drawn0.step)⟩
  case rest =>
    clear HC7
    try clear p2
    try clear c6
    try clear c8
    try clear c8b0
    try clear c8b1
    try clear c9
    try clear c9b0
    obtain ⟨kq, x26_6, rfl, HA, HJ6, ⟨mc6, rfl⟩⟩ := hcut
    cases kq with
    | zero => exact absurd HA.out (by simp [turnstileref05_Retry.j0])
    | succ kj6 =>
      have H := HA.out
      clear HA
      simp only [turnstileref05_Retry.j0] at H
      by_cases c10 : x26_6 = true
      · subst c10
        have H1 : (some 18446744073709551615) = some r := by rw [if_pos rfl] at H; exact H
        clear H
        have H := H1
        clear H1
        obtain rfl := Option.some.inj H
        go_wp2
        go_ret
        exact ⟨rs, by repeat (first | exact Drawn0.refl _ | apply Drawn0.step)⟩
      · replace c10 := Bool.eq_false_iff.mpr c10
        subst c10
        have H1 : ((turnstileref05_Admit.f kj6 a0 a1 a2 a3 a4 a5).bind fun bt340 => (if bt340.2.2 = true then (some a4) else (if a1 = 0 then (none) else (if (IntKind.u64.wrap (Int.tdiv a4 a1)) < a2 then (if a3 ≤ a0 then (turnstileref05_Retry.j1 kj6 a1 a2 (decide (a5 ≤ (IntKind.u64.wrap (a0 - a3))))) else (turnstileref05_Retry.j1 kj6 a1 a2 false)) else (turnstileref05_Retry.j1 kj6 a1 a2 false))))) = some r := by rw [if_neg (show ¬ (false = true) by decide)] at H; exact H
        clear H
        have H := H1
        clear H1
        replace H := Option.bind_eq_some_iff.mp H
        obtain ⟨⟨t340, t341, t342⟩, A110, H⟩ := H
        replace H : (if t342 = true then (some a4) else (if a1 = 0 then (none) else (if (IntKind.u64.wrap (Int.tdiv a4 a1)) < a2 then (if a3 ≤ a0 then (turnstileref05_Retry.j1 kj6 a1 a2 (decide (a5 ≤ (IntKind.u64.wrap (a0 - a3))))) else (turnstileref05_Retry.j1 kj6 a1 a2 false)) else (turnstileref05_Retry.j1 kj6 a1 a2 false)))) = some r := H
        have A11 := Aside0.mk A110
        clear A110
        by_cases c12 : t342 = true
        · subst c12
          have H1 : (some a4) = some r := by rw [if_pos rfl] at H; exact H
          clear H
          have H := H1
          clear H1
          obtain rfl := Option.some.inj H
          go_wp2_with (first | ((with_reducible refine gate_callee (f := 64) rfl ?_); refine gl (some 34) Try.func64 #[.int .u64 a0, .int .u64 a1, .int .u64 a2, .int .u64 a3, .int .u64 a4, .int .u64 a5] ?_; (with_reducible refine (turnstileref05_Admit.calls kj6 a0 a1 a2 a3 a4 a5 t340 t341 true _ A11.out).mono ?_); rintro e w' ⟨rfl, ⟨nd, rfl⟩⟩; refine ⟨_, rfl, ?_⟩))
          go_ret
          exact ⟨rs, by repeat (first | exact Drawn0.refl _ | apply Drawn0.step)⟩
        · replace c12 := Bool.eq_false_iff.mpr c12
          subst c12
          have H1 : (if a1 = 0 then (none) else (if (IntKind.u64.wrap (Int.tdiv a4 a1)) < a2 then (if a3 ≤ a0 then (turnstileref05_Retry.j1 kj6 a1 a2 (decide (a5 ≤ (IntKind.u64.wrap (a0 - a3))))) else (turnstileref05_Retry.j1 kj6 a1 a2 false)) else (turnstileref05_Retry.j1 kj6 a1 a2 false))) = some r := by rw [if_neg (show ¬ (false = true) by decide)] at H; exact H
          clear H
          have H := H1
          clear H1
          have HC13 := Aside0.mk H
          clear H
          go_upto_region 6 with (first | ((with_reducible refine gate_callee (f := 64) rfl ?_); refine gl (some 34) Try.func64 #[.int .u64 a0, .int .u64 a1, .int .u64 a2, .int .u64 a3, .int .u64 a4, .int .u64 a5] ?_; (with_reducible refine (turnstileref05_Admit.calls kj6 a0 a1 a2 a3 a4 a5 t340 t341 false _ A11.out).mono ?_); rintro e w' ⟨rfl, ⟨nd, rfl⟩⟩; refine ⟨_, rfl, ?_⟩))
          (try simp only [Act.put, List.setIfInBounds_toArray, List.set_cons_zero, List.set_cons_succ])
          go_cut [56] (fun v56 wc => ∃ (kq : Nat) (x56_12 : Bool), v56 = .bool x56_12 ∧ Aside0 (turnstileref05_Retry.j1 kq a1 a2 x56_12 = some r) ∧ Aside0 (kq ≤ kj6) ∧ Drawn0 w wc)
          case first =>
            have H := HC13.out
            clear HC13
            by_cases c14 : a1 = 0
            · rw [if_pos c14] at H
              exact absurd H (by simp)
            · rw [if_neg c14] at H
              have c14b0 : (a1 == 0) = false := beq_eq_false_iff_ne.mpr c14
              have c14b1 : (a1 != 0) = true := bne_iff_ne.mpr c14
              (first | rw [c14b0] | (simp only [i64_w, i32_w]; rw [c14b0]) | skip)
              by_cases c15 : (IntKind.u64.wrap (Int.tdiv a4 a1)) < a2
              · rw [if_pos c15] at H
                have c15b0 : decide ((IntKind.u64.wrap (Int.tdiv a4 a1)) < a2) = true := decide_eq_true c15
                clear c15
                by_cases c16 : a3 ≤ a0
                · rw [if_pos c16] at H
                  have c16b0 : decide (a3 ≤ a0) = true := decide_eq_true c16
                  clear c16
                  have H' := Aside0.mk H
                  clear H
                  go_wp2
                  go_meet
                  case rel => exact ⟨_, (decide (a5 ≤ (IntKind.u64.wrap (a0 - a3)))), rs, H', ⟨by have := HJ6.out; first | omega | exact Nat.le_refl _⟩, by repeat (first | exact Drawn0.refl _ | apply Drawn0.step)⟩
                · rw [if_neg c16] at H
                  have c16b0 : decide (a3 ≤ a0) = false := decide_eq_false c16
                  clear c16
                  have H' := Aside0.mk H
                  clear H
                  go_wp2
                  go_meet
                  case rel => exact ⟨_, (false), rs, H', ⟨by have := HJ6.out; first | omega | exact Nat.le_refl _⟩, by repeat (first | exact Drawn0.refl _ | apply Drawn0.step)⟩
              · rw [if_neg c15] at H
                have c15b0 : decide ((IntKind.u64.wrap (Int.tdiv a4 a1)) < a2) = false := decide_eq_false c15
                clear c15
                have H' := Aside0.mk H
                clear H
                go_wp2
                go_meet
                case rel => exact ⟨_, (false), rs, H', ⟨by have := HJ6.out; first | omega | exact Nat.le_refl _⟩, by repeat (first | exact Drawn0.refl _ | apply Drawn0.step)⟩
          case rest =>
            clear HC13
            try clear c1
            try clear p2
            try clear c6
            try clear c8
            try clear c8b0
            try clear c8b1
            try clear c9
            try clear c9b0
            try clear c10
            try clear c12
            try clear c14
            try clear c14b0
            try clear c14b1
            try clear c15
            try clear c15b0
            try clear c16
            try clear c16b0
            try clear p2
            obtain ⟨kq, x56_12, rfl, HA, HJ12, ⟨mc12, rfl⟩⟩ := hcut
            cases kq with
            | zero => exact absurd HA.out (by simp [turnstileref05_Retry.j1])
            | succ kj12 =>
              have H := HA.out
              clear HA
              simp only [turnstileref05_Retry.j1] at H
              by_cases c17 : x56_12 = true
              · subst c17
                have H1 : ((turnstileref05_Start.f a1 a2).bind fun t343 => (some t343)) = some r := by rw [if_pos rfl] at H; exact H
                clear H
                have H := H1
                clear H1
                replace H := Option.bind_eq_some_iff.mp H
                obtain ⟨t343, A180, H⟩ := H
                replace H : (some t343) = some r := H
                have A18 := Aside0.mk A180
                clear A180
                obtain rfl := Option.some.inj H
                go_wp2_with (first | ((with_reducible refine gate_callee (f := 78) rfl ?_); refine gl (some 59) Try.func78 #[.int .u64 a1, .int .u64 a2] ?_; (with_reducible refine (turnstileref05_Start.calls a1 a2 t343 _ A18.out).mono ?_); rintro e w' ⟨rfl, ⟨nd, rfl⟩⟩; refine ⟨_, rfl, ?_⟩))
                go_ret
                exact ⟨rs, by repeat (first | exact Drawn0.refl _ | apply Drawn0.step)⟩
              · replace c17 := Bool.eq_false_iff.mpr c17
                subst c17
                have H1 : (if a2 = 18446744073709551615 then (some 18446744073709551615) else ((turnstileref05_Start.f a1 (IntKind.u64.wrap (a2 + 1))).bind fun t344 => (some t344))) = some r := by rw [if_neg (show ¬ (false = true) by decide)] at H; exact H
                clear H
                have H := H1
                clear H1
                by_cases c19 : a2 = 18446744073709551615
                · rw [if_pos c19] at H
                  have c19b0 : (a2 == 18446744073709551615) = true := beq_iff_eq.mpr c19
                  have c19b1 : (a2 != 18446744073709551615) = false := bne_eq_false_iff_eq.mpr c19
                  clear c19
                  obtain rfl := Option.some.inj H
                  go_wp2
                  go_ret
                  exact ⟨rs, by repeat (first | exact Drawn0.refl _ | apply Drawn0.step)⟩
                · rw [if_neg c19] at H
                  have c19b0 : (a2 == 18446744073709551615) = false := beq_eq_false_iff_ne.mpr c19
                  have c19b1 : (a2 != 18446744073709551615) = true := bne_iff_ne.mpr c19
                  replace H := Option.bind_eq_some_iff.mp H
                  obtain ⟨t344, A200, H⟩ := H
                  replace H : (some t344) = some r := H
                  have A20 := Aside0.mk A200
                  clear A200
                  obtain rfl := Option.some.inj H
                  go_wp2_with (first | ((with_reducible refine gate_callee (f := 78) rfl ?_); refine gl (some 65) Try.func78 #[.int .u64 a1, .int .u64 (IntKind.u64.wrap (a2 + 1))] ?_; (with_reducible refine (turnstileref05_Start.calls a1 (IntKind.u64.wrap (a2 + 1)) t344 _ A20.out).mono ?_); rintro e w' ⟨rfl, ⟨nd, rfl⟩⟩; refine ⟨_, rfl, ?_⟩))
                  go_ret
                  exact ⟨rs, by repeat (first | exact Drawn0.refl _ | apply Drawn0.step)⟩

end Go.Proofs.Ytokfhdpokemekaa.Q
