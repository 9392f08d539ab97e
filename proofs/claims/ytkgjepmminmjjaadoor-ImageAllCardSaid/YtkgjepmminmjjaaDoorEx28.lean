/- Written by the session's own program hyb.py: what functions of the program compute; Lean checks it. -/
import Derived.Test.YtkgjepmminmjjaaDoorEx0
import Derived.Test.YtkgjepmminmjjaaDoorEx27
namespace Go.Proofs.YtkgjepmminmjjaaDoor.E
open Go.RowKit Go.Proofs.YtkgjepmminmjjaaDoorW.PrintWords Go.Proofs.YtkgjepmminmjjaaDoorW.PrintLast Go.Proofs.YtkgjepmminmjjaaDoorW.PrintMore Go.Proofs.YtkgjepmminmjjaaDoorW.PrintShort
attribute [local go_sem] run_Add64 run_Sub64
attribute [local go_sem] max2_int min2_int max_two min_two max_three min_three max_four min_four   -- for this text's walks alone
set_option linter.unusedVariables false
set_option linter.unusedSimpArgs false

/-! ### turnstilelaw14_much: function 21 -/
mutual
def turnstilelaw14_much.l0 : Nat → List (S53) → Int → Int → Int → Option (Bool)
  | 0, _, _, _, _ => none
  | k + 1, x0, x3, x4, x5 => if x5 < (x0.length : Int) then (if x3 ≤ 1048576 then (turnstilelaw14_much.j1 k x0 x3 x4 x5 (decide (x4 ≤ 16777216))) else (turnstilelaw14_much.j1 k x0 x3 x4 x5 false)) else (turnstilelaw14_much.j1 k x0 x3 x4 x5 false)
def turnstilelaw14_much.j1 : Nat → List (S53) → Int → Int → Int → Bool → Option (Bool)
  | 0, _, _, _, _, _ => none
  | k + 1, x0, x3, x4, x5, x17 => if x17 = true then (if 0 ≤ x5 then (if x5 < (x0.length : Int) then ((turnstilelaw14_wide.f k ((rd_T53 x0 x5).f1.f0) ((rd_T53 x0 x5).f1.f1) ((rd_T53 x0 x5).f1.f2)).bind fun t355 => (if t355 = true then (some true) else (turnstilelaw14_much.l0 k x0 (wrap64 ((wrap64 (x3 + 1)) + (((rd_T53 x0 x5).f1.f2).length : Int))) (wrap64 (x4 + (((rd_T53 x0 x5).f2).length : Int))) (wrap64 (x5 + 1))))) else (none)) else (none)) else (if x3 > 1048576 then (some true) else (some (decide (x4 > 16777216))))
end
def turnstilelaw14_much.f (k : Nat) (l0 : List (S53)) : Option (Bool) := turnstilelaw14_much.l0 k l0 0 0 0
set_option maxHeartbeats 8000000 in
set_option maxRecDepth 100000 in
theorem turnstilelaw14_much.calls (k : Nat) (A0 : Option Addr) (c0 : Nat) (l0 : List (S53)) (r : Bool) (w : World) (hr0 : Kd.C k53 w A0 l0.length l0) (hc0 : l0.length ≤ c0) (h : turnstilelaw14_much.f k l0 = some r) :
    Calls Tryd.prog 21 #[.slice A0 l0.length c0] w fun e w' => e = .returned (.bool r) ∧ Below w.heap.size w w' := by
  have hu51 := Tryd.underlying51
  have HR0 := Aside0.mk hr0
  have HC0 := Aside0.mk hc0
  clear hr0 hc0
  have HB := Aside0.mk (Below.refl w.heap.size w)
  have H : (turnstilelaw14_much.l0 k l0 0 0 0) = some r := h
  clear h
  have H' := Aside0.mk H
  clear H
  go_enter Tryd.func21, Tryd.ntmps21
  go_wp2
  go_loopg [3, 4, 5] k (fun kq v3 v4 v5 w' => ∃ (x3_1 : Int) (x4_1 : Int) (x5_1 : Int), v3 = .int .i64 x3_1 ∧ v4 = .int .i64 x4_1 ∧ v5 = .int .i64 x5_1 ∧ Aside0 (turnstilelaw14_much.l0 kq l0 x3_1 x4_1 x5_1 = some r) ∧ Aside0 (kq ≤ k) ∧ Aside0 (Below w.heap.size w w'))
  case atStart => exact ⟨(0), (0), (0), rs, rs, rs, H', ⟨Nat.le_refl _⟩, ⟨bw HB⟩⟩
  case round =>
    clear H'
    obtain ⟨x3_1, x4_1, x5_1, rfl, rfl, rfl, HA, HK1, HB⟩ := hrel
    cases gk with
    | zero => exact absurd HA.out (by simp [turnstilelaw14_much.l0])
    | succ k1 =>
      have H := HA.out
      clear HA
      simp only [turnstilelaw14_much.l0] at H
      have HC2 := Aside0.mk H
      clear H
      go_upto_region 4 with (fail)
      go_cut [17] (fun v17 wc => ∃ (kq : Nat) (x17_1 : Bool), v17 = .bool x17_1 ∧ Aside0 (turnstilelaw14_much.j1 kq l0 x3_1 x4_1 x5_1 x17_1 = some r) ∧ Aside0 (kq ≤ k1) ∧ Aside0 (Below w.heap.size w wc))
      case first =>
        have H := HC2.out
        clear HC2
        by_cases c3 : x5_1 < (l0.length : Int)
        · rw [if_pos c3] at H
          have c3b0 : decide (x5_1 < (l0.length : Int)) = true := decide_eq_true c3
          clear c3
          (first | rw [c3b0] | (simp only [i64_w, i32_w]; rw [c3b0]) | skip)
          by_cases c4 : x3_1 ≤ 1048576
          · rw [if_pos c4] at H
            have c4b0 : decide (x3_1 ≤ 1048576) = true := decide_eq_true c4
            clear c4
            have H' := Aside0.mk H
            clear H
            go_wp2
            go_meet
            case rel => exact ⟨_, (decide (x4_1 ≤ 16777216)), rs, H', ⟨by have := HK1.out; first | omega | exact Nat.le_refl _⟩, ⟨bw HB⟩⟩
          · rw [if_neg c4] at H
            have c4b0 : decide (x3_1 ≤ 1048576) = false := decide_eq_false c4
            clear c4
            have H' := Aside0.mk H
            clear H
            go_wp2
            go_meet
            case rel => exact ⟨_, (false), rs, H', ⟨by have := HK1.out; first | omega | exact Nat.le_refl _⟩, ⟨bw HB⟩⟩
        · rw [if_neg c3] at H
          have c3b0 : decide (x5_1 < (l0.length : Int)) = false := decide_eq_false c3
          clear c3
          (first | rw [c3b0] | (simp only [i64_w, i32_w]; rw [c3b0]) | skip)
          have H' := Aside0.mk H
          clear H
          go_wp2
          go_meet
          case rel => exact ⟨_, (false), rs, H', ⟨by have := HK1.out; first | omega | exact Nat.le_refl _⟩, ⟨bw HB⟩⟩
      case rest =>
        clear HC2
        try clear c2
        try clear p2
        try clear c3
        try clear c3b0
        try clear c4
        try clear c4b0
        obtain ⟨kq, x17_1, rfl, HA, HJ1, HB⟩ := hcut
        cases kq with
        | zero => exact absurd HA.out (by simp [turnstilelaw14_much.j1])
        | succ kj1 =>
          have H := HA.out
          clear HA
          simp only [turnstilelaw14_much.j1] at H
          by_cases c5 : x17_1 = true
          · subst c5
            have H1 : (if 0 ≤ x5_1 then (if x5_1 < (l0.length : Int) then ((turnstilelaw14_wide.f kj1 ((rd_T53 l0 x5_1).f1.f0) ((rd_T53 l0 x5_1).f1.f1) ((rd_T53 l0 x5_1).f1.f2)).bind fun t355 => (if t355 = true then (some true) else (turnstilelaw14_much.l0 kj1 l0 (wrap64 ((wrap64 (x3_1 + 1)) + (((rd_T53 l0 x5_1).f1.f2).length : Int))) (wrap64 (x4_1 + (((rd_T53 l0 x5_1).f2).length : Int))) (wrap64 (x5_1 + 1))))) else (none)) else (none)) = some r := by rw [if_pos rfl] at H; exact H
            clear H
            have H := H1
            clear H1
            by_cases c6 : 0 ≤ x5_1
            · rw [if_pos c6] at H
              have c6b0 : decide (0 ≤ x5_1) = true := decide_eq_true c6
              clear c6
              by_cases c7 : x5_1 < (l0.length : Int)
              · rw [if_pos c7] at H
                have c7b0 : decide (x5_1 < (l0.length : Int)) = true := decide_eq_true c7
                clear c7
                replace H := Option.bind_eq_some_iff.mp H
                obtain ⟨t355, A80, H⟩ := H
                replace H : (if t355 = true then (some true) else (turnstilelaw14_much.l0 kj1 l0 (wrap64 ((wrap64 (x3_1 + 1)) + (((rd_T53 l0 x5_1).f1.f2).length : Int))) (wrap64 (x4_1 + (((rd_T53 l0 x5_1).f2).length : Int))) (wrap64 (x5_1 + 1)))) = some r := H
                have A8 := Aside0.mk A80
                clear A80
                by_cases c9 : t355 = true
                · subst c9
                  have H1 : (some true) = some r := by rw [if_pos rfl] at H; exact H
                  clear H
                  have H := H1
                  clear H1
                  obtain rfl := Option.some.inj H
                  have p354 : 0 ≤ (x5_1 : Int) := of_decide_eq_true (by first | (with_reducible assumption) | assumption)
                  have q354 : x5_1 < (l0.length : Int) := of_decide_eq_true (by first | (with_reducible assumption) | assumption)
                  obtain ⟨ad354, A354_3, c354_3, A354_4, c354_4, e354, hx354_0, hx354_1, hx354_2, hx354_3, hx354_4, hl354_3, hi354_3, hl354_4, hi354_4⟩ := at_T53 HR0.out x5_1 p354 q354
                  cases e354
                  replace hx354_0 := (HB.out.cell (World.block_lt_of_cell? w _ hx354_0)).trans hx354_0
                  replace hx354_1 := (HB.out.cell (World.block_lt_of_cell? w _ hx354_1)).trans hx354_1
                  replace hx354_2 := (HB.out.cell (World.block_lt_of_cell? w _ hx354_2)).trans hx354_2
                  replace hx354_3 := (HB.out.cell (World.block_lt_of_cell? w _ hx354_3)).trans hx354_3
                  replace hx354_4 := (HB.out.cell (World.block_lt_of_cell? w _ hx354_4)).trans hx354_4
                  have HR354_3 := Aside0.mk hi354_3
                  have HC354_3 := Aside0.mk hl354_3
                  clear hi354_3 hl354_3
                  have HR354_4 := Aside0.mk hi354_4
                  have HC354_4 := Aside0.mk hl354_4
                  clear hi354_4 hl354_4
                  replace p354 := eq_true p354
                  replace q354 := eq_true q354
                  go_wp2_with (first | ((with_reducible refine gate_callee (f := 23) rfl ?_); refine gl (some 25) Tryd.func23 #[.agg #[.int .u64 ((rd_T53 l0 x5_1).f1.f0), .int .u64 ((rd_T53 l0 x5_1).f1.f1), .slice A354_3 ((rd_T53 l0 x5_1).f1.f2).length c354_3]] ?_; (with_reducible refine (turnstilelaw14_wide.calls kj1 ((rd_T53 l0 x5_1).f1.f0) ((rd_T53 l0 x5_1).f1.f1) _ _ ((rd_T53 l0 x5_1).f1.f2) true _ ?side1 ?side2 A8.out).mono ?_); (case side1 => exact co (Kd.C_below HR354_3.out HB.out)); (case side2 => exact HC354_3.out); rintro e w10 ⟨rfl, hb⟩; refine ⟨_, rfl, ?_⟩; replace HB := bs HB hb; (try clear hb); (try clear hb2); (try clear hk); (try clear hi)))
                  go_ret
                  exact ⟨re, bw HB⟩
                · replace c9 := Bool.eq_false_iff.mpr c9
                  subst c9
                  have H1 : (turnstilelaw14_much.l0 kj1 l0 (wrap64 ((wrap64 (x3_1 + 1)) + (((rd_T53 l0 x5_1).f1.f2).length : Int))) (wrap64 (x4_1 + (((rd_T53 l0 x5_1).f2).length : Int))) (wrap64 (x5_1 + 1))) = some r := by rw [if_neg (show ¬ (false = true) by decide)] at H; exact H
                  clear H
                  have H := H1
                  clear H1
                  have H' := Aside0.mk H
                  clear H
                  have p354 : 0 ≤ (x5_1 : Int) := of_decide_eq_true (by first | (with_reducible assumption) | assumption)
                  have q354 : x5_1 < (l0.length : Int) := of_decide_eq_true (by first | (with_reducible assumption) | assumption)
                  obtain ⟨ad354, A354_3, c354_3, A354_4, c354_4, e354, hx354_0, hx354_1, hx354_2, hx354_3, hx354_4, hl354_3, hi354_3, hl354_4, hi354_4⟩ := at_T53 HR0.out x5_1 p354 q354
                  cases e354
                  replace hx354_0 := (HB.out.cell (World.block_lt_of_cell? w _ hx354_0)).trans hx354_0
                  replace hx354_1 := (HB.out.cell (World.block_lt_of_cell? w _ hx354_1)).trans hx354_1
                  replace hx354_2 := (HB.out.cell (World.block_lt_of_cell? w _ hx354_2)).trans hx354_2
                  replace hx354_3 := (HB.out.cell (World.block_lt_of_cell? w _ hx354_3)).trans hx354_3
                  replace hx354_4 := (HB.out.cell (World.block_lt_of_cell? w _ hx354_4)).trans hx354_4
                  have HR354_3 := Aside0.mk hi354_3
                  have HC354_3 := Aside0.mk hl354_3
                  clear hi354_3 hl354_3
                  have HR354_4 := Aside0.mk hi354_4
                  have HC354_4 := Aside0.mk hl354_4
                  clear hi354_4 hl354_4
                  replace p354 := eq_true p354
                  replace q354 := eq_true q354
                  go_wp2_with (first | ((with_reducible refine gate_callee (f := 23) rfl ?_); refine gl (some 25) Tryd.func23 #[.agg #[.int .u64 ((rd_T53 l0 x5_1).f1.f0), .int .u64 ((rd_T53 l0 x5_1).f1.f1), .slice A354_3 ((rd_T53 l0 x5_1).f1.f2).length c354_3]] ?_; (with_reducible refine (turnstilelaw14_wide.calls kj1 ((rd_T53 l0 x5_1).f1.f0) ((rd_T53 l0 x5_1).f1.f1) _ _ ((rd_T53 l0 x5_1).f1.f2) false _ ?side1 ?side2 A8.out).mono ?_); (case side1 => exact co (Kd.C_below HR354_3.out HB.out)); (case side2 => exact HC354_3.out); rintro e w11 ⟨rfl, hb⟩; refine ⟨_, rfl, ?_⟩; replace HB := bs HB hb; (try clear hb); (try clear hb2); (try clear hk); (try clear hi); have p356 : 0 ≤ (x5_1 : Int) := of_decide_eq_true (by first | (with_reducible assumption) | assumption); have q356 : x5_1 < (l0.length : Int) := of_decide_eq_true (by first | (with_reducible assumption) | assumption); obtain ⟨ad356, A356_3, c356_3, A356_4, c356_4, e356, hx356_0, hx356_1, hx356_2, hx356_3, hx356_4, hl356_3, hi356_3, hl356_4, hi356_4⟩ := at_T53 HR0.out x5_1 p356 q356; obtain rfl : ad354 = ad356 := (by injection e356); replace hx356_0 := (HB.out.cell (World.block_lt_of_cell? w _ hx356_0)).trans hx356_0; replace hx356_1 := (HB.out.cell (World.block_lt_of_cell? w _ hx356_1)).trans hx356_1; replace hx356_2 := (HB.out.cell (World.block_lt_of_cell? w _ hx356_2)).trans hx356_2; replace hx356_3 := (HB.out.cell (World.block_lt_of_cell? w _ hx356_3)).trans hx356_3; replace hx356_4 := (HB.out.cell (World.block_lt_of_cell? w _ hx356_4)).trans hx356_4; have HR356_3 := Aside0.mk hi356_3; have HC356_3 := Aside0.mk hl356_3; clear hi356_3 hl356_3; have HR356_4 := Aside0.mk hi356_4; have HC356_4 := Aside0.mk hl356_4; clear hi356_4 hl356_4; replace p356 := eq_true p356; replace q356 := eq_true q356; have p357 : 0 ≤ (x5_1 : Int) := of_decide_eq_true (by first | (with_reducible assumption) | assumption); have q357 : x5_1 < (l0.length : Int) := of_decide_eq_true (by first | (with_reducible assumption) | assumption); obtain ⟨ad357, A357_3, c357_3, A357_4, c357_4, e357, hx357_0, hx357_1, hx357_2, hx357_3, hx357_4, hl357_3, hi357_3, hl357_4, hi357_4⟩ := at_T53 HR0.out x5_1 p357 q357; obtain rfl : ad354 = ad357 := (by injection e357); replace hx357_0 := (HB.out.cell (World.block_lt_of_cell? w _ hx357_0)).trans hx357_0; replace hx357_1 := (HB.out.cell (World.block_lt_of_cell? w _ hx357_1)).trans hx357_1; replace hx357_2 := (HB.out.cell (World.block_lt_of_cell? w _ hx357_2)).trans hx357_2; replace hx357_3 := (HB.out.cell (World.block_lt_of_cell? w _ hx357_3)).trans hx357_3; replace hx357_4 := (HB.out.cell (World.block_lt_of_cell? w _ hx357_4)).trans hx357_4; have HR357_3 := Aside0.mk hi357_3; have HC357_3 := Aside0.mk hl357_3; clear hi357_3 hl357_3; have HR357_4 := Aside0.mk hi357_4; have HC357_4 := Aside0.mk hl357_4; clear hi357_4 hl357_4; replace p357 := eq_true p357; replace q357 := eq_true q357; have ea_ := Option.some.inj (hx356_3.symm.trans hx357_3); injection ea_ with ea_ en_ ec_; subst ea_; subst ec_; clear en_; have ea_ := Option.some.inj (hx356_4.symm.trans hx357_4); injection ea_ with ea_ en_ ec_; subst ea_; subst ec_; clear en_))
                  go_roundg kj1
                  case measure => have := HK1.out; have := HJ1.out; omega
                  case rel => exact ⟨(wrap64 ((wrap64 (x3_1 + 1)) + (((rd_T53 l0 x5_1).f1.f2).length : Int))), (wrap64 (x4_1 + (((rd_T53 l0 x5_1).f2).length : Int))), (wrap64 (x5_1 + 1)), rs, rs, rs, H', ⟨by have := HK1.out; have := HJ1.out; omega⟩, ⟨bw HB⟩⟩
              · rw [if_neg c7] at H
                exact absurd H (by simp)
            · rw [if_neg c6] at H
              exact absurd H (by simp)
          · replace c5 := Bool.eq_false_iff.mpr c5
            subst c5
            have H1 : (if x3_1 > 1048576 then (some true) else (some (decide (x4_1 > 16777216)))) = some r := by rw [if_neg (show ¬ (false = true) by decide)] at H; exact H
            clear H
            have H := H1
            clear H1
            by_cases c12 : x3_1 > 1048576
            · rw [if_pos c12] at H
              have c12b0 : decide (1048576 < x3_1) = true := decide_eq_true c12
              clear c12
              obtain rfl := Option.some.inj H
              go_wp2
              go_ret
              exact ⟨re, bw HB⟩
            · rw [if_neg c12] at H
              have c12b0 : decide (1048576 < x3_1) = false := decide_eq_false c12
              clear c12
              obtain rfl := Option.some.inj H
              go_wp2
              go_ret
              exact ⟨re, bw HB⟩

end Go.Proofs.YtkgjepmminmjjaaDoor.E
