/- Written by the session's own program hyb.py: what functions of the program compute; Lean checks it. -/
import Derived.Test.YtkgjepmminmjjaaDoorEx0
import Derived.Test.YtkgjepmminmjjaaDoorEx26
import Derived.Test.YtkgjepmminmjjaaDoorEx28
import Derived.Test.YtkgjepmminmjjaaDoorEx41
import Derived.Test.YtkgjepmminmjjaaDoorWErr
namespace Go.Proofs.YtkgjepmminmjjaaDoor.E
open Go.RowKit Go.Proofs.YtkgjepmminmjjaaDoorW.PrintWords Go.Proofs.YtkgjepmminmjjaaDoorW.PrintLast Go.Proofs.YtkgjepmminmjjaaDoorW.PrintMore Go.Proofs.YtkgjepmminmjjaaDoorW.PrintShort
attribute [local go_sem] run_Add64 run_Sub64
attribute [local go_sem] max2_int min2_int max_two min_two max_three min_three max_four min_four   -- for this text's walks alone
set_option linter.unusedVariables false
set_option linter.unusedSimpArgs false

/-! ### turnstilelaw14_ImageAll: function 8 -/
mutual
def turnstilelaw14_ImageAll.j0 : Nat → List (S53) → Bool → Bool → Option (Bool)
  | 0, _, _, _ => none
  | k + 1, x0, x3, x10 => if x10 = true then (some true) else (turnstilelaw14_ImageAll.l0 k x0 x3 0)
def turnstilelaw14_ImageAll.l0 : Nat → List (S53) → Bool → Int → Option (Bool)
  | 0, _, _, _ => none
  | k + 1, x0, x3, x4 => if x4 < (x0.length : Int) then (if x3 = true then (if 0 ≤ x4 then ((turnstilelaw14_plays.f k ((rd_T53 x0 x4).f0) ((rd_T53 x0 x4).f1.f0) ((rd_T53 x0 x4).f1.f1) ((rd_T53 x0 x4).f1.f2) ((rd_T53 x0 x4).f2)).bind fun t561 => (turnstilelaw14_ImageAll.l0 k x0 t561 (wrap64 (x4 + 1)))) else (none)) else (some x3)) else (some x3)
end
def turnstilelaw14_ImageAll.f (k : Nat) (l0 : List (S53)) : Option (Bool) := (turnstilelaw14_awake.f k).bind fun t558 => (if t558 = true then ((turnstilelaw14_much.f k l0).bind fun t559 => (turnstilelaw14_ImageAll.j0 k l0 t558 t559)) else (turnstilelaw14_ImageAll.j0 k l0 t558 false))
set_option maxHeartbeats 8000000 in
set_option maxRecDepth 100000 in
theorem turnstilelaw14_ImageAll.calls (k : Nat) [Errs] [ErrsAll] (A0 : Option Addr) (c0 : Nat) (l0 : List (S53)) (r : Bool) (w : World) (hE : Sent w) (hr0 : Kd.C k53 w A0 l0.length l0) (hc0 : l0.length ≤ c0) (h : turnstilelaw14_ImageAll.f k l0 = some r) :
    Calls Tryd.prog 8 #[.slice A0 l0.length c0] w fun e w' => e = .returned (.bool r) ∧ Below w.heap.size w w' := by
  have hu53 := Tryd.underlying53
  have HR0 := Aside0.mk hr0
  have HC0 := Aside0.mk hc0
  clear hr0 hc0
  have HERR := Aside0.mk hE
  clear hE
  have HB := Aside0.mk (Below.refl w.heap.size w)
  have H : ((turnstilelaw14_awake.f k).bind fun t558 => (if t558 = true then ((turnstilelaw14_much.f k l0).bind fun t559 => (turnstilelaw14_ImageAll.j0 k l0 t558 t559)) else (turnstilelaw14_ImageAll.j0 k l0 t558 false))) = some r := h
  clear h
  replace H := Option.bind_eq_some_iff.mp H
  obtain ⟨t558, A20, H⟩ := H
  replace H : (if t558 = true then ((turnstilelaw14_much.f k l0).bind fun t559 => (turnstilelaw14_ImageAll.j0 k l0 t558 t559)) else (turnstilelaw14_ImageAll.j0 k l0 t558 false)) = some r := H
  have A2 := Aside0.mk A20
  clear A20
  have HC3 := Aside0.mk H
  clear H
  go_enter Tryd.func8, Tryd.ntmps8
  go_upto_region 2 with (first | ((with_reducible refine gate_callee (f := 20) rfl ?_); refine gl (some 5) Tryd.func20 #[] ?_; (with_reducible refine (turnstilelaw14_awake.calls k  t558 _ ?side1 A2.out).mono ?_); (case side1 => exact (HERR.out.below (bw HB))); rintro e w4 ⟨rfl, hb⟩; refine ⟨_, rfl, ?_⟩; replace HB := bs HB hb; (try clear hb); (try clear hb2); (try clear hk); (try clear hi)))
  (try simp only [Act.put, List.setIfInBounds_toArray, List.set_cons_zero, List.set_cons_succ])
  go_cut [10] (fun v10 wc => ∃ (kq : Nat) (x10_2 : Bool), v10 = .bool x10_2 ∧ Aside0 (turnstilelaw14_ImageAll.j0 kq l0 t558 x10_2 = some r) ∧ Aside0 (kq ≤ k) ∧ Aside0 (Below w.heap.size w wc))
  case first =>
    have H := HC3.out
    clear HC3
    by_cases c5 : t558 = true
    · subst c5
      have H1 : ((turnstilelaw14_much.f k l0).bind fun t559 => (turnstilelaw14_ImageAll.j0 k l0 true t559)) = some r := by rw [if_pos rfl] at H; exact H
      clear H
      have H := H1
      clear H1
      replace H := Option.bind_eq_some_iff.mp H
      obtain ⟨t559, A60, H⟩ := H
      replace H : (turnstilelaw14_ImageAll.j0 k l0 true t559) = some r := H
      have A6 := Aside0.mk A60
      clear A60
      have H' := Aside0.mk H
      clear H
      go_wp2_with (first | (go_at_call 21; (with_reducible refine (turnstilelaw14_much.calls k _ _ l0 t559 _ ?side1 ?side2 A6.out).mono ?_); (case side1 => exact co (Kd.C_below HR0.out HB.out)); (case side2 => exact HC0.out); rintro e w7 ⟨rfl, hb⟩; replace HB := bs HB hb; (try clear hb); (try clear hb2); (try clear hk); (try clear hi)))
      go_meet
      case rel => exact ⟨_, (t559), rs, H', ⟨by first | omega | exact Nat.le_refl _⟩, ⟨bw HB⟩⟩
    · replace c5 := Bool.eq_false_iff.mpr c5
      subst c5
      have H1 : (turnstilelaw14_ImageAll.j0 k l0 false false) = some r := by rw [if_neg (show ¬ (false = true) by decide)] at H; exact H
      clear H
      have H := H1
      clear H1
      have H' := Aside0.mk H
      clear H
      go_wp2
      go_meet
      case rel => exact ⟨_, (false), rs, H', ⟨by first | omega | exact Nat.le_refl _⟩, ⟨bw HB⟩⟩
  case rest =>
    clear HC3
    try clear c2
    try clear p2
    try clear c5
    obtain ⟨kq, x10_2, rfl, HA, HJ2, HB⟩ := hcut
    cases kq with
    | zero => exact absurd HA.out (by simp [turnstilelaw14_ImageAll.j0])
    | succ kj2 =>
      have H := HA.out
      clear HA
      simp only [turnstilelaw14_ImageAll.j0] at H
      by_cases c8 : x10_2 = true
      · subst c8
        have H1 : (some true) = some r := by rw [if_pos rfl] at H; exact H
        clear H
        have H := H1
        clear H1
        obtain rfl := Option.some.inj H
        go_wp2
        go_ret
        exact ⟨re, bw HB⟩
      · replace c8 := Bool.eq_false_iff.mpr c8
        subst c8
        have H1 : (turnstilelaw14_ImageAll.l0 kj2 l0 t558 0) = some r := by rw [if_neg (show ¬ (false = true) by decide)] at H; exact H
        clear H
        have H := H1
        clear H1
        have H' := Aside0.mk H
        clear H
        go_wp2
        go_loopg [3, 4] kj2 (fun kq v3 v4 w' => ∃ (x3_2 : Bool) (x4_2 : Int), v3 = .bool x3_2 ∧ v4 = .int .i64 x4_2 ∧ Aside0 (turnstilelaw14_ImageAll.l0 kq l0 x3_2 x4_2 = some r) ∧ Aside0 (kq ≤ kj2) ∧ Aside0 (Below w.heap.size w w'))
        case atStart => exact ⟨(t558), (0), rs, rs, H', ⟨Nat.le_refl _⟩, ⟨bw HB⟩⟩
        case round =>
          clear H'
          try clear c2
          try clear p2
          try clear c5
          try clear c8
          try clear p2
          obtain ⟨x3_2, x4_2, rfl, rfl, HA, HK2, HB⟩ := hrel
          cases gk with
          | zero => exact absurd HA.out (by simp [turnstilelaw14_ImageAll.l0])
          | succ k2 =>
            have H := HA.out
            clear HA
            simp only [turnstilelaw14_ImageAll.l0] at H
            by_cases c9 : x4_2 < (l0.length : Int)
            · rw [if_pos c9] at H
              have c9b0 : decide (x4_2 < (l0.length : Int)) = true := decide_eq_true c9
              clear c9
              by_cases c10 : x3_2 = true
              · subst c10
                have H1 : (if 0 ≤ x4_2 then ((turnstilelaw14_plays.f k2 ((rd_T53 l0 x4_2).f0) ((rd_T53 l0 x4_2).f1.f0) ((rd_T53 l0 x4_2).f1.f1) ((rd_T53 l0 x4_2).f1.f2) ((rd_T53 l0 x4_2).f2)).bind fun t561 => (turnstilelaw14_ImageAll.l0 k2 l0 t561 (wrap64 (x4_2 + 1)))) else (none)) = some r := by rw [if_pos rfl] at H; exact H
                clear H
                have H := H1
                clear H1
                by_cases c11 : 0 ≤ x4_2
                · rw [if_pos c11] at H
                  have c11b0 : decide (0 ≤ x4_2) = true := decide_eq_true c11
                  clear c11
                  replace H := Option.bind_eq_some_iff.mp H
                  obtain ⟨t561, A120, H⟩ := H
                  replace H : (turnstilelaw14_ImageAll.l0 k2 l0 t561 (wrap64 (x4_2 + 1))) = some r := H
                  have A12 := Aside0.mk A120
                  clear A120
                  have H' := Aside0.mk H
                  clear H
                  have p560 : 0 ≤ (x4_2 : Int) := of_decide_eq_true (by first | (with_reducible assumption) | assumption)
                  have q560 : x4_2 < (l0.length : Int) := of_decide_eq_true (by first | (with_reducible assumption) | assumption)
                  obtain ⟨ad560, A560_3, c560_3, A560_4, c560_4, e560, hx560_0, hx560_1, hx560_2, hx560_3, hx560_4, hl560_3, hi560_3, hl560_4, hi560_4⟩ := at_T53 HR0.out x4_2 p560 q560
                  cases e560
                  replace hx560_0 := (HB.out.cell (World.block_lt_of_cell? w _ hx560_0)).trans hx560_0
                  replace hx560_1 := (HB.out.cell (World.block_lt_of_cell? w _ hx560_1)).trans hx560_1
                  replace hx560_2 := (HB.out.cell (World.block_lt_of_cell? w _ hx560_2)).trans hx560_2
                  replace hx560_3 := (HB.out.cell (World.block_lt_of_cell? w _ hx560_3)).trans hx560_3
                  replace hx560_4 := (HB.out.cell (World.block_lt_of_cell? w _ hx560_4)).trans hx560_4
                  have HR560_3 := Aside0.mk hi560_3
                  have HC560_3 := Aside0.mk hl560_3
                  clear hi560_3 hl560_3
                  have HR560_4 := Aside0.mk hi560_4
                  have HC560_4 := Aside0.mk hl560_4
                  clear hi560_4 hl560_4
                  replace p560 := eq_true p560
                  replace q560 := eq_true q560
                  go_wp2_with (first | ((with_reducible refine gate_callee (f := 22) rfl ?_); refine gl (some 24) Tryd.func22 #[.agg #[.int .i64 ((rd_T53 l0 x4_2).f0), .int .u64 ((rd_T53 l0 x4_2).f1.f0), .int .u64 ((rd_T53 l0 x4_2).f1.f1), .slice A560_3 ((rd_T53 l0 x4_2).f1.f2).length c560_3, .slice A560_4 ((rd_T53 l0 x4_2).f2).length c560_4]] ?_; (with_reducible refine (turnstilelaw14_plays.calls k2 ((rd_T53 l0 x4_2).f0) ((rd_T53 l0 x4_2).f1.f0) ((rd_T53 l0 x4_2).f1.f1) _ _ ((rd_T53 l0 x4_2).f1.f2) _ _ ((rd_T53 l0 x4_2).f2) t561 _ ?side5 ?side1 ?side2 ?side3 ?side4 A12.out).mono ?_); (case side1 => exact co (Kd.C_below HR560_3.out HB.out)); (case side2 => exact HC560_3.out); (case side3 => exact co (Kd.C_below HR560_4.out HB.out)); (case side4 => exact HC560_4.out); (case side5 => exact (HERR.out.below (bw HB))); rintro e w13 ⟨rfl, hb⟩; refine ⟨_, rfl, ?_⟩; replace HB := bs HB hb; (try clear hb); (try clear hb2); (try clear hk); (try clear hi)))
                  go_roundg k2
                  case measure => have := HJ2.out; have := HK2.out; omega
                  case rel => exact ⟨(t561), (wrap64 (x4_2 + 1)), rs, rs, H', ⟨by have := HJ2.out; have := HK2.out; omega⟩, ⟨bw HB⟩⟩
                · rw [if_neg c11] at H
                  exact absurd H (by simp)
              · replace c10 := Bool.eq_false_iff.mpr c10
                subst c10
                have H1 : (some false) = some r := by rw [if_neg (show ¬ (false = true) by decide)] at H; exact H
                clear H
                have H := H1
                clear H1
                obtain rfl := Option.some.inj H
                go_wp2
                go_ret
                exact ⟨re, bw HB⟩
            · rw [if_neg c9] at H
              have c9b0 : decide (x4_2 < (l0.length : Int)) = false := decide_eq_false c9
              clear c9
              obtain rfl := Option.some.inj H
              go_wp2
              go_ret
              exact ⟨re, bw HB⟩


end Go.Proofs.YtkgjepmminmjjaaDoor.E
