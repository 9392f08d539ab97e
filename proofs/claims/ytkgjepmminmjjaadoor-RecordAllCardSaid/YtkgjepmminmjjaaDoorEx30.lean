/- Written by the session's own program hyb.py: what functions of the program compute; Lean checks it. -/
import Derived.Test.YtkgjepmminmjjaaDoorEx0
import Derived.Test.YtkgjepmminmjjaaDoorEx21
import Derived.Test.YtkgjepmminmjjaaDoorEx22
import Derived.Test.YtkgjepmminmjjaaDoorEx29
import Derived.Test.YtkgjepmminmjjaaDoorWErr
namespace Go.Proofs.YtkgjepmminmjjaaDoor.E
open Go.RowKit Go.Proofs.YtkgjepmminmjjaaDoorW.PrintWords Go.Proofs.YtkgjepmminmjjaaDoorW.PrintLast Go.Proofs.YtkgjepmminmjjaaDoorW.PrintMore Go.Proofs.YtkgjepmminmjjaaDoorW.PrintShort
attribute [local go_sem] run_Add64 run_Sub64
attribute [local go_sem] max2_int min2_int max_two min_two max_three min_three max_four min_four   -- for this text's walks alone
set_option linter.unusedVariables false
set_option linter.unusedSimpArgs false

/-! ### turnstilelaw11_RecordAll: function 3 -/
mutual
def turnstilelaw11_RecordAll.j0 : Nat → List (S35) → Bool → Bool → Option (Bool)
  | 0, _, _, _ => none
  | k + 1, x0, x3, x10 => if x10 = true then (some true) else (turnstilelaw11_RecordAll.l0 k x0 x3 0)
def turnstilelaw11_RecordAll.l0 : Nat → List (S35) → Bool → Int → Option (Bool)
  | 0, _, _, _ => none
  | k + 1, x0, x3, x4 => if x4 < (x0.length : Int) then (if x3 = true then (if 0 ≤ x4 then ((turnstilelaw11_plays.f k ((rd_T35 x0 x4).f0) ((rd_T35 x0 x4).f1.f0) ((rd_T35 x0 x4).f1.f1) ((rd_T35 x0 x4).f1.f2) ((rd_T35 x0 x4).f1.f3.f0) ((rd_T35 x0 x4).f1.f3.f1) ((rd_T35 x0 x4).f1.f3.f2) ((rd_T35 x0 x4).f1.f3.f3) ((rd_T35 x0 x4).f1.f3.f4) ((rd_T35 x0 x4).f1.f4.f0) ((rd_T35 x0 x4).f1.f4.f1) ((rd_T35 x0 x4).f1.f4.f2) ((rd_T35 x0 x4).f2)).bind fun t463 => (turnstilelaw11_RecordAll.l0 k x0 t463 (wrap64 (x4 + 1)))) else (none)) else (some x3)) else (some x3)
end
def turnstilelaw11_RecordAll.f (k : Nat) (l0 : List (S35)) : Option (Bool) := (turnstilelaw11_awake.f k).bind fun t460 => (if t460 = true then ((turnstilelaw11_much.f k l0).bind fun t461 => (turnstilelaw11_RecordAll.j0 k l0 t460 t461)) else (turnstilelaw11_RecordAll.j0 k l0 t460 false))
theorem turnstilelaw11_RecordAll.mono_l : ∀ k, (∀ y0 y1 y2, LeO (turnstilelaw11_RecordAll.j0 k y0 y1 y2) (turnstilelaw11_RecordAll.j0 (k + 1) y0 y1 y2)) ∧ (∀ y0 y1 y2, LeO (turnstilelaw11_RecordAll.l0 k y0 y1 y2) (turnstilelaw11_RecordAll.l0 (k + 1) y0 y1 y2))
  | 0 => ⟨fun _ _ _ r h => by simp [turnstilelaw11_RecordAll.j0] at h, fun _ _ _ r h => by simp [turnstilelaw11_RecordAll.l0] at h⟩
  | k + 1 => by
    obtain ⟨ih0, ih1⟩ := turnstilelaw11_RecordAll.mono_l k
    refine ⟨?_, ?_⟩
    · intro y0 y1 y2
      unfold turnstilelaw11_RecordAll.j0
      repeat' first
      | (with_reducible exact ih0 _ _ _)
      | (with_reducible exact ih1 _ _ _)
      | (with_reducible exact turnstilelaw11_awake.mono _)
      | (with_reducible exact turnstilelaw11_much.mono _ _)
      | (with_reducible exact turnstilelaw11_plays.mono _ _ _ _ _ _ _ _ _ _ _ _ _ _)
      | (with_reducible exact LeO.refl _)
      | (with_reducible exact LeO.none _)
      | (with_reducible refine LeO.ite ?_ ?_)
      | (with_reducible refine LeO.bind ?_ (fun _ => ?_))
      | exact ih0 _ _ _
      | exact ih1 _ _ _
      | exact turnstilelaw11_awake.mono _
      | exact turnstilelaw11_much.mono _ _
      | exact turnstilelaw11_plays.mono _ _ _ _ _ _ _ _ _ _ _ _ _ _
      | exact LeO.none _
      | refine LeO.ite ?_ ?_
      | refine LeO.bind ?_ (fun _ => ?_)
    · intro y0 y1 y2
      unfold turnstilelaw11_RecordAll.l0
      repeat' first
      | (with_reducible exact ih0 _ _ _)
      | (with_reducible exact ih1 _ _ _)
      | (with_reducible exact turnstilelaw11_awake.mono _)
      | (with_reducible exact turnstilelaw11_much.mono _ _)
      | (with_reducible exact turnstilelaw11_plays.mono _ _ _ _ _ _ _ _ _ _ _ _ _ _)
      | (with_reducible exact LeO.refl _)
      | (with_reducible exact LeO.none _)
      | (with_reducible refine LeO.ite ?_ ?_)
      | (with_reducible refine LeO.bind ?_ (fun _ => ?_))
      | exact ih0 _ _ _
      | exact ih1 _ _ _
      | exact turnstilelaw11_awake.mono _
      | exact turnstilelaw11_much.mono _ _
      | exact turnstilelaw11_plays.mono _ _ _ _ _ _ _ _ _ _ _ _ _ _
      | exact LeO.none _
      | refine LeO.ite ?_ ?_
      | refine LeO.bind ?_ (fun _ => ?_)
theorem turnstilelaw11_RecordAll.mono : ∀ a0 k, LeO (turnstilelaw11_RecordAll.f k a0) (turnstilelaw11_RecordAll.f (k + 1) a0) := by
  intro a0 k
  obtain ⟨ih0, ih1⟩ := turnstilelaw11_RecordAll.mono_l k
  unfold turnstilelaw11_RecordAll.f
  repeat' first
      | (with_reducible exact ih0 _ _ _)
      | (with_reducible exact ih1 _ _ _)
      | (with_reducible exact turnstilelaw11_awake.mono _)
      | (with_reducible exact turnstilelaw11_much.mono _ _)
      | (with_reducible exact turnstilelaw11_plays.mono _ _ _ _ _ _ _ _ _ _ _ _ _ _)
      | (with_reducible exact LeO.refl _)
      | (with_reducible exact LeO.none _)
      | (with_reducible refine LeO.ite ?_ ?_)
      | (with_reducible refine LeO.bind ?_ (fun _ => ?_))
      | exact ih0 _ _ _
      | exact ih1 _ _ _
      | exact turnstilelaw11_awake.mono _
      | exact turnstilelaw11_much.mono _ _
      | exact turnstilelaw11_plays.mono _ _ _ _ _ _ _ _ _ _ _ _ _ _
      | exact LeO.none _
      | refine LeO.ite ?_ ?_
      | refine LeO.bind ?_ (fun _ => ?_)
set_option maxHeartbeats 8000000 in
set_option maxRecDepth 100000 in
theorem turnstilelaw11_RecordAll.calls (k : Nat) [Errs] [ErrsAll] (A0 : Option Addr) (c0 : Nat) (l0 : List (S35)) (r : Bool) (w : World) (hE : Sent w) (hr0 : Kd.C k35 w A0 l0.length l0) (hc0 : l0.length ≤ c0) (h : turnstilelaw11_RecordAll.f k l0 = some r) :
    Calls Tryd.prog 3 #[.slice A0 l0.length c0] w fun e w' => e = .returned (.bool r) ∧ Below w.heap.size w w' := by
  have hu35 := Tryd.underlying35
  have HR0 := Aside0.mk hr0
  have HC0 := Aside0.mk hc0
  clear hr0 hc0
  have HERR := Aside0.mk hE
  clear hE
  have HB := Aside0.mk (Below.refl w.heap.size w)
  have H : ((turnstilelaw11_awake.f k).bind fun t460 => (if t460 = true then ((turnstilelaw11_much.f k l0).bind fun t461 => (turnstilelaw11_RecordAll.j0 k l0 t460 t461)) else (turnstilelaw11_RecordAll.j0 k l0 t460 false))) = some r := h
  clear h
  replace H := Option.bind_eq_some_iff.mp H
  obtain ⟨t460, A20, H⟩ := H
  replace H : (if t460 = true then ((turnstilelaw11_much.f k l0).bind fun t461 => (turnstilelaw11_RecordAll.j0 k l0 t460 t461)) else (turnstilelaw11_RecordAll.j0 k l0 t460 false)) = some r := H
  have A2 := Aside0.mk A20
  clear A20
  have HC3 := Aside0.mk H
  clear H
  go_enter Tryd.func3, Tryd.ntmps3
  go_upto_region 2 with (first | ((with_reducible refine gate_callee (f := 13) rfl ?_); refine gl (some 5) Tryd.func13 #[] ?_; (with_reducible refine (turnstilelaw11_awake.calls k  t460 _ ?side1 A2.out).mono ?_); (case side1 => exact (HERR.out.below (bw HB))); rintro e w4 ⟨rfl, hb⟩; refine ⟨_, rfl, ?_⟩; have n0_ := bs HB hb; clear HB; have HB := n0_; clear n0_; (try clear hb); (try clear hb2); (try clear hk); (try clear hi)))
  (try simp only [Act.put, List.setIfInBounds_toArray, List.set_cons_zero, List.set_cons_succ])
  go_cut [10] (fun v10 wc => ∃ (kq : Nat) (x10_2 : Bool), v10 = .bool x10_2 ∧ Aside0 (turnstilelaw11_RecordAll.j0 kq l0 t460 x10_2 = some r) ∧ Aside0 (kq ≤ k) ∧ Aside0 (Below w.heap.size w wc))
  case first =>
    have H := HC3.out
    clear HC3
    by_cases c5 : t460 = true
    · subst c5
      have H1 : ((turnstilelaw11_much.f k l0).bind fun t461 => (turnstilelaw11_RecordAll.j0 k l0 true t461)) = some r := by rw [if_pos rfl] at H; exact H
      clear H
      have H := H1
      clear H1
      replace H := Option.bind_eq_some_iff.mp H
      obtain ⟨t461, A60, H⟩ := H
      replace H : (turnstilelaw11_RecordAll.j0 k l0 true t461) = some r := H
      have A6 := Aside0.mk A60
      clear A60
      have H' := Aside0.mk H
      clear H
      go_wp2_with (first | (go_at_call 14; (with_reducible refine (turnstilelaw11_much.calls k _ _ l0 t461 _ ?side1 ?side2 A6.out).mono ?_); (case side1 => repeat (first | exact (Kd.C_below HR0.out HB.out) | (with_reducible refine Kd.C_alloc ?_ _) | (with_reducible refine Kd.C_drewN ?_ _) | (with_reducible refine Kd.C_drew ?_))); (case side2 => exact HC0.out); rintro e w' ⟨rfl, ⟨nd, rfl⟩⟩))
      go_meet
      case rel => exact ⟨_, (t461), rs, H', ⟨by first | omega | exact Nat.le_refl _⟩, ⟨bw HB⟩⟩
    · replace c5 := Bool.eq_false_iff.mpr c5
      subst c5
      have H1 : (turnstilelaw11_RecordAll.j0 k l0 false false) = some r := by rw [if_neg (show ¬ (false = true) by decide)] at H; exact H
      clear H
      have H := H1
      clear H1
      have H' := Aside0.mk H
      clear H
      go_wp2
      go_meet
      case rel => exact ⟨_, (false), rs, H', ⟨by first | omega | exact Nat.le_refl _⟩, ⟨bw HB⟩⟩
  case rest =>
    clear HC3
    try clear c1
    try clear p2
    try clear c3
    try clear c5
    obtain ⟨kq, x10_2, rfl, HA, HJ2, HB⟩ := hcut
    cases kq with
    | zero => exact absurd HA.out (by simp [turnstilelaw11_RecordAll.j0])
    | succ kj2 =>
      have H := HA.out
      clear HA
      simp only [turnstilelaw11_RecordAll.j0] at H
      by_cases c7 : x10_2 = true
      · subst c7
        have H1 : (some true) = some r := by rw [if_pos rfl] at H; exact H
        clear H
        have H := H1
        clear H1
        obtain rfl := Option.some.inj H
        go_wp2
        go_ret
        exact ⟨re, bw HB⟩
      · replace c7 := Bool.eq_false_iff.mpr c7
        subst c7
        have H1 : (turnstilelaw11_RecordAll.l0 kj2 l0 t460 0) = some r := by rw [if_neg (show ¬ (false = true) by decide)] at H; exact H
        clear H
        have H := H1
        clear H1
        have H' := Aside0.mk H
        clear H
        go_wp2
        go_loopg [3, 4] kj2 (fun kq v3 v4 w' => ∃ (x3_2 : Bool) (x4_2 : Int), v3 = .bool x3_2 ∧ v4 = .int .i64 x4_2 ∧ Aside0 (turnstilelaw11_RecordAll.l0 kq l0 x3_2 x4_2 = some r) ∧ Aside0 (kq ≤ kj2) ∧ Aside0 (Below w.heap.size w w'))
        case atStart => exact ⟨(t460), (0), rs, rs, H', ⟨Nat.le_refl _⟩, ⟨bw HB⟩⟩
        case round =>
          clear H'
          try clear c1
          try clear p2
          try clear c3
          try clear c5
          try clear c7
          try clear p2
          obtain ⟨x3_2, x4_2, rfl, rfl, HA, HK2, HB⟩ := hrel
          cases gk with
          | zero => exact absurd HA.out (by simp [turnstilelaw11_RecordAll.l0])
          | succ k2 =>
            have H := HA.out
            clear HA
            simp only [turnstilelaw11_RecordAll.l0] at H
            by_cases c8 : x4_2 < (l0.length : Int)
            · rw [if_pos c8] at H
              have c8b0 : decide (x4_2 < (l0.length : Int)) = true := decide_eq_true c8
              clear c8
              by_cases c9 : x3_2 = true
              · subst c9
                have H1 : (if 0 ≤ x4_2 then ((turnstilelaw11_plays.f k2 ((rd_T35 l0 x4_2).f0) ((rd_T35 l0 x4_2).f1.f0) ((rd_T35 l0 x4_2).f1.f1) ((rd_T35 l0 x4_2).f1.f2) ((rd_T35 l0 x4_2).f1.f3.f0) ((rd_T35 l0 x4_2).f1.f3.f1) ((rd_T35 l0 x4_2).f1.f3.f2) ((rd_T35 l0 x4_2).f1.f3.f3) ((rd_T35 l0 x4_2).f1.f3.f4) ((rd_T35 l0 x4_2).f1.f4.f0) ((rd_T35 l0 x4_2).f1.f4.f1) ((rd_T35 l0 x4_2).f1.f4.f2) ((rd_T35 l0 x4_2).f2)).bind fun t463 => (turnstilelaw11_RecordAll.l0 k2 l0 t463 (wrap64 (x4_2 + 1)))) else (none)) = some r := by rw [if_pos rfl] at H; exact H
                clear H
                have H := H1
                clear H1
                by_cases c10 : 0 ≤ x4_2
                · rw [if_pos c10] at H
                  have c10b0 : decide (0 ≤ x4_2) = true := decide_eq_true c10
                  clear c10
                  replace H := Option.bind_eq_some_iff.mp H
                  obtain ⟨t463, A110, H⟩ := H
                  replace H : (turnstilelaw11_RecordAll.l0 k2 l0 t463 (wrap64 (x4_2 + 1))) = some r := H
                  have A11 := Aside0.mk A110
                  clear A110
                  have H' := Aside0.mk H
                  clear H
                  have p462 : 0 ≤ (x4_2 : Int) := of_decide_eq_true (by first | (with_reducible assumption) | assumption)
                  have q462 : x4_2 < (l0.length : Int) := of_decide_eq_true (by first | (with_reducible assumption) | assumption)
                  obtain ⟨ad462, A462_12, c462_12, e462, hx462_0, hx462_1, hx462_2, hx462_3, hx462_4, hx462_5, hx462_6, hx462_7, hx462_8, hx462_9, hx462_10, hx462_11, hx462_12, hl462_12, hi462_12⟩ := at_T35 HR0.out x4_2 p462 q462
                  cases e462
                  replace hx462_0 := (HB.out.cell (World.block_lt_of_cell? w _ hx462_0)).trans hx462_0
                  replace hx462_1 := (HB.out.cell (World.block_lt_of_cell? w _ hx462_1)).trans hx462_1
                  replace hx462_2 := (HB.out.cell (World.block_lt_of_cell? w _ hx462_2)).trans hx462_2
                  replace hx462_3 := (HB.out.cell (World.block_lt_of_cell? w _ hx462_3)).trans hx462_3
                  replace hx462_4 := (HB.out.cell (World.block_lt_of_cell? w _ hx462_4)).trans hx462_4
                  replace hx462_5 := (HB.out.cell (World.block_lt_of_cell? w _ hx462_5)).trans hx462_5
                  replace hx462_6 := (HB.out.cell (World.block_lt_of_cell? w _ hx462_6)).trans hx462_6
                  replace hx462_7 := (HB.out.cell (World.block_lt_of_cell? w _ hx462_7)).trans hx462_7
                  replace hx462_8 := (HB.out.cell (World.block_lt_of_cell? w _ hx462_8)).trans hx462_8
                  replace hx462_9 := (HB.out.cell (World.block_lt_of_cell? w _ hx462_9)).trans hx462_9
                  replace hx462_10 := (HB.out.cell (World.block_lt_of_cell? w _ hx462_10)).trans hx462_10
                  replace hx462_11 := (HB.out.cell (World.block_lt_of_cell? w _ hx462_11)).trans hx462_11
                  replace hx462_12 := (HB.out.cell (World.block_lt_of_cell? w _ hx462_12)).trans hx462_12
                  have HR462_12 := Aside0.mk hi462_12
                  have HC462_12 := Aside0.mk hl462_12
                  clear hi462_12 hl462_12
                  replace p462 := eq_true p462
                  replace q462 := eq_true q462
                  go_wp2_with (first | ((with_reducible refine gate_callee (f := 15) rfl ?_); refine gl (some 24) Tryd.func15 #[.agg #[.int .i64 ((rd_T35 l0 x4_2).f0), .int .i64 ((rd_T35 l0 x4_2).f1.f0), .int .u64 ((rd_T35 l0 x4_2).f1.f1), .string ((rd_T35 l0 x4_2).f1.f2), .int .i64 ((rd_T35 l0 x4_2).f1.f3.f0), .int .u64 ((rd_T35 l0 x4_2).f1.f3.f1), .int .u64 ((rd_T35 l0 x4_2).f1.f3.f2), .int .u64 ((rd_T35 l0 x4_2).f1.f3.f3), .int .u64 ((rd_T35 l0 x4_2).f1.f3.f4), .int .u64 ((rd_T35 l0 x4_2).f1.f4.f0), .int .u64 ((rd_T35 l0 x4_2).f1.f4.f1), .int .u64 ((rd_T35 l0 x4_2).f1.f4.f2), .slice A462_12 ((rd_T35 l0 x4_2).f2).length c462_12]] ?_; (with_reducible refine (turnstilelaw11_plays.calls k2 ((rd_T35 l0 x4_2).f0) ((rd_T35 l0 x4_2).f1.f0) ((rd_T35 l0 x4_2).f1.f1) ((rd_T35 l0 x4_2).f1.f2) ((rd_T35 l0 x4_2).f1.f3.f0) ((rd_T35 l0 x4_2).f1.f3.f1) ((rd_T35 l0 x4_2).f1.f3.f2) ((rd_T35 l0 x4_2).f1.f3.f3) ((rd_T35 l0 x4_2).f1.f3.f4) ((rd_T35 l0 x4_2).f1.f4.f0) ((rd_T35 l0 x4_2).f1.f4.f1) ((rd_T35 l0 x4_2).f1.f4.f2) _ _ ((rd_T35 l0 x4_2).f2) t463 _ ?side3 ?side1 ?side2 A11.out).mono ?_); (case side1 => repeat (first | exact (Kd.C_below HR462_12.out HB.out) | (with_reducible refine Kd.C_alloc ?_ _) | (with_reducible refine Kd.C_drewN ?_ _) | (with_reducible refine Kd.C_drew ?_))); (case side2 => exact HC462_12.out); (case side3 => exact (HERR.out.below (bw HB))); rintro e w12 ⟨rfl, hb⟩; refine ⟨_, rfl, ?_⟩; have n0_ := bs HB hb; clear HB; have HB := n0_; clear n0_; (try clear hb); (try clear hb2); (try clear hk); (try clear hi)))
                  go_roundg k2
                  case measure => have := HJ2.out; have := HK2.out; omega
                  case rel => exact ⟨(t463), (wrap64 (x4_2 + 1)), rs, rs, H', ⟨by have := HJ2.out; have := HK2.out; omega⟩, ⟨bw HB⟩⟩
                · rw [if_neg c10] at H
                  exact absurd H (by simp)
              · replace c9 := Bool.eq_false_iff.mpr c9
                subst c9
                have H1 : (some false) = some r := by rw [if_neg (show ¬ (false = true) by decide)] at H; exact H
                clear H
                have H := H1
                clear H1
                obtain rfl := Option.some.inj H
                go_wp2
                go_ret
                exact ⟨re, bw HB⟩
            · rw [if_neg c8] at H
              have c8b0 : decide (x4_2 < (l0.length : Int)) = false := decide_eq_false c8
              clear c8
              obtain rfl := Option.some.inj H
              go_wp2
              go_ret
              exact ⟨re, bw HB⟩


end Go.Proofs.YtkgjepmminmjjaaDoor.E
