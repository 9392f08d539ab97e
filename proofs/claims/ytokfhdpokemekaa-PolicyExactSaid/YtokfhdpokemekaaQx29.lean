/- Written by the session's own program hyb.py: what functions of the program compute; Lean checks it. -/
import Derived.Test.YtokfhdpokemekaaQx0
import Derived.Test.YtokfhdpokemekaaQx19
import Derived.Test.YtokfhdpokemekaaQx28
namespace Go.Proofs.Ytokfhdpokemekaa.Q
open Go.RowKit Go.Proofs.YtokfhdpokemekaaW.PrintWords Go.Proofs.YtokfhdpokemekaaW.PrintLast Go.Proofs.YtokfhdpokemekaaW.PrintMore Go.Proofs.YtokfhdpokemekaaW.PrintShort
attribute [local go_sem] run_Add64 run_Sub64
attribute [local go_sem] max2_int min2_int max_two min_two max_three min_three max_four min_four   -- for this text's walks alone
set_option linter.unusedVariables false
set_option linter.unusedSimpArgs false

/-! ### turnstilelaw06_PolicyExact: function 3 -/
def turnstilelaw06_PolicyExact.l0 : Nat → List (S31) → Int → Option (Bool)
  | 0, _, _ => none
  | k + 1, x0, x3 => if x3 < (x0.length : Int) then (if 0 ≤ x3 then ((turnstilelaw06_right.f k ((rd_T31 x0 x3).f0.f0) ((rd_T31 x0 x3).f0.f1) ((rd_T31 x0 x3).f0.f2) ((rd_T31 x0 x3).f0.f3) ((rd_T31 x0 x3).f0.f4) ((rd_T31 x0 x3).f1.f0) ((rd_T31 x0 x3).f1.f1) ((rd_T31 x0 x3).f1.f2) ((rd_T31 x0 x3).f2.f0) ((rd_T31 x0 x3).f2.f1) ((rd_T31 x0 x3).f2.f2) ((rd_T31 x0 x3).f3) ((rd_T31 x0 x3).f4)).bind fun t414 => (if t414 = true then (turnstilelaw06_PolicyExact.l0 k x0 (wrap64 (x3 + 1))) else (some false))) else (none)) else (some true)
def turnstilelaw06_PolicyExact.f (k : Nat) (l0 : List (S31)) : Option (Bool) := (turnstilelaw06_awake.f k).bind fun t412 => (if t412 = true then (turnstilelaw06_PolicyExact.l0 k l0 0) else (some false))
theorem turnstilelaw06_PolicyExact.mono_l : ∀ k, (∀ y0 y1, LeO (turnstilelaw06_PolicyExact.l0 k y0 y1) (turnstilelaw06_PolicyExact.l0 (k + 1) y0 y1))
  | 0 => fun _ _ r h => by simp [turnstilelaw06_PolicyExact.l0] at h
  | k + 1 => by
    have ih0 := turnstilelaw06_PolicyExact.mono_l k
    · intro y0 y1
      unfold turnstilelaw06_PolicyExact.l0
      repeat' first
      | (with_reducible exact ih0 _ _)
      | (with_reducible exact turnstilelaw06_awake.mono _)
      | (with_reducible exact turnstilelaw06_right.mono _ _ _ _ _ _ _ _ _ _ _ _ _ _)
      | (with_reducible exact LeO.refl _)
      | (with_reducible exact LeO.none _)
      | (with_reducible refine LeO.ite ?_ ?_)
      | (with_reducible refine LeO.bind ?_ (fun _ => ?_))
      | exact ih0 _ _
      | exact turnstilelaw06_awake.mono _
      | exact turnstilelaw06_right.mono _ _ _ _ _ _ _ _ _ _ _ _ _ _
      | exact LeO.none _
      | refine LeO.ite ?_ ?_
      | refine LeO.bind ?_ (fun _ => ?_)
theorem turnstilelaw06_PolicyExact.mono : ∀ a0 k, LeO (turnstilelaw06_PolicyExact.f k a0) (turnstilelaw06_PolicyExact.f (k + 1) a0) := by
  intro a0 k
  have ih0 := turnstilelaw06_PolicyExact.mono_l k
  unfold turnstilelaw06_PolicyExact.f
  repeat' first
      | (with_reducible exact ih0 _ _)
      | (with_reducible exact turnstilelaw06_awake.mono _)
      | (with_reducible exact turnstilelaw06_right.mono _ _ _ _ _ _ _ _ _ _ _ _ _ _)
      | (with_reducible exact LeO.refl _)
      | (with_reducible exact LeO.none _)
      | (with_reducible refine LeO.ite ?_ ?_)
      | (with_reducible refine LeO.bind ?_ (fun _ => ?_))
      | exact ih0 _ _
      | exact turnstilelaw06_awake.mono _
      | exact turnstilelaw06_right.mono _ _ _ _ _ _ _ _ _ _ _ _ _ _
      | exact LeO.none _
      | refine LeO.ite ?_ ?_
      | refine LeO.bind ?_ (fun _ => ?_)
set_option maxHeartbeats 8000000 in
set_option maxRecDepth 100000 in
theorem turnstilelaw06_PolicyExact.calls (k : Nat) (A0 : Option Addr) (c0 : Nat) (l0 : List (S31)) (r : Bool) (w : World) (hr0 : Kd.C k31 w A0 l0.length l0) (hc0 : l0.length ≤ c0) (h : turnstilelaw06_PolicyExact.f k l0 = some r) :
    Calls Try.prog 3 #[.slice A0 l0.length c0] w fun e w' => e = .returned (.bool r) ∧ Below w.heap.size w w' := by
  have hu31 := Try.underlying31
  have HR0 := Aside0.mk hr0
  have HC0 := Aside0.mk hc0
  clear hr0 hc0
  have HB := Aside0.mk (Below.refl w.heap.size w)
  have H : ((turnstilelaw06_awake.f k).bind fun t412 => (if t412 = true then (turnstilelaw06_PolicyExact.l0 k l0 0) else (some false))) = some r := h
  clear h
  replace H := Option.bind_eq_some_iff.mp H
  obtain ⟨t412, A20, H⟩ := H
  replace H : (if t412 = true then (turnstilelaw06_PolicyExact.l0 k l0 0) else (some false)) = some r := H
  have A2 := Aside0.mk A20
  clear A20
  by_cases c3 : t412 = true
  · subst c3
    have H1 : (turnstilelaw06_PolicyExact.l0 k l0 0) = some r := by rw [if_pos rfl] at H; exact H
    clear H
    have H := H1
    clear H1
    have H' := Aside0.mk H
    clear H
    go_enter Try.func3, Try.ntmps3
    go_wp2_with (first | ((with_reducible refine gate_callee (f := 14) rfl ?_); refine gm (some 4) Try.func14 #[] (turnstilelaw06_awake.calls k  true _ A2.out) ?_; intro w4 hb; have n0_ := bs HB hb; clear HB; have HB := n0_; clear n0_; (try clear hb); (try clear hb2); (try clear hk); (try clear hi)))
    go_loopg [3] k (fun kq v3 w' => ∃ (x3_1 : Int), v3 = .int .i64 x3_1 ∧ Aside0 (turnstilelaw06_PolicyExact.l0 kq l0 x3_1 = some r) ∧ Aside0 (kq ≤ k) ∧ Aside0 (Below w.heap.size w w'))
    case atStart => exact ⟨(0), rs, H', ⟨Nat.le_refl _⟩, ⟨bw HB⟩⟩
    case round =>
      clear H'
      try clear c1
      try clear p2
      try clear c3
      obtain ⟨x3_1, rfl, HA, HK1, HB⟩ := hrel
      cases gk with
      | zero => exact absurd HA.out (by simp [turnstilelaw06_PolicyExact.l0])
      | succ k1 =>
        have H := HA.out
        clear HA
        simp only [turnstilelaw06_PolicyExact.l0] at H
        by_cases c5 : x3_1 < (l0.length : Int)
        · rw [if_pos c5] at H
          have c5b0 : decide (x3_1 < (l0.length : Int)) = true := decide_eq_true c5
          clear c5
          by_cases c6 : 0 ≤ x3_1
          · rw [if_pos c6] at H
            have c6b0 : decide (0 ≤ x3_1) = true := decide_eq_true c6
            clear c6
            replace H := Option.bind_eq_some_iff.mp H
            obtain ⟨t414, A70, H⟩ := H
            replace H : (if t414 = true then (turnstilelaw06_PolicyExact.l0 k1 l0 (wrap64 (x3_1 + 1))) else (some false)) = some r := H
            have A7 := Aside0.mk A70
            clear A70
            by_cases c8 : t414 = true
            · subst c8
              have H1 : (turnstilelaw06_PolicyExact.l0 k1 l0 (wrap64 (x3_1 + 1))) = some r := by rw [if_pos rfl] at H; exact H
              clear H
              have H := H1
              clear H1
              have H' := Aside0.mk H
              clear H
              have p413 : 0 ≤ (x3_1 : Int) := of_decide_eq_true (by first | (with_reducible assumption) | assumption)
              have q413 : x3_1 < (l0.length : Int) := of_decide_eq_true (by first | (with_reducible assumption) | assumption)
              obtain ⟨ad413, e413, hx413_0, hx413_1, hx413_2, hx413_3, hx413_4, hx413_5, hx413_6, hx413_7, hx413_8, hx413_9, hx413_10, hx413_11, hx413_12⟩ := at_T31 HR0.out x3_1 p413 q413
              cases e413
              replace hx413_0 := (HB.out.cell (World.block_lt_of_cell? w _ hx413_0)).trans hx413_0
              replace hx413_1 := (HB.out.cell (World.block_lt_of_cell? w _ hx413_1)).trans hx413_1
              replace hx413_2 := (HB.out.cell (World.block_lt_of_cell? w _ hx413_2)).trans hx413_2
              replace hx413_3 := (HB.out.cell (World.block_lt_of_cell? w _ hx413_3)).trans hx413_3
              replace hx413_4 := (HB.out.cell (World.block_lt_of_cell? w _ hx413_4)).trans hx413_4
              replace hx413_5 := (HB.out.cell (World.block_lt_of_cell? w _ hx413_5)).trans hx413_5
              replace hx413_6 := (HB.out.cell (World.block_lt_of_cell? w _ hx413_6)).trans hx413_6
              replace hx413_7 := (HB.out.cell (World.block_lt_of_cell? w _ hx413_7)).trans hx413_7
              replace hx413_8 := (HB.out.cell (World.block_lt_of_cell? w _ hx413_8)).trans hx413_8
              replace hx413_9 := (HB.out.cell (World.block_lt_of_cell? w _ hx413_9)).trans hx413_9
              replace hx413_10 := (HB.out.cell (World.block_lt_of_cell? w _ hx413_10)).trans hx413_10
              replace hx413_11 := (HB.out.cell (World.block_lt_of_cell? w _ hx413_11)).trans hx413_11
              replace hx413_12 := (HB.out.cell (World.block_lt_of_cell? w _ hx413_12)).trans hx413_12
              replace p413 := eq_true p413
              replace q413 := eq_true q413
              go_wp2_with (first | ((with_reducible refine gate_callee (f := 15) rfl ?_); refine gm (some 16) Try.func15 #[.agg #[.int .i64 ((rd_T31 l0 x3_1).f0.f0), .int .u64 ((rd_T31 l0 x3_1).f0.f1), .int .u64 ((rd_T31 l0 x3_1).f0.f2), .int .u64 ((rd_T31 l0 x3_1).f0.f3), .int .u64 ((rd_T31 l0 x3_1).f0.f4), .int .u64 ((rd_T31 l0 x3_1).f1.f0), .int .u64 ((rd_T31 l0 x3_1).f1.f1), .int .u64 ((rd_T31 l0 x3_1).f1.f2), .int .u64 ((rd_T31 l0 x3_1).f2.f0), .int .u64 ((rd_T31 l0 x3_1).f2.f1), .int .u64 ((rd_T31 l0 x3_1).f2.f2), .int .u64 ((rd_T31 l0 x3_1).f3), .int .u64 ((rd_T31 l0 x3_1).f4)]] (turnstilelaw06_right.calls k1 ((rd_T31 l0 x3_1).f0.f0) ((rd_T31 l0 x3_1).f0.f1) ((rd_T31 l0 x3_1).f0.f2) ((rd_T31 l0 x3_1).f0.f3) ((rd_T31 l0 x3_1).f0.f4) ((rd_T31 l0 x3_1).f1.f0) ((rd_T31 l0 x3_1).f1.f1) ((rd_T31 l0 x3_1).f1.f2) ((rd_T31 l0 x3_1).f2.f0) ((rd_T31 l0 x3_1).f2.f1) ((rd_T31 l0 x3_1).f2.f2) ((rd_T31 l0 x3_1).f3) ((rd_T31 l0 x3_1).f4) true _ A7.out) ?_; intro w9 hb; have n0_ := bs HB hb; clear HB; have HB := n0_; clear n0_; (try clear hb); (try clear hb2); (try clear hk); (try clear hi)))
              go_roundg k1
              case measure => have := HK1.out; omega
              case rel => exact ⟨(wrap64 (x3_1 + 1)), rs, H', ⟨by have := HK1.out; omega⟩, ⟨bw HB⟩⟩
            · replace c8 := Bool.eq_false_iff.mpr c8
              subst c8
              have H1 : (some false) = some r := by rw [if_neg (show ¬ (false = true) by decide)] at H; exact H
              clear H
              have H := H1
              clear H1
              obtain rfl := Option.some.inj H
              have p413 : 0 ≤ (x3_1 : Int) := of_decide_eq_true (by first | (with_reducible assumption) | assumption)
              have q413 : x3_1 < (l0.length : Int) := of_decide_eq_true (by first | (with_reducible assumption) | assumption)
              obtain ⟨ad413, e413, hx413_0, hx413_1, hx413_2, hx413_3, hx413_4, hx413_5, hx413_6, hx413_7, hx413_8, hx413_9, hx413_10, hx413_11, hx413_12⟩ := at_T31 HR0.out x3_1 p413 q413
              cases e413
              replace hx413_0 := (HB.out.cell (World.block_lt_of_cell? w _ hx413_0)).trans hx413_0
              replace hx413_1 := (HB.out.cell (World.block_lt_of_cell? w _ hx413_1)).trans hx413_1
              replace hx413_2 := (HB.out.cell (World.block_lt_of_cell? w _ hx413_2)).trans hx413_2
              replace hx413_3 := (HB.out.cell (World.block_lt_of_cell? w _ hx413_3)).trans hx413_3
              replace hx413_4 := (HB.out.cell (World.block_lt_of_cell? w _ hx413_4)).trans hx413_4
              replace hx413_5 := (HB.out.cell (World.block_lt_of_cell? w _ hx413_5)).trans hx413_5
              replace hx413_6 := (HB.out.cell (World.block_lt_of_cell? w _ hx413_6)).trans hx413_6
              replace hx413_7 := (HB.out.cell (World.block_lt_of_cell? w _ hx413_7)).trans hx413_7
              replace hx413_8 := (HB.out.cell (World.block_lt_of_cell? w _ hx413_8)).trans hx413_8
              replace hx413_9 := (HB.out.cell (World.block_lt_of_cell? w _ hx413_9)).trans hx413_9
              replace hx413_10 := (HB.out.cell (World.block_lt_of_cell? w _ hx413_10)).trans hx413_10
              replace hx413_11 := (HB.out.cell (World.block_lt_of_cell? w _ hx413_11)).trans hx413_11
              replace hx413_12 := (HB.out.cell (World.block_lt_of_cell? w _ hx413_12)).trans hx413_12
              replace p413 := eq_true p413
              replace q413 := eq_true q413
              go_wp2_with (first | ((with_reducible refine gate_callee (f := 15) rfl ?_); refine gm (some 16) Try.func15 #[.agg #[.int .i64 ((rd_T31 l0 x3_1).f0.f0), .int .u64 ((rd_T31 l0 x3_1).f0.f1), .int .u64 ((rd_T31 l0 x3_1).f0.f2), .int .u64 ((rd_T31 l0 x3_1).f0.f3), .int .u64 ((rd_T31 l0 x3_1).f0.f4), .int .u64 ((rd_T31 l0 x3_1).f1.f0), .int .u64 ((rd_T31 l0 x3_1).f1.f1), .int .u64 ((rd_T31 l0 x3_1).f1.f2), .int .u64 ((rd_T31 l0 x3_1).f2.f0), .int .u64 ((rd_T31 l0 x3_1).f2.f1), .int .u64 ((rd_T31 l0 x3_1).f2.f2), .int .u64 ((rd_T31 l0 x3_1).f3), .int .u64 ((rd_T31 l0 x3_1).f4)]] (turnstilelaw06_right.calls k1 ((rd_T31 l0 x3_1).f0.f0) ((rd_T31 l0 x3_1).f0.f1) ((rd_T31 l0 x3_1).f0.f2) ((rd_T31 l0 x3_1).f0.f3) ((rd_T31 l0 x3_1).f0.f4) ((rd_T31 l0 x3_1).f1.f0) ((rd_T31 l0 x3_1).f1.f1) ((rd_T31 l0 x3_1).f1.f2) ((rd_T31 l0 x3_1).f2.f0) ((rd_T31 l0 x3_1).f2.f1) ((rd_T31 l0 x3_1).f2.f2) ((rd_T31 l0 x3_1).f3) ((rd_T31 l0 x3_1).f4) false _ A7.out) ?_; intro w10 hb; have n0_ := bs HB hb; clear HB; have HB := n0_; clear n0_; (try clear hb); (try clear hb2); (try clear hk); (try clear hi)))
              go_ret
              exact ⟨re, bw HB⟩
          · rw [if_neg c6] at H
            exact absurd H (by simp)
        · rw [if_neg c5] at H
          have c5b0 : decide (x3_1 < (l0.length : Int)) = false := decide_eq_false c5
          clear c5
          obtain rfl := Option.some.inj H
          go_wp2
          go_ret
          exact ⟨re, bw HB⟩
  · replace c3 := Bool.eq_false_iff.mpr c3
    subst c3
    have H1 : (some false) = some r := by rw [if_neg (show ¬ (false = true) by decide)] at H; exact H
    clear H
    have H := H1
    clear H1
    obtain rfl := Option.some.inj H
    go_enter Try.func3, Try.ntmps3
    go_wp2_with (first | ((with_reducible refine gate_callee (f := 14) rfl ?_); refine gm (some 4) Try.func14 #[] (turnstilelaw06_awake.calls k  false _ A2.out) ?_; intro w11 hb; have n0_ := bs HB hb; clear HB; have HB := n0_; clear n0_; (try clear hb); (try clear hb2); (try clear hk); (try clear hi)))
    go_ret
    exact ⟨re, bw HB⟩


end Go.Proofs.Ytokfhdpokemekaa.Q
