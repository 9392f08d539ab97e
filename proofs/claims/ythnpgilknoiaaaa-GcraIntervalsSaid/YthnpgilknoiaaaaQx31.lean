/- Written by the session's own program hyb.py: what functions of the program compute; Lean checks it. -/
import Derived.Test.YthnpgilknoiaaaaQx0
import Derived.Test.YthnpgilknoiaaaaQx17
import Derived.Test.YthnpgilknoiaaaaQx20
import Derived.Test.YthnpgilknoiaaaaQx30
namespace Go.Proofs.Ythnpgilknoiaaaa.Q
open Go.RowKit Go.Proofs.YthnpgilknoiaaaaW.PrintWords Go.Proofs.YthnpgilknoiaaaaW.PrintLast Go.Proofs.YthnpgilknoiaaaaW.PrintMore
attribute [local go_sem] run_Add64 run_Sub64
attribute [local go_sem] max2_int min2_int max_two min_two max_three min_three max_four min_four   -- for this text's walks alone
set_option linter.unusedVariables false
set_option linter.unusedSimpArgs false

/-! ### turnstilelaw04_GcraIntervals: function 14 -/
mutual
def turnstilelaw04_GcraIntervals.l0 : Nat → Int → Int → List (S57) → List Int → List Int → Int → Int → Int → Option (Bool)
  | 0, _, _, _, _, _, _, _, _ => none
  | k + 1, x0, x1, x2, x7, x8, x9, x10, x11 => if x11 < (x2.length : Int) then (turnstilelaw04_GcraIntervals.j1 k x0 x1 x2 x7 x8 x9 x10 x11 (decide (x11 < 200))) else (turnstilelaw04_GcraIntervals.j1 k x0 x1 x2 x7 x8 x9 x10 x11 false)
def turnstilelaw04_GcraIntervals.j1 : Nat → Int → Int → List (S57) → List Int → List Int → Int → Int → Int → Bool → Option (Bool)
  | 0, _, _, _, _, _, _, _, _, _ => none
  | k + 1, x0, x1, x2, x7, x8, x9, x10, x11, x26 => if x26 = true then (if 0 ≤ x11 then (if x11 < (x2.length : Int) then (if ((rd_T57 x2 x11).f0) > x10 then (turnstilelaw04_GcraIntervals.j2 k x0 x1 x2 x7 x8 x9 ((rd_T57 x2 x11).f0) x11) else (turnstilelaw04_GcraIntervals.j2 k x0 x1 x2 x7 x8 x9 x10 x11)) else (none)) else (none)) else (some true)
def turnstilelaw04_GcraIntervals.j2 : Nat → Int → Int → List (S57) → List Int → List Int → Int → Int → Int → Option (Bool)
  | 0, _, _, _, _, _, _, _, _ => none
  | k + 1, x0, x1, x2, x7, x8, x9, x10, x11 => if 0 ≤ x11 then (if x11 < (x2.length : Int) then ((gcra_Admit.f k x0 x1 x9 x10 ((rd_T57 x2 x11).f1)).bind fun bt650 => ((turnstilelaw04_room.f k x0 x1 x7 x8 x10 ((rd_T57 x2 x11).f1)).bind fun bt652 => (if (bt650.2 != bt652.1) = true then (turnstilelaw04_GcraIntervals.j3 k x0 x1 x2 x7 x8 x10 x11 ((rd_T57 x2 x11).f1) bt650.1 bt650.2 true) else (if bt650.2 = true then (if bt650.1 = bt652.2 then (turnstilelaw04_GcraIntervals.j3 k x0 x1 x2 x7 x8 x10 x11 ((rd_T57 x2 x11).f1) bt650.1 bt650.2 false) else (turnstilelaw04_GcraIntervals.j3 k x0 x1 x2 x7 x8 x10 x11 ((rd_T57 x2 x11).f1) bt650.1 bt650.2 true)) else (turnstilelaw04_GcraIntervals.j3 k x0 x1 x2 x7 x8 x10 x11 ((rd_T57 x2 x11).f1) bt650.1 bt650.2 (bt650.1 != x9)))))) else (none)) else (none)
def turnstilelaw04_GcraIntervals.j3 : Nat → Int → Int → List (S57) → List Int → List Int → Int → Int → Int → Int → Bool → Bool → Option (Bool)
  | 0, _, _, _, _, _, _, _, _, _, _, _ => none
  | k + 1, x0, x1, x2, x7, x8, x10, x11, x12, x13, x14, x84 => if x84 = true then (some false) else (if x14 = true then (if x7.length < 17592186044416 then (if x8.length < 17592186044416 then (turnstilelaw04_GcraIntervals.l0 k x0 x1 x2 (x7 ++ [x10]) (x8 ++ [x12]) x13 x10 (wrap64 (x11 + 1))) else (none)) else (none)) else (turnstilelaw04_GcraIntervals.l0 k x0 x1 x2 x7 x8 x13 x10 (wrap64 (x11 + 1))))
end
def turnstilelaw04_GcraIntervals.f (k : Nat) (a0 : Int) (a1 : Int) (l2 : List (S57)) : Option (Bool) := (turnstilelaw04_lives.f k).bind fun t646 => (if t646 = true then (turnstilelaw04_GcraIntervals.l0 k a0 a1 l2 ([] : List Int) ([] : List Int) 0 0 0) else (some false))
theorem turnstilelaw04_GcraIntervals.mono_l : ∀ k, (∀ y0 y1 y2 y3 y4 y5 y6 y7, LeO (turnstilelaw04_GcraIntervals.l0 k y0 y1 y2 y3 y4 y5 y6 y7) (turnstilelaw04_GcraIntervals.l0 (k + 1) y0 y1 y2 y3 y4 y5 y6 y7)) ∧ (∀ y0 y1 y2 y3 y4 y5 y6 y7 y8, LeO (turnstilelaw04_GcraIntervals.j1 k y0 y1 y2 y3 y4 y5 y6 y7 y8) (turnstilelaw04_GcraIntervals.j1 (k + 1) y0 y1 y2 y3 y4 y5 y6 y7 y8)) ∧ (∀ y0 y1 y2 y3 y4 y5 y6 y7, LeO (turnstilelaw04_GcraIntervals.j2 k y0 y1 y2 y3 y4 y5 y6 y7) (turnstilelaw04_GcraIntervals.j2 (k + 1) y0 y1 y2 y3 y4 y5 y6 y7)) ∧ (∀ y0 y1 y2 y3 y4 y5 y6 y7 y8 y9 y10, LeO (turnstilelaw04_GcraIntervals.j3 k y0 y1 y2 y3 y4 y5 y6 y7 y8 y9 y10) (turnstilelaw04_GcraIntervals.j3 (k + 1) y0 y1 y2 y3 y4 y5 y6 y7 y8 y9 y10))
  | 0 => ⟨fun _ _ _ _ _ _ _ _ r h => by simp [turnstilelaw04_GcraIntervals.l0] at h, fun _ _ _ _ _ _ _ _ _ r h => by simp [turnstilelaw04_GcraIntervals.j1] at h, fun _ _ _ _ _ _ _ _ r h => by simp [turnstilelaw04_GcraIntervals.j2] at h, fun _ _ _ _ _ _ _ _ _ _ _ r h => by simp [turnstilelaw04_GcraIntervals.j3] at h⟩
  | k + 1 => by
    obtain ⟨ih0, ih1, ih2, ih3⟩ := turnstilelaw04_GcraIntervals.mono_l k
    refine ⟨?_, ?_, ?_, ?_⟩
    · intro y0 y1 y2 y3 y4 y5 y6 y7
      unfold turnstilelaw04_GcraIntervals.l0
      repeat' first
      | (with_reducible exact ih0 _ _ _ _ _ _ _ _)
      | (with_reducible exact ih1 _ _ _ _ _ _ _ _ _)
      | (with_reducible exact ih2 _ _ _ _ _ _ _ _)
      | (with_reducible exact ih3 _ _ _ _ _ _ _ _ _ _ _)
      | (with_reducible exact gcra_Admit.mono _ _ _ _ _ _)
      | (with_reducible exact turnstilelaw04_lives.mono _)
      | (with_reducible exact turnstilelaw04_room.mono _ _ _ _ _ _ _)
      | (with_reducible exact LeO.refl _)
      | (with_reducible exact LeO.none _)
      | (with_reducible refine LeO.ite ?_ ?_)
      | (with_reducible refine LeO.bind ?_ (fun _ => ?_))
      | exact ih0 _ _ _ _ _ _ _ _
      | exact ih1 _ _ _ _ _ _ _ _ _
      | exact ih2 _ _ _ _ _ _ _ _
      | exact ih3 _ _ _ _ _ _ _ _ _ _ _
      | exact gcra_Admit.mono _ _ _ _ _ _
      | exact turnstilelaw04_lives.mono _
      | exact turnstilelaw04_room.mono _ _ _ _ _ _ _
      | exact LeO.none _
      | refine LeO.ite ?_ ?_
      | refine LeO.bind ?_ (fun _ => ?_)
    · intro y0 y1 y2 y3 y4 y5 y6 y7 y8
      unfold turnstilelaw04_GcraIntervals.j1
      repeat' first
      | (with_reducible exact ih0 _ _ _ _ _ _ _ _)
      | (with_reducible exact ih1 _ _ _ _ _ _ _ _ _)
      | (with_reducible exact ih2 _ _ _ _ _ _ _ _)
      | (with_reducible exact ih3 _ _ _ _ _ _ _ _ _ _ _)
      | (with_reducible exact gcra_Admit.mono _ _ _ _ _ _)
      | (with_reducible exact turnstilelaw04_lives.mono _)
      | (with_reducible exact turnstilelaw04_room.mono _ _ _ _ _ _ _)
      | (with_reducible exact LeO.refl _)
      | (with_reducible exact LeO.none _)
      | (with_reducible refine LeO.ite ?_ ?_)
      | (with_reducible refine LeO.bind ?_ (fun _ => ?_))
      | exact ih0 _ _ _ _ _ _ _ _
      | exact ih1 _ _ _ _ _ _ _ _ _
      | exact ih2 _ _ _ _ _ _ _ _
      | exact ih3 _ _ _ _ _ _ _ _ _ _ _
      | exact gcra_Admit.mono _ _ _ _ _ _
      | exact turnstilelaw04_lives.mono _
      | exact turnstilelaw04_room.mono _ _ _ _ _ _ _
      | exact LeO.none _
      | refine LeO.ite ?_ ?_
      | refine LeO.bind ?_ (fun _ => ?_)
    · intro y0 y1 y2 y3 y4 y5 y6 y7
      unfold turnstilelaw04_GcraIntervals.j2
      repeat' first
      | (with_reducible exact ih0 _ _ _ _ _ _ _ _)
      | (with_reducible exact ih1 _ _ _ _ _ _ _ _ _)
      | (with_reducible exact ih2 _ _ _ _ _ _ _ _)
      | (with_reducible exact ih3 _ _ _ _ _ _ _ _ _ _ _)
      | (with_reducible exact gcra_Admit.mono _ _ _ _ _ _)
      | (with_reducible exact turnstilelaw04_lives.mono _)
      | (with_reducible exact turnstilelaw04_room.mono _ _ _ _ _ _ _)
      | (with_reducible exact LeO.refl _)
      | (with_reducible exact LeO.none _)
      | (with_reducible refine LeO.ite ?_ ?_)
      | (with_reducible refine LeO.bind ?_ (fun _ => ?_))
      | exact ih0 _ _ _ _ _ _ _ _
      | exact ih1 _ _ _ _ _ _ _ _ _
      | exact ih2 _ _ _ _ _ _ _ _
      | exact ih3 _ _ _ _ _ _ _ _ _ _ _
      | exact gcra_Admit.mono _ _ _ _ _ _
      | exact turnstilelaw04_lives.mono _
      | exact turnstilelaw04_room.mono _ _ _ _ _ _ _
      | exact LeO.none _
      | refine LeO.ite ?_ ?_
      | refine LeO.bind ?_ (fun _ => ?_)
    · intro y0 y1 y2 y3 y4 y5 y6 y7 y8 y9 y10
      unfold turnstilelaw04_GcraIntervals.j3
      repeat' first
      | (with_reducible exact ih0 _ _ _ _ _ _ _ _)
      | (with_reducible exact ih1 _ _ _ _ _ _ _ _ _)
      | (with_reducible exact ih2 _ _ _ _ _ _ _ _)
      | (with_reducible exact ih3 _ _ _ _ _ _ _ _ _ _ _)
      | (with_reducible exact gcra_Admit.mono _ _ _ _ _ _)
      | (with_reducible exact turnstilelaw04_lives.mono _)
      | (with_reducible exact turnstilelaw04_room.mono _ _ _ _ _ _ _)
      | (with_reducible exact LeO.refl _)
      | (with_reducible exact LeO.none _)
      | (with_reducible refine LeO.ite ?_ ?_)
      | (with_reducible refine LeO.bind ?_ (fun _ => ?_))
      | exact ih0 _ _ _ _ _ _ _ _
      | exact ih1 _ _ _ _ _ _ _ _ _
      | exact ih2 _ _ _ _ _ _ _ _
      | exact ih3 _ _ _ _ _ _ _ _ _ _ _
      | exact gcra_Admit.mono _ _ _ _ _ _
      | exact turnstilelaw04_lives.mono _
      | exact turnstilelaw04_room.mono _ _ _ _ _ _ _
      | exact LeO.none _
      | refine LeO.ite ?_ ?_
      | refine LeO.bind ?_ (fun _ => ?_)
theorem turnstilelaw04_GcraIntervals.mono : ∀ a0 a1 a2 k, LeO (turnstilelaw04_GcraIntervals.f k a0 a1 a2) (turnstilelaw04_GcraIntervals.f (k + 1) a0 a1 a2) := by
  intro a0 a1 a2 k
  obtain ⟨ih0, ih1, ih2, ih3⟩ := turnstilelaw04_GcraIntervals.mono_l k
  unfold turnstilelaw04_GcraIntervals.f
  repeat' first
      | (with_reducible exact ih0 _ _ _ _ _ _ _ _)
      | (with_reducible exact ih1 _ _ _ _ _ _ _ _ _)
      | (with_reducible exact ih2 _ _ _ _ _ _ _ _)
      | (with_reducible exact ih3 _ _ _ _ _ _ _ _ _ _ _)
      | (with_reducible exact gcra_Admit.mono _ _ _ _ _ _)
      | (with_reducible exact turnstilelaw04_lives.mono _)
      | (with_reducible exact turnstilelaw04_room.mono _ _ _ _ _ _ _)
      | (with_reducible exact LeO.refl _)
      | (with_reducible exact LeO.none _)
      | (with_reducible refine LeO.ite ?_ ?_)
      | (with_reducible refine LeO.bind ?_ (fun _ => ?_))
      | exact ih0 _ _ _ _ _ _ _ _
      | exact ih1 _ _ _ _ _ _ _ _ _
      | exact ih2 _ _ _ _ _ _ _ _
      | exact ih3 _ _ _ _ _ _ _ _ _ _ _
      | exact gcra_Admit.mono _ _ _ _ _ _
      | exact turnstilelaw04_lives.mono _
      | exact turnstilelaw04_room.mono _ _ _ _ _ _ _
      | exact LeO.none _
      | refine LeO.ite ?_ ?_
      | refine LeO.bind ?_ (fun _ => ?_)
set_option maxHeartbeats 8000000 in
set_option maxRecDepth 100000 in
theorem turnstilelaw04_GcraIntervals.calls (k : Nat) (a0 : Int) (a1 : Int) (A2 : Option Addr) (c2 : Nat) (l2 : List (S57)) (r : Bool) (w : World) (hr2 : Kd.C k57 w A2 l2.length l2) (hc2 : l2.length ≤ c2) (h : turnstilelaw04_GcraIntervals.f k a0 a1 l2 = some r) :
    Calls Try.prog 14 #[.int .u64 a0, .int .u64 a1, .slice A2 l2.length c2] w fun e w' => e = .returned (.bool r) ∧ Below w.heap.size w w' := by
  have HR2 := Aside0.mk hr2
  have HC2 := Aside0.mk hc2
  clear hr2 hc2
  have HB := Aside0.mk (Below.refl w.heap.size w)
  have H : ((turnstilelaw04_lives.f k).bind fun t646 => (if t646 = true then (turnstilelaw04_GcraIntervals.l0 k a0 a1 l2 ([] : List Int) ([] : List Int) 0 0 0) else (some false))) = some r := h
  clear h
  replace H := Option.bind_eq_some_iff.mp H
  obtain ⟨t646, A40, H⟩ := H
  replace H : (if t646 = true then (turnstilelaw04_GcraIntervals.l0 k a0 a1 l2 ([] : List Int) ([] : List Int) 0 0 0) else (some false)) = some r := H
  have A4 := Aside0.mk A40
  clear A40
  by_cases c5 : t646 = true
  · subst c5
    have H1 : (turnstilelaw04_GcraIntervals.l0 k a0 a1 l2 ([] : List Int) ([] : List Int) 0 0 0) = some r := by rw [if_pos rfl] at H; exact H
    clear H
    have H := H1
    clear H1
    have H' := Aside0.mk H
    clear H
    go_enter Try.func14, Try.ntmps14
    go_wp2_with (first | ((with_reducible refine gate_callee (f := 27) rfl ?_); refine goesL_ (some 17) rfl rfl Try.func27 (by kernel_rfl) rfl #[] rfl (by (try simp only [List.map_toArray, List.map_cons, List.map_nil]); first | done | rfl | (simp only [List.length_drop, List.length_take]; rfl)) ?_; (with_reducible refine (turnstilelaw04_lives.calls k  true _ A4.out).mono ?_); rintro e w6 ⟨rfl, hb⟩; refine ⟨_, rfl, ?_⟩; have n0_ := Aside0.mk (below_step (by repeat (first | (with_reducible first | exact HB.out | apply below_alloc | apply pw_below_drewN | apply below_drew1) | exact HB.out)) hb); clear HB; have HB := n0_; clear n0_; (try clear hb); (try clear hb2); (try clear hk); (try clear hi)))
    go_loopg [7, 8, 9, 10, 11] k (fun kq v7 v8 v9 v10 v11 w' => ∃ (x7_1 : List Int) (x8_1 : List Int) (x9_1 : Int) (x10_1 : Int) (x11_1 : Int), v9 = .int .u64 x9_1 ∧ v10 = .int .u64 x10_1 ∧ v11 = .int .i64 x11_1 ∧ Aside0 (turnstilelaw04_GcraIntervals.l0 kq a0 a1 l2 x7_1 x8_1 x9_1 x10_1 x11_1 = some r) ∧ Aside0 (kq ≤ k) ∧ Aside0 (Kd.R (Kd.int .u64) 22 w' w.heap.size (fun k_ => some k_ ≠ (v8 : Value).ownBlock) v7 x7_1) ∧ Aside0 (Kd.R (Kd.int .u64) 22 w' w.heap.size (fun k_ => some k_ ≠ (v7 : Value).ownBlock) v8 x8_1) ∧ Aside0 (Below w.heap.size w w'))
    case atStart => exact ⟨(([] : List Int)), (([] : List Int)), (0), (0), (0), (by first | rfl | (simp; done) | (simp [*]; done)), (by first | rfl | (simp; done) | (simp [*]; done)), (by first | rfl | (simp; done) | (simp [*]; done)), H', ⟨Nat.le_refl _⟩, ⟨by first | exact Kd.R_nil _ _ _ _ _ | exact Kd.N_nil _ _ _ _ _ | exact Kd.V_nil _ _ _ _ _ | exact Kd.Q_nil _ _ _ _ _ | exact Kd.S_nil _ _ _ _ _⟩, ⟨by first | exact Kd.R_nil _ _ _ _ _ | exact Kd.N_nil _ _ _ _ _ | exact Kd.V_nil _ _ _ _ _ | exact Kd.Q_nil _ _ _ _ _ | exact Kd.S_nil _ _ _ _ _⟩, ⟨by repeat (first | (with_reducible first | exact HB.out | apply below_alloc | apply pw_below_drewN | apply below_drew1) | exact HB.out)⟩⟩
    case round =>
      clear H'
      try clear c1
      try clear c2
      try clear p2
      try clear c5
      obtain ⟨x7_1, x8_1, x9_1, x10_1, x11_1, rfl, rfl, rfl, HA, HK1, HO_7, HO_8, HB⟩ := hrel
      cases gk with
      | zero => exact absurd HA.out (by simp [turnstilelaw04_GcraIntervals.l0])
      | succ k1 =>
        have H := HA.out
        clear HA
        simp only [turnstilelaw04_GcraIntervals.l0] at H
        have HC7 := Aside0.mk H
        clear H
        go_upto_region 8 with (fail)
        go_cut [26] (fun v26 wc => ∃ (kq : Nat) (x26_6 : Bool), v26 = .bool x26_6 ∧ Aside0 (turnstilelaw04_GcraIntervals.j1 kq a0 a1 l2 x7_1 x8_1 x9_1 x10_1 x11_1 x26_6 = some r) ∧ Aside0 (kq ≤ k1) ∧ Aside0 (Kd.R (Kd.int .u64) 22 wc w.heap.size (fun k_ => some k_ ≠ (u8 : Value).ownBlock) u7 x7_1) ∧ Aside0 (Kd.R (Kd.int .u64) 22 wc w.heap.size (fun k_ => some k_ ≠ (u7 : Value).ownBlock) u8 x8_1) ∧ Aside0 (Below w.heap.size w wc))
        case first =>
          have H := HC7.out
          clear HC7
          by_cases c8 : x11_1 < (l2.length : Int)
          · rw [if_pos c8] at H
            have c8b0 : decide (x11_1 < (l2.length : Int)) = true := decide_eq_true c8
            clear c8
            (first | rw [c8b0] | (simp only [i64_w, i32_w]; rw [c8b0]) | skip)
            have H' := Aside0.mk H
            clear H
            go_wp2
            go_meet
            case rel => exact ⟨_, (decide (x11_1 < 200)), (by first | rfl | (simp; done) | (simp [*]; done)), H', ⟨by have := HK1.out; first | omega | exact Nat.le_refl _⟩, ⟨by (with_reducible repeat (first | apply Kd.R_alloc | apply Kd.R_drewN | apply Kd.R_drew)); exact HO_7.out⟩, ⟨by (with_reducible repeat (first | apply Kd.R_alloc | apply Kd.R_drewN | apply Kd.R_drew)); exact HO_8.out⟩, ⟨by repeat (first | (with_reducible first | exact HB.out | apply below_alloc | apply pw_below_drewN | apply below_drew1) | exact HB.out)⟩⟩
          · rw [if_neg c8] at H
            have c8b0 : decide (x11_1 < (l2.length : Int)) = false := decide_eq_false c8
            clear c8
            (first | rw [c8b0] | (simp only [i64_w, i32_w]; rw [c8b0]) | skip)
            have H' := Aside0.mk H
            clear H
            go_wp2
            go_meet
            case rel => exact ⟨_, (false), (by first | rfl | (simp; done) | (simp [*]; done)), H', ⟨by have := HK1.out; first | omega | exact Nat.le_refl _⟩, ⟨by (with_reducible repeat (first | apply Kd.R_alloc | apply Kd.R_drewN | apply Kd.R_drew)); exact HO_7.out⟩, ⟨by (with_reducible repeat (first | apply Kd.R_alloc | apply Kd.R_drewN | apply Kd.R_drew)); exact HO_8.out⟩, ⟨by repeat (first | (with_reducible first | exact HB.out | apply below_alloc | apply pw_below_drewN | apply below_drew1) | exact HB.out)⟩⟩
        case rest =>
          clear HC7
          try clear c1
          try clear c2
          try clear p2
          try clear c5
          try clear c8
          try clear c8b0
          try clear p2
          obtain ⟨kq, x26_6, rfl, HA, HJ6, HO_7, HO_8, HB⟩ := hcut
          cases kq with
          | zero => exact absurd HA.out (by simp [turnstilelaw04_GcraIntervals.j1])
          | succ kj6 =>
            have H := HA.out
            clear HA
            simp only [turnstilelaw04_GcraIntervals.j1] at H
            by_cases c9 : x26_6 = true
            · subst c9
              have H1 : (if 0 ≤ x11_1 then (if x11_1 < (l2.length : Int) then (if ((rd_T57 l2 x11_1).f0) > x10_1 then (turnstilelaw04_GcraIntervals.j2 kj6 a0 a1 l2 x7_1 x8_1 x9_1 ((rd_T57 l2 x11_1).f0) x11_1) else (turnstilelaw04_GcraIntervals.j2 kj6 a0 a1 l2 x7_1 x8_1 x9_1 x10_1 x11_1)) else (none)) else (none)) = some r := by rw [if_pos rfl] at H; exact H
              clear H
              have H := H1
              clear H1
              by_cases c10 : 0 ≤ x11_1
              · rw [if_pos c10] at H
                have c10b0 : decide (0 ≤ x11_1) = true := decide_eq_true c10
                clear c10
                by_cases c11 : x11_1 < (l2.length : Int)
                · rw [if_pos c11] at H
                  have c11b0 : decide (x11_1 < (l2.length : Int)) = true := decide_eq_true c11
                  clear c11
                  have HC12 := Aside0.mk H
                  clear H
                  have p647 : 0 ≤ (x11_1 : Int) := of_decide_eq_true (by first | (with_reducible assumption) | assumption)
                  have q647 : x11_1 < (l2.length : Int) := of_decide_eq_true (by first | (with_reducible assumption) | assumption)
                  obtain ⟨ad647, e647, hx647_0, hx647_1⟩ := at_T57 HR2.out x11_1 p647 q647
                  cases e647
                  replace hx647_0 := (HB.out.cell (World.block_lt_of_cell? w _ hx647_0)).trans hx647_0
                  replace hx647_1 := (HB.out.cell (World.block_lt_of_cell? w _ hx647_1)).trans hx647_1
                  replace p647 := eq_true p647
                  replace q647 := eq_true q647
                  go_upto_if 35 with (fail)
                  go_cut [10] (fun v10 wc => ∃ (kq : Nat) (x10_11 : Int), v10 = .int .u64 x10_11 ∧ Aside0 (turnstilelaw04_GcraIntervals.j2 kq a0 a1 l2 x7_1 x8_1 x9_1 x10_11 x11_1 = some r) ∧ Aside0 (kq ≤ kj6) ∧ Aside0 (Kd.R (Kd.int .u64) 22 wc w.heap.size (fun k_ => some k_ ≠ (u8 : Value).ownBlock) u7 x7_1) ∧ Aside0 (Kd.R (Kd.int .u64) 22 wc w.heap.size (fun k_ => some k_ ≠ (u7 : Value).ownBlock) u8 x8_1) ∧ Aside0 (Below w.heap.size w wc))
                  case first =>
                    have H := HC12.out
                    clear HC12
                    by_cases c13 : ((rd_T57 l2 x11_1).f0) > x10_1
                    · rw [if_pos c13] at H
                      have c13b0 : decide (x10_1 < ((rd_T57 l2 x11_1).f0)) = true := decide_eq_true c13
                      clear c13
                      (first | rw [c13b0] | (simp only [i64_w, i32_w]; rw [c13b0]) | skip)
                      have H' := Aside0.mk H
                      clear H
                      have p648 : 0 ≤ (x11_1 : Int) := of_decide_eq_true (by first | (with_reducible assumption) | assumption)
                      have q648 : x11_1 < (l2.length : Int) := of_decide_eq_true (by first | (with_reducible assumption) | assumption)
                      obtain ⟨ad648, e648, hx648_0, hx648_1⟩ := at_T57 HR2.out x11_1 p648 q648
                      obtain rfl : ad647 = ad648 := (by injection e648)
                      replace hx648_0 := (HB.out.cell (World.block_lt_of_cell? w _ hx648_0)).trans hx648_0
                      replace hx648_1 := (HB.out.cell (World.block_lt_of_cell? w _ hx648_1)).trans hx648_1
                      replace p648 := eq_true p648
                      replace q648 := eq_true q648
                      go_wp2
                      go_meet
                      case rel => exact ⟨_, ((rd_T57 l2 x11_1).f0), (by first | rfl | (simp; done) | (simp [*]; done)), H', ⟨by have := HK1.out; have := HJ6.out; first | omega | exact Nat.le_refl _⟩, ⟨by (with_reducible repeat (first | apply Kd.R_alloc | apply Kd.R_drewN | apply Kd.R_drew)); exact HO_7.out⟩, ⟨by (with_reducible repeat (first | apply Kd.R_alloc | apply Kd.R_drewN | apply Kd.R_drew)); exact HO_8.out⟩, ⟨by repeat (first | (with_reducible first | exact HB.out | apply below_alloc | apply pw_below_drewN | apply below_drew1) | exact HB.out)⟩⟩
                    · rw [if_neg c13] at H
                      have c13b0 : decide (x10_1 < ((rd_T57 l2 x11_1).f0)) = false := decide_eq_false c13
                      clear c13
                      (first | rw [c13b0] | (simp only [i64_w, i32_w]; rw [c13b0]) | skip)
                      have H' := Aside0.mk H
                      clear H
                      go_wp2
                      go_meet
                      case rel => exact ⟨_, (x10_1), (by first | rfl | (simp; done) | (simp [*]; done)), H', ⟨by have := HK1.out; have := HJ6.out; first | omega | exact Nat.le_refl _⟩, ⟨by (with_reducible repeat (first | apply Kd.R_alloc | apply Kd.R_drewN | apply Kd.R_drew)); exact HO_7.out⟩, ⟨by (with_reducible repeat (first | apply Kd.R_alloc | apply Kd.R_drewN | apply Kd.R_drew)); exact HO_8.out⟩, ⟨by repeat (first | (with_reducible first | exact HB.out | apply below_alloc | apply pw_below_drewN | apply below_drew1) | exact HB.out)⟩⟩
                  case rest =>
                    clear HC12
                    try clear c1
                    try clear c2
                    try clear p2
                    try clear c5
                    try clear p6
                    try clear q6
                    try clear hx6
                    try clear c8
                    try clear c8b0
                    try clear c9
                    try clear c10
                    try clear c10b0
                    try clear c11
                    try clear c11b0
                    try clear c13
                    try clear c13b0
                    try clear hx647_0
                    try clear hx647_1
                    try clear hx648_0
                    try clear hx648_1
                    try clear p2
                    try clear p647
                    try clear p648
                    try clear q647
                    try clear q648
                    obtain ⟨kq, x10_11, rfl, HA, HJ11, HO_7, HO_8, HB⟩ := hcut
                    cases kq with
                    | zero => exact absurd HA.out (by simp [turnstilelaw04_GcraIntervals.j2])
                    | succ kj11 =>
                      have H := HA.out
                      clear HA
                      simp only [turnstilelaw04_GcraIntervals.j2] at H
                      by_cases c14 : 0 ≤ x11_1
                      · rw [if_pos c14] at H
                        have c14b0 : decide (0 ≤ x11_1) = true := decide_eq_true c14
                        clear c14
                        by_cases c15 : x11_1 < (l2.length : Int)
                        · rw [if_pos c15] at H
                          have c15b0 : decide (x11_1 < (l2.length : Int)) = true := decide_eq_true c15
                          clear c15
                          replace H := Option.bind_eq_some_iff.mp H
                          obtain ⟨⟨t650, t651⟩, A160, H⟩ := H
                          replace H : ((turnstilelaw04_room.f kj11 a0 a1 x7_1 x8_1 x10_11 ((rd_T57 l2 x11_1).f1)).bind fun bt652 => (if (t651 != bt652.1) = true then (turnstilelaw04_GcraIntervals.j3 kj11 a0 a1 l2 x7_1 x8_1 x10_11 x11_1 ((rd_T57 l2 x11_1).f1) t650 t651 true) else (if t651 = true then (if t650 = bt652.2 then (turnstilelaw04_GcraIntervals.j3 kj11 a0 a1 l2 x7_1 x8_1 x10_11 x11_1 ((rd_T57 l2 x11_1).f1) t650 t651 false) else (turnstilelaw04_GcraIntervals.j3 kj11 a0 a1 l2 x7_1 x8_1 x10_11 x11_1 ((rd_T57 l2 x11_1).f1) t650 t651 true)) else (turnstilelaw04_GcraIntervals.j3 kj11 a0 a1 l2 x7_1 x8_1 x10_11 x11_1 ((rd_T57 l2 x11_1).f1) t650 t651 (t650 != x9_1))))) = some r := H
                          have A16 := Aside0.mk A160
                          clear A160
                          replace H := Option.bind_eq_some_iff.mp H
                          obtain ⟨⟨t652, t653⟩, A170, H⟩ := H
                          replace H : (if (t651 != t652) = true then (turnstilelaw04_GcraIntervals.j3 kj11 a0 a1 l2 x7_1 x8_1 x10_11 x11_1 ((rd_T57 l2 x11_1).f1) t650 t651 true) else (if t651 = true then (if t650 = t653 then (turnstilelaw04_GcraIntervals.j3 kj11 a0 a1 l2 x7_1 x8_1 x10_11 x11_1 ((rd_T57 l2 x11_1).f1) t650 t651 false) else (turnstilelaw04_GcraIntervals.j3 kj11 a0 a1 l2 x7_1 x8_1 x10_11 x11_1 ((rd_T57 l2 x11_1).f1) t650 t651 true)) else (turnstilelaw04_GcraIntervals.j3 kj11 a0 a1 l2 x7_1 x8_1 x10_11 x11_1 ((rd_T57 l2 x11_1).f1) t650 t651 (t650 != x9_1)))) = some r := H
                          have A17 := Aside0.mk A170
                          clear A170
                          have HC18 := Aside0.mk H
                          clear H
                          have p649 : 0 ≤ (x11_1 : Int) := of_decide_eq_true (by first | (with_reducible assumption) | assumption)
                          have q649 : x11_1 < (l2.length : Int) := of_decide_eq_true (by first | (with_reducible assumption) | assumption)
                          obtain ⟨ad649, e649, hx649_0, hx649_1⟩ := at_T57 HR2.out x11_1 p649 q649
                          obtain rfl : ad647 = ad649 := (by injection e649)
                          replace hx649_0 := (HB.out.cell (World.block_lt_of_cell? w _ hx649_0)).trans hx649_0
                          replace hx649_1 := (HB.out.cell (World.block_lt_of_cell? w _ hx649_1)).trans hx649_1
                          replace p649 := eq_true p649
                          replace q649 := eq_true q649
                          go_upto_region 15 with (first | ((with_reducible refine gate_callee (f := 29) rfl ?_); refine goesL_ (some 52) rfl rfl Try.func29 (by kernel_rfl) rfl #[.int .u64 a0, .int .u64 a1, .int .u64 x9_1, .int .u64 x10_11, .int .u64 ((rd_T57 l2 x11_1).f1)] rfl (by (try simp only [List.map_toArray, List.map_cons, List.map_nil]); first | done | rfl | (simp only [List.length_drop, List.length_take]; rfl)) ?_; (with_reducible refine (gcra_Admit.calls kj11 a0 a1 x9_1 x10_11 ((rd_T57 l2 x11_1).f1) t650 t651 _ A16.out).mono ?_); rintro e w19 ⟨rfl, hb⟩; refine ⟨_, rfl, ?_⟩; have n0_ := Aside0.mk (Kd.R_below (by (with_reducible repeat (first | apply Kd.R_alloc | apply Kd.R_drewN | apply Kd.R_drew)); exact HO_7.out) hb); have n1_ := Aside0.mk (Kd.R_below (by (with_reducible repeat (first | apply Kd.R_alloc | apply Kd.R_drewN | apply Kd.R_drew)); exact HO_8.out) hb); have n2_ := Aside0.mk (below_step (by repeat (first | (with_reducible first | exact HB.out | apply below_alloc | apply pw_below_drewN | apply below_drew1) | exact HB.out)) hb); clear HO_7; clear HO_8; clear HB; have HO_7 := n0_; have HO_8 := n1_; have HB := n2_; clear n0_ n1_ n2_; (try clear hb); (try clear hb2); (try clear hk); (try clear hi); obtain ⟨Ao20, co20, eo20⟩ := Kd.R_slice HO_7.out; subst eo20; obtain ⟨Ao21, co21, eo21⟩ := Kd.R_slice HO_8.out; subst eo21) | ((with_reducible refine gate_callee (f := 37) rfl ?_); refine goesL_ (some 62) rfl rfl Try.func37 (by kernel_rfl) rfl #[.int .u64 a0, .int .u64 a1, .slice Ao20 x7_1.length co20, .slice Ao21 x8_1.length co21, .int .u64 x10_11, .int .u64 ((rd_T57 l2 x11_1).f1)] rfl (by (try simp only [List.map_toArray, List.map_cons, List.map_nil]); first | done | rfl | (simp only [List.length_drop, List.length_take]; rfl)) ?_; (with_reducible refine (turnstilelaw04_room.calls kj11 a0 a1 _ _ x7_1 _ _ x8_1 x10_11 ((rd_T57 l2 x11_1).f1) t652 t653 _ ?side1 ?side2 ?side3 ?side4 A17.out).mono ?_); (case side1 => repeat (first | exact (Kd.R_reads' HO_7.out).2.2 | (with_reducible refine Kd.C_alloc ?_ _) | (with_reducible refine Kd.C_drewN ?_ _) | (with_reducible refine Kd.C_drew ?_))); (case side2 => exact (Kd.R_reads' HO_7.out).2.1); (case side3 => repeat (first | exact (Kd.R_reads' HO_8.out).2.2 | (with_reducible refine Kd.C_alloc ?_ _) | (with_reducible refine Kd.C_drewN ?_ _) | (with_reducible refine Kd.C_drew ?_))); (case side4 => exact (Kd.R_reads' HO_8.out).2.1); rintro e w22 ⟨rfl, hb⟩; refine ⟨_, rfl, ?_⟩; have n0_ := Aside0.mk (Kd.R_below (by (with_reducible repeat (first | apply Kd.R_alloc | apply Kd.R_drewN | apply Kd.R_drew)); exact HO_7.out) hb); have n1_ := Aside0.mk (Kd.R_below (by (with_reducible repeat (first | apply Kd.R_alloc | apply Kd.R_drewN | apply Kd.R_drew)); exact HO_8.out) hb); have n2_ := Aside0.mk (below_step (by repeat (first | (with_reducible first | exact HB.out | apply below_alloc | apply pw_below_drewN | apply below_drew1) | exact HB.out)) hb); clear HO_7; clear HO_8; clear HB; have HO_7 := n0_; have HO_8 := n1_; have HB := n2_; clear n0_ n1_ n2_; (try clear hb); (try clear hb2); (try clear hk); (try clear hi)))
                          (try simp only [Act.put, List.setIfInBounds_toArray, List.set_cons_zero, List.set_cons_succ])
                          go_cut [84] (fun v84 wc => ∃ (kq : Nat) (x84_17 : Bool), v84 = .bool x84_17 ∧ Aside0 (turnstilelaw04_GcraIntervals.j3 kq a0 a1 l2 x7_1 x8_1 x10_11 x11_1 ((rd_T57 l2 x11_1).f1) t650 t651 x84_17 = some r) ∧ Aside0 (kq ≤ kj11) ∧ Aside0 (Kd.R (Kd.int .u64) 22 wc w.heap.size (fun k_ => some k_ ≠ ((.slice Ao21 x8_1.length co21) : Value).ownBlock) (.slice Ao20 x7_1.length co20) x7_1) ∧ Aside0 (Kd.R (Kd.int .u64) 22 wc w.heap.size (fun k_ => some k_ ≠ ((.slice Ao20 x7_1.length co20) : Value).ownBlock) (.slice Ao21 x8_1.length co21) x8_1) ∧ Aside0 (Below w.heap.size w wc))
                          case first =>
                            have H := HC18.out
                            clear HC18
                            by_cases c23 : (t651 != t652) = true
                            · rw [if_pos c23] at H
                              have c23b0 : (t651 != t652) = true := c23
                              (try (have c23b1 : decide (t651 = t652) = false := by simpa using c23))
                              (try (have c23b2 : (t651 == t652) = false := by simpa using c23))
                              (try (have c23b3 : ¬ (t651 = t652) := by simpa using c23))
                              clear c23
                              (first | rw [c23b0] | (simp only [i64_w, i32_w]; rw [c23b0]) | skip)
                              have H' := Aside0.mk H
                              clear H
                              go_wp2
                              go_meet
                              case rel => exact ⟨_, (true), (by first | rfl | (simp; done) | (simp [*]; done)), H', ⟨by have := HK1.out; have := HJ6.out; have := HJ11.out; first | omega | exact Nat.le_refl _⟩, ⟨by (with_reducible repeat (first | apply Kd.R_alloc | apply Kd.R_drewN | apply Kd.R_drew)); exact HO_7.out⟩, ⟨by (with_reducible repeat (first | apply Kd.R_alloc | apply Kd.R_drewN | apply Kd.R_drew)); exact HO_8.out⟩, ⟨by repeat (first | (with_reducible first | exact HB.out | apply below_alloc | apply pw_below_drewN | apply below_drew1) | exact HB.out)⟩⟩
                            · rw [if_neg c23] at H
                              have c23b0 : (t651 != t652) = false := by simpa using c23
                              (try (have c23b1 : decide (t651 = t652) = true := by simpa using c23))
                              (try (have c23b2 : (t651 == t652) = true := by simpa using c23))
                              clear c23
                              (first | rw [c23b0] | (simp only [i64_w, i32_w]; rw [c23b0]) | skip)
                              by_cases c24 : t651 = true
                              · subst c24
                                have H1 : (if t650 = t653 then (turnstilelaw04_GcraIntervals.j3 kj11 a0 a1 l2 x7_1 x8_1 x10_11 x11_1 ((rd_T57 l2 x11_1).f1) t650 true false) else (turnstilelaw04_GcraIntervals.j3 kj11 a0 a1 l2 x7_1 x8_1 x10_11 x11_1 ((rd_T57 l2 x11_1).f1) t650 true true)) = some r := by rw [if_pos rfl] at H; exact H
                                clear H
                                have H := H1
                                clear H1
                                by_cases c25 : t650 = t653
                                · rw [if_pos c25] at H
                                  have c25b0 : (t650 == t653) = true := beq_iff_eq.mpr c25
                                  have c25b1 : (t650 != t653) = false := bne_eq_false_iff_eq.mpr c25
                                  clear c25
                                  have H' := Aside0.mk H
                                  clear H
                                  go_wp2
                                  go_meet
                                  case rel => exact ⟨_, (false), (by first | rfl | (simp; done) | (simp [*]; done)), H', ⟨by have := HK1.out; have := HJ6.out; have := HJ11.out; first | omega | exact Nat.le_refl _⟩, ⟨by (with_reducible repeat (first | apply Kd.R_alloc | apply Kd.R_drewN | apply Kd.R_drew)); exact HO_7.out⟩, ⟨by (with_reducible repeat (first | apply Kd.R_alloc | apply Kd.R_drewN | apply Kd.R_drew)); exact HO_8.out⟩, ⟨by repeat (first | (with_reducible first | exact HB.out | apply below_alloc | apply pw_below_drewN | apply below_drew1) | exact HB.out)⟩⟩
                                · rw [if_neg c25] at H
                                  have c25b0 : (t650 == t653) = false := beq_eq_false_iff_ne.mpr c25
                                  have c25b1 : (t650 != t653) = true := bne_iff_ne.mpr c25
                                  have H' := Aside0.mk H
                                  clear H
                                  go_wp2
                                  go_meet
                                  case rel => exact ⟨_, (true), (by first | rfl | (simp; done) | (simp [*]; done)), H', ⟨by have := HK1.out; have := HJ6.out; have := HJ11.out; first | omega | exact Nat.le_refl _⟩, ⟨by (with_reducible repeat (first | apply Kd.R_alloc | apply Kd.R_drewN | apply Kd.R_drew)); exact HO_7.out⟩, ⟨by (with_reducible repeat (first | apply Kd.R_alloc | apply Kd.R_drewN | apply Kd.R_drew)); exact HO_8.out⟩, ⟨by repeat (first | (with_reducible first | exact HB.out | apply below_alloc | apply pw_below_drewN | apply below_drew1) | exact HB.out)⟩⟩
                              · replace c24 := Bool.eq_false_iff.mpr c24
                                subst c24
                                have H1 : (turnstilelaw04_GcraIntervals.j3 kj11 a0 a1 l2 x7_1 x8_1 x10_11 x11_1 ((rd_T57 l2 x11_1).f1) t650 false (t650 != x9_1)) = some r := by rw [if_neg (show ¬ (false = true) by decide)] at H; exact H
                                clear H
                                have H := H1
                                clear H1
                                have H' := Aside0.mk H
                                clear H
                                go_wp2
                                go_meet
                                case rel => exact ⟨_, ((t650 != x9_1)), (by first | rfl | (simp; done) | (simp [*]; done)), H', ⟨by have := HK1.out; have := HJ6.out; have := HJ11.out; first | omega | exact Nat.le_refl _⟩, ⟨by (with_reducible repeat (first | apply Kd.R_alloc | apply Kd.R_drewN | apply Kd.R_drew)); exact HO_7.out⟩, ⟨by (with_reducible repeat (first | apply Kd.R_alloc | apply Kd.R_drewN | apply Kd.R_drew)); exact HO_8.out⟩, ⟨by repeat (first | (with_reducible first | exact HB.out | apply below_alloc | apply pw_below_drewN | apply below_drew1) | exact HB.out)⟩⟩
                          case rest =>
                            clear HC18
                            try clear c1
                            try clear c2
                            try clear p2
                            try clear c3
                            try clear c5
                            try clear p6
                            try clear q6
                            try clear hx6
                            try clear c8
                            try clear c8b0
                            try clear c9
                            try clear c10
                            try clear c10b0
                            try clear c11
                            try clear c11b0
                            try clear c13
                            try clear c13b0
                            try clear c14
                            try clear c14b0
                            try clear c15
                            try clear c15b0
                            try clear c23
                            try clear c23b0
                            try clear c23b1
                            try clear c23b2
                            try clear c24
                            try clear c25
                            try clear c25b0
                            try clear c25b1
                            try clear hx647_0
                            try clear hx647_1
                            try clear hx648_0
                            try clear hx648_1
                            try clear hx649_0
                            try clear hx649_1
                            try clear p2
                            try clear p6
                            try clear p647
                            try clear p648
                            try clear p649
                            try clear q6
                            try clear q647
                            try clear q648
                            try clear q649
                            obtain ⟨kq, x84_17, rfl, HA, HJ17, HO_7, HO_8, HB⟩ := hcut
                            cases kq with
                            | zero => exact absurd HA.out (by simp [turnstilelaw04_GcraIntervals.j3])
                            | succ kj17 =>
                              have H := HA.out
                              clear HA
                              simp only [turnstilelaw04_GcraIntervals.j3] at H
                              by_cases c26 : x84_17 = true
                              · subst c26
                                have H1 : (some false) = some r := by rw [if_pos rfl] at H; exact H
                                clear H
                                have H := H1
                                clear H1
                                obtain rfl := Option.some.inj H
                                go_wp2
                                go_ret
                                exact ⟨by first | rfl | (simp [errW_none, errW_some] <;> rfl) | (simp [*, errW_none, errW_some] <;> rfl), by repeat (first | (with_reducible first | exact HB.out | apply below_alloc | apply pw_below_drewN | apply below_drew1) | exact HB.out)⟩
                              · replace c26 := Bool.eq_false_iff.mpr c26
                                subst c26
                                have H1 : (if t651 = true then (if x7_1.length < 17592186044416 then (if x8_1.length < 17592186044416 then (turnstilelaw04_GcraIntervals.l0 kj17 a0 a1 l2 (x7_1 ++ [x10_11]) (x8_1 ++ [((rd_T57 l2 x11_1).f1)]) t650 x10_11 (wrap64 (x11_1 + 1))) else (none)) else (none)) else (turnstilelaw04_GcraIntervals.l0 kj17 a0 a1 l2 x7_1 x8_1 t650 x10_11 (wrap64 (x11_1 + 1)))) = some r := by rw [if_neg (show ¬ (false = true) by decide)] at H; exact H
                                clear H
                                have H := H1
                                clear H1
                                by_cases c27 : t651 = true
                                · subst c27
                                  have H1 : (if x7_1.length < 17592186044416 then (if x8_1.length < 17592186044416 then (turnstilelaw04_GcraIntervals.l0 kj17 a0 a1 l2 (x7_1 ++ [x10_11]) (x8_1 ++ [((rd_T57 l2 x11_1).f1)]) t650 x10_11 (wrap64 (x11_1 + 1))) else (none)) else (none)) = some r := by rw [if_pos rfl] at H; exact H
                                  clear H
                                  have H := H1
                                  clear H1
                                  by_cases c28 : x7_1.length < 17592186044416
                                  · rw [if_pos c28] at H
                                    have LMc28 := Aside0.mk c28
                                    clear c28
                                    obtain ⟨y654, hy654⟩ : ∃ y_ : List Int, y_ = (x7_1 ++ [x10_11]) := ⟨_, rfl⟩
                                    replace H : (if x8_1.length < 17592186044416 then (turnstilelaw04_GcraIntervals.l0 kj17 a0 a1 l2 y654 (x8_1 ++ [((rd_T57 l2 x11_1).f1)]) t650 x10_11 (wrap64 (x11_1 + 1))) else (none)) = some r := by first | (rw [hy654]; with_reducible exact H) | (have H2_ := (Option.bind_some _ _).symm.trans H; rw [hy654]; with_reducible exact H2_) | (have H2_ := (Option.bind_some _ _).symm.trans H; with_reducible exact H2_) | with_reducible exact H | (rw [hy654]; exact H) | exact H
                                    have Ny654 := Aside0.mk hy654
                                    clear hy654
                                    by_cases c29 : x8_1.length < 17592186044416
                                    · rw [if_pos c29] at H
                                      have LMc29 := Aside0.mk c29
                                      clear c29
                                      obtain ⟨y657, hy657⟩ : ∃ y_ : List Int, y_ = (x8_1 ++ [((rd_T57 l2 x11_1).f1)]) := ⟨_, rfl⟩
                                      replace H : (turnstilelaw04_GcraIntervals.l0 kj17 a0 a1 l2 y654 y657 t650 x10_11 (wrap64 (x11_1 + 1))) = some r := by first | (rw [hy657]; with_reducible exact H) | (have H2_ := (Option.bind_some _ _).symm.trans H; rw [hy657]; with_reducible exact H2_) | (have H2_ := (Option.bind_some _ _).symm.trans H; with_reducible exact H2_) | with_reducible exact H | (rw [hy657]; exact H) | exact H
                                      have Ny657 := Aside0.mk hy657
                                      clear hy657
                                      have H' := Aside0.mk H
                                      clear H
                                      go_wp2_with (first | ((with_reducible refine gate_builtin (b := .append) (xs := #[.tmp 86, .tmp 88]) rfl ?_); at_builtin; refine Kd.R_append (Kd.int .u64) (w0 := w) w.heap.size rfl (.tmp 86) (.tmp 88) 55 22 (.int .u64 0) 8 rfl Try.underlying55 info22 rfl (by decide) (by omega) (.slice Ao20 x7_1.length co20) x7_1 x10_11 [.int .u64 x10_11] (fun k_ => some k_ ≠ (.slice Ao21 x8_1.length co21 : Value).ownBlock) (fun _ => False) rfl rfl ?aP (fun _ hk => hk.elim) ?aF ?aO ?aB ?aS ?aL ?_; (case aP => exact rfl); (case aB => exact (by repeat (first | (with_reducible first | exact HB.out | apply below_alloc | apply pw_below_drewN | apply below_drew1) | exact HB.out))); (case aF => exact (fun k_ hk => Kd.fresh' (Kd.R_lt (by (with_reducible repeat (first | apply Kd.R_alloc | apply Kd.R_drewN | apply Kd.R_drew)); exact HO_8.out)) k_ hk)); (case aO => exact (by (with_reducible repeat (first | apply Kd.R_alloc | apply Kd.R_drewN | apply Kd.R_drew)); exact HO_7.out)); (case aS => exact (below_size (by repeat (first | (with_reducible first | exact HB.out | apply below_alloc | apply pw_below_drewN | apply below_drew1) | exact HB.out)))); (case aL => have := LMc28.out; omega); intro v655 w30 ho hb hg hat; rw [← Ny654.out] at ho; have n0_ := Aside0.mk (Kd.R_after (ok := (fun _ => True)) (by (with_reducible repeat (first | apply Kd.R_alloc | apply Kd.R_drewN | apply Kd.R_drew)); exact Kd.R_mono HO_8.out (fun _ hk => ⟨trivial, hk⟩)) hg hat); have n1_ := Aside0.mk (hb); have n2_ := Aside0.mk (ho); clear HO_8; clear HB; clear HO_7; have HO_8 := n0_; have HB := n1_; have HO656 := n2_; clear n0_ n1_ n2_; clear ho hb hg hat) | ((with_reducible refine gate_builtin (b := .append) (xs := #[.tmp 90, .tmp 92]) rfl ?_); at_builtin; refine Kd.R_append (Kd.int .u64) (w0 := w) w.heap.size rfl (.tmp 90) (.tmp 92) 55 22 (.int .u64 0) 8 rfl Try.underlying55 info22 rfl (by decide) (by omega) (.slice Ao21 x8_1.length co21) x8_1 ((rd_T57 l2 x11_1).f1) [.int .u64 ((rd_T57 l2 x11_1).f1)] (fun k_ => some k_ ≠ (v655 : Value).ownBlock) (fun _ => False) rfl rfl ?aP (fun _ hk => hk.elim) ?aF ?aO ?aB ?aS ?aL ?_; (case aP => exact rfl); (case aB => exact (by repeat (first | (with_reducible first | exact HB.out | apply below_alloc | apply pw_below_drewN | apply below_drew1) | exact HB.out))); (case aF => exact (fun k_ hk => Kd.fresh' (Kd.R_lt (by (with_reducible repeat (first | apply Kd.R_alloc | apply Kd.R_drewN | apply Kd.R_drew)); exact HO656.out)) k_ hk)); (case aO => exact (by (with_reducible repeat (first | apply Kd.R_alloc | apply Kd.R_drewN | apply Kd.R_drew)); exact Kd.R_mono HO_8.out (fun _ hk => hk.2))); (case aS => exact (below_size (by repeat (first | (with_reducible first | exact HB.out | apply below_alloc | apply pw_below_drewN | apply below_drew1) | exact HB.out)))); (case aL => have := LMc29.out; omega); intro v658 w31 ho hb hg hat; rw [← Ny657.out] at ho; have n0_ := Aside0.mk (Kd.R_after (ok := (fun _ => True)) (by (with_reducible repeat (first | apply Kd.R_alloc | apply Kd.R_drewN | apply Kd.R_drew)); exact Kd.R_mono HO656.out (fun _ hk => ⟨trivial, hk⟩)) hg hat); have n1_ := Aside0.mk (hb); have n2_ := Aside0.mk (ho); clear HO656; clear HB; clear HO_8; have HO656 := n0_; have HB := n1_; have HO659 := n2_; clear n0_ n1_ n2_; clear ho hb hg hat))
                                      go_roundg kj17
                                      case measure => have := HK1.out; have := HJ6.out; have := HJ11.out; have := HJ17.out; omega
                                      case rel => exact ⟨(y654), (y657), (t650), (x10_11), (wrap64 (x11_1 + 1)), (by first | rfl | (simp; done) | (simp [*]; done)), (by first | rfl | (simp; done) | (simp [*]; done)), (by first | rfl | (simp; done) | (simp [*]; done)), H', ⟨by have := HK1.out; have := HJ6.out; have := HJ11.out; have := HJ17.out; omega⟩, ⟨by (with_reducible repeat (first | apply Kd.R_alloc | apply Kd.R_drewN | apply Kd.R_drew)); exact Kd.R_mono HO656.out (fun _ hk => hk.2)⟩, ⟨by (with_reducible repeat (first | apply Kd.R_alloc | apply Kd.R_drewN | apply Kd.R_drew)); exact HO659.out⟩, ⟨by repeat (first | (with_reducible first | exact HB.out | apply below_alloc | apply pw_below_drewN | apply below_drew1) | exact HB.out)⟩⟩
                                    · rw [if_neg c29] at H
                                      exact absurd H (by simp)
                                  · rw [if_neg c28] at H
                                    exact absurd H (by simp)
                                · replace c27 := Bool.eq_false_iff.mpr c27
                                  subst c27
                                  have H1 : (turnstilelaw04_GcraIntervals.l0 kj17 a0 a1 l2 x7_1 x8_1 t650 x10_11 (wrap64 (x11_1 + 1))) = some r := by rw [if_neg (show ¬ (false = true) by decide)] at H; exact H
                                  clear H
                                  have H := H1
                                  clear H1
                                  have H' := Aside0.mk H
                                  clear H
                                  go_wp2
                                  go_roundg kj17
                                  case measure => have := HK1.out; have := HJ6.out; have := HJ11.out; have := HJ17.out; omega
                                  case rel => exact ⟨(x7_1), (x8_1), (t650), (x10_11), (wrap64 (x11_1 + 1)), (by first | rfl | (simp; done) | (simp [*]; done)), (by first | rfl | (simp; done) | (simp [*]; done)), (by first | rfl | (simp; done) | (simp [*]; done)), H', ⟨by have := HK1.out; have := HJ6.out; have := HJ11.out; have := HJ17.out; omega⟩, ⟨by (with_reducible repeat (first | apply Kd.R_alloc | apply Kd.R_drewN | apply Kd.R_drew)); exact HO_7.out⟩, ⟨by (with_reducible repeat (first | apply Kd.R_alloc | apply Kd.R_drewN | apply Kd.R_drew)); exact HO_8.out⟩, ⟨by repeat (first | (with_reducible first | exact HB.out | apply below_alloc | apply pw_below_drewN | apply below_drew1) | exact HB.out)⟩⟩
                        · rw [if_neg c15] at H
                          exact absurd H (by simp)
                      · rw [if_neg c14] at H
                        exact absurd H (by simp)
                · rw [if_neg c11] at H
                  exact absurd H (by simp)
              · rw [if_neg c10] at H
                exact absurd H (by simp)
            · replace c9 := Bool.eq_false_iff.mpr c9
              subst c9
              have H1 : (some true) = some r := by rw [if_neg (show ¬ (false = true) by decide)] at H; exact H
              clear H
              have H := H1
              clear H1
              obtain rfl := Option.some.inj H
              go_wp2
              go_ret
              exact ⟨by first | rfl | (simp [errW_none, errW_some] <;> rfl) | (simp [*, errW_none, errW_some] <;> rfl), by repeat (first | (with_reducible first | exact HB.out | apply below_alloc | apply pw_below_drewN | apply below_drew1) | exact HB.out)⟩
  · replace c5 := Bool.eq_false_iff.mpr c5
    subst c5
    have H1 : (some false) = some r := by rw [if_neg (show ¬ (false = true) by decide)] at H; exact H
    clear H
    have H := H1
    clear H1
    obtain rfl := Option.some.inj H
    go_enter Try.func14, Try.ntmps14
    go_wp2_with (first | ((with_reducible refine gate_callee (f := 27) rfl ?_); refine goesL_ (some 17) rfl rfl Try.func27 (by kernel_rfl) rfl #[] rfl (by (try simp only [List.map_toArray, List.map_cons, List.map_nil]); first | done | rfl | (simp only [List.length_drop, List.length_take]; rfl)) ?_; (with_reducible refine (turnstilelaw04_lives.calls k  false _ A4.out).mono ?_); rintro e w32 ⟨rfl, hb⟩; refine ⟨_, rfl, ?_⟩; have n0_ := Aside0.mk (below_step (by repeat (first | (with_reducible first | exact HB.out | apply below_alloc | apply pw_below_drewN | apply below_drew1) | exact HB.out)) hb); clear HB; have HB := n0_; clear n0_; (try clear hb); (try clear hb2); (try clear hk); (try clear hi)))
    go_ret
    exact ⟨by first | rfl | (simp [errW_none, errW_some] <;> rfl) | (simp [*, errW_none, errW_some] <;> rfl), by repeat (first | (with_reducible first | exact HB.out | apply below_alloc | apply pw_below_drewN | apply below_drew1) | exact HB.out)⟩


end Go.Proofs.Ythnpgilknoiaaaa.Q
