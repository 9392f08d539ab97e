/- Written by the session's own program hyb.py: what functions of the program compute; Lean checks it. -/
import Derived.Test.YthnpgilknoiaaaaQx0
import Derived.Test.YthnpgilknoiaaaaQx17
import Derived.Test.YthnpgilknoiaaaaQx20
namespace Go.Proofs.Ythnpgilknoiaaaa.Q
open Go.RowKit Go.Proofs.YthnpgilknoiaaaaW.PrintWords Go.Proofs.YthnpgilknoiaaaaW.PrintLast Go.Proofs.YthnpgilknoiaaaaW.PrintMore
attribute [local go_sem] run_Add64 run_Sub64
attribute [local go_sem] max2_int min2_int max_two min_two max_three min_three max_four min_four   -- for this text's walks alone
set_option linter.unusedVariables false
set_option linter.unusedSimpArgs false

/-! ### turnstilelaw04_GcraSplits: function 12 -/
def turnstilelaw04_GcraSplits.j0 : Nat → Int → Bool → Int → Int → Int → Int → Int → Option (Bool)
  | 0, _, _, _, _, _, _, _ => none
  | k + 1, x1, x26, x573000, x573001, x573002, x573003, x573004 => if x26 = true then (some true) else ((gcra_Admit.f k x573000 x573001 x573002 x573003 (IntKind.u64.wrap (x573004 + x1))).bind fun bt574 => ((gcra_Admit.f k x573000 x573001 x573002 x573003 x573004).bind fun bt576 => ((gcra_Admit.f k x573000 x573001 bt576.1 x573003 x1).bind fun bt578 => (if bt574.2 = true then (if bt576.2 = true then (if bt578.2 = true then (some (bt578.1 == bt574.1)) else (some false)) else (some false)) else (if bt574.1 = x573002 then (if bt576.2 = true then (some (!bt578.2)) else (some true)) else (some false))))))
def turnstilelaw04_GcraSplits.f (k : Nat) (a0_0 : Int) (a0_1 : Int) (a0_2 : Int) (a0_3 : Int) (a0_4 : Int) (a1 : Int) : Option (Bool) := (turnstilelaw04_lives.f k).bind fun t573 => (if t573 = true then (if a0_4 = 0 then (turnstilelaw04_GcraSplits.j0 k a1 true a0_0 a0_1 a0_2 a0_3 a0_4) else (if a1 = 0 then (turnstilelaw04_GcraSplits.j0 k a1 true a0_0 a0_1 a0_2 a0_3 a0_4) else (turnstilelaw04_GcraSplits.j0 k a1 (decide (a0_4 > (IntKind.u64.wrap (18446744073709551615 - a1)))) a0_0 a0_1 a0_2 a0_3 a0_4))) else (some false))
theorem turnstilelaw04_GcraSplits.mono_l : ∀ k, (∀ y0 y1 y2 y3 y4 y5 y6, LeO (turnstilelaw04_GcraSplits.j0 k y0 y1 y2 y3 y4 y5 y6) (turnstilelaw04_GcraSplits.j0 (k + 1) y0 y1 y2 y3 y4 y5 y6))
  | 0 => fun _ _ _ _ _ _ _ r h => by simp [turnstilelaw04_GcraSplits.j0] at h
  | k + 1 => by
    have ih0 := turnstilelaw04_GcraSplits.mono_l k
    · intro y0 y1 y2 y3 y4 y5 y6
      unfold turnstilelaw04_GcraSplits.j0
      repeat' first
      | (with_reducible exact ih0 _ _ _ _ _ _ _)
      | (with_reducible exact gcra_Admit.mono _ _ _ _ _ _)
      | (with_reducible exact turnstilelaw04_lives.mono _)
      | (with_reducible exact LeO.refl _)
      | (with_reducible exact LeO.none _)
      | (with_reducible refine LeO.ite ?_ ?_)
      | (with_reducible refine LeO.bind ?_ (fun _ => ?_))
      | exact ih0 _ _ _ _ _ _ _
      | exact gcra_Admit.mono _ _ _ _ _ _
      | exact turnstilelaw04_lives.mono _
      | exact LeO.none _
      | refine LeO.ite ?_ ?_
      | refine LeO.bind ?_ (fun _ => ?_)
theorem turnstilelaw04_GcraSplits.mono : ∀ a0 a1 a2 a3 a4 a5 k, LeO (turnstilelaw04_GcraSplits.f k a0 a1 a2 a3 a4 a5) (turnstilelaw04_GcraSplits.f (k + 1) a0 a1 a2 a3 a4 a5) := by
  intro a0 a1 a2 a3 a4 a5 k
  have ih0 := turnstilelaw04_GcraSplits.mono_l k
  unfold turnstilelaw04_GcraSplits.f
  repeat' first
      | (with_reducible exact ih0 _ _ _ _ _ _ _)
      | (with_reducible exact gcra_Admit.mono _ _ _ _ _ _)
      | (with_reducible exact turnstilelaw04_lives.mono _)
      | (with_reducible exact LeO.refl _)
      | (with_reducible exact LeO.none _)
      | (with_reducible refine LeO.ite ?_ ?_)
      | (with_reducible refine LeO.bind ?_ (fun _ => ?_))
      | exact ih0 _ _ _ _ _ _ _
      | exact gcra_Admit.mono _ _ _ _ _ _
      | exact turnstilelaw04_lives.mono _
      | exact LeO.none _
      | refine LeO.ite ?_ ?_
      | refine LeO.bind ?_ (fun _ => ?_)
set_option maxHeartbeats 8000000 in
set_option maxRecDepth 100000 in
theorem turnstilelaw04_GcraSplits.calls (k : Nat) (a0_0 : Int) (a0_1 : Int) (a0_2 : Int) (a0_3 : Int) (a0_4 : Int) (a1 : Int) (r : Bool) (w : World) (h : turnstilelaw04_GcraSplits.f k a0_0 a0_1 a0_2 a0_3 a0_4 a1 = some r) :
    Calls Try.prog 12 #[.agg #[.int .u64 a0_0, .int .u64 a0_1, .int .u64 a0_2, .int .u64 a0_3, .int .u64 a0_4], .int .u64 a1] w fun e w' => e = .returned (.bool r) ∧ Below w.heap.size w w' := by
  have hu46 := Try.underlying46
  have HB := Aside0.mk (Below.refl w.heap.size w)
  have H : ((turnstilelaw04_lives.f k).bind fun t573 => (if t573 = true then (if a0_4 = 0 then (turnstilelaw04_GcraSplits.j0 k a1 true a0_0 a0_1 a0_2 a0_3 a0_4) else (if a1 = 0 then (turnstilelaw04_GcraSplits.j0 k a1 true a0_0 a0_1 a0_2 a0_3 a0_4) else (turnstilelaw04_GcraSplits.j0 k a1 (decide (a0_4 > (IntKind.u64.wrap (18446744073709551615 - a1)))) a0_0 a0_1 a0_2 a0_3 a0_4))) else (some false))) = some r := h
  clear h
  replace H := Option.bind_eq_some_iff.mp H
  obtain ⟨t573, A30, H⟩ := H
  replace H : (if t573 = true then (if a0_4 = 0 then (turnstilelaw04_GcraSplits.j0 k a1 true a0_0 a0_1 a0_2 a0_3 a0_4) else (if a1 = 0 then (turnstilelaw04_GcraSplits.j0 k a1 true a0_0 a0_1 a0_2 a0_3 a0_4) else (turnstilelaw04_GcraSplits.j0 k a1 (decide (a0_4 > (IntKind.u64.wrap (18446744073709551615 - a1)))) a0_0 a0_1 a0_2 a0_3 a0_4))) else (some false)) = some r := H
  have A3 := Aside0.mk A30
  clear A30
  by_cases c4 : t573 = true
  · subst c4
    have H1 : (if a0_4 = 0 then (turnstilelaw04_GcraSplits.j0 k a1 true a0_0 a0_1 a0_2 a0_3 a0_4) else (if a1 = 0 then (turnstilelaw04_GcraSplits.j0 k a1 true a0_0 a0_1 a0_2 a0_3 a0_4) else (turnstilelaw04_GcraSplits.j0 k a1 (decide (a0_4 > (IntKind.u64.wrap (18446744073709551615 - a1)))) a0_0 a0_1 a0_2 a0_3 a0_4))) = some r := by rw [if_pos rfl] at H; exact H
    clear H
    have H := H1
    clear H1
    have HC5 := Aside0.mk H
    clear H
    go_enter Try.func12, Try.ntmps12
    go_upto_region 3 with (first | ((with_reducible refine gate_dst (N := 2) rfl ?_); refine box_event ?hg (N := 2) ?hd (cs := #[.int .u64 a0_0, .int .u64 a0_1, .int .u64 a0_2, .int .u64 a0_3, .int .u64 a0_4]) (t := 46) ?hr ?_; (case hd => rfl); (case hg => rfl); (case hr => first | (go_simp; done) | (go_simp; rfl)); intro gb572 hg w6 hbox hb; have n0_ := Aside0.mk (below_step (by repeat (first | (with_reducible first | exact HB.out | apply below_alloc | apply pw_below_drewN | apply below_drew1) | exact HB.out)) hb); have n1_ := Aside0.mk (hbox); have n2_ := Aside0.mk ((by rw [hg]; exact (below_size (by repeat (first | (with_reducible first | exact HB.out | apply below_alloc | apply pw_below_drewN | apply below_drew1) | exact HB.out))) : w.heap.size ≤ gb572)); have n3_ := Aside0.mk ((by rw [hg]; exact (below_size (by repeat (first | (with_reducible first | exact HB.out | apply below_alloc | apply pw_below_drewN | apply below_drew1) | exact HB.out))) : w.heap.size ≤ gb572)); clear HB; have HB := n0_; have BK572 := n1_; have GW572 := n2_; have GE572 := n3_; clear n0_ n1_ n2_ n3_; clear hb hbox hg) | ((with_reducible refine gate_callee (f := 27) rfl ?_); refine goesL_ (some 11) rfl rfl Try.func27 (by kernel_rfl) rfl #[] rfl (by (try simp only [List.map_toArray, List.map_cons, List.map_nil]); first | done | rfl | (simp only [List.length_drop, List.length_take]; rfl)) ?_; (with_reducible refine (turnstilelaw04_lives.calls k  true _ A3.out).mono ?_); rintro e w7 ⟨rfl, hb⟩; refine ⟨_, rfl, ?_⟩; have n0_ := Aside0.mk (blk_below (g := gb572) (o := .cells #[.int .u64 a0_0, .int .u64 a0_1, .int .u64 a0_2, .int .u64 a0_3, .int .u64 a0_4] 46 (0, 0)) (by (with_reducible repeat (first | refine blk_drewN ?_ _ | refine blk_drew ?_ | refine blk_alloc ?_ _)); exact BK572.out) hb); have n1_ := Aside0.mk (below_step (by repeat (first | (with_reducible first | exact HB.out | apply below_alloc | apply pw_below_drewN | apply below_drew1 | refine below_set ?_ GE572.out) | exact HB.out)) hb); clear BK572; clear HB; have BK572 := n0_; have HB := n1_; clear n0_ n1_; (try clear hb); (try clear hb2); (try clear hk); (try clear hi)))
    (try simp only [Act.put, List.setIfInBounds_toArray, List.set_cons_zero, List.set_cons_succ])
    go_cut [26] (fun v26 wc => ∃ (kq : Nat) (x26_4 : Bool), v26 = .bool x26_4 ∧ Aside0 (turnstilelaw04_GcraSplits.j0 kq a1 x26_4 a0_0 a0_1 a0_2 a0_3 a0_4 = some r) ∧ Aside0 (kq ≤ k) ∧ Aside0 (wc.heap[gb572]? = some (.cells #[.int .u64 a0_0, .int .u64 a0_1, .int .u64 a0_2, .int .u64 a0_3, .int .u64 a0_4] 46 (0, 0))) ∧ Aside0 (Below w.heap.size w wc))
    case first =>
      have H := HC5.out
      clear HC5
      by_cases c8 : a0_4 = 0
      · rw [if_pos c8] at H
        have c8b0 : (a0_4 == 0) = true := beq_iff_eq.mpr c8
        have c8b1 : (a0_4 != 0) = false := bne_eq_false_iff_eq.mpr c8
        clear c8
        (first | rw [c8b0] | (simp only [i64_w, i32_w]; rw [c8b0]) | skip)
        have H' := Aside0.mk H
        clear H
        have hcz9_0 : w7.cell? ⟨gb572, 0, none⟩ = some (.int .u64 a0_0) := (blk_cell BK572.out 0).trans rfl
        have hcz9_1 : w7.cell? ⟨gb572, 1, none⟩ = some (.int .u64 a0_1) := (blk_cell BK572.out 1).trans rfl
        have hcz9_2 : w7.cell? ⟨gb572, 2, none⟩ = some (.int .u64 a0_2) := (blk_cell BK572.out 2).trans rfl
        have hcz9_3 : w7.cell? ⟨gb572, 3, none⟩ = some (.int .u64 a0_3) := (blk_cell BK572.out 3).trans rfl
        have hcz9_4 : w7.cell? ⟨gb572, 4, none⟩ = some (.int .u64 a0_4) := (blk_cell BK572.out 4).trans rfl
        have hfz9_0 := blk_frozen BK572.out 0
        have hfz9_1 := blk_frozen BK572.out 1
        have hfz9_2 := blk_frozen BK572.out 2
        have hfz9_3 := blk_frozen BK572.out 3
        have hfz9_4 := blk_frozen BK572.out 4
        go_wp2
        go_meet
        case rel => exact ⟨_, (true), (by first | rfl | (simp; done) | (simp [*]; done)), H', ⟨by first | omega | exact Nat.le_refl _⟩, ⟨by (with_reducible repeat (first | refine blk_drewN ?_ _ | refine blk_drew ?_ | refine blk_alloc ?_ _)); exact BK572.out⟩, ⟨by repeat (first | (with_reducible first | exact HB.out | apply below_alloc | apply pw_below_drewN | apply below_drew1 | refine below_set ?_ GE572.out) | exact HB.out)⟩⟩
      · rw [if_neg c8] at H
        have c8b0 : (a0_4 == 0) = false := beq_eq_false_iff_ne.mpr c8
        have c8b1 : (a0_4 != 0) = true := bne_iff_ne.mpr c8
        (first | rw [c8b0] | (simp only [i64_w, i32_w]; rw [c8b0]) | skip)
        by_cases c10 : a1 = 0
        · rw [if_pos c10] at H
          have c10b0 : (a1 == 0) = true := beq_iff_eq.mpr c10
          have c10b1 : (a1 != 0) = false := bne_eq_false_iff_eq.mpr c10
          clear c10
          have H' := Aside0.mk H
          clear H
          have hcz11_0 : w7.cell? ⟨gb572, 0, none⟩ = some (.int .u64 a0_0) := (blk_cell BK572.out 0).trans rfl
          have hcz11_1 : w7.cell? ⟨gb572, 1, none⟩ = some (.int .u64 a0_1) := (blk_cell BK572.out 1).trans rfl
          have hcz11_2 : w7.cell? ⟨gb572, 2, none⟩ = some (.int .u64 a0_2) := (blk_cell BK572.out 2).trans rfl
          have hcz11_3 : w7.cell? ⟨gb572, 3, none⟩ = some (.int .u64 a0_3) := (blk_cell BK572.out 3).trans rfl
          have hcz11_4 : w7.cell? ⟨gb572, 4, none⟩ = some (.int .u64 a0_4) := (blk_cell BK572.out 4).trans rfl
          have hfz11_0 := blk_frozen BK572.out 0
          have hfz11_1 := blk_frozen BK572.out 1
          have hfz11_2 := blk_frozen BK572.out 2
          have hfz11_3 := blk_frozen BK572.out 3
          have hfz11_4 := blk_frozen BK572.out 4
          go_wp2
          go_meet
          case rel => exact ⟨_, (true), (by first | rfl | (simp; done) | (simp [*]; done)), H', ⟨by first | omega | exact Nat.le_refl _⟩, ⟨by (with_reducible repeat (first | refine blk_drewN ?_ _ | refine blk_drew ?_ | refine blk_alloc ?_ _)); exact BK572.out⟩, ⟨by repeat (first | (with_reducible first | exact HB.out | apply below_alloc | apply pw_below_drewN | apply below_drew1 | refine below_set ?_ GE572.out) | exact HB.out)⟩⟩
        · rw [if_neg c10] at H
          have c10b0 : (a1 == 0) = false := beq_eq_false_iff_ne.mpr c10
          have c10b1 : (a1 != 0) = true := bne_iff_ne.mpr c10
          have H' := Aside0.mk H
          clear H
          have hcz12_0 : w7.cell? ⟨gb572, 0, none⟩ = some (.int .u64 a0_0) := (blk_cell BK572.out 0).trans rfl
          have hcz12_1 : w7.cell? ⟨gb572, 1, none⟩ = some (.int .u64 a0_1) := (blk_cell BK572.out 1).trans rfl
          have hcz12_2 : w7.cell? ⟨gb572, 2, none⟩ = some (.int .u64 a0_2) := (blk_cell BK572.out 2).trans rfl
          have hcz12_3 : w7.cell? ⟨gb572, 3, none⟩ = some (.int .u64 a0_3) := (blk_cell BK572.out 3).trans rfl
          have hcz12_4 : w7.cell? ⟨gb572, 4, none⟩ = some (.int .u64 a0_4) := (blk_cell BK572.out 4).trans rfl
          have hfz12_0 := blk_frozen BK572.out 0
          have hfz12_1 := blk_frozen BK572.out 1
          have hfz12_2 := blk_frozen BK572.out 2
          have hfz12_3 := blk_frozen BK572.out 3
          have hfz12_4 := blk_frozen BK572.out 4
          go_wp2
          go_meet
          case rel => exact ⟨_, (decide (a0_4 > (IntKind.u64.wrap (18446744073709551615 - a1)))), (by first | rfl | (simp; done) | (simp [*]; done)), H', ⟨by first | omega | exact Nat.le_refl _⟩, ⟨by (with_reducible repeat (first | refine blk_drewN ?_ _ | refine blk_drew ?_ | refine blk_alloc ?_ _)); exact BK572.out⟩, ⟨by repeat (first | (with_reducible first | exact HB.out | apply below_alloc | apply pw_below_drewN | apply below_drew1 | refine below_set ?_ GE572.out) | exact HB.out)⟩⟩
    case rest =>
      clear HC5
      try clear c1
      try clear c2
      try clear p2
      try clear c4
      try clear c8
      try clear c8b0
      try clear c8b1
      try clear c10
      try clear c10b0
      try clear c10b1
      try clear c12
      try clear hcz11_0
      try clear hcz11_1
      try clear hcz11_2
      try clear hcz11_3
      try clear hcz11_4
      try clear hcz12_0
      try clear hcz12_1
      try clear hcz12_2
      try clear hcz12_3
      try clear hcz12_4
      try clear hcz9_0
      try clear hcz9_1
      try clear hcz9_2
      try clear hcz9_3
      try clear hcz9_4
      try clear hfz11_0
      try clear hfz11_1
      try clear hfz11_2
      try clear hfz11_3
      try clear hfz11_4
      try clear hfz12_0
      try clear hfz12_1
      try clear hfz12_2
      try clear hfz12_3
      try clear hfz12_4
      try clear hfz9_0
      try clear hfz9_1
      try clear hfz9_2
      try clear hfz9_3
      try clear hfz9_4
      obtain ⟨kq, x26_4, rfl, HA, HJ4, BK572, HB⟩ := hcut
      cases kq with
      | zero => exact absurd HA.out (by simp [turnstilelaw04_GcraSplits.j0])
      | succ kj4 =>
        have H := HA.out
        clear HA
        simp only [turnstilelaw04_GcraSplits.j0] at H
        by_cases c13 : x26_4 = true
        · subst c13
          have H1 : (some true) = some r := by rw [if_pos rfl] at H; exact H
          clear H
          have H := H1
          clear H1
          obtain rfl := Option.some.inj H
          go_wp2
          go_ret
          exact ⟨by first | rfl | (simp [errW_none, errW_some] <;> rfl) | (simp [*, errW_none, errW_some] <;> rfl), by repeat (first | (with_reducible first | exact HB.out | apply below_alloc | apply pw_below_drewN | apply below_drew1 | refine below_set ?_ GE572.out) | exact HB.out)⟩
        · replace c13 := Bool.eq_false_iff.mpr c13
          subst c13
          have H1 : ((gcra_Admit.f kj4 a0_0 a0_1 a0_2 a0_3 (IntKind.u64.wrap (a0_4 + a1))).bind fun bt574 => ((gcra_Admit.f kj4 a0_0 a0_1 a0_2 a0_3 a0_4).bind fun bt576 => ((gcra_Admit.f kj4 a0_0 a0_1 bt576.1 a0_3 a1).bind fun bt578 => (if bt574.2 = true then (if bt576.2 = true then (if bt578.2 = true then (some (bt578.1 == bt574.1)) else (some false)) else (some false)) else (if bt574.1 = a0_2 then (if bt576.2 = true then (some (!bt578.2)) else (some true)) else (some false)))))) = some r := by rw [if_neg (show ¬ (false = true) by decide)] at H; exact H
          clear H
          have H := H1
          clear H1
          replace H := Option.bind_eq_some_iff.mp H
          obtain ⟨⟨t574, t575⟩, A140, H⟩ := H
          replace H : ((gcra_Admit.f kj4 a0_0 a0_1 a0_2 a0_3 a0_4).bind fun bt576 => ((gcra_Admit.f kj4 a0_0 a0_1 bt576.1 a0_3 a1).bind fun bt578 => (if t575 = true then (if bt576.2 = true then (if bt578.2 = true then (some (bt578.1 == t574)) else (some false)) else (some false)) else (if t574 = a0_2 then (if bt576.2 = true then (some (!bt578.2)) else (some true)) else (some false))))) = some r := H
          have A14 := Aside0.mk A140
          clear A140
          replace H := Option.bind_eq_some_iff.mp H
          obtain ⟨⟨t576, t577⟩, A150, H⟩ := H
          replace H : ((gcra_Admit.f kj4 a0_0 a0_1 t576 a0_3 a1).bind fun bt578 => (if t575 = true then (if t577 = true then (if bt578.2 = true then (some (bt578.1 == t574)) else (some false)) else (some false)) else (if t574 = a0_2 then (if t577 = true then (some (!bt578.2)) else (some true)) else (some false)))) = some r := H
          have A15 := Aside0.mk A150
          clear A150
          replace H := Option.bind_eq_some_iff.mp H
          obtain ⟨⟨t578, t579⟩, A160, H⟩ := H
          replace H : (if t575 = true then (if t577 = true then (if t579 = true then (some (t578 == t574)) else (some false)) else (some false)) else (if t574 = a0_2 then (if t577 = true then (some (!t579)) else (some true)) else (some false))) = some r := H
          have A16 := Aside0.mk A160
          clear A160
          by_cases c17 : t575 = true
          · subst c17
            have H1 : (if t577 = true then (if t579 = true then (some (t578 == t574)) else (some false)) else (some false)) = some r := by rw [if_pos rfl] at H; exact H
            clear H
            have H := H1
            clear H1
            by_cases c18 : t577 = true
            · subst c18
              have H1 : (if t579 = true then (some (t578 == t574)) else (some false)) = some r := by rw [if_pos rfl] at H; exact H
              clear H
              have H := H1
              clear H1
              by_cases c19 : t579 = true
              · subst c19
                have H1 : (some (t578 == t574)) = some r := by rw [if_pos rfl] at H; exact H
                clear H
                have H := H1
                clear H1
                obtain rfl := Option.some.inj H
                have hcz20_0 : wc.cell? ⟨gb572, 0, none⟩ = some (.int .u64 a0_0) := (blk_cell BK572.out 0).trans rfl
                have hcz20_1 : wc.cell? ⟨gb572, 1, none⟩ = some (.int .u64 a0_1) := (blk_cell BK572.out 1).trans rfl
                have hcz20_2 : wc.cell? ⟨gb572, 2, none⟩ = some (.int .u64 a0_2) := (blk_cell BK572.out 2).trans rfl
                have hcz20_3 : wc.cell? ⟨gb572, 3, none⟩ = some (.int .u64 a0_3) := (blk_cell BK572.out 3).trans rfl
                have hcz20_4 : wc.cell? ⟨gb572, 4, none⟩ = some (.int .u64 a0_4) := (blk_cell BK572.out 4).trans rfl
                have hfz20_0 := blk_frozen BK572.out 0
                have hfz20_1 := blk_frozen BK572.out 1
                have hfz20_2 := blk_frozen BK572.out 2
                have hfz20_3 := blk_frozen BK572.out 3
                have hfz20_4 := blk_frozen BK572.out 4
                go_wp2_with (first | ((with_reducible refine gate_callee (f := 29) rfl ?_); refine goesL_ (some 40) rfl rfl Try.func29 (by kernel_rfl) rfl #[.int .u64 a0_0, .int .u64 a0_1, .int .u64 a0_2, .int .u64 a0_3, .int .u64 (IntKind.u64.wrap (a0_4 + a1))] rfl (by (try simp only [List.map_toArray, List.map_cons, List.map_nil]); first | done | rfl | (simp only [List.length_drop, List.length_take]; rfl)) ?_; (with_reducible refine (gcra_Admit.calls kj4 a0_0 a0_1 a0_2 a0_3 (IntKind.u64.wrap (a0_4 + a1)) t574 true _ A14.out).mono ?_); rintro e w21 ⟨rfl, hb⟩; refine ⟨_, rfl, ?_⟩; have n0_ := Aside0.mk (blk_below (g := gb572) (o := .cells #[.int .u64 a0_0, .int .u64 a0_1, .int .u64 a0_2, .int .u64 a0_3, .int .u64 a0_4] 46 (0, 0)) (by (with_reducible repeat (first | refine blk_drewN ?_ _ | refine blk_drew ?_ | refine blk_alloc ?_ _)); exact BK572.out) hb); have n1_ := Aside0.mk (below_step (by repeat (first | (with_reducible first | exact HB.out | apply below_alloc | apply pw_below_drewN | apply below_drew1 | refine below_set ?_ GE572.out) | exact HB.out)) hb); clear BK572; clear HB; have BK572 := n0_; have HB := n1_; clear n0_ n1_; (try clear hb); (try clear hb2); (try clear hk); (try clear hi); have hcz22_0 : w21.cell? ⟨gb572, 0, none⟩ = some (.int .u64 a0_0) := (blk_cell BK572.out 0).trans rfl; have hcz22_1 : w21.cell? ⟨gb572, 1, none⟩ = some (.int .u64 a0_1) := (blk_cell BK572.out 1).trans rfl; have hcz22_2 : w21.cell? ⟨gb572, 2, none⟩ = some (.int .u64 a0_2) := (blk_cell BK572.out 2).trans rfl; have hcz22_3 : w21.cell? ⟨gb572, 3, none⟩ = some (.int .u64 a0_3) := (blk_cell BK572.out 3).trans rfl; have hcz22_4 : w21.cell? ⟨gb572, 4, none⟩ = some (.int .u64 a0_4) := (blk_cell BK572.out 4).trans rfl; have hfz22_0 := blk_frozen BK572.out 0; have hfz22_1 := blk_frozen BK572.out 1; have hfz22_2 := blk_frozen BK572.out 2; have hfz22_3 := blk_frozen BK572.out 3; have hfz22_4 := blk_frozen BK572.out 4) | ((with_reducible refine gate_callee (f := 29) rfl ?_); refine goesL_ (some 54) rfl rfl Try.func29 (by kernel_rfl) rfl #[.int .u64 a0_0, .int .u64 a0_1, .int .u64 a0_2, .int .u64 a0_3, .int .u64 a0_4] rfl (by (try simp only [List.map_toArray, List.map_cons, List.map_nil]); first | done | rfl | (simp only [List.length_drop, List.length_take]; rfl)) ?_; (with_reducible refine (gcra_Admit.calls kj4 a0_0 a0_1 a0_2 a0_3 a0_4 t576 true _ A15.out).mono ?_); rintro e w23 ⟨rfl, hb⟩; refine ⟨_, rfl, ?_⟩; have n0_ := Aside0.mk (blk_below (g := gb572) (o := .cells #[.int .u64 a0_0, .int .u64 a0_1, .int .u64 a0_2, .int .u64 a0_3, .int .u64 a0_4] 46 (0, 0)) (by (with_reducible repeat (first | refine blk_drewN ?_ _ | refine blk_drew ?_ | refine blk_alloc ?_ _)); exact BK572.out) hb); have n1_ := Aside0.mk (below_step (by repeat (first | (with_reducible first | exact HB.out | apply below_alloc | apply pw_below_drewN | apply below_drew1 | refine below_set ?_ GE572.out) | exact HB.out)) hb); clear BK572; clear HB; have BK572 := n0_; have HB := n1_; clear n0_ n1_; (try clear hb); (try clear hb2); (try clear hk); (try clear hi); have hcz24_0 : w23.cell? ⟨gb572, 0, none⟩ = some (.int .u64 a0_0) := (blk_cell BK572.out 0).trans rfl; have hcz24_1 : w23.cell? ⟨gb572, 1, none⟩ = some (.int .u64 a0_1) := (blk_cell BK572.out 1).trans rfl; have hcz24_2 : w23.cell? ⟨gb572, 2, none⟩ = some (.int .u64 a0_2) := (blk_cell BK572.out 2).trans rfl; have hcz24_3 : w23.cell? ⟨gb572, 3, none⟩ = some (.int .u64 a0_3) := (blk_cell BK572.out 3).trans rfl; have hcz24_4 : w23.cell? ⟨gb572, 4, none⟩ = some (.int .u64 a0_4) := (blk_cell BK572.out 4).trans rfl; have hfz24_0 := blk_frozen BK572.out 0; have hfz24_1 := blk_frozen BK572.out 1; have hfz24_2 := blk_frozen BK572.out 2; have hfz24_3 := blk_frozen BK572.out 3; have hfz24_4 := blk_frozen BK572.out 4) | ((with_reducible refine gate_callee (f := 29) rfl ?_); refine goesL_ (some 66) rfl rfl Try.func29 (by kernel_rfl) rfl #[.int .u64 a0_0, .int .u64 a0_1, .int .u64 t576, .int .u64 a0_3, .int .u64 a1] rfl (by (try simp only [List.map_toArray, List.map_cons, List.map_nil]); first | done | rfl | (simp only [List.length_drop, List.length_take]; rfl)) ?_; (with_reducible refine (gcra_Admit.calls kj4 a0_0 a0_1 t576 a0_3 a1 t578 true _ A16.out).mono ?_); rintro e w25 ⟨rfl, hb⟩; refine ⟨_, rfl, ?_⟩; have n0_ := Aside0.mk (blk_below (g := gb572) (o := .cells #[.int .u64 a0_0, .int .u64 a0_1, .int .u64 a0_2, .int .u64 a0_3, .int .u64 a0_4] 46 (0, 0)) (by (with_reducible repeat (first | refine blk_drewN ?_ _ | refine blk_drew ?_ | refine blk_alloc ?_ _)); exact BK572.out) hb); have n1_ := Aside0.mk (below_step (by repeat (first | (with_reducible first | exact HB.out | apply below_alloc | apply pw_below_drewN | apply below_drew1 | refine below_set ?_ GE572.out) | exact HB.out)) hb); clear BK572; clear HB; have BK572 := n0_; have HB := n1_; clear n0_ n1_; (try clear hb); (try clear hb2); (try clear hk); (try clear hi)))
                go_ret
                exact ⟨by first | rfl | (simp [errW_none, errW_some] <;> rfl) | (simp [*, errW_none, errW_some] <;> rfl), by repeat (first | (with_reducible first | exact HB.out | apply below_alloc | apply pw_below_drewN | apply below_drew1 | refine below_set ?_ GE572.out) | exact HB.out)⟩
              · replace c19 := Bool.eq_false_iff.mpr c19
                subst c19
                have H1 : (some false) = some r := by rw [if_neg (show ¬ (false = true) by decide)] at H; exact H
                clear H
                have H := H1
                clear H1
                obtain rfl := Option.some.inj H
                have hcz26_0 : wc.cell? ⟨gb572, 0, none⟩ = some (.int .u64 a0_0) := (blk_cell BK572.out 0).trans rfl
                have hcz26_1 : wc.cell? ⟨gb572, 1, none⟩ = some (.int .u64 a0_1) := (blk_cell BK572.out 1).trans rfl
                have hcz26_2 : wc.cell? ⟨gb572, 2, none⟩ = some (.int .u64 a0_2) := (blk_cell BK572.out 2).trans rfl
                have hcz26_3 : wc.cell? ⟨gb572, 3, none⟩ = some (.int .u64 a0_3) := (blk_cell BK572.out 3).trans rfl
                have hcz26_4 : wc.cell? ⟨gb572, 4, none⟩ = some (.int .u64 a0_4) := (blk_cell BK572.out 4).trans rfl
                have hfz26_0 := blk_frozen BK572.out 0
                have hfz26_1 := blk_frozen BK572.out 1
                have hfz26_2 := blk_frozen BK572.out 2
                have hfz26_3 := blk_frozen BK572.out 3
                have hfz26_4 := blk_frozen BK572.out 4
                go_wp2_with (first | ((with_reducible refine gate_callee (f := 29) rfl ?_); refine goesL_ (some 40) rfl rfl Try.func29 (by kernel_rfl) rfl #[.int .u64 a0_0, .int .u64 a0_1, .int .u64 a0_2, .int .u64 a0_3, .int .u64 (IntKind.u64.wrap (a0_4 + a1))] rfl (by (try simp only [List.map_toArray, List.map_cons, List.map_nil]); first | done | rfl | (simp only [List.length_drop, List.length_take]; rfl)) ?_; (with_reducible refine (gcra_Admit.calls kj4 a0_0 a0_1 a0_2 a0_3 (IntKind.u64.wrap (a0_4 + a1)) t574 true _ A14.out).mono ?_); rintro e w27 ⟨rfl, hb⟩; refine ⟨_, rfl, ?_⟩; have n0_ := Aside0.mk (blk_below (g := gb572) (o := .cells #[.int .u64 a0_0, .int .u64 a0_1, .int .u64 a0_2, .int .u64 a0_3, .int .u64 a0_4] 46 (0, 0)) (by (with_reducible repeat (first | refine blk_drewN ?_ _ | refine blk_drew ?_ | refine blk_alloc ?_ _)); exact BK572.out) hb); have n1_ := Aside0.mk (below_step (by repeat (first | (with_reducible first | exact HB.out | apply below_alloc | apply pw_below_drewN | apply below_drew1 | refine below_set ?_ GE572.out) | exact HB.out)) hb); clear BK572; clear HB; have BK572 := n0_; have HB := n1_; clear n0_ n1_; (try clear hb); (try clear hb2); (try clear hk); (try clear hi); have hcz28_0 : w27.cell? ⟨gb572, 0, none⟩ = some (.int .u64 a0_0) := (blk_cell BK572.out 0).trans rfl; have hcz28_1 : w27.cell? ⟨gb572, 1, none⟩ = some (.int .u64 a0_1) := (blk_cell BK572.out 1).trans rfl; have hcz28_2 : w27.cell? ⟨gb572, 2, none⟩ = some (.int .u64 a0_2) := (blk_cell BK572.out 2).trans rfl; have hcz28_3 : w27.cell? ⟨gb572, 3, none⟩ = some (.int .u64 a0_3) := (blk_cell BK572.out 3).trans rfl; have hcz28_4 : w27.cell? ⟨gb572, 4, none⟩ = some (.int .u64 a0_4) := (blk_cell BK572.out 4).trans rfl; have hfz28_0 := blk_frozen BK572.out 0; have hfz28_1 := blk_frozen BK572.out 1; have hfz28_2 := blk_frozen BK572.out 2; have hfz28_3 := blk_frozen BK572.out 3; have hfz28_4 := blk_frozen BK572.out 4) | ((with_reducible refine gate_callee (f := 29) rfl ?_); refine goesL_ (some 54) rfl rfl Try.func29 (by kernel_rfl) rfl #[.int .u64 a0_0, .int .u64 a0_1, .int .u64 a0_2, .int .u64 a0_3, .int .u64 a0_4] rfl (by (try simp only [List.map_toArray, List.map_cons, List.map_nil]); first | done | rfl | (simp only [List.length_drop, List.length_take]; rfl)) ?_; (with_reducible refine (gcra_Admit.calls kj4 a0_0 a0_1 a0_2 a0_3 a0_4 t576 true _ A15.out).mono ?_); rintro e w29 ⟨rfl, hb⟩; refine ⟨_, rfl, ?_⟩; have n0_ := Aside0.mk (blk_below (g := gb572) (o := .cells #[.int .u64 a0_0, .int .u64 a0_1, .int .u64 a0_2, .int .u64 a0_3, .int .u64 a0_4] 46 (0, 0)) (by (with_reducible repeat (first | refine blk_drewN ?_ _ | refine blk_drew ?_ | refine blk_alloc ?_ _)); exact BK572.out) hb); have n1_ := Aside0.mk (below_step (by repeat (first | (with_reducible first | exact HB.out | apply below_alloc | apply pw_below_drewN | apply below_drew1 | refine below_set ?_ GE572.out) | exact HB.out)) hb); clear BK572; clear HB; have BK572 := n0_; have HB := n1_; clear n0_ n1_; (try clear hb); (try clear hb2); (try clear hk); (try clear hi); have hcz30_0 : w29.cell? ⟨gb572, 0, none⟩ = some (.int .u64 a0_0) := (blk_cell BK572.out 0).trans rfl; have hcz30_1 : w29.cell? ⟨gb572, 1, none⟩ = some (.int .u64 a0_1) := (blk_cell BK572.out 1).trans rfl; have hcz30_2 : w29.cell? ⟨gb572, 2, none⟩ = some (.int .u64 a0_2) := (blk_cell BK572.out 2).trans rfl; have hcz30_3 : w29.cell? ⟨gb572, 3, none⟩ = some (.int .u64 a0_3) := (blk_cell BK572.out 3).trans rfl; have hcz30_4 : w29.cell? ⟨gb572, 4, none⟩ = some (.int .u64 a0_4) := (blk_cell BK572.out 4).trans rfl; have hfz30_0 := blk_frozen BK572.out 0; have hfz30_1 := blk_frozen BK572.out 1; have hfz30_2 := blk_frozen BK572.out 2; have hfz30_3 := blk_frozen BK572.out 3; have hfz30_4 := blk_frozen BK572.out 4) | ((with_reducible refine gate_callee (f := 29) rfl ?_); refine goesL_ (some 66) rfl rfl Try.func29 (by kernel_rfl) rfl #[.int .u64 a0_0, .int .u64 a0_1, .int .u64 t576, .int .u64 a0_3, .int .u64 a1] rfl (by (try simp only [List.map_toArray, List.map_cons, List.map_nil]); first | done | rfl | (simp only [List.length_drop, List.length_take]; rfl)) ?_; (with_reducible refine (gcra_Admit.calls kj4 a0_0 a0_1 t576 a0_3 a1 t578 false _ A16.out).mono ?_); rintro e w31 ⟨rfl, hb⟩; refine ⟨_, rfl, ?_⟩; have n0_ := Aside0.mk (blk_below (g := gb572) (o := .cells #[.int .u64 a0_0, .int .u64 a0_1, .int .u64 a0_2, .int .u64 a0_3, .int .u64 a0_4] 46 (0, 0)) (by (with_reducible repeat (first | refine blk_drewN ?_ _ | refine blk_drew ?_ | refine blk_alloc ?_ _)); exact BK572.out) hb); have n1_ := Aside0.mk (below_step (by repeat (first | (with_reducible first | exact HB.out | apply below_alloc | apply pw_below_drewN | apply below_drew1 | refine below_set ?_ GE572.out) | exact HB.out)) hb); clear BK572; clear HB; have BK572 := n0_; have HB := n1_; clear n0_ n1_; (try clear hb); (try clear hb2); (try clear hk); (try clear hi)))
                go_ret
                exact ⟨by first | rfl | (simp [errW_none, errW_some] <;> rfl) | (simp [*, errW_none, errW_some] <;> rfl), by repeat (first | (with_reducible first | exact HB.out | apply below_alloc | apply pw_below_drewN | apply below_drew1 | refine below_set ?_ GE572.out) | exact HB.out)⟩
            · replace c18 := Bool.eq_false_iff.mpr c18
              subst c18
              have H1 : (some false) = some r := by rw [if_neg (show ¬ (false = true) by decide)] at H; exact H
              clear H
              have H := H1
              clear H1
              obtain rfl := Option.some.inj H
              have hcz32_0 : wc.cell? ⟨gb572, 0, none⟩ = some (.int .u64 a0_0) := (blk_cell BK572.out 0).trans rfl
              have hcz32_1 : wc.cell? ⟨gb572, 1, none⟩ = some (.int .u64 a0_1) := (blk_cell BK572.out 1).trans rfl
              have hcz32_2 : wc.cell? ⟨gb572, 2, none⟩ = some (.int .u64 a0_2) := (blk_cell BK572.out 2).trans rfl
              have hcz32_3 : wc.cell? ⟨gb572, 3, none⟩ = some (.int .u64 a0_3) := (blk_cell BK572.out 3).trans rfl
              have hcz32_4 : wc.cell? ⟨gb572, 4, none⟩ = some (.int .u64 a0_4) := (blk_cell BK572.out 4).trans rfl
              have hfz32_0 := blk_frozen BK572.out 0
              have hfz32_1 := blk_frozen BK572.out 1
              have hfz32_2 := blk_frozen BK572.out 2
              have hfz32_3 := blk_frozen BK572.out 3
              have hfz32_4 := blk_frozen BK572.out 4
              go_wp2_with (first | ((with_reducible refine gate_callee (f := 29) rfl ?_); refine goesL_ (some 40) rfl rfl Try.func29 (by kernel_rfl) rfl #[.int .u64 a0_0, .int .u64 a0_1, .int .u64 a0_2, .int .u64 a0_3, .int .u64 (IntKind.u64.wrap (a0_4 + a1))] rfl (by (try simp only [List.map_toArray, List.map_cons, List.map_nil]); first | done | rfl | (simp only [List.length_drop, List.length_take]; rfl)) ?_; (with_reducible refine (gcra_Admit.calls kj4 a0_0 a0_1 a0_2 a0_3 (IntKind.u64.wrap (a0_4 + a1)) t574 true _ A14.out).mono ?_); rintro e w33 ⟨rfl, hb⟩; refine ⟨_, rfl, ?_⟩; have n0_ := Aside0.mk (blk_below (g := gb572) (o := .cells #[.int .u64 a0_0, .int .u64 a0_1, .int .u64 a0_2, .int .u64 a0_3, .int .u64 a0_4] 46 (0, 0)) (by (with_reducible repeat (first | refine blk_drewN ?_ _ | refine blk_drew ?_ | refine blk_alloc ?_ _)); exact BK572.out) hb); have n1_ := Aside0.mk (below_step (by repeat (first | (with_reducible first | exact HB.out | apply below_alloc | apply pw_below_drewN | apply below_drew1 | refine below_set ?_ GE572.out) | exact HB.out)) hb); clear BK572; clear HB; have BK572 := n0_; have HB := n1_; clear n0_ n1_; (try clear hb); (try clear hb2); (try clear hk); (try clear hi); have hcz34_0 : w33.cell? ⟨gb572, 0, none⟩ = some (.int .u64 a0_0) := (blk_cell BK572.out 0).trans rfl; have hcz34_1 : w33.cell? ⟨gb572, 1, none⟩ = some (.int .u64 a0_1) := (blk_cell BK572.out 1).trans rfl; have hcz34_2 : w33.cell? ⟨gb572, 2, none⟩ = some (.int .u64 a0_2) := (blk_cell BK572.out 2).trans rfl; have hcz34_3 : w33.cell? ⟨gb572, 3, none⟩ = some (.int .u64 a0_3) := (blk_cell BK572.out 3).trans rfl; have hcz34_4 : w33.cell? ⟨gb572, 4, none⟩ = some (.int .u64 a0_4) := (blk_cell BK572.out 4).trans rfl; have hfz34_0 := blk_frozen BK572.out 0; have hfz34_1 := blk_frozen BK572.out 1; have hfz34_2 := blk_frozen BK572.out 2; have hfz34_3 := blk_frozen BK572.out 3; have hfz34_4 := blk_frozen BK572.out 4) | ((with_reducible refine gate_callee (f := 29) rfl ?_); refine goesL_ (some 54) rfl rfl Try.func29 (by kernel_rfl) rfl #[.int .u64 a0_0, .int .u64 a0_1, .int .u64 a0_2, .int .u64 a0_3, .int .u64 a0_4] rfl (by (try simp only [List.map_toArray, List.map_cons, List.map_nil]); first | done | rfl | (simp only [List.length_drop, List.length_take]; rfl)) ?_; (with_reducible refine (gcra_Admit.calls kj4 a0_0 a0_1 a0_2 a0_3 a0_4 t576 false _ A15.out).mono ?_); rintro e w35 ⟨rfl, hb⟩; refine ⟨_, rfl, ?_⟩; have n0_ := Aside0.mk (blk_below (g := gb572) (o := .cells #[.int .u64 a0_0, .int .u64 a0_1, .int .u64 a0_2, .int .u64 a0_3, .int .u64 a0_4] 46 (0, 0)) (by (with_reducible repeat (first | refine blk_drewN ?_ _ | refine blk_drew ?_ | refine blk_alloc ?_ _)); exact BK572.out) hb); have n1_ := Aside0.mk (below_step (by repeat (first | (with_reducible first | exact HB.out | apply below_alloc | apply pw_below_drewN | apply below_drew1 | refine below_set ?_ GE572.out) | exact HB.out)) hb); clear BK572; clear HB; have BK572 := n0_; have HB := n1_; clear n0_ n1_; (try clear hb); (try clear hb2); (try clear hk); (try clear hi); have hcz36_0 : w35.cell? ⟨gb572, 0, none⟩ = some (.int .u64 a0_0) := (blk_cell BK572.out 0).trans rfl; have hcz36_1 : w35.cell? ⟨gb572, 1, none⟩ = some (.int .u64 a0_1) := (blk_cell BK572.out 1).trans rfl; have hcz36_2 : w35.cell? ⟨gb572, 2, none⟩ = some (.int .u64 a0_2) := (blk_cell BK572.out 2).trans rfl; have hcz36_3 : w35.cell? ⟨gb572, 3, none⟩ = some (.int .u64 a0_3) := (blk_cell BK572.out 3).trans rfl; have hcz36_4 : w35.cell? ⟨gb572, 4, none⟩ = some (.int .u64 a0_4) := (blk_cell BK572.out 4).trans rfl; have hfz36_0 := blk_frozen BK572.out 0; have hfz36_1 := blk_frozen BK572.out 1; have hfz36_2 := blk_frozen BK572.out 2; have hfz36_3 := blk_frozen BK572.out 3; have hfz36_4 := blk_frozen BK572.out 4) | ((with_reducible refine gate_callee (f := 29) rfl ?_); refine goesL_ (some 66) rfl rfl Try.func29 (by kernel_rfl) rfl #[.int .u64 a0_0, .int .u64 a0_1, .int .u64 t576, .int .u64 a0_3, .int .u64 a1] rfl (by (try simp only [List.map_toArray, List.map_cons, List.map_nil]); first | done | rfl | (simp only [List.length_drop, List.length_take]; rfl)) ?_; (with_reducible refine (gcra_Admit.calls kj4 a0_0 a0_1 t576 a0_3 a1 t578 t579 _ A16.out).mono ?_); rintro e w37 ⟨rfl, hb⟩; refine ⟨_, rfl, ?_⟩; have n0_ := Aside0.mk (blk_below (g := gb572) (o := .cells #[.int .u64 a0_0, .int .u64 a0_1, .int .u64 a0_2, .int .u64 a0_3, .int .u64 a0_4] 46 (0, 0)) (by (with_reducible repeat (first | refine blk_drewN ?_ _ | refine blk_drew ?_ | refine blk_alloc ?_ _)); exact BK572.out) hb); have n1_ := Aside0.mk (below_step (by repeat (first | (with_reducible first | exact HB.out | apply below_alloc | apply pw_below_drewN | apply below_drew1 | refine below_set ?_ GE572.out) | exact HB.out)) hb); clear BK572; clear HB; have BK572 := n0_; have HB := n1_; clear n0_ n1_; (try clear hb); (try clear hb2); (try clear hk); (try clear hi)))
              go_ret
              exact ⟨by first | rfl | (simp [errW_none, errW_some] <;> rfl) | (simp [*, errW_none, errW_some] <;> rfl), by repeat (first | (with_reducible first | exact HB.out | apply below_alloc | apply pw_below_drewN | apply below_drew1 | refine below_set ?_ GE572.out) | exact HB.out)⟩
          · replace c17 := Bool.eq_false_iff.mpr c17
            subst c17
            have H1 : (if t574 = a0_2 then (if t577 = true then (some (!t579)) else (some true)) else (some false)) = some r := by rw [if_neg (show ¬ (false = true) by decide)] at H; exact H
            clear H
            have H := H1
            clear H1
            by_cases c38 : t574 = a0_2
            · rw [if_pos c38] at H
              have c38b0 : (t574 == a0_2) = true := beq_iff_eq.mpr c38
              have c38b1 : (t574 != a0_2) = false := bne_eq_false_iff_eq.mpr c38
              clear c38
              by_cases c39 : t577 = true
              · subst c39
                have H1 : (some (!t579)) = some r := by rw [if_pos rfl] at H; exact H
                clear H
                have H := H1
                clear H1
                obtain rfl := Option.some.inj H
                have hcz40_0 : wc.cell? ⟨gb572, 0, none⟩ = some (.int .u64 a0_0) := (blk_cell BK572.out 0).trans rfl
                have hcz40_1 : wc.cell? ⟨gb572, 1, none⟩ = some (.int .u64 a0_1) := (blk_cell BK572.out 1).trans rfl
                have hcz40_2 : wc.cell? ⟨gb572, 2, none⟩ = some (.int .u64 a0_2) := (blk_cell BK572.out 2).trans rfl
                have hcz40_3 : wc.cell? ⟨gb572, 3, none⟩ = some (.int .u64 a0_3) := (blk_cell BK572.out 3).trans rfl
                have hcz40_4 : wc.cell? ⟨gb572, 4, none⟩ = some (.int .u64 a0_4) := (blk_cell BK572.out 4).trans rfl
                have hfz40_0 := blk_frozen BK572.out 0
                have hfz40_1 := blk_frozen BK572.out 1
                have hfz40_2 := blk_frozen BK572.out 2
                have hfz40_3 := blk_frozen BK572.out 3
                have hfz40_4 := blk_frozen BK572.out 4
                go_wp2_with (first | ((with_reducible refine gate_callee (f := 29) rfl ?_); refine goesL_ (some 40) rfl rfl Try.func29 (by kernel_rfl) rfl #[.int .u64 a0_0, .int .u64 a0_1, .int .u64 a0_2, .int .u64 a0_3, .int .u64 (IntKind.u64.wrap (a0_4 + a1))] rfl (by (try simp only [List.map_toArray, List.map_cons, List.map_nil]); first | done | rfl | (simp only [List.length_drop, List.length_take]; rfl)) ?_; (with_reducible refine (gcra_Admit.calls kj4 a0_0 a0_1 a0_2 a0_3 (IntKind.u64.wrap (a0_4 + a1)) t574 false _ A14.out).mono ?_); rintro e w41 ⟨rfl, hb⟩; refine ⟨_, rfl, ?_⟩; have n0_ := Aside0.mk (blk_below (g := gb572) (o := .cells #[.int .u64 a0_0, .int .u64 a0_1, .int .u64 a0_2, .int .u64 a0_3, .int .u64 a0_4] 46 (0, 0)) (by (with_reducible repeat (first | refine blk_drewN ?_ _ | refine blk_drew ?_ | refine blk_alloc ?_ _)); exact BK572.out) hb); have n1_ := Aside0.mk (below_step (by repeat (first | (with_reducible first | exact HB.out | apply below_alloc | apply pw_below_drewN | apply below_drew1 | refine below_set ?_ GE572.out) | exact HB.out)) hb); clear BK572; clear HB; have BK572 := n0_; have HB := n1_; clear n0_ n1_; (try clear hb); (try clear hb2); (try clear hk); (try clear hi); have hcz42_0 : w41.cell? ⟨gb572, 0, none⟩ = some (.int .u64 a0_0) := (blk_cell BK572.out 0).trans rfl; have hcz42_1 : w41.cell? ⟨gb572, 1, none⟩ = some (.int .u64 a0_1) := (blk_cell BK572.out 1).trans rfl; have hcz42_2 : w41.cell? ⟨gb572, 2, none⟩ = some (.int .u64 a0_2) := (blk_cell BK572.out 2).trans rfl; have hcz42_3 : w41.cell? ⟨gb572, 3, none⟩ = some (.int .u64 a0_3) := (blk_cell BK572.out 3).trans rfl; have hcz42_4 : w41.cell? ⟨gb572, 4, none⟩ = some (.int .u64 a0_4) := (blk_cell BK572.out 4).trans rfl; have hfz42_0 := blk_frozen BK572.out 0; have hfz42_1 := blk_frozen BK572.out 1; have hfz42_2 := blk_frozen BK572.out 2; have hfz42_3 := blk_frozen BK572.out 3; have hfz42_4 := blk_frozen BK572.out 4) | ((with_reducible refine gate_callee (f := 29) rfl ?_); refine goesL_ (some 54) rfl rfl Try.func29 (by kernel_rfl) rfl #[.int .u64 a0_0, .int .u64 a0_1, .int .u64 a0_2, .int .u64 a0_3, .int .u64 a0_4] rfl (by (try simp only [List.map_toArray, List.map_cons, List.map_nil]); first | done | rfl | (simp only [List.length_drop, List.length_take]; rfl)) ?_; (with_reducible refine (gcra_Admit.calls kj4 a0_0 a0_1 a0_2 a0_3 a0_4 t576 true _ A15.out).mono ?_); rintro e w43 ⟨rfl, hb⟩; refine ⟨_, rfl, ?_⟩; have n0_ := Aside0.mk (blk_below (g := gb572) (o := .cells #[.int .u64 a0_0, .int .u64 a0_1, .int .u64 a0_2, .int .u64 a0_3, .int .u64 a0_4] 46 (0, 0)) (by (with_reducible repeat (first | refine blk_drewN ?_ _ | refine blk_drew ?_ | refine blk_alloc ?_ _)); exact BK572.out) hb); have n1_ := Aside0.mk (below_step (by repeat (first | (with_reducible first | exact HB.out | apply below_alloc | apply pw_below_drewN | apply below_drew1 | refine below_set ?_ GE572.out) | exact HB.out)) hb); clear BK572; clear HB; have BK572 := n0_; have HB := n1_; clear n0_ n1_; (try clear hb); (try clear hb2); (try clear hk); (try clear hi); have hcz44_0 : w43.cell? ⟨gb572, 0, none⟩ = some (.int .u64 a0_0) := (blk_cell BK572.out 0).trans rfl; have hcz44_1 : w43.cell? ⟨gb572, 1, none⟩ = some (.int .u64 a0_1) := (blk_cell BK572.out 1).trans rfl; have hcz44_2 : w43.cell? ⟨gb572, 2, none⟩ = some (.int .u64 a0_2) := (blk_cell BK572.out 2).trans rfl; have hcz44_3 : w43.cell? ⟨gb572, 3, none⟩ = some (.int .u64 a0_3) := (blk_cell BK572.out 3).trans rfl; have hcz44_4 : w43.cell? ⟨gb572, 4, none⟩ = some (.int .u64 a0_4) := (blk_cell BK572.out 4).trans rfl; have hfz44_0 := blk_frozen BK572.out 0; have hfz44_1 := blk_frozen BK572.out 1; have hfz44_2 := blk_frozen BK572.out 2; have hfz44_3 := blk_frozen BK572.out 3; have hfz44_4 := blk_frozen BK572.out 4) | ((with_reducible refine gate_callee (f := 29) rfl ?_); refine goesL_ (some 66) rfl rfl Try.func29 (by kernel_rfl) rfl #[.int .u64 a0_0, .int .u64 a0_1, .int .u64 t576, .int .u64 a0_3, .int .u64 a1] rfl (by (try simp only [List.map_toArray, List.map_cons, List.map_nil]); first | done | rfl | (simp only [List.length_drop, List.length_take]; rfl)) ?_; (with_reducible refine (gcra_Admit.calls kj4 a0_0 a0_1 t576 a0_3 a1 t578 t579 _ A16.out).mono ?_); rintro e w45 ⟨rfl, hb⟩; refine ⟨_, rfl, ?_⟩; have n0_ := Aside0.mk (blk_below (g := gb572) (o := .cells #[.int .u64 a0_0, .int .u64 a0_1, .int .u64 a0_2, .int .u64 a0_3, .int .u64 a0_4] 46 (0, 0)) (by (with_reducible repeat (first | refine blk_drewN ?_ _ | refine blk_drew ?_ | refine blk_alloc ?_ _)); exact BK572.out) hb); have n1_ := Aside0.mk (below_step (by repeat (first | (with_reducible first | exact HB.out | apply below_alloc | apply pw_below_drewN | apply below_drew1 | refine below_set ?_ GE572.out) | exact HB.out)) hb); clear BK572; clear HB; have BK572 := n0_; have HB := n1_; clear n0_ n1_; (try clear hb); (try clear hb2); (try clear hk); (try clear hi); have hcz46_0 : w45.cell? ⟨gb572, 0, none⟩ = some (.int .u64 a0_0) := (blk_cell BK572.out 0).trans rfl; have hcz46_1 : w45.cell? ⟨gb572, 1, none⟩ = some (.int .u64 a0_1) := (blk_cell BK572.out 1).trans rfl; have hcz46_2 : w45.cell? ⟨gb572, 2, none⟩ = some (.int .u64 a0_2) := (blk_cell BK572.out 2).trans rfl; have hcz46_3 : w45.cell? ⟨gb572, 3, none⟩ = some (.int .u64 a0_3) := (blk_cell BK572.out 3).trans rfl; have hcz46_4 : w45.cell? ⟨gb572, 4, none⟩ = some (.int .u64 a0_4) := (blk_cell BK572.out 4).trans rfl; have hfz46_0 := blk_frozen BK572.out 0; have hfz46_1 := blk_frozen BK572.out 1; have hfz46_2 := blk_frozen BK572.out 2; have hfz46_3 := blk_frozen BK572.out 3; have hfz46_4 := blk_frozen BK572.out 4))
                go_ret
                exact ⟨by first | rfl | (simp [errW_none, errW_some] <;> rfl) | (simp [*, errW_none, errW_some] <;> rfl), by repeat (first | (with_reducible first | exact HB.out | apply below_alloc | apply pw_below_drewN | apply below_drew1 | refine below_set ?_ GE572.out) | exact HB.out)⟩
              · replace c39 := Bool.eq_false_iff.mpr c39
                subst c39
                have H1 : (some true) = some r := by rw [if_neg (show ¬ (false = true) by decide)] at H; exact H
                clear H
                have H := H1
                clear H1
                obtain rfl := Option.some.inj H
                have hcz47_0 : wc.cell? ⟨gb572, 0, none⟩ = some (.int .u64 a0_0) := (blk_cell BK572.out 0).trans rfl
                have hcz47_1 : wc.cell? ⟨gb572, 1, none⟩ = some (.int .u64 a0_1) := (blk_cell BK572.out 1).trans rfl
                have hcz47_2 : wc.cell? ⟨gb572, 2, none⟩ = some (.int .u64 a0_2) := (blk_cell BK572.out 2).trans rfl
                have hcz47_3 : wc.cell? ⟨gb572, 3, none⟩ = some (.int .u64 a0_3) := (blk_cell BK572.out 3).trans rfl
                have hcz47_4 : wc.cell? ⟨gb572, 4, none⟩ = some (.int .u64 a0_4) := (blk_cell BK572.out 4).trans rfl
                have hfz47_0 := blk_frozen BK572.out 0
                have hfz47_1 := blk_frozen BK572.out 1
                have hfz47_2 := blk_frozen BK572.out 2
                have hfz47_3 := blk_frozen BK572.out 3
                have hfz47_4 := blk_frozen BK572.out 4
                go_wp2_with (first | ((with_reducible refine gate_callee (f := 29) rfl ?_); refine goesL_ (some 40) rfl rfl Try.func29 (by kernel_rfl) rfl #[.int .u64 a0_0, .int .u64 a0_1, .int .u64 a0_2, .int .u64 a0_3, .int .u64 (IntKind.u64.wrap (a0_4 + a1))] rfl (by (try simp only [List.map_toArray, List.map_cons, List.map_nil]); first | done | rfl | (simp only [List.length_drop, List.length_take]; rfl)) ?_; (with_reducible refine (gcra_Admit.calls kj4 a0_0 a0_1 a0_2 a0_3 (IntKind.u64.wrap (a0_4 + a1)) t574 false _ A14.out).mono ?_); rintro e w48 ⟨rfl, hb⟩; refine ⟨_, rfl, ?_⟩; have n0_ := Aside0.mk (blk_below (g := gb572) (o := .cells #[.int .u64 a0_0, .int .u64 a0_1, .int .u64 a0_2, .int .u64 a0_3, .int .u64 a0_4] 46 (0, 0)) (by (with_reducible repeat (first | refine blk_drewN ?_ _ | refine blk_drew ?_ | refine blk_alloc ?_ _)); exact BK572.out) hb); have n1_ := Aside0.mk (below_step (by repeat (first | (with_reducible first | exact HB.out | apply below_alloc | apply pw_below_drewN | apply below_drew1 | refine below_set ?_ GE572.out) | exact HB.out)) hb); clear BK572; clear HB; have BK572 := n0_; have HB := n1_; clear n0_ n1_; (try clear hb); (try clear hb2); (try clear hk); (try clear hi); have hcz49_0 : w48.cell? ⟨gb572, 0, none⟩ = some (.int .u64 a0_0) := (blk_cell BK572.out 0).trans rfl; have hcz49_1 : w48.cell? ⟨gb572, 1, none⟩ = some (.int .u64 a0_1) := (blk_cell BK572.out 1).trans rfl; have hcz49_2 : w48.cell? ⟨gb572, 2, none⟩ = some (.int .u64 a0_2) := (blk_cell BK572.out 2).trans rfl; have hcz49_3 : w48.cell? ⟨gb572, 3, none⟩ = some (.int .u64 a0_3) := (blk_cell BK572.out 3).trans rfl; have hcz49_4 : w48.cell? ⟨gb572, 4, none⟩ = some (.int .u64 a0_4) := (blk_cell BK572.out 4).trans rfl; have hfz49_0 := blk_frozen BK572.out 0; have hfz49_1 := blk_frozen BK572.out 1; have hfz49_2 := blk_frozen BK572.out 2; have hfz49_3 := blk_frozen BK572.out 3; have hfz49_4 := blk_frozen BK572.out 4) | ((with_reducible refine gate_callee (f := 29) rfl ?_); refine goesL_ (some 54) rfl rfl Try.func29 (by kernel_rfl) rfl #[.int .u64 a0_0, .int .u64 a0_1, .int .u64 a0_2, .int .u64 a0_3, .int .u64 a0_4] rfl (by (try simp only [List.map_toArray, List.map_cons, List.map_nil]); first | done | rfl | (simp only [List.length_drop, List.length_take]; rfl)) ?_; (with_reducible refine (gcra_Admit.calls kj4 a0_0 a0_1 a0_2 a0_3 a0_4 t576 false _ A15.out).mono ?_); rintro e w50 ⟨rfl, hb⟩; refine ⟨_, rfl, ?_⟩; have n0_ := Aside0.mk (blk_below (g := gb572) (o := .cells #[.int .u64 a0_0, .int .u64 a0_1, .int .u64 a0_2, .int .u64 a0_3, .int .u64 a0_4] 46 (0, 0)) (by (with_reducible repeat (first | refine blk_drewN ?_ _ | refine blk_drew ?_ | refine blk_alloc ?_ _)); exact BK572.out) hb); have n1_ := Aside0.mk (below_step (by repeat (first | (with_reducible first | exact HB.out | apply below_alloc | apply pw_below_drewN | apply below_drew1 | refine below_set ?_ GE572.out) | exact HB.out)) hb); clear BK572; clear HB; have BK572 := n0_; have HB := n1_; clear n0_ n1_; (try clear hb); (try clear hb2); (try clear hk); (try clear hi); have hcz51_0 : w50.cell? ⟨gb572, 0, none⟩ = some (.int .u64 a0_0) := (blk_cell BK572.out 0).trans rfl; have hcz51_1 : w50.cell? ⟨gb572, 1, none⟩ = some (.int .u64 a0_1) := (blk_cell BK572.out 1).trans rfl; have hcz51_2 : w50.cell? ⟨gb572, 2, none⟩ = some (.int .u64 a0_2) := (blk_cell BK572.out 2).trans rfl; have hcz51_3 : w50.cell? ⟨gb572, 3, none⟩ = some (.int .u64 a0_3) := (blk_cell BK572.out 3).trans rfl; have hcz51_4 : w50.cell? ⟨gb572, 4, none⟩ = some (.int .u64 a0_4) := (blk_cell BK572.out 4).trans rfl; have hfz51_0 := blk_frozen BK572.out 0; have hfz51_1 := blk_frozen BK572.out 1; have hfz51_2 := blk_frozen BK572.out 2; have hfz51_3 := blk_frozen BK572.out 3; have hfz51_4 := blk_frozen BK572.out 4) | ((with_reducible refine gate_callee (f := 29) rfl ?_); refine goesL_ (some 66) rfl rfl Try.func29 (by kernel_rfl) rfl #[.int .u64 a0_0, .int .u64 a0_1, .int .u64 t576, .int .u64 a0_3, .int .u64 a1] rfl (by (try simp only [List.map_toArray, List.map_cons, List.map_nil]); first | done | rfl | (simp only [List.length_drop, List.length_take]; rfl)) ?_; (with_reducible refine (gcra_Admit.calls kj4 a0_0 a0_1 t576 a0_3 a1 t578 t579 _ A16.out).mono ?_); rintro e w52 ⟨rfl, hb⟩; refine ⟨_, rfl, ?_⟩; have n0_ := Aside0.mk (blk_below (g := gb572) (o := .cells #[.int .u64 a0_0, .int .u64 a0_1, .int .u64 a0_2, .int .u64 a0_3, .int .u64 a0_4] 46 (0, 0)) (by (with_reducible repeat (first | refine blk_drewN ?_ _ | refine blk_drew ?_ | refine blk_alloc ?_ _)); exact BK572.out) hb); have n1_ := Aside0.mk (below_step (by repeat (first | (with_reducible first | exact HB.out | apply below_alloc | apply pw_below_drewN | apply below_drew1 | refine below_set ?_ GE572.out) | exact HB.out)) hb); clear BK572; clear HB; have BK572 := n0_; have HB := n1_; clear n0_ n1_; (try clear hb); (try clear hb2); (try clear hk); (try clear hi); have hcz53_0 : w52.cell? ⟨gb572, 0, none⟩ = some (.int .u64 a0_0) := (blk_cell BK572.out 0).trans rfl; have hcz53_1 : w52.cell? ⟨gb572, 1, none⟩ = some (.int .u64 a0_1) := (blk_cell BK572.out 1).trans rfl; have hcz53_2 : w52.cell? ⟨gb572, 2, none⟩ = some (.int .u64 a0_2) := (blk_cell BK572.out 2).trans rfl; have hcz53_3 : w52.cell? ⟨gb572, 3, none⟩ = some (.int .u64 a0_3) := (blk_cell BK572.out 3).trans rfl; have hcz53_4 : w52.cell? ⟨gb572, 4, none⟩ = some (.int .u64 a0_4) := (blk_cell BK572.out 4).trans rfl; have hfz53_0 := blk_frozen BK572.out 0; have hfz53_1 := blk_frozen BK572.out 1; have hfz53_2 := blk_frozen BK572.out 2; have hfz53_3 := blk_frozen BK572.out 3; have hfz53_4 := blk_frozen BK572.out 4))
                go_ret
                exact ⟨by first | rfl | (simp [errW_none, errW_some] <;> rfl) | (simp [*, errW_none, errW_some] <;> rfl), by repeat (first | (with_reducible first | exact HB.out | apply below_alloc | apply pw_below_drewN | apply below_drew1 | refine below_set ?_ GE572.out) | exact HB.out)⟩
            · rw [if_neg c38] at H
              have c38b0 : (t574 == a0_2) = false := beq_eq_false_iff_ne.mpr c38
              have c38b1 : (t574 != a0_2) = true := bne_iff_ne.mpr c38
              obtain rfl := Option.some.inj H
              have hcz54_0 : wc.cell? ⟨gb572, 0, none⟩ = some (.int .u64 a0_0) := (blk_cell BK572.out 0).trans rfl
              have hcz54_1 : wc.cell? ⟨gb572, 1, none⟩ = some (.int .u64 a0_1) := (blk_cell BK572.out 1).trans rfl
              have hcz54_2 : wc.cell? ⟨gb572, 2, none⟩ = some (.int .u64 a0_2) := (blk_cell BK572.out 2).trans rfl
              have hcz54_3 : wc.cell? ⟨gb572, 3, none⟩ = some (.int .u64 a0_3) := (blk_cell BK572.out 3).trans rfl
              have hcz54_4 : wc.cell? ⟨gb572, 4, none⟩ = some (.int .u64 a0_4) := (blk_cell BK572.out 4).trans rfl
              have hfz54_0 := blk_frozen BK572.out 0
              have hfz54_1 := blk_frozen BK572.out 1
              have hfz54_2 := blk_frozen BK572.out 2
              have hfz54_3 := blk_frozen BK572.out 3
              have hfz54_4 := blk_frozen BK572.out 4
              go_wp2_with (first | ((with_reducible refine gate_callee (f := 29) rfl ?_); refine goesL_ (some 40) rfl rfl Try.func29 (by kernel_rfl) rfl #[.int .u64 a0_0, .int .u64 a0_1, .int .u64 a0_2, .int .u64 a0_3, .int .u64 (IntKind.u64.wrap (a0_4 + a1))] rfl (by (try simp only [List.map_toArray, List.map_cons, List.map_nil]); first | done | rfl | (simp only [List.length_drop, List.length_take]; rfl)) ?_; (with_reducible refine (gcra_Admit.calls kj4 a0_0 a0_1 a0_2 a0_3 (IntKind.u64.wrap (a0_4 + a1)) t574 false _ A14.out).mono ?_); rintro e w55 ⟨rfl, hb⟩; refine ⟨_, rfl, ?_⟩; have n0_ := Aside0.mk (blk_below (g := gb572) (o := .cells #[.int .u64 a0_0, .int .u64 a0_1, .int .u64 a0_2, .int .u64 a0_3, .int .u64 a0_4] 46 (0, 0)) (by (with_reducible repeat (first | refine blk_drewN ?_ _ | refine blk_drew ?_ | refine blk_alloc ?_ _)); exact BK572.out) hb); have n1_ := Aside0.mk (below_step (by repeat (first | (with_reducible first | exact HB.out | apply below_alloc | apply pw_below_drewN | apply below_drew1 | refine below_set ?_ GE572.out) | exact HB.out)) hb); clear BK572; clear HB; have BK572 := n0_; have HB := n1_; clear n0_ n1_; (try clear hb); (try clear hb2); (try clear hk); (try clear hi); have hcz56_0 : w55.cell? ⟨gb572, 0, none⟩ = some (.int .u64 a0_0) := (blk_cell BK572.out 0).trans rfl; have hcz56_1 : w55.cell? ⟨gb572, 1, none⟩ = some (.int .u64 a0_1) := (blk_cell BK572.out 1).trans rfl; have hcz56_2 : w55.cell? ⟨gb572, 2, none⟩ = some (.int .u64 a0_2) := (blk_cell BK572.out 2).trans rfl; have hcz56_3 : w55.cell? ⟨gb572, 3, none⟩ = some (.int .u64 a0_3) := (blk_cell BK572.out 3).trans rfl; have hcz56_4 : w55.cell? ⟨gb572, 4, none⟩ = some (.int .u64 a0_4) := (blk_cell BK572.out 4).trans rfl; have hfz56_0 := blk_frozen BK572.out 0; have hfz56_1 := blk_frozen BK572.out 1; have hfz56_2 := blk_frozen BK572.out 2; have hfz56_3 := blk_frozen BK572.out 3; have hfz56_4 := blk_frozen BK572.out 4) | ((with_reducible refine gate_callee (f := 29) rfl ?_); refine goesL_ (some 54) rfl rfl Try.func29 (by kernel_rfl) rfl #[.int .u64 a0_0, .int .u64 a0_1, .int .u64 a0_2, .int .u64 a0_3, .int .u64 a0_4] rfl (by (try simp only [List.map_toArray, List.map_cons, List.map_nil]); first | done | rfl | (simp only [List.length_drop, List.length_take]; rfl)) ?_; (with_reducible refine (gcra_Admit.calls kj4 a0_0 a0_1 a0_2 a0_3 a0_4 t576 t577 _ A15.out).mono ?_); rintro e w57 ⟨rfl, hb⟩; refine ⟨_, rfl, ?_⟩; have n0_ := Aside0.mk (blk_below (g := gb572) (o := .cells #[.int .u64 a0_0, .int .u64 a0_1, .int .u64 a0_2, .int .u64 a0_3, .int .u64 a0_4] 46 (0, 0)) (by (with_reducible repeat (first | refine blk_drewN ?_ _ | refine blk_drew ?_ | refine blk_alloc ?_ _)); exact BK572.out) hb); have n1_ := Aside0.mk (below_step (by repeat (first | (with_reducible first | exact HB.out | apply below_alloc | apply pw_below_drewN | apply below_drew1 | refine below_set ?_ GE572.out) | exact HB.out)) hb); clear BK572; clear HB; have BK572 := n0_; have HB := n1_; clear n0_ n1_; (try clear hb); (try clear hb2); (try clear hk); (try clear hi); have hcz58_0 : w57.cell? ⟨gb572, 0, none⟩ = some (.int .u64 a0_0) := (blk_cell BK572.out 0).trans rfl; have hcz58_1 : w57.cell? ⟨gb572, 1, none⟩ = some (.int .u64 a0_1) := (blk_cell BK572.out 1).trans rfl; have hcz58_2 : w57.cell? ⟨gb572, 2, none⟩ = some (.int .u64 a0_2) := (blk_cell BK572.out 2).trans rfl; have hcz58_3 : w57.cell? ⟨gb572, 3, none⟩ = some (.int .u64 a0_3) := (blk_cell BK572.out 3).trans rfl; have hcz58_4 : w57.cell? ⟨gb572, 4, none⟩ = some (.int .u64 a0_4) := (blk_cell BK572.out 4).trans rfl; have hfz58_0 := blk_frozen BK572.out 0; have hfz58_1 := blk_frozen BK572.out 1; have hfz58_2 := blk_frozen BK572.out 2; have hfz58_3 := blk_frozen BK572.out 3; have hfz58_4 := blk_frozen BK572.out 4) | ((with_reducible refine gate_callee (f := 29) rfl ?_); refine goesL_ (some 66) rfl rfl Try.func29 (by kernel_rfl) rfl #[.int .u64 a0_0, .int .u64 a0_1, .int .u64 t576, .int .u64 a0_3, .int .u64 a1] rfl (by (try simp only [List.map_toArray, List.map_cons, List.map_nil]); first | done | rfl | (simp only [List.length_drop, List.length_take]; rfl)) ?_; (with_reducible refine (gcra_Admit.calls kj4 a0_0 a0_1 t576 a0_3 a1 t578 t579 _ A16.out).mono ?_); rintro e w59 ⟨rfl, hb⟩; refine ⟨_, rfl, ?_⟩; have n0_ := Aside0.mk (blk_below (g := gb572) (o := .cells #[.int .u64 a0_0, .int .u64 a0_1, .int .u64 a0_2, .int .u64 a0_3, .int .u64 a0_4] 46 (0, 0)) (by (with_reducible repeat (first | refine blk_drewN ?_ _ | refine blk_drew ?_ | refine blk_alloc ?_ _)); exact BK572.out) hb); have n1_ := Aside0.mk (below_step (by repeat (first | (with_reducible first | exact HB.out | apply below_alloc | apply pw_below_drewN | apply below_drew1 | refine below_set ?_ GE572.out) | exact HB.out)) hb); clear BK572; clear HB; have BK572 := n0_; have HB := n1_; clear n0_ n1_; (try clear hb); (try clear hb2); (try clear hk); (try clear hi); have hcz60_0 : w59.cell? ⟨gb572, 0, none⟩ = some (.int .u64 a0_0) := (blk_cell BK572.out 0).trans rfl; have hcz60_1 : w59.cell? ⟨gb572, 1, none⟩ = some (.int .u64 a0_1) := (blk_cell BK572.out 1).trans rfl; have hcz60_2 : w59.cell? ⟨gb572, 2, none⟩ = some (.int .u64 a0_2) := (blk_cell BK572.out 2).trans rfl; have hcz60_3 : w59.cell? ⟨gb572, 3, none⟩ = some (.int .u64 a0_3) := (blk_cell BK572.out 3).trans rfl; have hcz60_4 : w59.cell? ⟨gb572, 4, none⟩ = some (.int .u64 a0_4) := (blk_cell BK572.out 4).trans rfl; have hfz60_0 := blk_frozen BK572.out 0; have hfz60_1 := blk_frozen BK572.out 1; have hfz60_2 := blk_frozen BK572.out 2; have hfz60_3 := blk_frozen BK572.out 3; have hfz60_4 := blk_frozen BK572.out 4))
              go_ret
              exact ⟨by first | rfl | (simp [errW_none, errW_some] <;> rfl) | (simp [*, errW_none, errW_some] <;> rfl), by repeat (first | (with_reducible first | exact HB.out | apply below_alloc | apply pw_below_drewN | apply below_drew1 | refine below_set ?_ GE572.out) | exact HB.out)⟩
  · replace c4 := Bool.eq_false_iff.mpr c4
    subst c4
    have H1 : (some false) = some r := by rw [if_neg (show ¬ (false = true) by decide)] at H; exact H
    clear H
    have H := H1
    clear H1
    obtain rfl := Option.some.inj H
    go_enter Try.func12, Try.ntmps12
    go_wp2_with (first | ((with_reducible refine gate_dst (N := 2) rfl ?_); refine box_event ?hg (N := 2) ?hd (cs := #[.int .u64 a0_0, .int .u64 a0_1, .int .u64 a0_2, .int .u64 a0_3, .int .u64 a0_4]) (t := 46) ?hr ?_; (case hd => rfl); (case hg => rfl); (case hr => first | (go_simp; done) | (go_simp; rfl)); intro gb572 hg w61 hbox hb; have n0_ := Aside0.mk (below_step (by repeat (first | (with_reducible first | exact HB.out | apply below_alloc | apply pw_below_drewN | apply below_drew1) | exact HB.out)) hb); have n1_ := Aside0.mk (hbox); have n2_ := Aside0.mk ((by rw [hg]; exact (below_size (by repeat (first | (with_reducible first | exact HB.out | apply below_alloc | apply pw_below_drewN | apply below_drew1) | exact HB.out))) : w.heap.size ≤ gb572)); have n3_ := Aside0.mk ((by rw [hg]; exact (below_size (by repeat (first | (with_reducible first | exact HB.out | apply below_alloc | apply pw_below_drewN | apply below_drew1) | exact HB.out))) : w.heap.size ≤ gb572)); clear HB; have HB := n0_; have BK572 := n1_; have GW572 := n2_; have GE572 := n3_; clear n0_ n1_ n2_ n3_; clear hb hbox hg) | ((with_reducible refine gate_callee (f := 27) rfl ?_); refine goesL_ (some 11) rfl rfl Try.func27 (by kernel_rfl) rfl #[] rfl (by (try simp only [List.map_toArray, List.map_cons, List.map_nil]); first | done | rfl | (simp only [List.length_drop, List.length_take]; rfl)) ?_; (with_reducible refine (turnstilelaw04_lives.calls k  false _ A3.out).mono ?_); rintro e w62 ⟨rfl, hb⟩; refine ⟨_, rfl, ?_⟩; have n0_ := Aside0.mk (blk_below (g := gb572) (o := .cells #[.int .u64 a0_0, .int .u64 a0_1, .int .u64 a0_2, .int .u64 a0_3, .int .u64 a0_4] 46 (0, 0)) (by (with_reducible repeat (first | refine blk_drewN ?_ _ | refine blk_drew ?_ | refine blk_alloc ?_ _)); exact BK572.out) hb); have n1_ := Aside0.mk (below_step (by repeat (first | (with_reducible first | exact HB.out | apply below_alloc | apply pw_below_drewN | apply below_drew1 | refine below_set ?_ GE572.out) | exact HB.out)) hb); clear BK572; clear HB; have BK572 := n0_; have HB := n1_; clear n0_ n1_; (try clear hb); (try clear hb2); (try clear hk); (try clear hi)))
    go_ret
    exact ⟨by first | rfl | (simp [errW_none, errW_some] <;> rfl) | (simp [*, errW_none, errW_some] <;> rfl), by repeat (first | (with_reducible first | exact HB.out | apply below_alloc | apply pw_below_drewN | apply below_drew1 | refine below_set ?_ GE572.out) | exact HB.out)⟩


end Go.Proofs.Ythnpgilknoiaaaa.Q
