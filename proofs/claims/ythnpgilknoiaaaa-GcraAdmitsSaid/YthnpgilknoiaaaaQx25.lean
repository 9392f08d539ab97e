/- Written by the session's own program hyb.py: what functions of the program compute; Lean checks it. -/
import Derived.Test.YthnpgilknoiaaaaQx0
import Derived.Test.YthnpgilknoiaaaaQx17
namespace Go.Proofs.Ythnpgilknoiaaaa.Q
open Go.RowKit Go.Proofs.YthnpgilknoiaaaaW.PrintWords Go.Proofs.YthnpgilknoiaaaaW.PrintLast Go.Proofs.YthnpgilknoiaaaaW.PrintMore
attribute [local go_sem] run_Add64 run_Sub64
attribute [local go_sem] max2_int min2_int max_two min_two max_three min_three max_four min_four   -- for this text's walks alone
set_option linter.unusedVariables false
set_option linter.unusedSimpArgs false

/-! ### turnstilelaw04_yes: function 36 -/
def turnstilelaw04_yes.f (k : Nat) (a0_0 : Int) (a0_1 : Int) (a0_2 : Int) (a0_3 : Int) (a0_4 : Int) (a1 : Int) (a2 : Int) : Option (Bool) := (gcra_Admit.f k a0_0 a0_1 a0_2 a1 a2).bind fun bt548 => (if bt548.2 = true then (if bt548.1 ≥ a0_2 then (some (decide (bt548.1 > a1))) else (some false)) else (some false))
theorem turnstilelaw04_yes.mono : ∀ a0 a1 a2 a3 a4 a5 a6 k, LeO (turnstilelaw04_yes.f k a0 a1 a2 a3 a4 a5 a6) (turnstilelaw04_yes.f (k + 1) a0 a1 a2 a3 a4 a5 a6) := by
  intro a0 a1 a2 a3 a4 a5 a6 k
  unfold turnstilelaw04_yes.f
  repeat' first
      | (with_reducible exact gcra_Admit.mono _ _ _ _ _ _)
      | (with_reducible exact LeO.refl _)
      | (with_reducible exact LeO.none _)
      | (with_reducible refine LeO.ite ?_ ?_)
      | (with_reducible refine LeO.bind ?_ (fun _ => ?_))
      | exact gcra_Admit.mono _ _ _ _ _ _
      | exact LeO.none _
      | refine LeO.ite ?_ ?_
      | refine LeO.bind ?_ (fun _ => ?_)
set_option maxHeartbeats 8000000 in
set_option maxRecDepth 100000 in
theorem turnstilelaw04_yes.calls (k : Nat) (a0_0 : Int) (a0_1 : Int) (a0_2 : Int) (a0_3 : Int) (a0_4 : Int) (a1 : Int) (a2 : Int) (r : Bool) (w : World) (h : turnstilelaw04_yes.f k a0_0 a0_1 a0_2 a0_3 a0_4 a1 a2 = some r) :
    Calls Try.prog 36 #[.agg #[.int .u64 a0_0, .int .u64 a0_1, .int .u64 a0_2, .int .u64 a0_3, .int .u64 a0_4], .int .u64 a1, .int .u64 a2] w fun e w' => e = .returned (.bool r) ∧ Below w.heap.size w w' := by
  have hu46 := Try.underlying46
  have HB := Aside0.mk (Below.refl w.heap.size w)
  have H : ((gcra_Admit.f k a0_0 a0_1 a0_2 a1 a2).bind fun bt548 => (if bt548.2 = true then (if bt548.1 ≥ a0_2 then (some (decide (bt548.1 > a1))) else (some false)) else (some false))) = some r := h
  clear h
  replace H := Option.bind_eq_some_iff.mp H
  obtain ⟨⟨t548, t549⟩, A40, H⟩ := H
  replace H : (if t549 = true then (if t548 ≥ a0_2 then (some (decide (t548 > a1))) else (some false)) else (some false)) = some r := H
  have A4 := Aside0.mk A40
  clear A40
  by_cases c5 : t549 = true
  · subst c5
    have H1 : (if t548 ≥ a0_2 then (some (decide (t548 > a1))) else (some false)) = some r := by rw [if_pos rfl] at H; exact H
    clear H
    have H := H1
    clear H1
    by_cases c6 : t548 ≥ a0_2
    · rw [if_pos c6] at H
      have c6b0 : decide (a0_2 ≤ t548) = true := decide_eq_true c6
      clear c6
      obtain rfl := Option.some.inj H
      go_enter Try.func36, Try.ntmps36
      go_wp2_with (first | ((with_reducible refine gate_dst (N := 3) rfl ?_); refine box_event ?hg (N := 3) ?hd (cs := #[.int .u64 a0_0, .int .u64 a0_1, .int .u64 a0_2, .int .u64 a0_3, .int .u64 a0_4]) (t := 46) ?hr ?_; (case hd => rfl); (case hg => rfl); (case hr => first | (go_simp; done) | (go_simp; rfl)); intro gb547 hg w7 hbox hb; have n0_ := Aside0.mk (below_step (by repeat (first | (with_reducible first | exact HB.out | apply below_alloc | apply pw_below_drewN | apply below_drew1) | exact HB.out)) hb); have n1_ := Aside0.mk (hbox); have n2_ := Aside0.mk ((by rw [hg]; exact (below_size (by repeat (first | (with_reducible first | exact HB.out | apply below_alloc | apply pw_below_drewN | apply below_drew1) | exact HB.out))) : w.heap.size ≤ gb547)); have n3_ := Aside0.mk ((by rw [hg]; exact (below_size (by repeat (first | (with_reducible first | exact HB.out | apply below_alloc | apply pw_below_drewN | apply below_drew1) | exact HB.out))) : w.heap.size ≤ gb547)); clear HB; have HB := n0_; have BK547 := n1_; have GW547 := n2_; have GE547 := n3_; clear n0_ n1_ n2_ n3_; clear hb hbox hg; have hcz8_0 : w7.cell? ⟨gb547, 0, none⟩ = some (.int .u64 a0_0) := (blk_cell BK547.out 0).trans rfl; have hcz8_1 : w7.cell? ⟨gb547, 1, none⟩ = some (.int .u64 a0_1) := (blk_cell BK547.out 1).trans rfl; have hcz8_2 : w7.cell? ⟨gb547, 2, none⟩ = some (.int .u64 a0_2) := (blk_cell BK547.out 2).trans rfl; have hcz8_3 : w7.cell? ⟨gb547, 3, none⟩ = some (.int .u64 a0_3) := (blk_cell BK547.out 3).trans rfl; have hcz8_4 : w7.cell? ⟨gb547, 4, none⟩ = some (.int .u64 a0_4) := (blk_cell BK547.out 4).trans rfl; have hfz8_0 := blk_frozen BK547.out 0; have hfz8_1 := blk_frozen BK547.out 1; have hfz8_2 := blk_frozen BK547.out 2; have hfz8_3 := blk_frozen BK547.out 3; have hfz8_4 := blk_frozen BK547.out 4) | ((with_reducible refine gate_callee (f := 29) rfl ?_); refine goesL_ (some 18) rfl rfl Try.func29 (by kernel_rfl) rfl #[.int .u64 a0_0, .int .u64 a0_1, .int .u64 a0_2, .int .u64 a1, .int .u64 a2] rfl (by (try simp only [List.map_toArray, List.map_cons, List.map_nil]); first | done | rfl | (simp only [List.length_drop, List.length_take]; rfl)) ?_; (with_reducible refine (gcra_Admit.calls k a0_0 a0_1 a0_2 a1 a2 t548 true _ A4.out).mono ?_); rintro e w9 ⟨rfl, hb⟩; refine ⟨_, rfl, ?_⟩; have n0_ := Aside0.mk (blk_below (g := gb547) (o := .cells #[.int .u64 a0_0, .int .u64 a0_1, .int .u64 a0_2, .int .u64 a0_3, .int .u64 a0_4] 46 (0, 0)) (by (with_reducible repeat (first | refine blk_drewN ?_ _ | refine blk_drew ?_ | refine blk_alloc ?_ _)); exact BK547.out) hb); have n1_ := Aside0.mk (below_step (by repeat (first | (with_reducible first | exact HB.out | apply below_alloc | apply pw_below_drewN | apply below_drew1 | refine below_set ?_ GE547.out) | exact HB.out)) hb); clear BK547; clear HB; have BK547 := n0_; have HB := n1_; clear n0_ n1_; (try clear hb); (try clear hb2); (try clear hk); (try clear hi); have hcz10_0 : w9.cell? ⟨gb547, 0, none⟩ = some (.int .u64 a0_0) := (blk_cell BK547.out 0).trans rfl; have hcz10_1 : w9.cell? ⟨gb547, 1, none⟩ = some (.int .u64 a0_1) := (blk_cell BK547.out 1).trans rfl; have hcz10_2 : w9.cell? ⟨gb547, 2, none⟩ = some (.int .u64 a0_2) := (blk_cell BK547.out 2).trans rfl; have hcz10_3 : w9.cell? ⟨gb547, 3, none⟩ = some (.int .u64 a0_3) := (blk_cell BK547.out 3).trans rfl; have hcz10_4 : w9.cell? ⟨gb547, 4, none⟩ = some (.int .u64 a0_4) := (blk_cell BK547.out 4).trans rfl; have hfz10_0 := blk_frozen BK547.out 0; have hfz10_1 := blk_frozen BK547.out 1; have hfz10_2 := blk_frozen BK547.out 2; have hfz10_3 := blk_frozen BK547.out 3; have hfz10_4 := blk_frozen BK547.out 4))
      go_ret
      exact ⟨by first | rfl | (simp [errW_none, errW_some] <;> rfl) | (simp [*, errW_none, errW_some] <;> rfl), by repeat (first | (with_reducible first | exact HB.out | apply below_alloc | apply pw_below_drewN | apply below_drew1 | refine below_set ?_ GE547.out) | exact HB.out)⟩
    · rw [if_neg c6] at H
      have c6b0 : decide (a0_2 ≤ t548) = false := decide_eq_false c6
      clear c6
      obtain rfl := Option.some.inj H
      go_enter Try.func36, Try.ntmps36
      go_wp2_with (first | ((with_reducible refine gate_dst (N := 3) rfl ?_); refine box_event ?hg (N := 3) ?hd (cs := #[.int .u64 a0_0, .int .u64 a0_1, .int .u64 a0_2, .int .u64 a0_3, .int .u64 a0_4]) (t := 46) ?hr ?_; (case hd => rfl); (case hg => rfl); (case hr => first | (go_simp; done) | (go_simp; rfl)); intro gb547 hg w11 hbox hb; have n0_ := Aside0.mk (below_step (by repeat (first | (with_reducible first | exact HB.out | apply below_alloc | apply pw_below_drewN | apply below_drew1) | exact HB.out)) hb); have n1_ := Aside0.mk (hbox); have n2_ := Aside0.mk ((by rw [hg]; exact (below_size (by repeat (first | (with_reducible first | exact HB.out | apply below_alloc | apply pw_below_drewN | apply below_drew1) | exact HB.out))) : w.heap.size ≤ gb547)); have n3_ := Aside0.mk ((by rw [hg]; exact (below_size (by repeat (first | (with_reducible first | exact HB.out | apply below_alloc | apply pw_below_drewN | apply below_drew1) | exact HB.out))) : w.heap.size ≤ gb547)); clear HB; have HB := n0_; have BK547 := n1_; have GW547 := n2_; have GE547 := n3_; clear n0_ n1_ n2_ n3_; clear hb hbox hg; have hcz12_0 : w11.cell? ⟨gb547, 0, none⟩ = some (.int .u64 a0_0) := (blk_cell BK547.out 0).trans rfl; have hcz12_1 : w11.cell? ⟨gb547, 1, none⟩ = some (.int .u64 a0_1) := (blk_cell BK547.out 1).trans rfl; have hcz12_2 : w11.cell? ⟨gb547, 2, none⟩ = some (.int .u64 a0_2) := (blk_cell BK547.out 2).trans rfl; have hcz12_3 : w11.cell? ⟨gb547, 3, none⟩ = some (.int .u64 a0_3) := (blk_cell BK547.out 3).trans rfl; have hcz12_4 : w11.cell? ⟨gb547, 4, none⟩ = some (.int .u64 a0_4) := (blk_cell BK547.out 4).trans rfl; have hfz12_0 := blk_frozen BK547.out 0; have hfz12_1 := blk_frozen BK547.out 1; have hfz12_2 := blk_frozen BK547.out 2; have hfz12_3 := blk_frozen BK547.out 3; have hfz12_4 := blk_frozen BK547.out 4) | ((with_reducible refine gate_callee (f := 29) rfl ?_); refine goesL_ (some 18) rfl rfl Try.func29 (by kernel_rfl) rfl #[.int .u64 a0_0, .int .u64 a0_1, .int .u64 a0_2, .int .u64 a1, .int .u64 a2] rfl (by (try simp only [List.map_toArray, List.map_cons, List.map_nil]); first | done | rfl | (simp only [List.length_drop, List.length_take]; rfl)) ?_; (with_reducible refine (gcra_Admit.calls k a0_0 a0_1 a0_2 a1 a2 t548 true _ A4.out).mono ?_); rintro e w13 ⟨rfl, hb⟩; refine ⟨_, rfl, ?_⟩; have n0_ := Aside0.mk (blk_below (g := gb547) (o := .cells #[.int .u64 a0_0, .int .u64 a0_1, .int .u64 a0_2, .int .u64 a0_3, .int .u64 a0_4] 46 (0, 0)) (by (with_reducible repeat (first | refine blk_drewN ?_ _ | refine blk_drew ?_ | refine blk_alloc ?_ _)); exact BK547.out) hb); have n1_ := Aside0.mk (below_step (by repeat (first | (with_reducible first | exact HB.out | apply below_alloc | apply pw_below_drewN | apply below_drew1 | refine below_set ?_ GE547.out) | exact HB.out)) hb); clear BK547; clear HB; have BK547 := n0_; have HB := n1_; clear n0_ n1_; (try clear hb); (try clear hb2); (try clear hk); (try clear hi); have hcz14_0 : w13.cell? ⟨gb547, 0, none⟩ = some (.int .u64 a0_0) := (blk_cell BK547.out 0).trans rfl; have hcz14_1 : w13.cell? ⟨gb547, 1, none⟩ = some (.int .u64 a0_1) := (blk_cell BK547.out 1).trans rfl; have hcz14_2 : w13.cell? ⟨gb547, 2, none⟩ = some (.int .u64 a0_2) := (blk_cell BK547.out 2).trans rfl; have hcz14_3 : w13.cell? ⟨gb547, 3, none⟩ = some (.int .u64 a0_3) := (blk_cell BK547.out 3).trans rfl; have hcz14_4 : w13.cell? ⟨gb547, 4, none⟩ = some (.int .u64 a0_4) := (blk_cell BK547.out 4).trans rfl; have hfz14_0 := blk_frozen BK547.out 0; have hfz14_1 := blk_frozen BK547.out 1; have hfz14_2 := blk_frozen BK547.out 2; have hfz14_3 := blk_frozen BK547.out 3; have hfz14_4 := blk_frozen BK547.out 4))
      go_ret
      exact ⟨by first | rfl | (simp [errW_none, errW_some] <;> rfl) | (simp [*, errW_none, errW_some] <;> rfl), by repeat (first | (with_reducible first | exact HB.out | apply below_alloc | apply pw_below_drewN | apply below_drew1 | refine below_set ?_ GE547.out) | exact HB.out)⟩
  · replace c5 := Bool.eq_false_iff.mpr c5
    subst c5
    have H1 : (some false) = some r := by rw [if_neg (show ¬ (false = true) by decide)] at H; exact H
    clear H
    have H := H1
    clear H1
    obtain rfl := Option.some.inj H
    go_enter Try.func36, Try.ntmps36
    go_wp2_with (first | ((with_reducible refine gate_dst (N := 3) rfl ?_); refine box_event ?hg (N := 3) ?hd (cs := #[.int .u64 a0_0, .int .u64 a0_1, .int .u64 a0_2, .int .u64 a0_3, .int .u64 a0_4]) (t := 46) ?hr ?_; (case hd => rfl); (case hg => rfl); (case hr => first | (go_simp; done) | (go_simp; rfl)); intro gb547 hg w15 hbox hb; have n0_ := Aside0.mk (below_step (by repeat (first | (with_reducible first | exact HB.out | apply below_alloc | apply pw_below_drewN | apply below_drew1) | exact HB.out)) hb); have n1_ := Aside0.mk (hbox); have n2_ := Aside0.mk ((by rw [hg]; exact (below_size (by repeat (first | (with_reducible first | exact HB.out | apply below_alloc | apply pw_below_drewN | apply below_drew1) | exact HB.out))) : w.heap.size ≤ gb547)); have n3_ := Aside0.mk ((by rw [hg]; exact (below_size (by repeat (first | (with_reducible first | exact HB.out | apply below_alloc | apply pw_below_drewN | apply below_drew1) | exact HB.out))) : w.heap.size ≤ gb547)); clear HB; have HB := n0_; have BK547 := n1_; have GW547 := n2_; have GE547 := n3_; clear n0_ n1_ n2_ n3_; clear hb hbox hg; have hcz16_0 : w15.cell? ⟨gb547, 0, none⟩ = some (.int .u64 a0_0) := (blk_cell BK547.out 0).trans rfl; have hcz16_1 : w15.cell? ⟨gb547, 1, none⟩ = some (.int .u64 a0_1) := (blk_cell BK547.out 1).trans rfl; have hcz16_2 : w15.cell? ⟨gb547, 2, none⟩ = some (.int .u64 a0_2) := (blk_cell BK547.out 2).trans rfl; have hcz16_3 : w15.cell? ⟨gb547, 3, none⟩ = some (.int .u64 a0_3) := (blk_cell BK547.out 3).trans rfl; have hcz16_4 : w15.cell? ⟨gb547, 4, none⟩ = some (.int .u64 a0_4) := (blk_cell BK547.out 4).trans rfl; have hfz16_0 := blk_frozen BK547.out 0; have hfz16_1 := blk_frozen BK547.out 1; have hfz16_2 := blk_frozen BK547.out 2; have hfz16_3 := blk_frozen BK547.out 3; have hfz16_4 := blk_frozen BK547.out 4) | ((with_reducible refine gate_callee (f := 29) rfl ?_); refine goesL_ (some 18) rfl rfl Try.func29 (by kernel_rfl) rfl #[.int .u64 a0_0, .int .u64 a0_1, .int .u64 a0_2, .int .u64 a1, .int .u64 a2] rfl (by (try simp only [List.map_toArray, List.map_cons, List.map_nil]); first | done | rfl | (simp only [List.length_drop, List.length_take]; rfl)) ?_; (with_reducible refine (gcra_Admit.calls k a0_0 a0_1 a0_2 a1 a2 t548 false _ A4.out).mono ?_); rintro e w17 ⟨rfl, hb⟩; refine ⟨_, rfl, ?_⟩; have n0_ := Aside0.mk (blk_below (g := gb547) (o := .cells #[.int .u64 a0_0, .int .u64 a0_1, .int .u64 a0_2, .int .u64 a0_3, .int .u64 a0_4] 46 (0, 0)) (by (with_reducible repeat (first | refine blk_drewN ?_ _ | refine blk_drew ?_ | refine blk_alloc ?_ _)); exact BK547.out) hb); have n1_ := Aside0.mk (below_step (by repeat (first | (with_reducible first | exact HB.out | apply below_alloc | apply pw_below_drewN | apply below_drew1 | refine below_set ?_ GE547.out) | exact HB.out)) hb); clear BK547; clear HB; have BK547 := n0_; have HB := n1_; clear n0_ n1_; (try clear hb); (try clear hb2); (try clear hk); (try clear hi)))
    go_ret
    exact ⟨by first | rfl | (simp [errW_none, errW_some] <;> rfl) | (simp [*, errW_none, errW_some] <;> rfl), by repeat (first | (with_reducible first | exact HB.out | apply below_alloc | apply pw_below_drewN | apply below_drew1 | refine below_set ?_ GE547.out) | exact HB.out)⟩

end Go.Proofs.Ythnpgilknoiaaaa.Q
