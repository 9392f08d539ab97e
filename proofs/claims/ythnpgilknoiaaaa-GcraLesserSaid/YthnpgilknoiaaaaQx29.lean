/- Written by the session's own program hyb.py: what functions of the program compute; Lean checks it. -/
import Derived.Test.YthnpgilknoiaaaaQx0
import Derived.Test.YthnpgilknoiaaaaQx4
import Derived.Test.YthnpgilknoiaaaaQx5
import Derived.Test.YthnpgilknoiaaaaQx6
import Derived.Test.YthnpgilknoiaaaaQx17
import Derived.Test.YthnpgilknoiaaaaQx20
namespace Go.Proofs.Ythnpgilknoiaaaa.Q
open Go.RowKit Go.Proofs.YthnpgilknoiaaaaW.PrintWords Go.Proofs.YthnpgilknoiaaaaW.PrintLast Go.Proofs.YthnpgilknoiaaaaW.PrintMore
attribute [local go_sem] run_Add64 run_Sub64
attribute [local go_sem] max2_int min2_int max_two min_two max_three min_three max_four min_four   -- for this text's walks alone
set_option linter.unusedVariables false
set_option linter.unusedSimpArgs false

/-! ### turnstilelaw04_GcraLesser: function 13 -/
mutual
def turnstilelaw04_GcraLesser.j0 : Nat → Int → Int → Int → Int → Int → Int → Option (Bool)
  | 0, _, _, _, _, _, _ => none
  | k + 1, x2, x581000, x581001, x581002, x581003, x581004 => if x2 < x581003 then (some true) else (if x581002 > x2 then (turnstilelaw04_GcraLesser.j1 k x2 x581002 x581000 x581001 x581002 x581003 x581004) else (turnstilelaw04_GcraLesser.j1 k x2 x2 x581000 x581001 x581002 x581003 x581004))
def turnstilelaw04_GcraLesser.j1 : Nat → Int → Int → Int → Int → Int → Int → Int → Option (Bool)
  | 0, _, _, _, _, _, _, _ => none
  | k + 1, x2, x11, x581000, x581001, x581002, x581003, x581004 => (sat_Product.f x581004 x581000).bind fun bt586 => ((sat_Of.f x11).bind fun bt588 => ((sat_Wide_Plus.f bt586.1 bt586.2 bt588.1 bt588.2).bind fun bt590 => ((gcra_Admit.f k x581000 x581001 x581002 x2 x581004).bind fun bt593 => ((sat_Of.f 18446744073709551615).bind fun bt595 => ((sat_Wide_Cmp.f bt590.1 bt590.2 bt595.1 bt595.2).bind fun t597 => (some (bt593.2 == (decide (t597 ≤ 0)))))))))
end
def turnstilelaw04_GcraLesser.f (k : Nat) (a0_0 : Int) (a0_1 : Int) (a0_2 : Int) (a0_3 : Int) (a0_4 : Int) (a1 : Int) (a2 : Int) : Option (Bool) := (turnstilelaw04_lives.f k).bind fun t581 => (if t581 = true then ((gcra_Admit.f k a0_0 a0_1 a0_2 a0_3 a0_4).bind fun bt582 => (if bt582.2 = true then (if a1 ≤ a0_2 then ((gcra_Admit.f k a0_0 a0_1 a1 a0_3 a0_4).bind fun bt584 => (if bt584.2 = true then (if bt584.1 > bt582.1 then (some false) else (turnstilelaw04_GcraLesser.j0 k a2 a0_0 a0_1 a0_2 a0_3 a0_4)) else (some false))) else (turnstilelaw04_GcraLesser.j0 k a2 a0_0 a0_1 a0_2 a0_3 a0_4)) else (some (bt582.1 == a0_2)))) else (some false))
theorem turnstilelaw04_GcraLesser.mono_l : ∀ k, (∀ y0 y1 y2 y3 y4 y5, LeO (turnstilelaw04_GcraLesser.j0 k y0 y1 y2 y3 y4 y5) (turnstilelaw04_GcraLesser.j0 (k + 1) y0 y1 y2 y3 y4 y5)) ∧ (∀ y0 y1 y2 y3 y4 y5 y6, LeO (turnstilelaw04_GcraLesser.j1 k y0 y1 y2 y3 y4 y5 y6) (turnstilelaw04_GcraLesser.j1 (k + 1) y0 y1 y2 y3 y4 y5 y6))
  | 0 => ⟨fun _ _ _ _ _ _ r h => by simp [turnstilelaw04_GcraLesser.j0] at h, fun _ _ _ _ _ _ _ r h => by simp [turnstilelaw04_GcraLesser.j1] at h⟩
  | k + 1 => by
    obtain ⟨ih0, ih1⟩ := turnstilelaw04_GcraLesser.mono_l k
    refine ⟨?_, ?_⟩
    · intro y0 y1 y2 y3 y4 y5
      unfold turnstilelaw04_GcraLesser.j0
      repeat' first
      | (with_reducible exact ih0 _ _ _ _ _ _)
      | (with_reducible exact ih1 _ _ _ _ _ _ _)
      | (with_reducible exact gcra_Admit.mono _ _ _ _ _ _)
      | (with_reducible exact turnstilelaw04_lives.mono _)
      | (with_reducible exact LeO.refl _)
      | (with_reducible exact LeO.none _)
      | (with_reducible refine LeO.ite ?_ ?_)
      | (with_reducible refine LeO.bind ?_ (fun _ => ?_))
      | exact ih0 _ _ _ _ _ _
      | exact ih1 _ _ _ _ _ _ _
      | exact gcra_Admit.mono _ _ _ _ _ _
      | exact turnstilelaw04_lives.mono _
      | exact LeO.none _
      | refine LeO.ite ?_ ?_
      | refine LeO.bind ?_ (fun _ => ?_)
    · intro y0 y1 y2 y3 y4 y5 y6
      unfold turnstilelaw04_GcraLesser.j1
      repeat' first
      | (with_reducible exact ih0 _ _ _ _ _ _)
      | (with_reducible exact ih1 _ _ _ _ _ _ _)
      | (with_reducible exact gcra_Admit.mono _ _ _ _ _ _)
      | (with_reducible exact turnstilelaw04_lives.mono _)
      | (with_reducible exact LeO.refl _)
      | (with_reducible exact LeO.none _)
      | (with_reducible refine LeO.ite ?_ ?_)
      | (with_reducible refine LeO.bind ?_ (fun _ => ?_))
      | exact ih0 _ _ _ _ _ _
      | exact ih1 _ _ _ _ _ _ _
      | exact gcra_Admit.mono _ _ _ _ _ _
      | exact turnstilelaw04_lives.mono _
      | exact LeO.none _
      | refine LeO.ite ?_ ?_
      | refine LeO.bind ?_ (fun _ => ?_)
theorem turnstilelaw04_GcraLesser.mono : ∀ a0 a1 a2 a3 a4 a5 a6 k, LeO (turnstilelaw04_GcraLesser.f k a0 a1 a2 a3 a4 a5 a6) (turnstilelaw04_GcraLesser.f (k + 1) a0 a1 a2 a3 a4 a5 a6) := by
  intro a0 a1 a2 a3 a4 a5 a6 k
  obtain ⟨ih0, ih1⟩ := turnstilelaw04_GcraLesser.mono_l k
  unfold turnstilelaw04_GcraLesser.f
  repeat' first
      | (with_reducible exact ih0 _ _ _ _ _ _)
      | (with_reducible exact ih1 _ _ _ _ _ _ _)
      | (with_reducible exact gcra_Admit.mono _ _ _ _ _ _)
      | (with_reducible exact turnstilelaw04_lives.mono _)
      | (with_reducible exact LeO.refl _)
      | (with_reducible exact LeO.none _)
      | (with_reducible refine LeO.ite ?_ ?_)
      | (with_reducible refine LeO.bind ?_ (fun _ => ?_))
      | exact ih0 _ _ _ _ _ _
      | exact ih1 _ _ _ _ _ _ _
      | exact gcra_Admit.mono _ _ _ _ _ _
      | exact turnstilelaw04_lives.mono _
      | exact LeO.none _
      | refine LeO.ite ?_ ?_
      | refine LeO.bind ?_ (fun _ => ?_)
set_option maxHeartbeats 8000000 in
set_option maxRecDepth 100000 in
theorem turnstilelaw04_GcraLesser.calls (k : Nat) (a0_0 : Int) (a0_1 : Int) (a0_2 : Int) (a0_3 : Int) (a0_4 : Int) (a1 : Int) (a2 : Int) (r : Bool) (w : World) (h : turnstilelaw04_GcraLesser.f k a0_0 a0_1 a0_2 a0_3 a0_4 a1 a2 = some r) :
    Calls Try.prog 13 #[.agg #[.int .u64 a0_0, .int .u64 a0_1, .int .u64 a0_2, .int .u64 a0_3, .int .u64 a0_4], .int .u64 a1, .int .u64 a2] w fun e w' => e = .returned (.bool r) ∧ Below w.heap.size w w' := by
  have hu46 := Try.underlying46
  have hu24 := Try.underlying24
  have HB := Aside0.mk (Below.refl w.heap.size w)
  have H : ((turnstilelaw04_lives.f k).bind fun t581 => (if t581 = true then ((gcra_Admit.f k a0_0 a0_1 a0_2 a0_3 a0_4).bind fun bt582 => (if bt582.2 = true then (if a1 ≤ a0_2 then ((gcra_Admit.f k a0_0 a0_1 a1 a0_3 a0_4).bind fun bt584 => (if bt584.2 = true then (if bt584.1 > bt582.1 then (some false) else (turnstilelaw04_GcraLesser.j0 k a2 a0_0 a0_1 a0_2 a0_3 a0_4)) else (some false))) else (turnstilelaw04_GcraLesser.j0 k a2 a0_0 a0_1 a0_2 a0_3 a0_4)) else (some (bt582.1 == a0_2)))) else (some false))) = some r := h
  clear h
  replace H := Option.bind_eq_some_iff.mp H
  obtain ⟨t581, A40, H⟩ := H
  replace H : (if t581 = true then ((gcra_Admit.f k a0_0 a0_1 a0_2 a0_3 a0_4).bind fun bt582 => (if bt582.2 = true then (if a1 ≤ a0_2 then ((gcra_Admit.f k a0_0 a0_1 a1 a0_3 a0_4).bind fun bt584 => (if bt584.2 = true then (if bt584.1 > bt582.1 then (some false) else (turnstilelaw04_GcraLesser.j0 k a2 a0_0 a0_1 a0_2 a0_3 a0_4)) else (some false))) else (turnstilelaw04_GcraLesser.j0 k a2 a0_0 a0_1 a0_2 a0_3 a0_4)) else (some (bt582.1 == a0_2)))) else (some false)) = some r := H
  have A4 := Aside0.mk A40
  clear A40
  by_cases c5 : t581 = true
  · subst c5
    have H1 : ((gcra_Admit.f k a0_0 a0_1 a0_2 a0_3 a0_4).bind fun bt582 => (if bt582.2 = true then (if a1 ≤ a0_2 then ((gcra_Admit.f k a0_0 a0_1 a1 a0_3 a0_4).bind fun bt584 => (if bt584.2 = true then (if bt584.1 > bt582.1 then (some false) else (turnstilelaw04_GcraLesser.j0 k a2 a0_0 a0_1 a0_2 a0_3 a0_4)) else (some false))) else (turnstilelaw04_GcraLesser.j0 k a2 a0_0 a0_1 a0_2 a0_3 a0_4)) else (some (bt582.1 == a0_2)))) = some r := by rw [if_pos rfl] at H; exact H
    clear H
    have H := H1
    clear H1
    replace H := Option.bind_eq_some_iff.mp H
    obtain ⟨⟨t582, t583⟩, A60, H⟩ := H
    replace H : (if t583 = true then (if a1 ≤ a0_2 then ((gcra_Admit.f k a0_0 a0_1 a1 a0_3 a0_4).bind fun bt584 => (if bt584.2 = true then (if bt584.1 > t582 then (some false) else (turnstilelaw04_GcraLesser.j0 k a2 a0_0 a0_1 a0_2 a0_3 a0_4)) else (some false))) else (turnstilelaw04_GcraLesser.j0 k a2 a0_0 a0_1 a0_2 a0_3 a0_4)) else (some (t582 == a0_2))) = some r := H
    have A6 := Aside0.mk A60
    clear A60
    by_cases c7 : t583 = true
    · subst c7
      have H1 : (if a1 ≤ a0_2 then ((gcra_Admit.f k a0_0 a0_1 a1 a0_3 a0_4).bind fun bt584 => (if bt584.2 = true then (if bt584.1 > t582 then (some false) else (turnstilelaw04_GcraLesser.j0 k a2 a0_0 a0_1 a0_2 a0_3 a0_4)) else (some false))) else (turnstilelaw04_GcraLesser.j0 k a2 a0_0 a0_1 a0_2 a0_3 a0_4)) = some r := by rw [if_pos rfl] at H; exact H
      clear H
      have H := H1
      clear H1
      have HC8 := Aside0.mk H
      clear H
      go_enter Try.func13, Try.ntmps13
      go_upto_if 40 with (first | ((with_reducible refine gate_dst (N := 3) rfl ?_); refine box_event ?hg (N := 3) ?hd (cs := #[.int .u64 a0_0, .int .u64 a0_1, .int .u64 a0_2, .int .u64 a0_3, .int .u64 a0_4]) (t := 46) ?hr ?_; (case hd => rfl); (case hg => rfl); (case hr => first | (go_simp; done) | (go_simp; rfl)); intro gb580 hg w9 hbox hb; have n0_ := Aside0.mk (below_step (by repeat (first | (with_reducible first | exact HB.out | apply below_alloc | apply pw_below_drewN | apply below_drew1) | exact HB.out)) hb); have n1_ := Aside0.mk (hbox); have n2_ := Aside0.mk ((by rw [hg]; exact (below_size (by repeat (first | (with_reducible first | exact HB.out | apply below_alloc | apply pw_below_drewN | apply below_drew1) | exact HB.out))) : w.heap.size ≤ gb580)); have n3_ := Aside0.mk ((by rw [hg]; exact (below_size (by repeat (first | (with_reducible first | exact HB.out | apply below_alloc | apply pw_below_drewN | apply below_drew1) | exact HB.out))) : w.heap.size ≤ gb580)); clear HB; have HB := n0_; have BK580 := n1_; have GW580 := n2_; have GE580 := n3_; clear n0_ n1_ n2_ n3_; clear hb hbox hg) | ((with_reducible refine gate_callee (f := 27) rfl ?_); refine goesL_ (some 15) rfl rfl Try.func27 (by kernel_rfl) rfl #[] rfl (by (try simp only [List.map_toArray, List.map_cons, List.map_nil]); first | done | rfl | (simp only [List.length_drop, List.length_take]; rfl)) ?_; (with_reducible refine (turnstilelaw04_lives.calls k  true _ A4.out).mono ?_); rintro e w10 ⟨rfl, hb⟩; refine ⟨_, rfl, ?_⟩; have n0_ := Aside0.mk (blk_below (g := gb580) (o := .cells #[.int .u64 a0_0, .int .u64 a0_1, .int .u64 a0_2, .int .u64 a0_3, .int .u64 a0_4] 46 (0, 0)) (by (with_reducible repeat (first | refine blk_drewN ?_ _ | refine blk_drew ?_ | refine blk_alloc ?_ _)); exact BK580.out) hb); have n1_ := Aside0.mk (below_step (by repeat (first | (with_reducible first | exact HB.out | apply below_alloc | apply pw_below_drewN | apply below_drew1 | refine below_set ?_ GE580.out) | exact HB.out)) hb); clear BK580; clear HB; have BK580 := n0_; have HB := n1_; clear n0_ n1_; (try clear hb); (try clear hb2); (try clear hk); (try clear hi); have hcz11_0 : w10.cell? ⟨gb580, 0, none⟩ = some (.int .u64 a0_0) := (blk_cell BK580.out 0).trans rfl; have hcz11_1 : w10.cell? ⟨gb580, 1, none⟩ = some (.int .u64 a0_1) := (blk_cell BK580.out 1).trans rfl; have hcz11_2 : w10.cell? ⟨gb580, 2, none⟩ = some (.int .u64 a0_2) := (blk_cell BK580.out 2).trans rfl; have hcz11_3 : w10.cell? ⟨gb580, 3, none⟩ = some (.int .u64 a0_3) := (blk_cell BK580.out 3).trans rfl; have hcz11_4 : w10.cell? ⟨gb580, 4, none⟩ = some (.int .u64 a0_4) := (blk_cell BK580.out 4).trans rfl; have hfz11_0 := blk_frozen BK580.out 0; have hfz11_1 := blk_frozen BK580.out 1; have hfz11_2 := blk_frozen BK580.out 2; have hfz11_3 := blk_frozen BK580.out 3; have hfz11_4 := blk_frozen BK580.out 4) | ((with_reducible refine gate_callee (f := 29) rfl ?_); refine goesL_ (some 28) rfl rfl Try.func29 (by kernel_rfl) rfl #[.int .u64 a0_0, .int .u64 a0_1, .int .u64 a0_2, .int .u64 a0_3, .int .u64 a0_4] rfl (by (try simp only [List.map_toArray, List.map_cons, List.map_nil]); first | done | rfl | (simp only [List.length_drop, List.length_take]; rfl)) ?_; (with_reducible refine (gcra_Admit.calls k a0_0 a0_1 a0_2 a0_3 a0_4 t582 true _ A6.out).mono ?_); rintro e w12 ⟨rfl, hb⟩; refine ⟨_, rfl, ?_⟩; have n0_ := Aside0.mk (blk_below (g := gb580) (o := .cells #[.int .u64 a0_0, .int .u64 a0_1, .int .u64 a0_2, .int .u64 a0_3, .int .u64 a0_4] 46 (0, 0)) (by (with_reducible repeat (first | refine blk_drewN ?_ _ | refine blk_drew ?_ | refine blk_alloc ?_ _)); exact BK580.out) hb); have n1_ := Aside0.mk (below_step (by repeat (first | (with_reducible first | exact HB.out | apply below_alloc | apply pw_below_drewN | apply below_drew1 | refine below_set ?_ GE580.out) | exact HB.out)) hb); clear BK580; clear HB; have BK580 := n0_; have HB := n1_; clear n0_ n1_; (try clear hb); (try clear hb2); (try clear hk); (try clear hi); have hcz13_0 : w12.cell? ⟨gb580, 0, none⟩ = some (.int .u64 a0_0) := (blk_cell BK580.out 0).trans rfl; have hcz13_1 : w12.cell? ⟨gb580, 1, none⟩ = some (.int .u64 a0_1) := (blk_cell BK580.out 1).trans rfl; have hcz13_2 : w12.cell? ⟨gb580, 2, none⟩ = some (.int .u64 a0_2) := (blk_cell BK580.out 2).trans rfl; have hcz13_3 : w12.cell? ⟨gb580, 3, none⟩ = some (.int .u64 a0_3) := (blk_cell BK580.out 3).trans rfl; have hcz13_4 : w12.cell? ⟨gb580, 4, none⟩ = some (.int .u64 a0_4) := (blk_cell BK580.out 4).trans rfl; have hfz13_0 := blk_frozen BK580.out 0; have hfz13_1 := blk_frozen BK580.out 1; have hfz13_2 := blk_frozen BK580.out 2; have hfz13_3 := blk_frozen BK580.out 3; have hfz13_4 := blk_frozen BK580.out 4))
      (try simp only [Act.put, List.setIfInBounds_toArray, List.set_cons_zero, List.set_cons_succ])
      go_cut [] (fun wc => ∃ (kq : Nat), Aside0 (turnstilelaw04_GcraLesser.j0 kq a2 a0_0 a0_1 a0_2 a0_3 a0_4 = some r) ∧ Aside0 (kq ≤ k) ∧ Aside0 (wc.heap[gb580]? = some (.cells #[.int .u64 a0_0, .int .u64 a0_1, .int .u64 a0_2, .int .u64 a0_3, .int .u64 a0_4] 46 (0, 0))) ∧ Aside0 (Below w.heap.size w wc))
      case first =>
        have H := HC8.out
        clear HC8
        by_cases c14 : a1 ≤ a0_2
        · rw [if_pos c14] at H
          have c14b0 : decide (a1 ≤ a0_2) = true := decide_eq_true c14
          clear c14
          (first | rw [c14b0] | (simp only [i64_w, i32_w]; rw [c14b0]) | skip)
          replace H := Option.bind_eq_some_iff.mp H
          obtain ⟨⟨t584, t585⟩, A150, H⟩ := H
          replace H : (if t585 = true then (if t584 > t582 then (some false) else (turnstilelaw04_GcraLesser.j0 k a2 a0_0 a0_1 a0_2 a0_3 a0_4)) else (some false)) = some r := H
          have A15 := Aside0.mk A150
          clear A150
          by_cases c16 : t585 = true
          · subst c16
            have H1 : (if t584 > t582 then (some false) else (turnstilelaw04_GcraLesser.j0 k a2 a0_0 a0_1 a0_2 a0_3 a0_4)) = some r := by rw [if_pos rfl] at H; exact H
            clear H
            have H := H1
            clear H1
            by_cases c17 : t584 > t582
            · rw [if_pos c17] at H
              have c17b0 : decide (t582 < t584) = true := decide_eq_true c17
              clear c17
              obtain rfl := Option.some.inj H
              have hcz18_0 : w12.cell? ⟨gb580, 0, none⟩ = some (.int .u64 a0_0) := (blk_cell BK580.out 0).trans rfl
              have hcz18_1 : w12.cell? ⟨gb580, 1, none⟩ = some (.int .u64 a0_1) := (blk_cell BK580.out 1).trans rfl
              have hcz18_2 : w12.cell? ⟨gb580, 2, none⟩ = some (.int .u64 a0_2) := (blk_cell BK580.out 2).trans rfl
              have hcz18_3 : w12.cell? ⟨gb580, 3, none⟩ = some (.int .u64 a0_3) := (blk_cell BK580.out 3).trans rfl
              have hcz18_4 : w12.cell? ⟨gb580, 4, none⟩ = some (.int .u64 a0_4) := (blk_cell BK580.out 4).trans rfl
              have hfz18_0 := blk_frozen BK580.out 0
              have hfz18_1 := blk_frozen BK580.out 1
              have hfz18_2 := blk_frozen BK580.out 2
              have hfz18_3 := blk_frozen BK580.out 3
              have hfz18_4 := blk_frozen BK580.out 4
              go_wp2_with (first | ((with_reducible refine gate_callee (f := 29) rfl ?_); refine goesL_ (some 51) rfl rfl Try.func29 (by kernel_rfl) rfl #[.int .u64 a0_0, .int .u64 a0_1, .int .u64 a1, .int .u64 a0_3, .int .u64 a0_4] rfl (by (try simp only [List.map_toArray, List.map_cons, List.map_nil]); first | done | rfl | (simp only [List.length_drop, List.length_take]; rfl)) ?_; (with_reducible refine (gcra_Admit.calls k a0_0 a0_1 a1 a0_3 a0_4 t584 true _ A15.out).mono ?_); rintro e w19 ⟨rfl, hb⟩; refine ⟨_, rfl, ?_⟩; have n0_ := Aside0.mk (blk_below (g := gb580) (o := .cells #[.int .u64 a0_0, .int .u64 a0_1, .int .u64 a0_2, .int .u64 a0_3, .int .u64 a0_4] 46 (0, 0)) (by (with_reducible repeat (first | refine blk_drewN ?_ _ | refine blk_drew ?_ | refine blk_alloc ?_ _)); exact BK580.out) hb); have n1_ := Aside0.mk (below_step (by repeat (first | (with_reducible first | exact HB.out | apply below_alloc | apply pw_below_drewN | apply below_drew1 | refine below_set ?_ GE580.out) | exact HB.out)) hb); clear BK580; clear HB; have BK580 := n0_; have HB := n1_; clear n0_ n1_; (try clear hb); (try clear hb2); (try clear hk); (try clear hi)))
              go_ret
              exact ⟨by first | rfl | (simp [errW_none, errW_some] <;> rfl) | (simp [*, errW_none, errW_some] <;> rfl), by repeat (first | (with_reducible first | exact HB.out | apply below_alloc | apply pw_below_drewN | apply below_drew1 | refine below_set ?_ GE580.out) | exact HB.out)⟩
            · rw [if_neg c17] at H
              have c17b0 : decide (t582 < t584) = false := decide_eq_false c17
              clear c17
              have H' := Aside0.mk H
              clear H
              have hcz20_0 : w12.cell? ⟨gb580, 0, none⟩ = some (.int .u64 a0_0) := (blk_cell BK580.out 0).trans rfl
              have hcz20_1 : w12.cell? ⟨gb580, 1, none⟩ = some (.int .u64 a0_1) := (blk_cell BK580.out 1).trans rfl
              have hcz20_2 : w12.cell? ⟨gb580, 2, none⟩ = some (.int .u64 a0_2) := (blk_cell BK580.out 2).trans rfl
              have hcz20_3 : w12.cell? ⟨gb580, 3, none⟩ = some (.int .u64 a0_3) := (blk_cell BK580.out 3).trans rfl
              have hcz20_4 : w12.cell? ⟨gb580, 4, none⟩ = some (.int .u64 a0_4) := (blk_cell BK580.out 4).trans rfl
              have hfz20_0 := blk_frozen BK580.out 0
              have hfz20_1 := blk_frozen BK580.out 1
              have hfz20_2 := blk_frozen BK580.out 2
              have hfz20_3 := blk_frozen BK580.out 3
              have hfz20_4 := blk_frozen BK580.out 4
              go_wp2_with (first | ((with_reducible refine gate_callee (f := 29) rfl ?_); refine goesL_ (some 51) rfl rfl Try.func29 (by kernel_rfl) rfl #[.int .u64 a0_0, .int .u64 a0_1, .int .u64 a1, .int .u64 a0_3, .int .u64 a0_4] rfl (by (try simp only [List.map_toArray, List.map_cons, List.map_nil]); first | done | rfl | (simp only [List.length_drop, List.length_take]; rfl)) ?_; (with_reducible refine (gcra_Admit.calls k a0_0 a0_1 a1 a0_3 a0_4 t584 true _ A15.out).mono ?_); rintro e w21 ⟨rfl, hb⟩; refine ⟨_, rfl, ?_⟩; have n0_ := Aside0.mk (blk_below (g := gb580) (o := .cells #[.int .u64 a0_0, .int .u64 a0_1, .int .u64 a0_2, .int .u64 a0_3, .int .u64 a0_4] 46 (0, 0)) (by (with_reducible repeat (first | refine blk_drewN ?_ _ | refine blk_drew ?_ | refine blk_alloc ?_ _)); exact BK580.out) hb); have n1_ := Aside0.mk (below_step (by repeat (first | (with_reducible first | exact HB.out | apply below_alloc | apply pw_below_drewN | apply below_drew1 | refine below_set ?_ GE580.out) | exact HB.out)) hb); clear BK580; clear HB; have BK580 := n0_; have HB := n1_; clear n0_ n1_; (try clear hb); (try clear hb2); (try clear hk); (try clear hi)))
              go_meet
              case rel => exact ⟨_, H', ⟨by first | omega | exact Nat.le_refl _⟩, ⟨by (with_reducible repeat (first | refine blk_drewN ?_ _ | refine blk_drew ?_ | refine blk_alloc ?_ _)); exact BK580.out⟩, ⟨by repeat (first | (with_reducible first | exact HB.out | apply below_alloc | apply pw_below_drewN | apply below_drew1 | refine below_set ?_ GE580.out) | exact HB.out)⟩⟩
          · replace c16 := Bool.eq_false_iff.mpr c16
            subst c16
            have H1 : (some false) = some r := by rw [if_neg (show ¬ (false = true) by decide)] at H; exact H
            clear H
            have H := H1
            clear H1
            obtain rfl := Option.some.inj H
            have hcz22_0 : w12.cell? ⟨gb580, 0, none⟩ = some (.int .u64 a0_0) := (blk_cell BK580.out 0).trans rfl
            have hcz22_1 : w12.cell? ⟨gb580, 1, none⟩ = some (.int .u64 a0_1) := (blk_cell BK580.out 1).trans rfl
            have hcz22_2 : w12.cell? ⟨gb580, 2, none⟩ = some (.int .u64 a0_2) := (blk_cell BK580.out 2).trans rfl
            have hcz22_3 : w12.cell? ⟨gb580, 3, none⟩ = some (.int .u64 a0_3) := (blk_cell BK580.out 3).trans rfl
            have hcz22_4 : w12.cell? ⟨gb580, 4, none⟩ = some (.int .u64 a0_4) := (blk_cell BK580.out 4).trans rfl
            have hfz22_0 := blk_frozen BK580.out 0
            have hfz22_1 := blk_frozen BK580.out 1
            have hfz22_2 := blk_frozen BK580.out 2
            have hfz22_3 := blk_frozen BK580.out 3
            have hfz22_4 := blk_frozen BK580.out 4
            go_wp2_with (first | ((with_reducible refine gate_callee (f := 29) rfl ?_); refine goesL_ (some 51) rfl rfl Try.func29 (by kernel_rfl) rfl #[.int .u64 a0_0, .int .u64 a0_1, .int .u64 a1, .int .u64 a0_3, .int .u64 a0_4] rfl (by (try simp only [List.map_toArray, List.map_cons, List.map_nil]); first | done | rfl | (simp only [List.length_drop, List.length_take]; rfl)) ?_; (with_reducible refine (gcra_Admit.calls k a0_0 a0_1 a1 a0_3 a0_4 t584 false _ A15.out).mono ?_); rintro e w23 ⟨rfl, hb⟩; refine ⟨_, rfl, ?_⟩; have n0_ := Aside0.mk (blk_below (g := gb580) (o := .cells #[.int .u64 a0_0, .int .u64 a0_1, .int .u64 a0_2, .int .u64 a0_3, .int .u64 a0_4] 46 (0, 0)) (by (with_reducible repeat (first | refine blk_drewN ?_ _ | refine blk_drew ?_ | refine blk_alloc ?_ _)); exact BK580.out) hb); have n1_ := Aside0.mk (below_step (by repeat (first | (with_reducible first | exact HB.out | apply below_alloc | apply pw_below_drewN | apply below_drew1 | refine below_set ?_ GE580.out) | exact HB.out)) hb); clear BK580; clear HB; have BK580 := n0_; have HB := n1_; clear n0_ n1_; (try clear hb); (try clear hb2); (try clear hk); (try clear hi)))
            go_ret
            exact ⟨by first | rfl | (simp [errW_none, errW_some] <;> rfl) | (simp [*, errW_none, errW_some] <;> rfl), by repeat (first | (with_reducible first | exact HB.out | apply below_alloc | apply pw_below_drewN | apply below_drew1 | refine below_set ?_ GE580.out) | exact HB.out)⟩
        · rw [if_neg c14] at H
          have c14b0 : decide (a1 ≤ a0_2) = false := decide_eq_false c14
          clear c14
          (first | rw [c14b0] | (simp only [i64_w, i32_w]; rw [c14b0]) | skip)
          have H' := Aside0.mk H
          clear H
          go_wp2
          go_meet
          case rel => exact ⟨_, H', ⟨by first | omega | exact Nat.le_refl _⟩, ⟨by (with_reducible repeat (first | refine blk_drewN ?_ _ | refine blk_drew ?_ | refine blk_alloc ?_ _)); exact BK580.out⟩, ⟨by repeat (first | (with_reducible first | exact HB.out | apply below_alloc | apply pw_below_drewN | apply below_drew1 | refine below_set ?_ GE580.out) | exact HB.out)⟩⟩
      case rest =>
        clear HC8
        try clear c1
        try clear c2
        try clear p2
        try clear c5
        try clear c7
        try clear c13
        try clear c14
        try clear c14b0
        try clear c16
        try clear c17
        try clear c17b0
        try clear hcz11_0
        try clear hcz11_1
        try clear hcz11_2
        try clear hcz11_3
        try clear hcz11_4
        try clear hcz13_0
        try clear hcz13_1
        try clear hcz13_2
        try clear hcz13_3
        try clear hcz13_4
        try clear hcz18_0
        try clear hcz18_1
        try clear hcz18_2
        try clear hcz18_3
        try clear hcz18_4
        try clear hcz20_0
        try clear hcz20_1
        try clear hcz20_2
        try clear hcz20_3
        try clear hcz20_4
        try clear hcz22_0
        try clear hcz22_1
        try clear hcz22_2
        try clear hcz22_3
        try clear hcz22_4
        try clear hfz11_0
        try clear hfz11_1
        try clear hfz11_2
        try clear hfz11_3
        try clear hfz11_4
        try clear hfz13_0
        try clear hfz13_1
        try clear hfz13_2
        try clear hfz13_3
        try clear hfz13_4
        try clear hfz18_0
        try clear hfz18_1
        try clear hfz18_2
        try clear hfz18_3
        try clear hfz18_4
        try clear hfz20_0
        try clear hfz20_1
        try clear hfz20_2
        try clear hfz20_3
        try clear hfz20_4
        try clear hfz22_0
        try clear hfz22_1
        try clear hfz22_2
        try clear hfz22_3
        try clear hfz22_4
        obtain ⟨kq, HA, HJ7, BK580, HB⟩ := hcut
        cases kq with
        | zero => exact absurd HA.out (by simp [turnstilelaw04_GcraLesser.j0])
        | succ kj7 =>
          have H := HA.out
          clear HA
          simp only [turnstilelaw04_GcraLesser.j0] at H
          by_cases c24 : a2 < a0_3
          · rw [if_pos c24] at H
            have c24b0 : decide (a2 < a0_3) = true := decide_eq_true c24
            clear c24
            obtain rfl := Option.some.inj H
            have hcz25_0 : wc.cell? ⟨gb580, 0, none⟩ = some (.int .u64 a0_0) := (blk_cell BK580.out 0).trans rfl
            have hcz25_1 : wc.cell? ⟨gb580, 1, none⟩ = some (.int .u64 a0_1) := (blk_cell BK580.out 1).trans rfl
            have hcz25_2 : wc.cell? ⟨gb580, 2, none⟩ = some (.int .u64 a0_2) := (blk_cell BK580.out 2).trans rfl
            have hcz25_3 : wc.cell? ⟨gb580, 3, none⟩ = some (.int .u64 a0_3) := (blk_cell BK580.out 3).trans rfl
            have hcz25_4 : wc.cell? ⟨gb580, 4, none⟩ = some (.int .u64 a0_4) := (blk_cell BK580.out 4).trans rfl
            have hfz25_0 := blk_frozen BK580.out 0
            have hfz25_1 := blk_frozen BK580.out 1
            have hfz25_2 := blk_frozen BK580.out 2
            have hfz25_3 := blk_frozen BK580.out 3
            have hfz25_4 := blk_frozen BK580.out 4
            go_wp2
            go_ret
            exact ⟨by first | rfl | (simp [errW_none, errW_some] <;> rfl) | (simp [*, errW_none, errW_some] <;> rfl), by repeat (first | (with_reducible first | exact HB.out | apply below_alloc | apply pw_below_drewN | apply below_drew1 | refine below_set ?_ GE580.out) | exact HB.out)⟩
          · rw [if_neg c24] at H
            have c24b0 : decide (a2 < a0_3) = false := decide_eq_false c24
            clear c24
            have HC26 := Aside0.mk H
            clear H
            have hcz27_0 : wc.cell? ⟨gb580, 0, none⟩ = some (.int .u64 a0_0) := (blk_cell BK580.out 0).trans rfl
            have hcz27_1 : wc.cell? ⟨gb580, 1, none⟩ = some (.int .u64 a0_1) := (blk_cell BK580.out 1).trans rfl
            have hcz27_2 : wc.cell? ⟨gb580, 2, none⟩ = some (.int .u64 a0_2) := (blk_cell BK580.out 2).trans rfl
            have hcz27_3 : wc.cell? ⟨gb580, 3, none⟩ = some (.int .u64 a0_3) := (blk_cell BK580.out 3).trans rfl
            have hcz27_4 : wc.cell? ⟨gb580, 4, none⟩ = some (.int .u64 a0_4) := (blk_cell BK580.out 4).trans rfl
            have hfz27_0 := blk_frozen BK580.out 0
            have hfz27_1 := blk_frozen BK580.out 1
            have hfz27_2 := blk_frozen BK580.out 2
            have hfz27_3 := blk_frozen BK580.out 3
            have hfz27_4 := blk_frozen BK580.out 4
            go_upto_if 69 with (fail)
            go_cut [11] (fun v11 wc => ∃ (kq : Nat) (x11_25 : Int), v11 = .int .u64 x11_25 ∧ Aside0 (turnstilelaw04_GcraLesser.j1 kq a2 x11_25 a0_0 a0_1 a0_2 a0_3 a0_4 = some r) ∧ Aside0 (kq ≤ kj7) ∧ Aside0 (wc.heap[gb580]? = some (.cells #[.int .u64 a0_0, .int .u64 a0_1, .int .u64 a0_2, .int .u64 a0_3, .int .u64 a0_4] 46 (0, 0))) ∧ Aside0 (Below w.heap.size w wc))
            case first =>
              have H := HC26.out
              clear HC26
              by_cases c28 : a0_2 > a2
              · rw [if_pos c28] at H
                have c28b0 : decide (a2 < a0_2) = true := decide_eq_true c28
                clear c28
                (first | rw [c28b0] | (simp only [i64_w, i32_w]; rw [c28b0]) | skip)
                have H' := Aside0.mk H
                clear H
                have hcz29_0 : wc.cell? ⟨gb580, 0, none⟩ = some (.int .u64 a0_0) := (blk_cell BK580.out 0).trans rfl
                have hcz29_1 : wc.cell? ⟨gb580, 1, none⟩ = some (.int .u64 a0_1) := (blk_cell BK580.out 1).trans rfl
                have hcz29_2 : wc.cell? ⟨gb580, 2, none⟩ = some (.int .u64 a0_2) := (blk_cell BK580.out 2).trans rfl
                have hcz29_3 : wc.cell? ⟨gb580, 3, none⟩ = some (.int .u64 a0_3) := (blk_cell BK580.out 3).trans rfl
                have hcz29_4 : wc.cell? ⟨gb580, 4, none⟩ = some (.int .u64 a0_4) := (blk_cell BK580.out 4).trans rfl
                have hfz29_0 := blk_frozen BK580.out 0
                have hfz29_1 := blk_frozen BK580.out 1
                have hfz29_2 := blk_frozen BK580.out 2
                have hfz29_3 := blk_frozen BK580.out 3
                have hfz29_4 := blk_frozen BK580.out 4
                go_wp2
                go_meet
                case rel => exact ⟨_, (a0_2), (by first | rfl | (simp; done) | (simp [*]; done)), H', ⟨by have := HJ7.out; first | omega | exact Nat.le_refl _⟩, ⟨by (with_reducible repeat (first | refine blk_drewN ?_ _ | refine blk_drew ?_ | refine blk_alloc ?_ _)); exact BK580.out⟩, ⟨by repeat (first | (with_reducible first | exact HB.out | apply below_alloc | apply pw_below_drewN | apply below_drew1 | refine below_set ?_ GE580.out) | exact HB.out)⟩⟩
              · rw [if_neg c28] at H
                have c28b0 : decide (a2 < a0_2) = false := decide_eq_false c28
                clear c28
                (first | rw [c28b0] | (simp only [i64_w, i32_w]; rw [c28b0]) | skip)
                have H' := Aside0.mk H
                clear H
                go_wp2
                go_meet
                case rel => exact ⟨_, (a2), (by first | rfl | (simp; done) | (simp [*]; done)), H', ⟨by have := HJ7.out; first | omega | exact Nat.le_refl _⟩, ⟨by (with_reducible repeat (first | refine blk_drewN ?_ _ | refine blk_drew ?_ | refine blk_alloc ?_ _)); exact BK580.out⟩, ⟨by repeat (first | (with_reducible first | exact HB.out | apply below_alloc | apply pw_below_drewN | apply below_drew1 | refine below_set ?_ GE580.out) | exact HB.out)⟩⟩
            case rest =>
              clear HC26
              try clear c1
              try clear c2
              try clear p2
              try clear c5
              try clear c7
              try clear c13
              try clear c14
              try clear c14b0
              try clear c16
              try clear c17
              try clear c17b0
              try clear c24
              try clear c24b0
              try clear c27
              try clear c28
              try clear c28b0
              try clear c29
              try clear hcz11_0
              try clear hcz11_1
              try clear hcz11_2
              try clear hcz11_3
              try clear hcz11_4
              try clear hcz13_0
              try clear hcz13_1
              try clear hcz13_2
              try clear hcz13_3
              try clear hcz13_4
              try clear hcz18_0
              try clear hcz18_1
              try clear hcz18_2
              try clear hcz18_3
              try clear hcz18_4
              try clear hcz20_0
              try clear hcz20_1
              try clear hcz20_2
              try clear hcz20_3
              try clear hcz20_4
              try clear hcz22_0
              try clear hcz22_1
              try clear hcz22_2
              try clear hcz22_3
              try clear hcz22_4
              try clear hcz25_0
              try clear hcz25_1
              try clear hcz25_2
              try clear hcz25_3
              try clear hcz25_4
              try clear hcz27_0
              try clear hcz27_1
              try clear hcz27_2
              try clear hcz27_3
              try clear hcz27_4
              try clear hcz29_0
              try clear hcz29_1
              try clear hcz29_2
              try clear hcz29_3
              try clear hcz29_4
              try clear hfz11_0
              try clear hfz11_1
              try clear hfz11_2
              try clear hfz11_3
              try clear hfz11_4
              try clear hfz13_0
              try clear hfz13_1
              try clear hfz13_2
              try clear hfz13_3
              try clear hfz13_4
              try clear hfz18_0
              try clear hfz18_1
              try clear hfz18_2
              try clear hfz18_3
              try clear hfz18_4
              try clear hfz20_0
              try clear hfz20_1
              try clear hfz20_2
              try clear hfz20_3
              try clear hfz20_4
              try clear hfz22_0
              try clear hfz22_1
              try clear hfz22_2
              try clear hfz22_3
              try clear hfz22_4
              try clear hfz25_0
              try clear hfz25_1
              try clear hfz25_2
              try clear hfz25_3
              try clear hfz25_4
              try clear hfz27_0
              try clear hfz27_1
              try clear hfz27_2
              try clear hfz27_3
              try clear hfz27_4
              try clear hfz29_0
              try clear hfz29_1
              try clear hfz29_2
              try clear hfz29_3
              try clear hfz29_4
              try clear p2
              obtain ⟨kq, x11_25, rfl, HA, HJ25, BK580, HB⟩ := hcut
              cases kq with
              | zero => exact absurd HA.out (by simp [turnstilelaw04_GcraLesser.j1])
              | succ kj25 =>
                have H := HA.out
                clear HA
                simp only [turnstilelaw04_GcraLesser.j1] at H
                replace H := Option.bind_eq_some_iff.mp H
                obtain ⟨⟨t586, t587⟩, A300, H⟩ := H
                replace H : ((sat_Of.f x11_25).bind fun bt588 => ((sat_Wide_Plus.f t586 t587 bt588.1 bt588.2).bind fun bt590 => ((gcra_Admit.f kj25 a0_0 a0_1 a0_2 a2 a0_4).bind fun bt593 => ((sat_Of.f 18446744073709551615).bind fun bt595 => ((sat_Wide_Cmp.f bt590.1 bt590.2 bt595.1 bt595.2).bind fun t597 => (some (bt593.2 == (decide (t597 ≤ 0))))))))) = some r := H
                have A30 := Aside0.mk A300
                clear A300
                replace H := Option.bind_eq_some_iff.mp H
                obtain ⟨⟨t588, t589⟩, A310, H⟩ := H
                replace H : ((sat_Wide_Plus.f t586 t587 t588 t589).bind fun bt590 => ((gcra_Admit.f kj25 a0_0 a0_1 a0_2 a2 a0_4).bind fun bt593 => ((sat_Of.f 18446744073709551615).bind fun bt595 => ((sat_Wide_Cmp.f bt590.1 bt590.2 bt595.1 bt595.2).bind fun t597 => (some (bt593.2 == (decide (t597 ≤ 0)))))))) = some r := H
                have A31 := Aside0.mk A310
                clear A310
                replace H := Option.bind_eq_some_iff.mp H
                obtain ⟨⟨t590, t591⟩, A320, H⟩ := H
                replace H : ((gcra_Admit.f kj25 a0_0 a0_1 a0_2 a2 a0_4).bind fun bt593 => ((sat_Of.f 18446744073709551615).bind fun bt595 => ((sat_Wide_Cmp.f t590 t591 bt595.1 bt595.2).bind fun t597 => (some (bt593.2 == (decide (t597 ≤ 0))))))) = some r := H
                have A32 := Aside0.mk A320
                clear A320
                replace H := Option.bind_eq_some_iff.mp H
                obtain ⟨⟨t593, t594⟩, A330, H⟩ := H
                replace H : ((sat_Of.f 18446744073709551615).bind fun bt595 => ((sat_Wide_Cmp.f t590 t591 bt595.1 bt595.2).bind fun t597 => (some (t594 == (decide (t597 ≤ 0)))))) = some r := H
                have A33 := Aside0.mk A330
                clear A330
                replace H := Option.bind_eq_some_iff.mp H
                obtain ⟨⟨t595, t596⟩, A340, H⟩ := H
                replace H : ((sat_Wide_Cmp.f t590 t591 t595 t596).bind fun t597 => (some (t594 == (decide (t597 ≤ 0))))) = some r := H
                have A34 := Aside0.mk A340
                clear A340
                replace H := Option.bind_eq_some_iff.mp H
                obtain ⟨t597, A350, H⟩ := H
                replace H : (some (t594 == (decide (t597 ≤ 0)))) = some r := H
                have A35 := Aside0.mk A350
                clear A350
                obtain rfl := Option.some.inj H
                have hcz36_0 : wc.cell? ⟨gb580, 0, none⟩ = some (.int .u64 a0_0) := (blk_cell BK580.out 0).trans rfl
                have hcz36_1 : wc.cell? ⟨gb580, 1, none⟩ = some (.int .u64 a0_1) := (blk_cell BK580.out 1).trans rfl
                have hcz36_2 : wc.cell? ⟨gb580, 2, none⟩ = some (.int .u64 a0_2) := (blk_cell BK580.out 2).trans rfl
                have hcz36_3 : wc.cell? ⟨gb580, 3, none⟩ = some (.int .u64 a0_3) := (blk_cell BK580.out 3).trans rfl
                have hcz36_4 : wc.cell? ⟨gb580, 4, none⟩ = some (.int .u64 a0_4) := (blk_cell BK580.out 4).trans rfl
                have hfz36_0 := blk_frozen BK580.out 0
                have hfz36_1 := blk_frozen BK580.out 1
                have hfz36_2 := blk_frozen BK580.out 2
                have hfz36_3 := blk_frozen BK580.out 3
                have hfz36_4 := blk_frozen BK580.out 4
                try go_wp2_with (first | ((with_reducible refine gate_callee (f := 17) rfl ?_); refine goesL_ (some 76) rfl rfl Try.func17 (by kernel_rfl) rfl #[.int .u64 a0_4, .int .u64 a0_0] rfl (by (try simp only [List.map_toArray, List.map_cons, List.map_nil]); first | done | rfl | (simp only [List.length_drop, List.length_take]; rfl)) ?_; (with_reducible refine (sat_Product.calls a0_4 a0_0 t586 t587 _ A30.out).mono ?_); rintro e w37 ⟨rfl, hb⟩; refine ⟨_, rfl, ?_⟩; have n0_ := Aside0.mk (blk_below (g := gb580) (o := .cells #[.int .u64 a0_0, .int .u64 a0_1, .int .u64 a0_2, .int .u64 a0_3, .int .u64 a0_4] 46 (0, 0)) (by (with_reducible repeat (first | refine blk_drewN ?_ _ | refine blk_drew ?_ | refine blk_alloc ?_ _)); exact BK580.out) hb); have n1_ := Aside0.mk (below_step (by repeat (first | (with_reducible first | exact HB.out | apply below_alloc | apply pw_below_drewN | apply below_drew1 | refine below_set ?_ GE580.out) | exact HB.out)) hb); clear BK580; clear HB; have BK580 := n0_; have HB := n1_; clear n0_ n1_; (try clear hb); (try clear hb2); (try clear hk); (try clear hi)) | ((with_reducible refine gate_callee (f := 20) rfl ?_); refine goesL_ (some 78) rfl rfl Try.func20 (by kernel_rfl) rfl #[.int .u64 x11_25] rfl (by (try simp only [List.map_toArray, List.map_cons, List.map_nil]); first | done | rfl | (simp only [List.length_drop, List.length_take]; rfl)) ?_; (with_reducible refine (sat_Of.calls x11_25 t588 t589 _ A31.out).mono ?_); rintro e w38 ⟨rfl, hb⟩; refine ⟨_, rfl, ?_⟩; have n0_ := Aside0.mk (blk_below (g := gb580) (o := .cells #[.int .u64 a0_0, .int .u64 a0_1, .int .u64 a0_2, .int .u64 a0_3, .int .u64 a0_4] 46 (0, 0)) (by (with_reducible repeat (first | refine blk_drewN ?_ _ | refine blk_drew ?_ | refine blk_alloc ?_ _)); exact BK580.out) hb); have n1_ := Aside0.mk (below_step (by repeat (first | (with_reducible first | exact HB.out | apply below_alloc | apply pw_below_drewN | apply below_drew1 | refine below_set ?_ GE580.out) | exact HB.out)) hb); clear BK580; clear HB; have BK580 := n0_; have HB := n1_; clear n0_ n1_; (try clear hb); (try clear hb2); (try clear hk); (try clear hi)) | ((with_reducible refine gate_callee (f := 19) rfl ?_); refine goesL_ (some 79) rfl rfl Try.func19 (by kernel_rfl) rfl #[.agg #[.int .u64 t586, .int .u64 t587], .agg #[.int .u64 t588, .int .u64 t589]] rfl (by (try simp only [List.map_toArray, List.map_cons, List.map_nil]); first | done | rfl | (simp only [List.length_drop, List.length_take]; rfl)) ?_; (with_reducible refine (sat_Wide_Plus.calls t586 t587 t588 t589 t590 t591 _ A32.out).mono ?_); rintro e w39 ⟨rfl, hb⟩; refine ⟨_, rfl, ?_⟩; have n0_ := Aside0.mk (blk_below (g := gb580) (o := .cells #[.int .u64 a0_0, .int .u64 a0_1, .int .u64 a0_2, .int .u64 a0_3, .int .u64 a0_4] 46 (0, 0)) (by (with_reducible repeat (first | refine blk_drewN ?_ _ | refine blk_drew ?_ | refine blk_alloc ?_ _)); exact BK580.out) hb); have n1_ := Aside0.mk (below_step (by repeat (first | (with_reducible first | exact HB.out | apply below_alloc | apply pw_below_drewN | apply below_drew1 | refine below_set ?_ GE580.out) | exact HB.out)) hb); clear BK580; clear HB; have BK580 := n0_; have HB := n1_; clear n0_ n1_; (try clear hb); (try clear hb2); (try clear hk); (try clear hi)) | ((with_reducible refine gate_dst (N := 12) rfl ?_); refine box_event ?hg (N := 12) ?hd (cs := #[.int .u64 0, .int .u64 0]) (t := 24) ?hr ?_; (case hd => rfl); (case hg => rfl); (case hr => first | (go_simp; done) | (go_simp; rfl)); intro gb592 hg w40 hbox hb; have n0_ := Aside0.mk (blk_below (g := gb580) (o := .cells #[.int .u64 a0_0, .int .u64 a0_1, .int .u64 a0_2, .int .u64 a0_3, .int .u64 a0_4] 46 (0, 0)) (by (with_reducible repeat (first | refine blk_drewN ?_ _ | refine blk_drew ?_ | refine blk_alloc ?_ _)); exact BK580.out) hb); have n1_ := Aside0.mk (below_step (by repeat (first | (with_reducible first | exact HB.out | apply below_alloc | apply pw_below_drewN | apply below_drew1 | refine below_set ?_ GE580.out) | exact HB.out)) hb); have n2_ := Aside0.mk (hbox); have n3_ := Aside0.mk ((by rw [hg]; exact (below_size (by repeat (first | (with_reducible first | exact HB.out | apply below_alloc | apply pw_below_drewN | apply below_drew1 | refine below_set ?_ GE580.out) | exact HB.out))) : w.heap.size ≤ gb592)); have n4_ := Aside0.mk ((by rw [hg]; exact (below_size (by repeat (first | (with_reducible first | exact HB.out | apply below_alloc | apply pw_below_drewN | apply below_drew1 | refine below_set ?_ GE580.out) | exact HB.out))) : w.heap.size ≤ gb592)); have n5_ := Aside0.mk ((by rw [hg]; exact Nat.ne_of_lt (blk_lt (g := gb580) (o := .cells #[.int .u64 a0_0, .int .u64 a0_1, .int .u64 a0_2, .int .u64 a0_3, .int .u64 a0_4] 46 (0, 0)) (by (with_reducible repeat (first | refine blk_drewN ?_ _ | refine blk_drew ?_ | refine blk_alloc ?_ _)); exact BK580.out)) : gb580 ≠ gb592)); have n6_ := Aside0.mk ((by rw [hg]; exact Nat.ne_of_gt (blk_lt (g := gb580) (o := .cells #[.int .u64 a0_0, .int .u64 a0_1, .int .u64 a0_2, .int .u64 a0_3, .int .u64 a0_4] 46 (0, 0)) (by (with_reducible repeat (first | refine blk_drewN ?_ _ | refine blk_drew ?_ | refine blk_alloc ?_ _)); exact BK580.out)) : gb592 ≠ gb580)); clear BK580; clear HB; have BK580 := n0_; have HB := n1_; have BK592 := n2_; have GW592 := n3_; have GE592 := n4_; have NB580_592 := n5_; have NB592_580 := n6_; clear n0_ n1_ n2_ n3_ n4_ n5_ n6_; clear hb hbox hg; have hnb41 := NB592_580.out; have hnc41 := NB580_592.out; have hcz42_0 : w40.cell? ⟨gb592, 0, none⟩ = some (.int .u64 0) := (blk_cell BK592.out 0).trans rfl; have hcz42_1 : w40.cell? ⟨gb592, 1, none⟩ = some (.int .u64 0) := (blk_cell BK592.out 1).trans rfl; have hfz42_0 := blk_frozen BK592.out 0; have hfz42_1 := blk_frozen BK592.out 1; have hcz43_0 : w40.cell? ⟨gb580, 0, none⟩ = some (.int .u64 a0_0) := (blk_cell BK580.out 0).trans rfl; have hcz43_1 : w40.cell? ⟨gb580, 1, none⟩ = some (.int .u64 a0_1) := (blk_cell BK580.out 1).trans rfl; have hcz43_2 : w40.cell? ⟨gb580, 2, none⟩ = some (.int .u64 a0_2) := (blk_cell BK580.out 2).trans rfl; have hcz43_3 : w40.cell? ⟨gb580, 3, none⟩ = some (.int .u64 a0_3) := (blk_cell BK580.out 3).trans rfl; have hcz43_4 : w40.cell? ⟨gb580, 4, none⟩ = some (.int .u64 a0_4) := (blk_cell BK580.out 4).trans rfl; have hfz43_0 := blk_frozen BK580.out 0; have hfz43_1 := blk_frozen BK580.out 1; have hfz43_2 := blk_frozen BK580.out 2; have hfz43_3 := blk_frozen BK580.out 3; have hfz43_4 := blk_frozen BK580.out 4) | ((with_reducible refine gate_callee (f := 29) rfl ?_); refine goesL_ (some 90) rfl rfl Try.func29 (by kernel_rfl) rfl #[.int .u64 a0_0, .int .u64 a0_1, .int .u64 a0_2, .int .u64 a2, .int .u64 a0_4] rfl (by (try simp only [List.map_toArray, List.map_cons, List.map_nil]); first | done | rfl | (simp only [List.length_drop, List.length_take]; rfl)) ?_; (with_reducible refine (gcra_Admit.calls kj25 a0_0 a0_1 a0_2 a2 a0_4 t593 t594 _ A33.out).mono ?_); rintro e w44 ⟨rfl, hb⟩; refine ⟨_, rfl, ?_⟩; have n0_ := Aside0.mk (blk_below (g := gb580) (o := .cells #[.int .u64 a0_0, .int .u64 a0_1, .int .u64 a0_2, .int .u64 a0_3, .int .u64 a0_4] 46 (0, 0)) (by (with_reducible repeat (first | refine blk_drewN ?_ _ | refine blk_drew ?_ | refine blk_alloc ?_ _)); refine blk_far ?_ NB580_592.out _; (with_reducible repeat (first | refine blk_drewN ?_ _ | refine blk_drew ?_ | refine blk_alloc ?_ _)); refine blk_far ?_ NB580_592.out _; (with_reducible repeat (first | refine blk_drewN ?_ _ | refine blk_drew ?_ | refine blk_alloc ?_ _)); exact BK580.out) hb); have n1_ := Aside0.mk (blk_below (g := gb592) (o := .cells #[.int .u64 t590, .int .u64 t591] 24 (0, 0)) (by (with_reducible repeat (first | refine blk_drewN ?_ _ | refine blk_drew ?_ | refine blk_alloc ?_ _)); refine blk_put (cs := #[.int .u64 t590, .int .u64 0]) ?_ 1 _ rfl; (with_reducible repeat (first | refine blk_drewN ?_ _ | refine blk_drew ?_ | refine blk_alloc ?_ _)); refine blk_put (cs := #[.int .u64 0, .int .u64 0]) ?_ 0 _ rfl; (with_reducible repeat (first | refine blk_drewN ?_ _ | refine blk_drew ?_ | refine blk_alloc ?_ _)); exact BK592.out) hb); have n2_ := Aside0.mk (below_step (by repeat (first | (with_reducible first | exact HB.out | apply below_alloc | apply pw_below_drewN | apply below_drew1 | refine below_set ?_ GE580.out | refine below_set ?_ GE592.out) | exact HB.out)) hb); clear BK580; clear BK592; clear HB; have BK580 := n0_; have BK592 := n1_; have HB := n2_; clear n0_ n1_ n2_; (try clear hb); (try clear hb2); (try clear hk); (try clear hi)))
                have n0_ := Aside0.mk (blk_drew BK580.out)
                have n1_ := Aside0.mk (blk_drew BK592.out)
                have n2_ := Aside0.mk (below_drew1 HB.out)
                clear BK580
                clear BK592
                clear HB
                have BK580 := n0_
                have BK592 := n1_
                have HB := n2_
                clear n0_ n1_ n2_
                refine start_ (n := 7) (S := fun w' => w'.cell? ⟨gb592, 0, none⟩ = some (.int .u64 t590) ∧ w'.cell? ⟨gb592, 1, none⟩ = some (.int .u64 t591)) (ds := []) #[false, false, false, false, false, false, false] (by kernel_rfl) rfl rfl ⟨(blk_cell BK592.out 0).trans rfl, (blk_cell BK592.out 1).trans rfl⟩ (fun hHeld => ?_)
                generalize w44.drew = w45 at BK580 BK592 HB hHeld ⊢
                refine pure_ (i := 0) (N := some 93) (v := ?_) (a' := ?_) #[true, false, false, false, false, false, false] rfl rfl (by kernel_rfl) (fun _ _ _ h => h) (Or.inl ⟨by rfl, ?_⟩) ?_ ?_
                rotate_left
                · intro w'
                  go_simp
                  with_reducible rfl
                rotate_left
                · simp only [Act.put, List.setIfInBounds_toArray, List.set_cons_zero, List.set_cons_succ, i64_w, i32_w]
                  rfl
                refine take_ (i := 1) (N := some 94) (v := ?_) (a' := ?_) #[true, true, false, false, false, false, false] rfl rfl (by kernel_rfl) (fun _ _ _ h => h) (Or.inl ⟨by rfl, ?_⟩) hHeld ?_ ?_
                rotate_left
                · rintro w' ⟨s0, s1⟩
                  go_simp
                  with_reducible rfl
                rotate_left
                · simp only [Act.put, List.setIfInBounds_toArray, List.set_cons_zero, List.set_cons_succ, i64_w, i32_w]
                  rfl
                refine one_ (i := 2) (N := some 95) #[true, true, true, false, false, false, false] rfl rfl (by kernel_rfl) (by decide) (fun K hK => ?_)
                refine goes_ Try.func20 (by kernel_rfl) rfl #[.int .u64 18446744073709551615] (by rfl) rfl rfl (by (try simp only [List.map_toArray, List.map_cons, List.map_nil]); first | done | rfl | (simp only [List.length_drop, List.length_take]; rfl)) ?_
                with_reducible refine (sat_Of.calls 18446744073709551615 t595 t596 _ A34.out).mono ?_
                rintro e w46 ⟨rfl, hb⟩
                refine ⟨_, rfl, ?_⟩
                have n0_ := Aside0.mk (blk_below (g := gb580) (o := .cells #[.int .u64 a0_0, .int .u64 a0_1, .int .u64 a0_2, .int .u64 a0_3, .int .u64 a0_4] 46 (0, 0)) (by (with_reducible repeat (first | refine blk_drewN ?_ _ | refine blk_drew ?_ | refine blk_alloc ?_ _)); exact BK580.out) hb)
                have n1_ := Aside0.mk (blk_below (g := gb592) (o := .cells #[.int .u64 t590, .int .u64 t591] 24 (0, 0)) (by (with_reducible repeat (first | refine blk_drewN ?_ _ | refine blk_drew ?_ | refine blk_alloc ?_ _)); exact BK592.out) hb)
                have n2_ := Aside0.mk (below_step (by repeat (first | (with_reducible first | exact HB.out | apply below_alloc | apply pw_below_drewN | apply below_drew1 | refine below_set ?_ GE580.out | refine below_set ?_ GE592.out) | exact HB.out)) hb)
                clear BK580
                clear BK592
                clear HB
                have BK580 := n0_
                have BK592 := n1_
                have HB := n2_
                clear n0_ n1_ n2_
                (try clear hb)
                (try clear hb2)
                (try clear hk)
                (try clear hi)
                refine hK.out _ _ ⟨(blk_cell BK592.out 0).trans rfl, (blk_cell BK592.out 1).trans rfl⟩ (fun hHeld => ?_)
                clear hK K
                refine norm_ (a' := ?_) ?_ ?_
                rotate_left
                · show Act.put _ (some 95) _ = _
                  simp only [Act.put, List.setIfInBounds_toArray, List.set_cons_zero, List.set_cons_succ, i64_w, i32_w]
                  rfl
                refine one_ (i := 3) (N := some 96) #[true, true, true, true, false, false, false] rfl rfl (by kernel_rfl) (by decide) (fun K hK => ?_)
                refine goes_ Try.func21 (by kernel_rfl) rfl #[.agg #[.int .u64 t590, .int .u64 t591], .agg #[.int .u64 t595, .int .u64 t596]] (by rfl) rfl rfl (by (try simp only [List.map_toArray, List.map_cons, List.map_nil]); first | done | rfl | (simp only [List.length_drop, List.length_take]; rfl)) ?_
                with_reducible refine (sat_Wide_Cmp.calls t590 t591 t595 t596 t597 _ A35.out).mono ?_
                rintro e w47 ⟨rfl, hb⟩
                refine ⟨_, rfl, ?_⟩
                have n0_ := Aside0.mk (blk_below (g := gb580) (o := .cells #[.int .u64 a0_0, .int .u64 a0_1, .int .u64 a0_2, .int .u64 a0_3, .int .u64 a0_4] 46 (0, 0)) (by (with_reducible repeat (first | refine blk_drewN ?_ _ | refine blk_drew ?_ | refine blk_alloc ?_ _)); exact BK580.out) hb)
                have n1_ := Aside0.mk (blk_below (g := gb592) (o := .cells #[.int .u64 t590, .int .u64 t591] 24 (0, 0)) (by (with_reducible repeat (first | refine blk_drewN ?_ _ | refine blk_drew ?_ | refine blk_alloc ?_ _)); exact BK592.out) hb)
                have n2_ := Aside0.mk (below_step (by repeat (first | (with_reducible first | exact HB.out | apply below_alloc | apply pw_below_drewN | apply below_drew1 | refine below_set ?_ GE580.out | refine below_set ?_ GE592.out) | exact HB.out)) hb)
                clear BK580
                clear BK592
                clear HB
                have BK580 := n0_
                have BK592 := n1_
                have HB := n2_
                clear n0_ n1_ n2_
                (try clear hb)
                (try clear hb2)
                (try clear hk)
                (try clear hi)
                refine hK.out _ _ ⟨(blk_cell BK592.out 0).trans rfl, (blk_cell BK592.out 1).trans rfl⟩ (fun hHeld => ?_)
                clear hK K
                refine norm_ (a' := ?_) ?_ ?_
                rotate_left
                · show Act.put _ (some 96) _ = _
                  simp only [Act.put, List.setIfInBounds_toArray, List.set_cons_zero, List.set_cons_succ, i64_w, i32_w]
                  rfl
                refine pure_ (i := 4) (N := some 97) (v := ?_) (a' := ?_) #[true, true, true, true, true, false, false] rfl rfl (by kernel_rfl) (fun _ _ _ h => h) (Or.inl ⟨by rfl, ?_⟩) ?_ ?_
                rotate_left
                · intro w'
                  go_simp
                  with_reducible rfl
                rotate_left
                · simp only [Act.put, List.setIfInBounds_toArray, List.set_cons_zero, List.set_cons_succ, i64_w, i32_w]
                  rfl
                refine pure_ (i := 5) (N := some 98) (v := ?_) (a' := ?_) #[true, true, true, true, true, true, false] rfl rfl (by kernel_rfl) (fun _ _ _ h => h) (Or.inl ⟨by rfl, ?_⟩) ?_ ?_
                rotate_left
                · intro w'
                  go_simp
                  with_reducible rfl
                rotate_left
                · simp only [Act.put, List.setIfInBounds_toArray, List.set_cons_zero, List.set_cons_succ, i64_w, i32_w]
                  rfl
                refine pure_ (i := 6) (N := some 6) (v := ?_) (a' := ?_) #[true, true, true, true, true, true, true] rfl rfl (by kernel_rfl) (fun _ _ _ h => h) (Or.inl ⟨by rfl, ?_⟩) ?_ ?_
                rotate_left
                · intro w'
                  go_simp
                  with_reducible rfl
                rotate_left
                · simp only [Act.put, List.setIfInBounds_toArray, List.set_cons_zero, List.set_cons_succ, i64_w, i32_w]
                  rfl
                refine done_ (by kernel_rfl) ?_
                try go_wp2
                go_ret
                exact ⟨by first | rfl | (simp [errW_none, errW_some] <;> rfl) | (simp [*, errW_none, errW_some] <;> rfl), by repeat (first | (with_reducible first | exact HB.out | apply below_alloc | apply pw_below_drewN | apply below_drew1 | refine below_set ?_ GE580.out | refine below_set ?_ GE592.out) | exact HB.out)⟩
    · replace c7 := Bool.eq_false_iff.mpr c7
      subst c7
      have H1 : (some (t582 == a0_2)) = some r := by rw [if_neg (show ¬ (false = true) by decide)] at H; exact H
      clear H
      have H := H1
      clear H1
      obtain rfl := Option.some.inj H
      go_enter Try.func13, Try.ntmps13
      go_wp2_with (first | ((with_reducible refine gate_dst (N := 3) rfl ?_); refine box_event ?hg (N := 3) ?hd (cs := #[.int .u64 a0_0, .int .u64 a0_1, .int .u64 a0_2, .int .u64 a0_3, .int .u64 a0_4]) (t := 46) ?hr ?_; (case hd => rfl); (case hg => rfl); (case hr => first | (go_simp; done) | (go_simp; rfl)); intro gb580 hg w48 hbox hb; have n0_ := Aside0.mk (below_step (by repeat (first | (with_reducible first | exact HB.out | apply below_alloc | apply pw_below_drewN | apply below_drew1) | exact HB.out)) hb); have n1_ := Aside0.mk (hbox); have n2_ := Aside0.mk ((by rw [hg]; exact (below_size (by repeat (first | (with_reducible first | exact HB.out | apply below_alloc | apply pw_below_drewN | apply below_drew1) | exact HB.out))) : w.heap.size ≤ gb580)); have n3_ := Aside0.mk ((by rw [hg]; exact (below_size (by repeat (first | (with_reducible first | exact HB.out | apply below_alloc | apply pw_below_drewN | apply below_drew1) | exact HB.out))) : w.heap.size ≤ gb580)); clear HB; have HB := n0_; have BK580 := n1_; have GW580 := n2_; have GE580 := n3_; clear n0_ n1_ n2_ n3_; clear hb hbox hg) | ((with_reducible refine gate_callee (f := 27) rfl ?_); refine goesL_ (some 15) rfl rfl Try.func27 (by kernel_rfl) rfl #[] rfl (by (try simp only [List.map_toArray, List.map_cons, List.map_nil]); first | done | rfl | (simp only [List.length_drop, List.length_take]; rfl)) ?_; (with_reducible refine (turnstilelaw04_lives.calls k  true _ A4.out).mono ?_); rintro e w49 ⟨rfl, hb⟩; refine ⟨_, rfl, ?_⟩; have n0_ := Aside0.mk (blk_below (g := gb580) (o := .cells #[.int .u64 a0_0, .int .u64 a0_1, .int .u64 a0_2, .int .u64 a0_3, .int .u64 a0_4] 46 (0, 0)) (by (with_reducible repeat (first | refine blk_drewN ?_ _ | refine blk_drew ?_ | refine blk_alloc ?_ _)); exact BK580.out) hb); have n1_ := Aside0.mk (below_step (by repeat (first | (with_reducible first | exact HB.out | apply below_alloc | apply pw_below_drewN | apply below_drew1 | refine below_set ?_ GE580.out) | exact HB.out)) hb); clear BK580; clear HB; have BK580 := n0_; have HB := n1_; clear n0_ n1_; (try clear hb); (try clear hb2); (try clear hk); (try clear hi); have hcz50_0 : w49.cell? ⟨gb580, 0, none⟩ = some (.int .u64 a0_0) := (blk_cell BK580.out 0).trans rfl; have hcz50_1 : w49.cell? ⟨gb580, 1, none⟩ = some (.int .u64 a0_1) := (blk_cell BK580.out 1).trans rfl; have hcz50_2 : w49.cell? ⟨gb580, 2, none⟩ = some (.int .u64 a0_2) := (blk_cell BK580.out 2).trans rfl; have hcz50_3 : w49.cell? ⟨gb580, 3, none⟩ = some (.int .u64 a0_3) := (blk_cell BK580.out 3).trans rfl; have hcz50_4 : w49.cell? ⟨gb580, 4, none⟩ = some (.int .u64 a0_4) := (blk_cell BK580.out 4).trans rfl; have hfz50_0 := blk_frozen BK580.out 0; have hfz50_1 := blk_frozen BK580.out 1; have hfz50_2 := blk_frozen BK580.out 2; have hfz50_3 := blk_frozen BK580.out 3; have hfz50_4 := blk_frozen BK580.out 4) | ((with_reducible refine gate_callee (f := 29) rfl ?_); refine goesL_ (some 28) rfl rfl Try.func29 (by kernel_rfl) rfl #[.int .u64 a0_0, .int .u64 a0_1, .int .u64 a0_2, .int .u64 a0_3, .int .u64 a0_4] rfl (by (try simp only [List.map_toArray, List.map_cons, List.map_nil]); first | done | rfl | (simp only [List.length_drop, List.length_take]; rfl)) ?_; (with_reducible refine (gcra_Admit.calls k a0_0 a0_1 a0_2 a0_3 a0_4 t582 false _ A6.out).mono ?_); rintro e w51 ⟨rfl, hb⟩; refine ⟨_, rfl, ?_⟩; have n0_ := Aside0.mk (blk_below (g := gb580) (o := .cells #[.int .u64 a0_0, .int .u64 a0_1, .int .u64 a0_2, .int .u64 a0_3, .int .u64 a0_4] 46 (0, 0)) (by (with_reducible repeat (first | refine blk_drewN ?_ _ | refine blk_drew ?_ | refine blk_alloc ?_ _)); exact BK580.out) hb); have n1_ := Aside0.mk (below_step (by repeat (first | (with_reducible first | exact HB.out | apply below_alloc | apply pw_below_drewN | apply below_drew1 | refine below_set ?_ GE580.out) | exact HB.out)) hb); clear BK580; clear HB; have BK580 := n0_; have HB := n1_; clear n0_ n1_; (try clear hb); (try clear hb2); (try clear hk); (try clear hi); have hcz52_0 : w51.cell? ⟨gb580, 0, none⟩ = some (.int .u64 a0_0) := (blk_cell BK580.out 0).trans rfl; have hcz52_1 : w51.cell? ⟨gb580, 1, none⟩ = some (.int .u64 a0_1) := (blk_cell BK580.out 1).trans rfl; have hcz52_2 : w51.cell? ⟨gb580, 2, none⟩ = some (.int .u64 a0_2) := (blk_cell BK580.out 2).trans rfl; have hcz52_3 : w51.cell? ⟨gb580, 3, none⟩ = some (.int .u64 a0_3) := (blk_cell BK580.out 3).trans rfl; have hcz52_4 : w51.cell? ⟨gb580, 4, none⟩ = some (.int .u64 a0_4) := (blk_cell BK580.out 4).trans rfl; have hfz52_0 := blk_frozen BK580.out 0; have hfz52_1 := blk_frozen BK580.out 1; have hfz52_2 := blk_frozen BK580.out 2; have hfz52_3 := blk_frozen BK580.out 3; have hfz52_4 := blk_frozen BK580.out 4))
      go_ret
      exact ⟨by first | rfl | (simp [errW_none, errW_some] <;> rfl) | (simp [*, errW_none, errW_some] <;> rfl), by repeat (first | (with_reducible first | exact HB.out | apply below_alloc | apply pw_below_drewN | apply below_drew1 | refine below_set ?_ GE580.out) | exact HB.out)⟩
  · replace c5 := Bool.eq_false_iff.mpr c5
    subst c5
    have H1 : (some false) = some r := by rw [if_neg (show ¬ (false = true) by decide)] at H; exact H
    clear H
    have H := H1
    clear H1
    obtain rfl := Option.some.inj H
    go_enter Try.func13, Try.ntmps13
    go_wp2_with (first | ((with_reducible refine gate_dst (N := 3) rfl ?_); refine box_event ?hg (N := 3) ?hd (cs := #[.int .u64 a0_0, .int .u64 a0_1, .int .u64 a0_2, .int .u64 a0_3, .int .u64 a0_4]) (t := 46) ?hr ?_; (case hd => rfl); (case hg => rfl); (case hr => first | (go_simp; done) | (go_simp; rfl)); intro gb580 hg w53 hbox hb; have n0_ := Aside0.mk (below_step (by repeat (first | (with_reducible first | exact HB.out | apply below_alloc | apply pw_below_drewN | apply below_drew1) | exact HB.out)) hb); have n1_ := Aside0.mk (hbox); have n2_ := Aside0.mk ((by rw [hg]; exact (below_size (by repeat (first | (with_reducible first | exact HB.out | apply below_alloc | apply pw_below_drewN | apply below_drew1) | exact HB.out))) : w.heap.size ≤ gb580)); have n3_ := Aside0.mk ((by rw [hg]; exact (below_size (by repeat (first | (with_reducible first | exact HB.out | apply below_alloc | apply pw_below_drewN | apply below_drew1) | exact HB.out))) : w.heap.size ≤ gb580)); clear HB; have HB := n0_; have BK580 := n1_; have GW580 := n2_; have GE580 := n3_; clear n0_ n1_ n2_ n3_; clear hb hbox hg) | ((with_reducible refine gate_callee (f := 27) rfl ?_); refine goesL_ (some 15) rfl rfl Try.func27 (by kernel_rfl) rfl #[] rfl (by (try simp only [List.map_toArray, List.map_cons, List.map_nil]); first | done | rfl | (simp only [List.length_drop, List.length_take]; rfl)) ?_; (with_reducible refine (turnstilelaw04_lives.calls k  false _ A4.out).mono ?_); rintro e w54 ⟨rfl, hb⟩; refine ⟨_, rfl, ?_⟩; have n0_ := Aside0.mk (blk_below (g := gb580) (o := .cells #[.int .u64 a0_0, .int .u64 a0_1, .int .u64 a0_2, .int .u64 a0_3, .int .u64 a0_4] 46 (0, 0)) (by (with_reducible repeat (first | refine blk_drewN ?_ _ | refine blk_drew ?_ | refine blk_alloc ?_ _)); exact BK580.out) hb); have n1_ := Aside0.mk (below_step (by repeat (first | (with_reducible first | exact HB.out | apply below_alloc | apply pw_below_drewN | apply below_drew1 | refine below_set ?_ GE580.out) | exact HB.out)) hb); clear BK580; clear HB; have BK580 := n0_; have HB := n1_; clear n0_ n1_; (try clear hb); (try clear hb2); (try clear hk); (try clear hi)))
    go_ret
    exact ⟨by first | rfl | (simp [errW_none, errW_some] <;> rfl) | (simp [*, errW_none, errW_some] <;> rfl), by repeat (first | (with_reducible first | exact HB.out | apply below_alloc | apply pw_below_drewN | apply below_drew1 | refine below_set ?_ GE580.out) | exact HB.out)⟩


end Go.Proofs.Ythnpgilknoiaaaa.Q
