/- Written by the session's own program hyb.py: what functions of the program compute; Lean checks it. -/
import Derived.Test.YthnpgilknoiaaaaQx0
import Derived.Test.YthnpgilknoiaaaaQx17
import Derived.Test.YthnpgilknoiaaaaQx20
import Derived.Test.YthnpgilknoiaaaaQx21
namespace Go.Proofs.Ythnpgilknoiaaaa.Q
open Go.RowKit Go.Proofs.YthnpgilknoiaaaaW.PrintWords Go.Proofs.YthnpgilknoiaaaaW.PrintLast Go.Proofs.YthnpgilknoiaaaaW.PrintMore
attribute [local go_sem] run_Add64 run_Sub64
attribute [local go_sem] max2_int min2_int max_two min_two max_three min_three max_four min_four   -- for this text's walks alone
set_option linter.unusedVariables false
set_option linter.unusedSimpArgs false

/-! ### turnstileref04_Admit: function 54 -/
def turnstileref04_Admit.f (k : Nat) (a0 : Int) (a1 : Int) (a2 : Int) (a3 : Int) (a4 : Int) : Option (Int × Bool) := (turnstileref04_fits.f k a0 a1 a2 a3 a4).bind fun t510 => (if t510 = true then ((turnstileref04_later.f a2 a3).bind fun t511 => ((turnstileref04_of.f t511).bind fun bt512 => ((turnstileref04_times.f a4 a0).bind fun bt514 => ((turnstileref04_plus.f bt512.1 bt512.2 bt514.1 bt514.2).bind fun bt516 => (some (bt516.2, true)))))) else (some (a2, false)))
theorem turnstileref04_Admit.mono : ∀ a0 a1 a2 a3 a4 k, LeO (turnstileref04_Admit.f k a0 a1 a2 a3 a4) (turnstileref04_Admit.f (k + 1) a0 a1 a2 a3 a4) := by
  intro a0 a1 a2 a3 a4 k
  unfold turnstileref04_Admit.f
  repeat' first
      | (with_reducible exact turnstileref04_fits.mono _ _ _ _ _ _)
      | (with_reducible exact LeO.refl _)
      | (with_reducible exact LeO.none _)
      | (with_reducible refine LeO.ite ?_ ?_)
      | (with_reducible refine LeO.bind ?_ (fun _ => ?_))
      | exact turnstileref04_fits.mono _ _ _ _ _ _
      | exact LeO.none _
      | refine LeO.ite ?_ ?_
      | refine LeO.bind ?_ (fun _ => ?_)
set_option maxHeartbeats 8000000 in
set_option maxRecDepth 100000 in
theorem turnstileref04_Admit.calls (k : Nat) (a0 : Int) (a1 : Int) (a2 : Int) (a3 : Int) (a4 : Int) (r1 : Int) (r2 : Bool) (w : World) (h : turnstileref04_Admit.f k a0 a1 a2 a3 a4 = some (r1, r2)) :
    Calls Try.prog 54 #[.int .u64 a0, .int .u64 a1, .int .u64 a2, .int .u64 a3, .int .u64 a4] w fun e w' => e = .returned (.tuple #[.int .u64 r1, .bool r2]) ∧ Below w.heap.size w w' := by
  have hu83 := Try.underlying83
  have HB := Aside0.mk (Below.refl w.heap.size w)
  have H : ((turnstileref04_fits.f k a0 a1 a2 a3 a4).bind fun t510 => (if t510 = true then ((turnstileref04_later.f a2 a3).bind fun t511 => ((turnstileref04_of.f t511).bind fun bt512 => ((turnstileref04_times.f a4 a0).bind fun bt514 => ((turnstileref04_plus.f bt512.1 bt512.2 bt514.1 bt514.2).bind fun bt516 => (some (bt516.2, true)))))) else (some (a2, false)))) = some (r1, r2) := h
  clear h
  replace H := Option.bind_eq_some_iff.mp H
  obtain ⟨t510, A60, H⟩ := H
  replace H : (if t510 = true then ((turnstileref04_later.f a2 a3).bind fun t511 => ((turnstileref04_of.f t511).bind fun bt512 => ((turnstileref04_times.f a4 a0).bind fun bt514 => ((turnstileref04_plus.f bt512.1 bt512.2 bt514.1 bt514.2).bind fun bt516 => (some (bt516.2, true)))))) else (some (a2, false))) = some (r1, r2) := H
  have A6 := Aside0.mk A60
  clear A60
  by_cases c7 : t510 = true
  · subst c7
    have H1 : ((turnstileref04_later.f a2 a3).bind fun t511 => ((turnstileref04_of.f t511).bind fun bt512 => ((turnstileref04_times.f a4 a0).bind fun bt514 => ((turnstileref04_plus.f bt512.1 bt512.2 bt514.1 bt514.2).bind fun bt516 => (some (bt516.2, true)))))) = some (r1, r2) := by rw [if_pos rfl] at H; exact H
    clear H
    have H := H1
    clear H1
    replace H := Option.bind_eq_some_iff.mp H
    obtain ⟨t511, A80, H⟩ := H
    replace H : ((turnstileref04_of.f t511).bind fun bt512 => ((turnstileref04_times.f a4 a0).bind fun bt514 => ((turnstileref04_plus.f bt512.1 bt512.2 bt514.1 bt514.2).bind fun bt516 => (some (bt516.2, true))))) = some (r1, r2) := H
    have A8 := Aside0.mk A80
    clear A80
    replace H := Option.bind_eq_some_iff.mp H
    obtain ⟨⟨t512, t513⟩, A90, H⟩ := H
    replace H : ((turnstileref04_times.f a4 a0).bind fun bt514 => ((turnstileref04_plus.f t512 t513 bt514.1 bt514.2).bind fun bt516 => (some (bt516.2, true)))) = some (r1, r2) := H
    have A9 := Aside0.mk A90
    clear A90
    replace H := Option.bind_eq_some_iff.mp H
    obtain ⟨⟨t514, t515⟩, A100, H⟩ := H
    replace H : ((turnstileref04_plus.f t512 t513 t514 t515).bind fun bt516 => (some (bt516.2, true))) = some (r1, r2) := H
    have A10 := Aside0.mk A100
    clear A100
    replace H := Option.bind_eq_some_iff.mp H
    obtain ⟨⟨t516, t517⟩, A110, H⟩ := H
    replace H : (some (t517, true)) = some (r1, r2) := H
    have A11 := Aside0.mk A110
    clear A110
    simp only [Option.some.injEq, Prod.mk.injEq] at H
    obtain ⟨rfl, rfl⟩ := H
    go_enter Try.func54, Try.ntmps54
    go_wp2_with (first | ((with_reducible refine gate_callee (f := 56) rfl ?_); refine goesL_ (some 18) rfl rfl Try.func56 (by kernel_rfl) rfl #[.int .u64 a0, .int .u64 a1, .int .u64 a2, .int .u64 a3, .int .u64 a4] rfl (by (try simp only [List.map_toArray, List.map_cons, List.map_nil]); first | done | rfl | (simp only [List.length_drop, List.length_take]; rfl)) ?_; (with_reducible refine (turnstileref04_fits.calls k a0 a1 a2 a3 a4 true _ A6.out).mono ?_); rintro e w12 ⟨rfl, hb⟩; refine ⟨_, rfl, ?_⟩; have n0_ := Aside0.mk (below_step (by repeat (first | (with_reducible first | exact HB.out | apply below_alloc | apply pw_below_drewN | apply below_drew1) | exact HB.out)) hb); clear HB; have HB := n0_; clear n0_; (try clear hb); (try clear hb2); (try clear hk); (try clear hi)) | ((with_reducible refine gate_callee (f := 65) rfl ?_); refine goesL_ (some 23) rfl rfl Try.func65 (by kernel_rfl) rfl #[.int .u64 a2, .int .u64 a3] rfl (by (try simp only [List.map_toArray, List.map_cons, List.map_nil]); first | done | rfl | (simp only [List.length_drop, List.length_take]; rfl)) ?_; (with_reducible refine (turnstileref04_later.calls a2 a3 t511 _ A8.out).mono ?_); rintro e w' ⟨rfl, ⟨nd, rfl⟩⟩; refine ⟨_, rfl, ?_⟩; (try (rw [drewN_self w12]; generalize hq_ : World.drewN w12 _ = w12; have n0_ : Aside0 (Below w.heap.size w w12) := ⟨by rw [← hq_]; exact (by repeat (first | (with_reducible first | exact HB.out | apply below_alloc | apply pw_below_drewN | apply below_drew1) | exact HB.out))⟩; clear HB hq_; have HB := n0_; clear n0_))) | ((with_reducible refine gate_callee (f := 64) rfl ?_); refine goesL_ (some 24) rfl rfl Try.func64 (by kernel_rfl) rfl #[.int .u64 t511] rfl (by (try simp only [List.map_toArray, List.map_cons, List.map_nil]); first | done | rfl | (simp only [List.length_drop, List.length_take]; rfl)) ?_; (with_reducible refine (turnstileref04_of.calls t511 t512 t513 _ A9.out).mono ?_); rintro e w13 ⟨rfl, hb⟩; refine ⟨_, rfl, ?_⟩; have n0_ := Aside0.mk (below_step (by repeat (first | (with_reducible first | exact HB.out | apply below_alloc | apply pw_below_drewN | apply below_drew1) | exact HB.out)) hb); clear HB; have HB := n0_; clear n0_; (try clear hb); (try clear hb2); (try clear hk); (try clear hi)) | ((with_reducible refine gate_callee (f := 66) rfl ?_); refine goesL_ (some 27) rfl rfl Try.func66 (by kernel_rfl) rfl #[.int .u64 a4, .int .u64 a0] rfl (by (try simp only [List.map_toArray, List.map_cons, List.map_nil]); first | done | rfl | (simp only [List.length_drop, List.length_take]; rfl)) ?_; (with_reducible refine (turnstileref04_times.calls a4 a0 t514 t515 _ A10.out).mono ?_); rintro e w14 ⟨rfl, hb⟩; refine ⟨_, rfl, ?_⟩; have n0_ := Aside0.mk (below_step (by repeat (first | (with_reducible first | exact HB.out | apply below_alloc | apply pw_below_drewN | apply below_drew1) | exact HB.out)) hb); clear HB; have HB := n0_; clear n0_; (try clear hb); (try clear hb2); (try clear hk); (try clear hi)) | ((with_reducible refine gate_callee (f := 63) rfl ?_); refine goesL_ (some 28) rfl rfl Try.func63 (by kernel_rfl) rfl #[.agg #[.int .u64 t512, .int .u64 t513], .agg #[.int .u64 t514, .int .u64 t515]] rfl (by (try simp only [List.map_toArray, List.map_cons, List.map_nil]); first | done | rfl | (simp only [List.length_drop, List.length_take]; rfl)) ?_; (with_reducible refine (turnstileref04_plus.calls t512 t513 t514 t515 t516 t517 _ A11.out).mono ?_); rintro e w15 ⟨rfl, hb⟩; refine ⟨_, rfl, ?_⟩; have n0_ := Aside0.mk (below_step (by repeat (first | (with_reducible first | exact HB.out | apply below_alloc | apply pw_below_drewN | apply below_drew1) | exact HB.out)) hb); clear HB; have HB := n0_; clear n0_; (try clear hb); (try clear hb2); (try clear hk); (try clear hi)) | ((with_reducible refine gate_dst (N := 12) rfl ?_); refine box_event ?hg (N := 12) ?hd (cs := #[.int .u64 0, .int .u64 0]) (t := 83) ?hr ?_; (case hd => rfl); (case hg => rfl); (case hr => first | (go_simp; done) | (go_simp; rfl)); intro gb518 hg w16 hbox hb; have n0_ := Aside0.mk (below_step (by repeat (first | (with_reducible first | exact HB.out | apply below_alloc | apply pw_below_drewN | apply below_drew1) | exact HB.out)) hb); have n1_ := Aside0.mk (hbox); have n2_ := Aside0.mk ((by rw [hg]; exact (below_size (by repeat (first | (with_reducible first | exact HB.out | apply below_alloc | apply pw_below_drewN | apply below_drew1) | exact HB.out))) : w.heap.size ≤ gb518)); have n3_ := Aside0.mk ((by rw [hg]; exact (below_size (by repeat (first | (with_reducible first | exact HB.out | apply below_alloc | apply pw_below_drewN | apply below_drew1) | exact HB.out))) : w.heap.size ≤ gb518)); clear HB; have HB := n0_; have BK518 := n1_; have GW518 := n2_; have GE518 := n3_; clear n0_ n1_ n2_ n3_; clear hb hbox hg; have hcz17_0 : w16.cell? ⟨gb518, 0, none⟩ = some (.int .u64 0) := (blk_cell BK518.out 0).trans rfl; have hcz17_1 : w16.cell? ⟨gb518, 1, none⟩ = some (.int .u64 0) := (blk_cell BK518.out 1).trans rfl; have hfz17_0 := blk_frozen BK518.out 0; have hfz17_1 := blk_frozen BK518.out 1))
    go_ret2
    exact ⟨by first | rfl | (simp [errW_none, errW_some] <;> rfl) | (simp [*, errW_none, errW_some] <;> rfl), by repeat (first | (with_reducible first | exact HB.out | apply below_alloc | apply pw_below_drewN | apply below_drew1 | refine below_set ?_ GE518.out) | exact HB.out)⟩
  · replace c7 := Bool.eq_false_iff.mpr c7
    subst c7
    have H1 : (some (a2, false)) = some (r1, r2) := by rw [if_neg (show ¬ (false = true) by decide)] at H; exact H
    clear H
    have H := H1
    clear H1
    simp only [Option.some.injEq, Prod.mk.injEq] at H
    obtain ⟨rfl, rfl⟩ := H
    go_enter Try.func54, Try.ntmps54
    go_wp2_with (first | ((with_reducible refine gate_callee (f := 56) rfl ?_); refine goesL_ (some 18) rfl rfl Try.func56 (by kernel_rfl) rfl #[.int .u64 a0, .int .u64 a1, .int .u64 a2, .int .u64 a3, .int .u64 a4] rfl (by (try simp only [List.map_toArray, List.map_cons, List.map_nil]); first | done | rfl | (simp only [List.length_drop, List.length_take]; rfl)) ?_; (with_reducible refine (turnstileref04_fits.calls k a0 a1 a2 a3 a4 false _ A6.out).mono ?_); rintro e w18 ⟨rfl, hb⟩; refine ⟨_, rfl, ?_⟩; have n0_ := Aside0.mk (below_step (by repeat (first | (with_reducible first | exact HB.out | apply below_alloc | apply pw_below_drewN | apply below_drew1) | exact HB.out)) hb); clear HB; have HB := n0_; clear n0_; (try clear hb); (try clear hb2); (try clear hk); (try clear hi)))
    go_ret2
    exact ⟨by first | rfl | (simp [errW_none, errW_some] <;> rfl) | (simp [*, errW_none, errW_some] <;> rfl), by repeat (first | (with_reducible first | exact HB.out | apply below_alloc | apply pw_below_drewN | apply below_drew1) | exact HB.out)⟩

/-! ### turnstilelaw04_admits: function 28 -/
def turnstilelaw04_admits.f (k : Nat) (a0_0 : Int) (a0_1 : Int) (a0_2 : Int) (a0_3 : Int) (a0_4 : Int) : Option (Bool) := (turnstileref04_Admit.f k a0_0 a0_1 a0_2 a0_3 a0_4).bind fun bt520 => ((gcra_Admit.f k a0_0 a0_1 a0_2 a0_3 a0_4).bind fun bt522 => (if bt520.1 = bt522.1 then (some (bt520.2 == bt522.2)) else (some false)))
theorem turnstilelaw04_admits.mono : ∀ a0 a1 a2 a3 a4 k, LeO (turnstilelaw04_admits.f k a0 a1 a2 a3 a4) (turnstilelaw04_admits.f (k + 1) a0 a1 a2 a3 a4) := by
  intro a0 a1 a2 a3 a4 k
  unfold turnstilelaw04_admits.f
  repeat' first
      | (with_reducible exact gcra_Admit.mono _ _ _ _ _ _)
      | (with_reducible exact turnstileref04_Admit.mono _ _ _ _ _ _)
      | (with_reducible exact LeO.refl _)
      | (with_reducible exact LeO.none _)
      | (with_reducible refine LeO.ite ?_ ?_)
      | (with_reducible refine LeO.bind ?_ (fun _ => ?_))
      | exact gcra_Admit.mono _ _ _ _ _ _
      | exact turnstileref04_Admit.mono _ _ _ _ _ _
      | exact LeO.none _
      | refine LeO.ite ?_ ?_
      | refine LeO.bind ?_ (fun _ => ?_)
set_option maxHeartbeats 8000000 in
set_option maxRecDepth 100000 in
theorem turnstilelaw04_admits.calls (k : Nat) (a0_0 : Int) (a0_1 : Int) (a0_2 : Int) (a0_3 : Int) (a0_4 : Int) (r : Bool) (w : World) (h : turnstilelaw04_admits.f k a0_0 a0_1 a0_2 a0_3 a0_4 = some r) :
    Calls Try.prog 28 #[.agg #[.int .u64 a0_0, .int .u64 a0_1, .int .u64 a0_2, .int .u64 a0_3, .int .u64 a0_4]] w fun e w' => e = .returned (.bool r) ∧ Below w.heap.size w w' := by
  have hu46 := Try.underlying46
  have HB := Aside0.mk (Below.refl w.heap.size w)
  have H : ((turnstileref04_Admit.f k a0_0 a0_1 a0_2 a0_3 a0_4).bind fun bt520 => ((gcra_Admit.f k a0_0 a0_1 a0_2 a0_3 a0_4).bind fun bt522 => (if bt520.1 = bt522.1 then (some (bt520.2 == bt522.2)) else (some false)))) = some r := h
  clear h
  replace H := Option.bind_eq_some_iff.mp H
  obtain ⟨⟨t520, t521⟩, A20, H⟩ := H
  replace H : ((gcra_Admit.f k a0_0 a0_1 a0_2 a0_3 a0_4).bind fun bt522 => (if t520 = bt522.1 then (some (t521 == bt522.2)) else (some false))) = some r := H
  have A2 := Aside0.mk A20
  clear A20
  replace H := Option.bind_eq_some_iff.mp H
  obtain ⟨⟨t522, t523⟩, A30, H⟩ := H
  replace H : (if t520 = t522 then (some (t521 == t523)) else (some false)) = some r := H
  have A3 := Aside0.mk A30
  clear A30
  by_cases c4 : t520 = t522
  · rw [if_pos c4] at H
    have c4b0 : (t520 == t522) = true := beq_iff_eq.mpr c4
    have c4b1 : (t520 != t522) = false := bne_eq_false_iff_eq.mpr c4
    clear c4
    obtain rfl := Option.some.inj H
    go_enter Try.func28, Try.ntmps28
    go_wp2_with (first | ((with_reducible refine gate_dst (N := 1) rfl ?_); refine box_event ?hg (N := 1) ?hd (cs := #[.int .u64 a0_0, .int .u64 a0_1, .int .u64 a0_2, .int .u64 a0_3, .int .u64 a0_4]) (t := 46) ?hr ?_; (case hd => rfl); (case hg => rfl); (case hr => first | (go_simp; done) | (go_simp; rfl)); intro gb519 hg w5 hbox hb; have n0_ := Aside0.mk (below_step (by repeat (first | (with_reducible first | exact HB.out | apply below_alloc | apply pw_below_drewN | apply below_drew1) | exact HB.out)) hb); have n1_ := Aside0.mk (hbox); have n2_ := Aside0.mk ((by rw [hg]; exact (below_size (by repeat (first | (with_reducible first | exact HB.out | apply below_alloc | apply pw_below_drewN | apply below_drew1) | exact HB.out))) : w.heap.size ≤ gb519)); have n3_ := Aside0.mk ((by rw [hg]; exact (below_size (by repeat (first | (with_reducible first | exact HB.out | apply below_alloc | apply pw_below_drewN | apply below_drew1) | exact HB.out))) : w.heap.size ≤ gb519)); clear HB; have HB := n0_; have BK519 := n1_; have GW519 := n2_; have GE519 := n3_; clear n0_ n1_ n2_ n3_; clear hb hbox hg; have hcz6_0 : w5.cell? ⟨gb519, 0, none⟩ = some (.int .u64 a0_0) := (blk_cell BK519.out 0).trans rfl; have hcz6_1 : w5.cell? ⟨gb519, 1, none⟩ = some (.int .u64 a0_1) := (blk_cell BK519.out 1).trans rfl; have hcz6_2 : w5.cell? ⟨gb519, 2, none⟩ = some (.int .u64 a0_2) := (blk_cell BK519.out 2).trans rfl; have hcz6_3 : w5.cell? ⟨gb519, 3, none⟩ = some (.int .u64 a0_3) := (blk_cell BK519.out 3).trans rfl; have hcz6_4 : w5.cell? ⟨gb519, 4, none⟩ = some (.int .u64 a0_4) := (blk_cell BK519.out 4).trans rfl; have hfz6_0 := blk_frozen BK519.out 0; have hfz6_1 := blk_frozen BK519.out 1; have hfz6_2 := blk_frozen BK519.out 2; have hfz6_3 := blk_frozen BK519.out 3; have hfz6_4 := blk_frozen BK519.out 4) | ((with_reducible refine gate_callee (f := 54) rfl ?_); refine goesL_ (some 18) rfl rfl Try.func54 (by kernel_rfl) rfl #[.int .u64 a0_0, .int .u64 a0_1, .int .u64 a0_2, .int .u64 a0_3, .int .u64 a0_4] rfl (by (try simp only [List.map_toArray, List.map_cons, List.map_nil]); first | done | rfl | (simp only [List.length_drop, List.length_take]; rfl)) ?_; (with_reducible refine (turnstileref04_Admit.calls k a0_0 a0_1 a0_2 a0_3 a0_4 t520 t521 _ A2.out).mono ?_); rintro e w7 ⟨rfl, hb⟩; refine ⟨_, rfl, ?_⟩; have n0_ := Aside0.mk (blk_below (g := gb519) (o := .cells #[.int .u64 a0_0, .int .u64 a0_1, .int .u64 a0_2, .int .u64 a0_3, .int .u64 a0_4] 46 (0, 0)) (by (with_reducible repeat (first | refine blk_drewN ?_ _ | refine blk_drew ?_ | refine blk_alloc ?_ _)); exact BK519.out) hb); have n1_ := Aside0.mk (below_step (by repeat (first | (with_reducible first | exact HB.out | apply below_alloc | apply pw_below_drewN | apply below_drew1 | refine below_set ?_ GE519.out) | exact HB.out)) hb); clear BK519; clear HB; have BK519 := n0_; have HB := n1_; clear n0_ n1_; (try clear hb); (try clear hb2); (try clear hk); (try clear hi); have hcz8_0 : w7.cell? ⟨gb519, 0, none⟩ = some (.int .u64 a0_0) := (blk_cell BK519.out 0).trans rfl; have hcz8_1 : w7.cell? ⟨gb519, 1, none⟩ = some (.int .u64 a0_1) := (blk_cell BK519.out 1).trans rfl; have hcz8_2 : w7.cell? ⟨gb519, 2, none⟩ = some (.int .u64 a0_2) := (blk_cell BK519.out 2).trans rfl; have hcz8_3 : w7.cell? ⟨gb519, 3, none⟩ = some (.int .u64 a0_3) := (blk_cell BK519.out 3).trans rfl; have hcz8_4 : w7.cell? ⟨gb519, 4, none⟩ = some (.int .u64 a0_4) := (blk_cell BK519.out 4).trans rfl; have hfz8_0 := blk_frozen BK519.out 0; have hfz8_1 := blk_frozen BK519.out 1; have hfz8_2 := blk_frozen BK519.out 2; have hfz8_3 := blk_frozen BK519.out 3; have hfz8_4 := blk_frozen BK519.out 4) | ((with_reducible refine gate_callee (f := 29) rfl ?_); refine goesL_ (some 32) rfl rfl Try.func29 (by kernel_rfl) rfl #[.int .u64 a0_0, .int .u64 a0_1, .int .u64 a0_2, .int .u64 a0_3, .int .u64 a0_4] rfl (by (try simp only [List.map_toArray, List.map_cons, List.map_nil]); first | done | rfl | (simp only [List.length_drop, List.length_take]; rfl)) ?_; (with_reducible refine (gcra_Admit.calls k a0_0 a0_1 a0_2 a0_3 a0_4 t522 t523 _ A3.out).mono ?_); rintro e w9 ⟨rfl, hb⟩; refine ⟨_, rfl, ?_⟩; have n0_ := Aside0.mk (blk_below (g := gb519) (o := .cells #[.int .u64 a0_0, .int .u64 a0_1, .int .u64 a0_2, .int .u64 a0_3, .int .u64 a0_4] 46 (0, 0)) (by (with_reducible repeat (first | refine blk_drewN ?_ _ | refine blk_drew ?_ | refine blk_alloc ?_ _)); exact BK519.out) hb); have n1_ := Aside0.mk (below_step (by repeat (first | (with_reducible first | exact HB.out | apply below_alloc | apply pw_below_drewN | apply below_drew1 | refine below_set ?_ GE519.out) | exact HB.out)) hb); clear BK519; clear HB; have BK519 := n0_; have HB := n1_; clear n0_ n1_; (try clear hb); (try clear hb2); (try clear hk); (try clear hi)))
    go_ret
    exact ⟨by first | rfl | (simp [errW_none, errW_some] <;> rfl) | (simp [*, errW_none, errW_some] <;> rfl), by repeat (first | (with_reducible first | exact HB.out | apply below_alloc | apply pw_below_drewN | apply below_drew1 | refine below_set ?_ GE519.out) | exact HB.out)⟩
  · rw [if_neg c4] at H
    have c4b0 : (t520 == t522) = false := beq_eq_false_iff_ne.mpr c4
    have c4b1 : (t520 != t522) = true := bne_iff_ne.mpr c4
    obtain rfl := Option.some.inj H
    go_enter Try.func28, Try.ntmps28
    go_wp2_with (first | ((with_reducible refine gate_dst (N := 1) rfl ?_); refine box_event ?hg (N := 1) ?hd (cs := #[.int .u64 a0_0, .int .u64 a0_1, .int .u64 a0_2, .int .u64 a0_3, .int .u64 a0_4]) (t := 46) ?hr ?_; (case hd => rfl); (case hg => rfl); (case hr => first | (go_simp; done) | (go_simp; rfl)); intro gb519 hg w10 hbox hb; have n0_ := Aside0.mk (below_step (by repeat (first | (with_reducible first | exact HB.out | apply below_alloc | apply pw_below_drewN | apply below_drew1) | exact HB.out)) hb); have n1_ := Aside0.mk (hbox); have n2_ := Aside0.mk ((by rw [hg]; exact (below_size (by repeat (first | (with_reducible first | exact HB.out | apply below_alloc | apply pw_below_drewN | apply below_drew1) | exact HB.out))) : w.heap.size ≤ gb519)); have n3_ := Aside0.mk ((by rw [hg]; exact (below_size (by repeat (first | (with_reducible first | exact HB.out | apply below_alloc | apply pw_below_drewN | apply below_drew1) | exact HB.out))) : w.heap.size ≤ gb519)); clear HB; have HB := n0_; have BK519 := n1_; have GW519 := n2_; have GE519 := n3_; clear n0_ n1_ n2_ n3_; clear hb hbox hg; have hcz11_0 : w10.cell? ⟨gb519, 0, none⟩ = some (.int .u64 a0_0) := (blk_cell BK519.out 0).trans rfl; have hcz11_1 : w10.cell? ⟨gb519, 1, none⟩ = some (.int .u64 a0_1) := (blk_cell BK519.out 1).trans rfl; have hcz11_2 : w10.cell? ⟨gb519, 2, none⟩ = some (.int .u64 a0_2) := (blk_cell BK519.out 2).trans rfl; have hcz11_3 : w10.cell? ⟨gb519, 3, none⟩ = some (.int .u64 a0_3) := (blk_cell BK519.out 3).trans rfl; have hcz11_4 : w10.cell? ⟨gb519, 4, none⟩ = some (.int .u64 a0_4) := (blk_cell BK519.out 4).trans rfl; have hfz11_0 := blk_frozen BK519.out 0; have hfz11_1 := blk_frozen BK519.out 1; have hfz11_2 := blk_frozen BK519.out 2; have hfz11_3 := blk_frozen BK519.out 3; have hfz11_4 := blk_frozen BK519.out 4) | ((with_reducible refine gate_callee (f := 54) rfl ?_); refine goesL_ (some 18) rfl rfl Try.func54 (by kernel_rfl) rfl #[.int .u64 a0_0, .int .u64 a0_1, .int .u64 a0_2, .int .u64 a0_3, .int .u64 a0_4] rfl (by (try simp only [List.map_toArray, List.map_cons, List.map_nil]); first | done | rfl | (simp only [List.length_drop, List.length_take]; rfl)) ?_; (with_reducible refine (turnstileref04_Admit.calls k a0_0 a0_1 a0_2 a0_3 a0_4 t520 t521 _ A2.out).mono ?_); rintro e w12 ⟨rfl, hb⟩; refine ⟨_, rfl, ?_⟩; have n0_ := Aside0.mk (blk_below (g := gb519) (o := .cells #[.int .u64 a0_0, .int .u64 a0_1, .int .u64 a0_2, .int .u64 a0_3, .int .u64 a0_4] 46 (0, 0)) (by (with_reducible repeat (first | refine blk_drewN ?_ _ | refine blk_drew ?_ | refine blk_alloc ?_ _)); exact BK519.out) hb); have n1_ := Aside0.mk (below_step (by repeat (first | (with_reducible first | exact HB.out | apply below_alloc | apply pw_below_drewN | apply below_drew1 | refine below_set ?_ GE519.out) | exact HB.out)) hb); clear BK519; clear HB; have BK519 := n0_; have HB := n1_; clear n0_ n1_; (try clear hb); (try clear hb2); (try clear hk); (try clear hi); have hcz13_0 : w12.cell? ⟨gb519, 0, none⟩ = some (.int .u64 a0_0) := (blk_cell BK519.out 0).trans rfl; have hcz13_1 : w12.cell? ⟨gb519, 1, none⟩ = some (.int .u64 a0_1) := (blk_cell BK519.out 1).trans rfl; have hcz13_2 : w12.cell? ⟨gb519, 2, none⟩ = some (.int .u64 a0_2) := (blk_cell BK519.out 2).trans rfl; have hcz13_3 : w12.cell? ⟨gb519, 3, none⟩ = some (.int .u64 a0_3) := (blk_cell BK519.out 3).trans rfl; have hcz13_4 : w12.cell? ⟨gb519, 4, none⟩ = some (.int .u64 a0_4) := (blk_cell BK519.out 4).trans rfl; have hfz13_0 := blk_frozen BK519.out 0; have hfz13_1 := blk_frozen BK519.out 1; have hfz13_2 := blk_frozen BK519.out 2; have hfz13_3 := blk_frozen BK519.out 3; have hfz13_4 := blk_frozen BK519.out 4) | ((with_reducible refine gate_callee (f := 29) rfl ?_); refine goesL_ (some 32) rfl rfl Try.func29 (by kernel_rfl) rfl #[.int .u64 a0_0, .int .u64 a0_1, .int .u64 a0_2, .int .u64 a0_3, .int .u64 a0_4] rfl (by (try simp only [List.map_toArray, List.map_cons, List.map_nil]); first | done | rfl | (simp only [List.length_drop, List.length_take]; rfl)) ?_; (with_reducible refine (gcra_Admit.calls k a0_0 a0_1 a0_2 a0_3 a0_4 t522 t523 _ A3.out).mono ?_); rintro e w14 ⟨rfl, hb⟩; refine ⟨_, rfl, ?_⟩; have n0_ := Aside0.mk (blk_below (g := gb519) (o := .cells #[.int .u64 a0_0, .int .u64 a0_1, .int .u64 a0_2, .int .u64 a0_3, .int .u64 a0_4] 46 (0, 0)) (by (with_reducible repeat (first | refine blk_drewN ?_ _ | refine blk_drew ?_ | refine blk_alloc ?_ _)); exact BK519.out) hb); have n1_ := Aside0.mk (below_step (by repeat (first | (with_reducible first | exact HB.out | apply below_alloc | apply pw_below_drewN | apply below_drew1 | refine below_set ?_ GE519.out) | exact HB.out)) hb); clear BK519; clear HB; have BK519 := n0_; have HB := n1_; clear n0_ n1_; (try clear hb); (try clear hb2); (try clear hk); (try clear hi)))
    go_ret
    exact ⟨by first | rfl | (simp [errW_none, errW_some] <;> rfl) | (simp [*, errW_none, errW_some] <;> rfl), by repeat (first | (with_reducible first | exact HB.out | apply below_alloc | apply pw_below_drewN | apply below_drew1 | refine below_set ?_ GE519.out) | exact HB.out)⟩

/-! ### turnstilelaw04_GcraAdmits: function 8 -/
def turnstilelaw04_GcraAdmits.l0 : Nat → List (S46) → Int → Int → Option (Bool)
  | 0, _, _, _ => none
  | k + 1, x0, x3, x4 => if x4 < (x0.length : Int) then (if 0 ≤ x4 then ((turnstilelaw04_admits.f k ((rd_T46 x0 x4).f0) ((rd_T46 x0 x4).f1) ((rd_T46 x0 x4).f2) ((rd_T46 x0 x4).f3) ((rd_T46 x0 x4).f4)).bind fun t527 => (if t527 = true then ((turnstilelaw04_admits.f k ((rd_T46 x0 x4).f0) ((rd_T46 x0 x4).f1) x3 ((rd_T46 x0 x4).f3) ((rd_T46 x0 x4).f4)).bind fun t528 => (if t528 = true then ((gcra_Admit.f k ((rd_T46 x0 x4).f0) ((rd_T46 x0 x4).f1) x3 ((rd_T46 x0 x4).f3) ((rd_T46 x0 x4).f4)).bind fun bt529 => (turnstilelaw04_GcraAdmits.l0 k x0 bt529.1 (wrap64 (x4 + 1)))) else (some false))) else (some false))) else (none)) else (some true)
def turnstilelaw04_GcraAdmits.f (k : Nat) (l0 : List (S46)) : Option (Bool) := (turnstilelaw04_lives.f k).bind fun t524 => (if t524 = true then (turnstilelaw04_GcraAdmits.l0 k l0 0 0) else (some false))
theorem turnstilelaw04_GcraAdmits.mono_l : ∀ k, (∀ y0 y1 y2, LeO (turnstilelaw04_GcraAdmits.l0 k y0 y1 y2) (turnstilelaw04_GcraAdmits.l0 (k + 1) y0 y1 y2))
  | 0 => fun _ _ _ r h => by simp [turnstilelaw04_GcraAdmits.l0] at h
  | k + 1 => by
    have ih0 := turnstilelaw04_GcraAdmits.mono_l k
    · intro y0 y1 y2
      unfold turnstilelaw04_GcraAdmits.l0
      repeat' first
      | (with_reducible exact ih0 _ _ _)
      | (with_reducible exact gcra_Admit.mono _ _ _ _ _ _)
      | (with_reducible exact turnstilelaw04_admits.mono _ _ _ _ _ _)
      | (with_reducible exact turnstilelaw04_lives.mono _)
      | (with_reducible exact LeO.refl _)
      | (with_reducible exact LeO.none _)
      | (with_reducible refine LeO.ite ?_ ?_)
      | (with_reducible refine LeO.bind ?_ (fun _ => ?_))
      | exact ih0 _ _ _
      | exact gcra_Admit.mono _ _ _ _ _ _
      | exact turnstilelaw04_admits.mono _ _ _ _ _ _
      | exact turnstilelaw04_lives.mono _
      | exact LeO.none _
      | refine LeO.ite ?_ ?_
      | refine LeO.bind ?_ (fun _ => ?_)
theorem turnstilelaw04_GcraAdmits.mono : ∀ a0 k, LeO (turnstilelaw04_GcraAdmits.f k a0) (turnstilelaw04_GcraAdmits.f (k + 1) a0) := by
  intro a0 k
  have ih0 := turnstilelaw04_GcraAdmits.mono_l k
  unfold turnstilelaw04_GcraAdmits.f
  repeat' first
      | (with_reducible exact ih0 _ _ _)
      | (with_reducible exact gcra_Admit.mono _ _ _ _ _ _)
      | (with_reducible exact turnstilelaw04_admits.mono _ _ _ _ _ _)
      | (with_reducible exact turnstilelaw04_lives.mono _)
      | (with_reducible exact LeO.refl _)
      | (with_reducible exact LeO.none _)
      | (with_reducible refine LeO.ite ?_ ?_)
      | (with_reducible refine LeO.bind ?_ (fun _ => ?_))
      | exact ih0 _ _ _
      | exact gcra_Admit.mono _ _ _ _ _ _
      | exact turnstilelaw04_admits.mono _ _ _ _ _ _
      | exact turnstilelaw04_lives.mono _
      | exact LeO.none _
      | refine LeO.ite ?_ ?_
      | refine LeO.bind ?_ (fun _ => ?_)
set_option maxHeartbeats 8000000 in
set_option maxRecDepth 100000 in
theorem turnstilelaw04_GcraAdmits.calls (k : Nat) (A0 : Option Addr) (c0 : Nat) (l0 : List (S46)) (r : Bool) (w : World) (hr0 : Kd.C k46 w A0 l0.length l0) (hc0 : l0.length ≤ c0) (h : turnstilelaw04_GcraAdmits.f k l0 = some r) :
    Calls Try.prog 8 #[.slice A0 l0.length c0] w fun e w' => e = .returned (.bool r) ∧ Below w.heap.size w w' := by
  have hu46 := Try.underlying46
  have HR0 := Aside0.mk hr0
  have HC0 := Aside0.mk hc0
  clear hr0 hc0
  have HB := Aside0.mk (Below.refl w.heap.size w)
  have H : ((turnstilelaw04_lives.f k).bind fun t524 => (if t524 = true then (turnstilelaw04_GcraAdmits.l0 k l0 0 0) else (some false))) = some r := h
  clear h
  replace H := Option.bind_eq_some_iff.mp H
  obtain ⟨t524, A20, H⟩ := H
  replace H : (if t524 = true then (turnstilelaw04_GcraAdmits.l0 k l0 0 0) else (some false)) = some r := H
  have A2 := Aside0.mk A20
  clear A20
  by_cases c3 : t524 = true
  · subst c3
    have H1 : (turnstilelaw04_GcraAdmits.l0 k l0 0 0) = some r := by rw [if_pos rfl] at H; exact H
    clear H
    have H := H1
    clear H1
    have H' := Aside0.mk H
    clear H
    go_enter Try.func8, Try.ntmps8
    go_wp2_with (first | ((with_reducible refine gate_callee (f := 27) rfl ?_); refine goesL_ (some 6) rfl rfl Try.func27 (by kernel_rfl) rfl #[] rfl (by (try simp only [List.map_toArray, List.map_cons, List.map_nil]); first | done | rfl | (simp only [List.length_drop, List.length_take]; rfl)) ?_; (with_reducible refine (turnstilelaw04_lives.calls k  true _ A2.out).mono ?_); rintro e w4 ⟨rfl, hb⟩; refine ⟨_, rfl, ?_⟩; have n0_ := Aside0.mk (below_step (by repeat (first | (with_reducible first | exact HB.out | apply below_alloc | apply pw_below_drewN | apply below_drew1) | exact HB.out)) hb); clear HB; have HB := n0_; clear n0_; (try clear hb); (try clear hb2); (try clear hk); (try clear hi)))
    go_loopg [3, 4] k (fun kq v3 v4 w' => ∃ (x3_1 : Int) (x4_1 : Int), v3 = .int .u64 x3_1 ∧ v4 = .int .i64 x4_1 ∧ Aside0 (turnstilelaw04_GcraAdmits.l0 kq l0 x3_1 x4_1 = some r) ∧ Aside0 (kq ≤ k) ∧ Aside0 (Below w.heap.size w w'))
    case atStart => exact ⟨(0), (0), (by first | rfl | (simp; done) | (simp [*]; done)), (by first | rfl | (simp; done) | (simp [*]; done)), H', ⟨Nat.le_refl _⟩, ⟨by repeat (first | (with_reducible first | exact HB.out | apply below_alloc | apply pw_below_drewN | apply below_drew1) | exact HB.out)⟩⟩
    case round =>
      clear H'
      try clear c2
      try clear p2
      try clear c3
      obtain ⟨x3_1, x4_1, rfl, rfl, HA, HK1, HB⟩ := hrel
      cases gk with
      | zero => exact absurd HA.out (by simp [turnstilelaw04_GcraAdmits.l0])
      | succ k1 =>
        have H := HA.out
        clear HA
        simp only [turnstilelaw04_GcraAdmits.l0] at H
        by_cases c5 : x4_1 < (l0.length : Int)
        · rw [if_pos c5] at H
          have c5b0 : decide (x4_1 < (l0.length : Int)) = true := decide_eq_true c5
          clear c5
          by_cases c6 : 0 ≤ x4_1
          · rw [if_pos c6] at H
            have c6b0 : decide (0 ≤ x4_1) = true := decide_eq_true c6
            clear c6
            replace H := Option.bind_eq_some_iff.mp H
            obtain ⟨t527, A70, H⟩ := H
            replace H : (if t527 = true then ((turnstilelaw04_admits.f k1 ((rd_T46 l0 x4_1).f0) ((rd_T46 l0 x4_1).f1) x3_1 ((rd_T46 l0 x4_1).f3) ((rd_T46 l0 x4_1).f4)).bind fun t528 => (if t528 = true then ((gcra_Admit.f k1 ((rd_T46 l0 x4_1).f0) ((rd_T46 l0 x4_1).f1) x3_1 ((rd_T46 l0 x4_1).f3) ((rd_T46 l0 x4_1).f4)).bind fun bt529 => (turnstilelaw04_GcraAdmits.l0 k1 l0 bt529.1 (wrap64 (x4_1 + 1)))) else (some false))) else (some false)) = some r := H
            have A7 := Aside0.mk A70
            clear A70
            by_cases c8 : t527 = true
            · subst c8
              have H1 : ((turnstilelaw04_admits.f k1 ((rd_T46 l0 x4_1).f0) ((rd_T46 l0 x4_1).f1) x3_1 ((rd_T46 l0 x4_1).f3) ((rd_T46 l0 x4_1).f4)).bind fun t528 => (if t528 = true then ((gcra_Admit.f k1 ((rd_T46 l0 x4_1).f0) ((rd_T46 l0 x4_1).f1) x3_1 ((rd_T46 l0 x4_1).f3) ((rd_T46 l0 x4_1).f4)).bind fun bt529 => (turnstilelaw04_GcraAdmits.l0 k1 l0 bt529.1 (wrap64 (x4_1 + 1)))) else (some false))) = some r := by rw [if_pos rfl] at H; exact H
              clear H
              have H := H1
              clear H1
              replace H := Option.bind_eq_some_iff.mp H
              obtain ⟨t528, A90, H⟩ := H
              replace H : (if t528 = true then ((gcra_Admit.f k1 ((rd_T46 l0 x4_1).f0) ((rd_T46 l0 x4_1).f1) x3_1 ((rd_T46 l0 x4_1).f3) ((rd_T46 l0 x4_1).f4)).bind fun bt529 => (turnstilelaw04_GcraAdmits.l0 k1 l0 bt529.1 (wrap64 (x4_1 + 1)))) else (some false)) = some r := H
              have A9 := Aside0.mk A90
              clear A90
              by_cases c10 : t528 = true
              · subst c10
                have H1 : ((gcra_Admit.f k1 ((rd_T46 l0 x4_1).f0) ((rd_T46 l0 x4_1).f1) x3_1 ((rd_T46 l0 x4_1).f3) ((rd_T46 l0 x4_1).f4)).bind fun bt529 => (turnstilelaw04_GcraAdmits.l0 k1 l0 bt529.1 (wrap64 (x4_1 + 1)))) = some r := by rw [if_pos rfl] at H; exact H
                clear H
                have H := H1
                clear H1
                replace H := Option.bind_eq_some_iff.mp H
                obtain ⟨⟨t529, t530⟩, A110, H⟩ := H
                replace H : (turnstilelaw04_GcraAdmits.l0 k1 l0 t529 (wrap64 (x4_1 + 1))) = some r := H
                have A11 := Aside0.mk A110
                clear A110
                have H' := Aside0.mk H
                clear H
                have p525 : 0 ≤ (x4_1 : Int) := of_decide_eq_true (by first | (with_reducible assumption) | assumption)
                have q525 : x4_1 < (l0.length : Int) := of_decide_eq_true (by first | (with_reducible assumption) | assumption)
                obtain ⟨ad525, e525, hx525_0, hx525_1, hx525_2, hx525_3, hx525_4⟩ := at_T46 HR0.out x4_1 p525 q525
                cases e525
                replace hx525_0 := (HB.out.cell (World.block_lt_of_cell? w _ hx525_0)).trans hx525_0
                replace hx525_1 := (HB.out.cell (World.block_lt_of_cell? w _ hx525_1)).trans hx525_1
                replace hx525_2 := (HB.out.cell (World.block_lt_of_cell? w _ hx525_2)).trans hx525_2
                replace hx525_3 := (HB.out.cell (World.block_lt_of_cell? w _ hx525_3)).trans hx525_3
                replace hx525_4 := (HB.out.cell (World.block_lt_of_cell? w _ hx525_4)).trans hx525_4
                replace p525 := eq_true p525
                replace q525 := eq_true q525
                go_wp2_with (first | ((with_reducible refine gate_dst (N := 5) rfl ?_); refine box_event ?hg (N := 5) ?hd (cs := #[.int .u64 0, .int .u64 0, .int .u64 0, .int .u64 0, .int .u64 0]) (t := 46) ?hr ?_; (case hd => rfl); (case hg => rfl); (case hr => first | (go_simp; done) | (go_simp; rfl)); intro gb526 hg w12 hbox hb; have n0_ := Aside0.mk (below_step (by repeat (first | (with_reducible first | exact HB.out | apply below_alloc | apply pw_below_drewN | apply below_drew1) | exact HB.out)) hb); have n1_ := Aside0.mk (hbox); have n2_ := Aside0.mk ((by rw [hg]; exact (below_size (by repeat (first | (with_reducible first | exact HB.out | apply below_alloc | apply pw_below_drewN | apply below_drew1) | exact HB.out))) : w.heap.size ≤ gb526)); have n3_ := Aside0.mk ((by rw [hg]; exact (below_size (by repeat (first | (with_reducible first | exact HB.out | apply below_alloc | apply pw_below_drewN | apply below_drew1) | exact HB.out))) : w.heap.size ≤ gb526)); clear HB; have HB := n0_; have BK526 := n1_; have GW526 := n2_; have GE526 := n3_; clear n0_ n1_ n2_ n3_; clear hb hbox hg; have hcz13_0 : w12.cell? ⟨gb526, 0, none⟩ = some (.int .u64 0) := (blk_cell BK526.out 0).trans rfl; have hcz13_1 : w12.cell? ⟨gb526, 1, none⟩ = some (.int .u64 0) := (blk_cell BK526.out 1).trans rfl; have hcz13_2 : w12.cell? ⟨gb526, 2, none⟩ = some (.int .u64 0) := (blk_cell BK526.out 2).trans rfl; have hcz13_3 : w12.cell? ⟨gb526, 3, none⟩ = some (.int .u64 0) := (blk_cell BK526.out 3).trans rfl; have hcz13_4 : w12.cell? ⟨gb526, 4, none⟩ = some (.int .u64 0) := (blk_cell BK526.out 4).trans rfl; have hfz13_0 := blk_frozen BK526.out 0; have hfz13_1 := blk_frozen BK526.out 1; have hfz13_2 := blk_frozen BK526.out 2; have hfz13_3 := blk_frozen BK526.out 3; have hfz13_4 := blk_frozen BK526.out 4) | ((with_reducible refine gate_callee (f := 28) rfl ?_); refine goesL_ (some 19) rfl rfl Try.func28 (by kernel_rfl) rfl #[.agg #[.int .u64 ((rd_T46 l0 x4_1).f0), .int .u64 ((rd_T46 l0 x4_1).f1), .int .u64 ((rd_T46 l0 x4_1).f2), .int .u64 ((rd_T46 l0 x4_1).f3), .int .u64 ((rd_T46 l0 x4_1).f4)]] rfl (by (try simp only [List.map_toArray, List.map_cons, List.map_nil]); first | done | rfl | (simp only [List.length_drop, List.length_take]; rfl)) ?_; (with_reducible refine (turnstilelaw04_admits.calls k1 ((rd_T46 l0 x4_1).f0) ((rd_T46 l0 x4_1).f1) ((rd_T46 l0 x4_1).f2) ((rd_T46 l0 x4_1).f3) ((rd_T46 l0 x4_1).f4) true _ A7.out).mono ?_); rintro e w14 ⟨rfl, hb⟩; refine ⟨_, rfl, ?_⟩; have n0_ := Aside0.mk (blk_below (g := gb526) (o := .cells #[.int .u64 ((rd_T46 l0 x4_1).f0), .int .u64 ((rd_T46 l0 x4_1).f1), .int .u64 ((rd_T46 l0 x4_1).f2), .int .u64 ((rd_T46 l0 x4_1).f3), .int .u64 ((rd_T46 l0 x4_1).f4)] 46 (0, 0)) (by (with_reducible repeat (first | refine blk_drewN ?_ _ | refine blk_drew ?_ | refine blk_alloc ?_ _)); refine blk_put (cs := #[.int .u64 ((rd_T46 l0 x4_1).f0), .int .u64 ((rd_T46 l0 x4_1).f1), .int .u64 ((rd_T46 l0 x4_1).f2), .int .u64 ((rd_T46 l0 x4_1).f3), .int .u64 0]) ?_ 4 _ rfl; (with_reducible repeat (first | refine blk_drewN ?_ _ | refine blk_drew ?_ | refine blk_alloc ?_ _)); refine blk_put (cs := #[.int .u64 ((rd_T46 l0 x4_1).f0), .int .u64 ((rd_T46 l0 x4_1).f1), .int .u64 ((rd_T46 l0 x4_1).f2), .int .u64 0, .int .u64 0]) ?_ 3 _ rfl; (with_reducible repeat (first | refine blk_drewN ?_ _ | refine blk_drew ?_ | refine blk_alloc ?_ _)); refine blk_put (cs := #[.int .u64 ((rd_T46 l0 x4_1).f0), .int .u64 ((rd_T46 l0 x4_1).f1), .int .u64 0, .int .u64 0, .int .u64 0]) ?_ 2 _ rfl; (with_reducible repeat (first | refine blk_drewN ?_ _ | refine blk_drew ?_ | refine blk_alloc ?_ _)); refine blk_put (cs := #[.int .u64 ((rd_T46 l0 x4_1).f0), .int .u64 0, .int .u64 0, .int .u64 0, .int .u64 0]) ?_ 1 _ rfl; (with_reducible repeat (first | refine blk_drewN ?_ _ | refine blk_drew ?_ | refine blk_alloc ?_ _)); refine blk_put (cs := #[.int .u64 0, .int .u64 0, .int .u64 0, .int .u64 0, .int .u64 0]) ?_ 0 _ rfl; (with_reducible repeat (first | refine blk_drewN ?_ _ | refine blk_drew ?_ | refine blk_alloc ?_ _)); exact BK526.out) hb); have n1_ := Aside0.mk (below_step (by repeat (first | (with_reducible first | exact HB.out | apply below_alloc | apply pw_below_drewN | apply below_drew1 | refine below_set ?_ GE526.out) | exact HB.out)) hb); clear BK526; clear HB; have BK526 := n0_; have HB := n1_; clear n0_ n1_; (try clear hb); (try clear hb2); (try clear hk); (try clear hi); have hcz15_0 : w14.cell? ⟨gb526, 0, none⟩ = some (.int .u64 ((rd_T46 l0 x4_1).f0)) := (blk_cell BK526.out 0).trans rfl; have hcz15_1 : w14.cell? ⟨gb526, 1, none⟩ = some (.int .u64 ((rd_T46 l0 x4_1).f1)) := (blk_cell BK526.out 1).trans rfl; have hcz15_2 : w14.cell? ⟨gb526, 2, none⟩ = some (.int .u64 ((rd_T46 l0 x4_1).f2)) := (blk_cell BK526.out 2).trans rfl; have hcz15_3 : w14.cell? ⟨gb526, 3, none⟩ = some (.int .u64 ((rd_T46 l0 x4_1).f3)) := (blk_cell BK526.out 3).trans rfl; have hcz15_4 : w14.cell? ⟨gb526, 4, none⟩ = some (.int .u64 ((rd_T46 l0 x4_1).f4)) := (blk_cell BK526.out 4).trans rfl; have hfz15_0 := blk_frozen BK526.out 0; have hfz15_1 := blk_frozen BK526.out 1; have hfz15_2 := blk_frozen BK526.out 2; have hfz15_3 := blk_frozen BK526.out 3; have hfz15_4 := blk_frozen BK526.out 4) | ((with_reducible refine gate_callee (f := 28) rfl ?_); refine goesL_ (some 24) rfl rfl Try.func28 (by kernel_rfl) rfl #[.agg #[.int .u64 ((rd_T46 l0 x4_1).f0), .int .u64 ((rd_T46 l0 x4_1).f1), .int .u64 x3_1, .int .u64 ((rd_T46 l0 x4_1).f3), .int .u64 ((rd_T46 l0 x4_1).f4)]] rfl (by (try simp only [List.map_toArray, List.map_cons, List.map_nil]); first | done | rfl | (simp only [List.length_drop, List.length_take]; rfl)) ?_; (with_reducible refine (turnstilelaw04_admits.calls k1 ((rd_T46 l0 x4_1).f0) ((rd_T46 l0 x4_1).f1) x3_1 ((rd_T46 l0 x4_1).f3) ((rd_T46 l0 x4_1).f4) true _ A9.out).mono ?_); rintro e w16 ⟨rfl, hb⟩; refine ⟨_, rfl, ?_⟩; have n0_ := Aside0.mk (blk_below (g := gb526) (o := .cells #[.int .u64 ((rd_T46 l0 x4_1).f0), .int .u64 ((rd_T46 l0 x4_1).f1), .int .u64 x3_1, .int .u64 ((rd_T46 l0 x4_1).f3), .int .u64 ((rd_T46 l0 x4_1).f4)] 46 (0, 0)) (by (with_reducible repeat (first | refine blk_drewN ?_ _ | refine blk_drew ?_ | refine blk_alloc ?_ _)); refine blk_put (cs := #[.int .u64 ((rd_T46 l0 x4_1).f0), .int .u64 ((rd_T46 l0 x4_1).f1), .int .u64 ((rd_T46 l0 x4_1).f2), .int .u64 ((rd_T46 l0 x4_1).f3), .int .u64 ((rd_T46 l0 x4_1).f4)]) ?_ 2 _ rfl; (with_reducible repeat (first | refine blk_drewN ?_ _ | refine blk_drew ?_ | refine blk_alloc ?_ _)); exact BK526.out) hb); have n1_ := Aside0.mk (below_step (by repeat (first | (with_reducible first | exact HB.out | apply below_alloc | apply pw_below_drewN | apply below_drew1 | refine below_set ?_ GE526.out) | exact HB.out)) hb); clear BK526; clear HB; have BK526 := n0_; have HB := n1_; clear n0_ n1_; (try clear hb); (try clear hb2); (try clear hk); (try clear hi); have hcz17_0 : w16.cell? ⟨gb526, 0, none⟩ = some (.int .u64 ((rd_T46 l0 x4_1).f0)) := (blk_cell BK526.out 0).trans rfl; have hcz17_1 : w16.cell? ⟨gb526, 1, none⟩ = some (.int .u64 ((rd_T46 l0 x4_1).f1)) := (blk_cell BK526.out 1).trans rfl; have hcz17_2 : w16.cell? ⟨gb526, 2, none⟩ = some (.int .u64 x3_1) := (blk_cell BK526.out 2).trans rfl; have hcz17_3 : w16.cell? ⟨gb526, 3, none⟩ = some (.int .u64 ((rd_T46 l0 x4_1).f3)) := (blk_cell BK526.out 3).trans rfl; have hcz17_4 : w16.cell? ⟨gb526, 4, none⟩ = some (.int .u64 ((rd_T46 l0 x4_1).f4)) := (blk_cell BK526.out 4).trans rfl; have hfz17_0 := blk_frozen BK526.out 0; have hfz17_1 := blk_frozen BK526.out 1; have hfz17_2 := blk_frozen BK526.out 2; have hfz17_3 := blk_frozen BK526.out 3; have hfz17_4 := blk_frozen BK526.out 4) | ((with_reducible refine gate_callee (f := 29) rfl ?_); refine goesL_ (some 36) rfl rfl Try.func29 (by kernel_rfl) rfl #[.int .u64 ((rd_T46 l0 x4_1).f0), .int .u64 ((rd_T46 l0 x4_1).f1), .int .u64 x3_1, .int .u64 ((rd_T46 l0 x4_1).f3), .int .u64 ((rd_T46 l0 x4_1).f4)] rfl (by (try simp only [List.map_toArray, List.map_cons, List.map_nil]); first | done | rfl | (simp only [List.length_drop, List.length_take]; rfl)) ?_; (with_reducible refine (gcra_Admit.calls k1 ((rd_T46 l0 x4_1).f0) ((rd_T46 l0 x4_1).f1) x3_1 ((rd_T46 l0 x4_1).f3) ((rd_T46 l0 x4_1).f4) t529 t530 _ A11.out).mono ?_); rintro e w18 ⟨rfl, hb⟩; refine ⟨_, rfl, ?_⟩; have n0_ := Aside0.mk (blk_below (g := gb526) (o := .cells #[.int .u64 ((rd_T46 l0 x4_1).f0), .int .u64 ((rd_T46 l0 x4_1).f1), .int .u64 x3_1, .int .u64 ((rd_T46 l0 x4_1).f3), .int .u64 ((rd_T46 l0 x4_1).f4)] 46 (0, 0)) (by (with_reducible repeat (first | refine blk_drewN ?_ _ | refine blk_drew ?_ | refine blk_alloc ?_ _)); exact BK526.out) hb); have n1_ := Aside0.mk (below_step (by repeat (first | (with_reducible first | exact HB.out | apply below_alloc | apply pw_below_drewN | apply below_drew1 | refine below_set ?_ GE526.out) | exact HB.out)) hb); clear BK526; clear HB; have BK526 := n0_; have HB := n1_; clear n0_ n1_; (try clear hb); (try clear hb2); (try clear hk); (try clear hi)))
                go_roundg k1
                case measure => have := HK1.out; omega
                case rel => exact ⟨(t529), (wrap64 (x4_1 + 1)), (by first | rfl | (simp; done) | (simp [*]; done)), (by first | rfl | (simp; done) | (simp [*]; done)), H', ⟨by have := HK1.out; omega⟩, ⟨by repeat (first | (with_reducible first | exact HB.out | apply below_alloc | apply pw_below_drewN | apply below_drew1 | refine below_set ?_ GE526.out) | exact HB.out)⟩⟩
              · replace c10 := Bool.eq_false_iff.mpr c10
                subst c10
                have H1 : (some false) = some r := by rw [if_neg (show ¬ (false = true) by decide)] at H; exact H
                clear H
                have H := H1
                clear H1
                obtain rfl := Option.some.inj H
                have p525 : 0 ≤ (x4_1 : Int) := of_decide_eq_true (by first | (with_reducible assumption) | assumption)
                have q525 : x4_1 < (l0.length : Int) := of_decide_eq_true (by first | (with_reducible assumption) | assumption)
                obtain ⟨ad525, e525, hx525_0, hx525_1, hx525_2, hx525_3, hx525_4⟩ := at_T46 HR0.out x4_1 p525 q525
                cases e525
                replace hx525_0 := (HB.out.cell (World.block_lt_of_cell? w _ hx525_0)).trans hx525_0
                replace hx525_1 := (HB.out.cell (World.block_lt_of_cell? w _ hx525_1)).trans hx525_1
                replace hx525_2 := (HB.out.cell (World.block_lt_of_cell? w _ hx525_2)).trans hx525_2
                replace hx525_3 := (HB.out.cell (World.block_lt_of_cell? w _ hx525_3)).trans hx525_3
                replace hx525_4 := (HB.out.cell (World.block_lt_of_cell? w _ hx525_4)).trans hx525_4
                replace p525 := eq_true p525
                replace q525 := eq_true q525
                go_wp2_with (first | ((with_reducible refine gate_dst (N := 5) rfl ?_); refine box_event ?hg (N := 5) ?hd (cs := #[.int .u64 0, .int .u64 0, .int .u64 0, .int .u64 0, .int .u64 0]) (t := 46) ?hr ?_; (case hd => rfl); (case hg => rfl); (case hr => first | (go_simp; done) | (go_simp; rfl)); intro gb526 hg w19 hbox hb; have n0_ := Aside0.mk (below_step (by repeat (first | (with_reducible first | exact HB.out | apply below_alloc | apply pw_below_drewN | apply below_drew1) | exact HB.out)) hb); have n1_ := Aside0.mk (hbox); have n2_ := Aside0.mk ((by rw [hg]; exact (below_size (by repeat (first | (with_reducible first | exact HB.out | apply below_alloc | apply pw_below_drewN | apply below_drew1) | exact HB.out))) : w.heap.size ≤ gb526)); have n3_ := Aside0.mk ((by rw [hg]; exact (below_size (by repeat (first | (with_reducible first | exact HB.out | apply below_alloc | apply pw_below_drewN | apply below_drew1) | exact HB.out))) : w.heap.size ≤ gb526)); clear HB; have HB := n0_; have BK526 := n1_; have GW526 := n2_; have GE526 := n3_; clear n0_ n1_ n2_ n3_; clear hb hbox hg; have hcz20_0 : w19.cell? ⟨gb526, 0, none⟩ = some (.int .u64 0) := (blk_cell BK526.out 0).trans rfl; have hcz20_1 : w19.cell? ⟨gb526, 1, none⟩ = some (.int .u64 0) := (blk_cell BK526.out 1).trans rfl; have hcz20_2 : w19.cell? ⟨gb526, 2, none⟩ = some (.int .u64 0) := (blk_cell BK526.out 2).trans rfl; have hcz20_3 : w19.cell? ⟨gb526, 3, none⟩ = some (.int .u64 0) := (blk_cell BK526.out 3).trans rfl; have hcz20_4 : w19.cell? ⟨gb526, 4, none⟩ = some (.int .u64 0) := (blk_cell BK526.out 4).trans rfl; have hfz20_0 := blk_frozen BK526.out 0; have hfz20_1 := blk_frozen BK526.out 1; have hfz20_2 := blk_frozen BK526.out 2; have hfz20_3 := blk_frozen BK526.out 3; have hfz20_4 := blk_frozen BK526.out 4) | ((with_reducible refine gate_callee (f := 28) rfl ?_); refine goesL_ (some 19) rfl rfl Try.func28 (by kernel_rfl) rfl #[.agg #[.int .u64 ((rd_T46 l0 x4_1).f0), .int .u64 ((rd_T46 l0 x4_1).f1), .int .u64 ((rd_T46 l0 x4_1).f2), .int .u64 ((rd_T46 l0 x4_1).f3), .int .u64 ((rd_T46 l0 x4_1).f4)]] rfl (by (try simp only [List.map_toArray, List.map_cons, List.map_nil]); first | done | rfl | (simp only [List.length_drop, List.length_take]; rfl)) ?_; (with_reducible refine (turnstilelaw04_admits.calls k1 ((rd_T46 l0 x4_1).f0) ((rd_T46 l0 x4_1).f1) ((rd_T46 l0 x4_1).f2) ((rd_T46 l0 x4_1).f3) ((rd_T46 l0 x4_1).f4) true _ A7.out).mono ?_); rintro e w21 ⟨rfl, hb⟩; refine ⟨_, rfl, ?_⟩; have n0_ := Aside0.mk (blk_below (g := gb526) (o := .cells #[.int .u64 ((rd_T46 l0 x4_1).f0), .int .u64 ((rd_T46 l0 x4_1).f1), .int .u64 ((rd_T46 l0 x4_1).f2), .int .u64 ((rd_T46 l0 x4_1).f3), .int .u64 ((rd_T46 l0 x4_1).f4)] 46 (0, 0)) (by (with_reducible repeat (first | refine blk_drewN ?_ _ | refine blk_drew ?_ | refine blk_alloc ?_ _)); refine blk_put (cs := #[.int .u64 ((rd_T46 l0 x4_1).f0), .int .u64 ((rd_T46 l0 x4_1).f1), .int .u64 ((rd_T46 l0 x4_1).f2), .int .u64 ((rd_T46 l0 x4_1).f3), .int .u64 0]) ?_ 4 _ rfl; (with_reducible repeat (first | refine blk_drewN ?_ _ | refine blk_drew ?_ | refine blk_alloc ?_ _)); refine blk_put (cs := #[.int .u64 ((rd_T46 l0 x4_1).f0), .int .u64 ((rd_T46 l0 x4_1).f1), .int .u64 ((rd_T46 l0 x4_1).f2), .int .u64 0, .int .u64 0]) ?_ 3 _ rfl; (with_reducible repeat (first | refine blk_drewN ?_ _ | refine blk_drew ?_ | refine blk_alloc ?_ _)); refine blk_put (cs := #[.int .u64 ((rd_T46 l0 x4_1).f0), .int .u64 ((rd_T46 l0 x4_1).f1), .int .u64 0, .int .u64 0, .int .u64 0]) ?_ 2 _ rfl; (with_reducible repeat (first | refine blk_drewN ?_ _ | refine blk_drew ?_ | refine blk_alloc ?_ _)); refine blk_put (cs := #[.int .u64 ((rd_T46 l0 x4_1).f0), .int .u64 0, .int .u64 0, .int .u64 0, .int .u64 0]) ?_ 1 _ rfl; (with_reducible repeat (first | refine blk_drewN ?_ _ | refine blk_drew ?_ | refine blk_alloc ?_ _)); refine blk_put (cs := #[.int .u64 0, .int .u64 0, .int .u64 0, .int .u64 0, .int .u64 0]) ?_ 0 _ rfl; (with_reducible repeat (first | refine blk_drewN ?_ _ | refine blk_drew ?_ | refine blk_alloc ?_ _)); exact BK526.out) hb); have n1_ := Aside0.mk (below_step (by repeat (first | (with_reducible first | exact HB.out | apply below_alloc | apply pw_below_drewN | apply below_drew1 | refine below_set ?_ GE526.out) | exact HB.out)) hb); clear BK526; clear HB; have BK526 := n0_; have HB := n1_; clear n0_ n1_; (try clear hb); (try clear hb2); (try clear hk); (try clear hi); have hcz22_0 : w21.cell? ⟨gb526, 0, none⟩ = some (.int .u64 ((rd_T46 l0 x4_1).f0)) := (blk_cell BK526.out 0).trans rfl; have hcz22_1 : w21.cell? ⟨gb526, 1, none⟩ = some (.int .u64 ((rd_T46 l0 x4_1).f1)) := (blk_cell BK526.out 1).trans rfl; have hcz22_2 : w21.cell? ⟨gb526, 2, none⟩ = some (.int .u64 ((rd_T46 l0 x4_1).f2)) := (blk_cell BK526.out 2).trans rfl; have hcz22_3 : w21.cell? ⟨gb526, 3, none⟩ = some (.int .u64 ((rd_T46 l0 x4_1).f3)) := (blk_cell BK526.out 3).trans rfl; have hcz22_4 : w21.cell? ⟨gb526, 4, none⟩ = some (.int .u64 ((rd_T46 l0 x4_1).f4)) := (blk_cell BK526.out 4).trans rfl; have hfz22_0 := blk_frozen BK526.out 0; have hfz22_1 := blk_frozen BK526.out 1; have hfz22_2 := blk_frozen BK526.out 2; have hfz22_3 := blk_frozen BK526.out 3; have hfz22_4 := blk_frozen BK526.out 4) | ((with_reducible refine gate_callee (f := 28) rfl ?_); refine goesL_ (some 24) rfl rfl Try.func28 (by kernel_rfl) rfl #[.agg #[.int .u64 ((rd_T46 l0 x4_1).f0), .int .u64 ((rd_T46 l0 x4_1).f1), .int .u64 x3_1, .int .u64 ((rd_T46 l0 x4_1).f3), .int .u64 ((rd_T46 l0 x4_1).f4)]] rfl (by (try simp only [List.map_toArray, List.map_cons, List.map_nil]); first | done | rfl | (simp only [List.length_drop, List.length_take]; rfl)) ?_; (with_reducible refine (turnstilelaw04_admits.calls k1 ((rd_T46 l0 x4_1).f0) ((rd_T46 l0 x4_1).f1) x3_1 ((rd_T46 l0 x4_1).f3) ((rd_T46 l0 x4_1).f4) false _ A9.out).mono ?_); rintro e w23 ⟨rfl, hb⟩; refine ⟨_, rfl, ?_⟩; have n0_ := Aside0.mk (blk_below (g := gb526) (o := .cells #[.int .u64 ((rd_T46 l0 x4_1).f0), .int .u64 ((rd_T46 l0 x4_1).f1), .int .u64 x3_1, .int .u64 ((rd_T46 l0 x4_1).f3), .int .u64 ((rd_T46 l0 x4_1).f4)] 46 (0, 0)) (by (with_reducible repeat (first | refine blk_drewN ?_ _ | refine blk_drew ?_ | refine blk_alloc ?_ _)); refine blk_put (cs := #[.int .u64 ((rd_T46 l0 x4_1).f0), .int .u64 ((rd_T46 l0 x4_1).f1), .int .u64 ((rd_T46 l0 x4_1).f2), .int .u64 ((rd_T46 l0 x4_1).f3), .int .u64 ((rd_T46 l0 x4_1).f4)]) ?_ 2 _ rfl; (with_reducible repeat (first | refine blk_drewN ?_ _ | refine blk_drew ?_ | refine blk_alloc ?_ _)); exact BK526.out) hb); have n1_ := Aside0.mk (below_step (by repeat (first | (with_reducible first | exact HB.out | apply below_alloc | apply pw_below_drewN | apply below_drew1 | refine below_set ?_ GE526.out) | exact HB.out)) hb); clear BK526; clear HB; have BK526 := n0_; have HB := n1_; clear n0_ n1_; (try clear hb); (try clear hb2); (try clear hk); (try clear hi)))
                go_ret
                exact ⟨by first | rfl | (simp [errW_none, errW_some] <;> rfl) | (simp [*, errW_none, errW_some] <;> rfl), by repeat (first | (with_reducible first | exact HB.out | apply below_alloc | apply pw_below_drewN | apply below_drew1 | refine below_set ?_ GE526.out) | exact HB.out)⟩
            · replace c8 := Bool.eq_false_iff.mpr c8
              subst c8
              have H1 : (some false) = some r := by rw [if_neg (show ¬ (false = true) by decide)] at H; exact H
              clear H
              have H := H1
              clear H1
              obtain rfl := Option.some.inj H
              have p525 : 0 ≤ (x4_1 : Int) := of_decide_eq_true (by first | (with_reducible assumption) | assumption)
              have q525 : x4_1 < (l0.length : Int) := of_decide_eq_true (by first | (with_reducible assumption) | assumption)
              obtain ⟨ad525, e525, hx525_0, hx525_1, hx525_2, hx525_3, hx525_4⟩ := at_T46 HR0.out x4_1 p525 q525
              cases e525
              replace hx525_0 := (HB.out.cell (World.block_lt_of_cell? w _ hx525_0)).trans hx525_0
              replace hx525_1 := (HB.out.cell (World.block_lt_of_cell? w _ hx525_1)).trans hx525_1
              replace hx525_2 := (HB.out.cell (World.block_lt_of_cell? w _ hx525_2)).trans hx525_2
              replace hx525_3 := (HB.out.cell (World.block_lt_of_cell? w _ hx525_3)).trans hx525_3
              replace hx525_4 := (HB.out.cell (World.block_lt_of_cell? w _ hx525_4)).trans hx525_4
              replace p525 := eq_true p525
              replace q525 := eq_true q525
              go_wp2_with (first | ((with_reducible refine gate_dst (N := 5) rfl ?_); refine box_event ?hg (N := 5) ?hd (cs := #[.int .u64 0, .int .u64 0, .int .u64 0, .int .u64 0, .int .u64 0]) (t := 46) ?hr ?_; (case hd => rfl); (case hg => rfl); (case hr => first | (go_simp; done) | (go_simp; rfl)); intro gb526 hg w24 hbox hb; have n0_ := Aside0.mk (below_step (by repeat (first | (with_reducible first | exact HB.out | apply below_alloc | apply pw_below_drewN | apply below_drew1) | exact HB.out)) hb); have n1_ := Aside0.mk (hbox); have n2_ := Aside0.mk ((by rw [hg]; exact (below_size (by repeat (first | (with_reducible first | exact HB.out | apply below_alloc | apply pw_below_drewN | apply below_drew1) | exact HB.out))) : w.heap.size ≤ gb526)); have n3_ := Aside0.mk ((by rw [hg]; exact (below_size (by repeat (first | (with_reducible first | exact HB.out | apply below_alloc | apply pw_below_drewN | apply below_drew1) | exact HB.out))) : w.heap.size ≤ gb526)); clear HB; have HB := n0_; have BK526 := n1_; have GW526 := n2_; have GE526 := n3_; clear n0_ n1_ n2_ n3_; clear hb hbox hg; have hcz25_0 : w24.cell? ⟨gb526, 0, none⟩ = some (.int .u64 0) := (blk_cell BK526.out 0).trans rfl; have hcz25_1 : w24.cell? ⟨gb526, 1, none⟩ = some (.int .u64 0) := (blk_cell BK526.out 1).trans rfl; have hcz25_2 : w24.cell? ⟨gb526, 2, none⟩ = some (.int .u64 0) := (blk_cell BK526.out 2).trans rfl; have hcz25_3 : w24.cell? ⟨gb526, 3, none⟩ = some (.int .u64 0) := (blk_cell BK526.out 3).trans rfl; have hcz25_4 : w24.cell? ⟨gb526, 4, none⟩ = some (.int .u64 0) := (blk_cell BK526.out 4).trans rfl; have hfz25_0 := blk_frozen BK526.out 0; have hfz25_1 := blk_frozen BK526.out 1; have hfz25_2 := blk_frozen BK526.out 2; have hfz25_3 := blk_frozen BK526.out 3; have hfz25_4 := blk_frozen BK526.out 4) | ((with_reducible refine gate_callee (f := 28) rfl ?_); refine goesL_ (some 19) rfl rfl Try.func28 (by kernel_rfl) rfl #[.agg #[.int .u64 ((rd_T46 l0 x4_1).f0), .int .u64 ((rd_T46 l0 x4_1).f1), .int .u64 ((rd_T46 l0 x4_1).f2), .int .u64 ((rd_T46 l0 x4_1).f3), .int .u64 ((rd_T46 l0 x4_1).f4)]] rfl (by (try simp only [List.map_toArray, List.map_cons, List.map_nil]); first | done | rfl | (simp only [List.length_drop, List.length_take]; rfl)) ?_; (with_reducible refine (turnstilelaw04_admits.calls k1 ((rd_T46 l0 x4_1).f0) ((rd_T46 l0 x4_1).f1) ((rd_T46 l0 x4_1).f2) ((rd_T46 l0 x4_1).f3) ((rd_T46 l0 x4_1).f4) false _ A7.out).mono ?_); rintro e w26 ⟨rfl, hb⟩; refine ⟨_, rfl, ?_⟩; have n0_ := Aside0.mk (blk_below (g := gb526) (o := .cells #[.int .u64 ((rd_T46 l0 x4_1).f0), .int .u64 ((rd_T46 l0 x4_1).f1), .int .u64 ((rd_T46 l0 x4_1).f2), .int .u64 ((rd_T46 l0 x4_1).f3), .int .u64 ((rd_T46 l0 x4_1).f4)] 46 (0, 0)) (by (with_reducible repeat (first | refine blk_drewN ?_ _ | refine blk_drew ?_ | refine blk_alloc ?_ _)); refine blk_put (cs := #[.int .u64 ((rd_T46 l0 x4_1).f0), .int .u64 ((rd_T46 l0 x4_1).f1), .int .u64 ((rd_T46 l0 x4_1).f2), .int .u64 ((rd_T46 l0 x4_1).f3), .int .u64 0]) ?_ 4 _ rfl; (with_reducible repeat (first | refine blk_drewN ?_ _ | refine blk_drew ?_ | refine blk_alloc ?_ _)); refine blk_put (cs := #[.int .u64 ((rd_T46 l0 x4_1).f0), .int .u64 ((rd_T46 l0 x4_1).f1), .int .u64 ((rd_T46 l0 x4_1).f2), .int .u64 0, .int .u64 0]) ?_ 3 _ rfl; (with_reducible repeat (first | refine blk_drewN ?_ _ | refine blk_drew ?_ | refine blk_alloc ?_ _)); refine blk_put (cs := #[.int .u64 ((rd_T46 l0 x4_1).f0), .int .u64 ((rd_T46 l0 x4_1).f1), .int .u64 0, .int .u64 0, .int .u64 0]) ?_ 2 _ rfl; (with_reducible repeat (first | refine blk_drewN ?_ _ | refine blk_drew ?_ | refine blk_alloc ?_ _)); refine blk_put (cs := #[.int .u64 ((rd_T46 l0 x4_1).f0), .int .u64 0, .int .u64 0, .int .u64 0, .int .u64 0]) ?_ 1 _ rfl; (with_reducible repeat (first | refine blk_drewN ?_ _ | refine blk_drew ?_ | refine blk_alloc ?_ _)); refine blk_put (cs := #[.int .u64 0, .int .u64 0, .int .u64 0, .int .u64 0, .int .u64 0]) ?_ 0 _ rfl; (with_reducible repeat (first | refine blk_drewN ?_ _ | refine blk_drew ?_ | refine blk_alloc ?_ _)); exact BK526.out) hb); have n1_ := Aside0.mk (below_step (by repeat (first | (with_reducible first | exact HB.out | apply below_alloc | apply pw_below_drewN | apply below_drew1 | refine below_set ?_ GE526.out) | exact HB.out)) hb); clear BK526; clear HB; have BK526 := n0_; have HB := n1_; clear n0_ n1_; (try clear hb); (try clear hb2); (try clear hk); (try clear hi)))
              go_ret
              exact ⟨by first | rfl | (simp [errW_none, errW_some] <;> rfl) | (simp [*, errW_none, errW_some] <;> rfl), by repeat (first | (with_reducible first | exact HB.out | apply below_alloc | apply pw_below_drewN | apply below_drew1 | refine below_set ?_ GE526.out) | exact HB.out)⟩
          · rw [if_neg c6] at H
            exact absurd H (by simp)
        · rw [if_neg c5] at H
          have c5b0 : decide (x4_1 < (l0.length : Int)) = false := decide_eq_false c5
          clear c5
          obtain rfl := Option.some.inj H
          go_wp2
          go_ret
          exact ⟨by first | rfl | (simp [errW_none, errW_some] <;> rfl) | (simp [*, errW_none, errW_some] <;> rfl), by repeat (first | (with_reducible first | exact HB.out | apply below_alloc | apply pw_below_drewN | apply below_drew1) | exact HB.out)⟩
  · replace c3 := Bool.eq_false_iff.mpr c3
    subst c3
    have H1 : (some false) = some r := by rw [if_neg (show ¬ (false = true) by decide)] at H; exact H
    clear H
    have H := H1
    clear H1
    obtain rfl := Option.some.inj H
    go_enter Try.func8, Try.ntmps8
    go_wp2_with (first | ((with_reducible refine gate_callee (f := 27) rfl ?_); refine goesL_ (some 6) rfl rfl Try.func27 (by kernel_rfl) rfl #[] rfl (by (try simp only [List.map_toArray, List.map_cons, List.map_nil]); first | done | rfl | (simp only [List.length_drop, List.length_take]; rfl)) ?_; (with_reducible refine (turnstilelaw04_lives.calls k  false _ A2.out).mono ?_); rintro e w27 ⟨rfl, hb⟩; refine ⟨_, rfl, ?_⟩; have n0_ := Aside0.mk (below_step (by repeat (first | (with_reducible first | exact HB.out | apply below_alloc | apply pw_below_drewN | apply below_drew1) | exact HB.out)) hb); clear HB; have HB := n0_; clear n0_; (try clear hb); (try clear hb2); (try clear hk); (try clear hi)))
    go_ret
    exact ⟨by first | rfl | (simp [errW_none, errW_some] <;> rfl) | (simp [*, errW_none, errW_some] <;> rfl), by repeat (first | (with_reducible first | exact HB.out | apply below_alloc | apply pw_below_drewN | apply below_drew1) | exact HB.out)⟩


end Go.Proofs.Ythnpgilknoiaaaa.Q
