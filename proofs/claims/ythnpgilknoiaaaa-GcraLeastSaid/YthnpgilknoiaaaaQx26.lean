/- Written by the session's own program hyb.py: what functions of the program compute; Lean checks it. -/
import Derived.Test.YthnpgilknoiaaaaQx0
import Derived.Test.YthnpgilknoiaaaaQx18
import Derived.Test.YthnpgilknoiaaaaQx20
import Derived.Test.YthnpgilknoiaaaaQx25
namespace Go.Proofs.Ythnpgilknoiaaaa.Q
open Go.RowKit Go.Proofs.YthnpgilknoiaaaaW.PrintWords Go.Proofs.YthnpgilknoiaaaaW.PrintLast Go.Proofs.YthnpgilknoiaaaaW.PrintMore
attribute [local go_sem] run_Add64 run_Sub64
attribute [local go_sem] max2_int min2_int max_two min_two max_three min_three max_four min_four   -- for this text's walks alone
set_option linter.unusedVariables false
set_option linter.unusedSimpArgs false

/-! ### turnstilelaw04_GcraLeast: function 10 -/
def turnstilelaw04_GcraLeast.j0 : Nat → Int → Int → Bool → Int → Int → Int → Int → Int → Option (Bool)
  | 0, _, _, _, _, _, _, _, _ => none
  | k + 1, x1, x5, x69, x551000, x551001, x551002, x551003, x551004 => if x69 = true then (some false) else (if x1 ≥ x551003 then (if x1 < x5 then ((turnstilelaw04_yes.f k x551000 x551001 x551002 x551003 x551004 x1 x551004).bind fun t558 => (if t558 = true then (some false) else (if x5 = x551003 then (some true) else ((turnstilelaw04_yes.f k x551000 x551001 x551002 x551003 x551004 (IntKind.u64.wrap (x5 - 1)) x551004).bind fun t559 => (some (!t559)))))) else (if x5 = x551003 then (some true) else ((turnstilelaw04_yes.f k x551000 x551001 x551002 x551003 x551004 (IntKind.u64.wrap (x5 - 1)) x551004).bind fun t560 => (some (!t560))))) else (if x5 = x551003 then (some true) else ((turnstilelaw04_yes.f k x551000 x551001 x551002 x551003 x551004 (IntKind.u64.wrap (x5 - 1)) x551004).bind fun t561 => (some (!t561)))))
def turnstilelaw04_GcraLeast.f (k : Nat) (a0_0 : Int) (a0_1 : Int) (a0_2 : Int) (a0_3 : Int) (a0_4 : Int) (a1 : Int) : Option (Bool) := (turnstilelaw04_lives.f k).bind fun t551 => (if t551 = true then ((gcra_Retry.f k a0_0 a0_1 a0_2 a0_3 a0_4).bind fun t552 => (if t552 = 18446744073709551615 then ((turnstilelaw04_yes.f k a0_0 a0_1 a0_2 a0_3 a0_4 a0_3 a0_4).bind fun t553 => (if t553 = true then (some false) else (if a1 < a0_3 then (if a0_2 < a0_3 then (some true) else ((turnstilelaw04_yes.f k a0_0 a0_1 a0_2 a0_3 a0_4 a0_2 a0_4).bind fun t554 => (some (!t554)))) else ((turnstilelaw04_yes.f k a0_0 a0_1 a0_2 a0_3 a0_4 a1 a0_4).bind fun t555 => (if t555 = true then (some false) else (if a0_2 < a0_3 then (some true) else ((turnstilelaw04_yes.f k a0_0 a0_1 a0_2 a0_3 a0_4 a0_2 a0_4).bind fun t556 => (some (!t556))))))))) else (if t552 < a0_3 then (turnstilelaw04_GcraLeast.j0 k a1 t552 true a0_0 a0_1 a0_2 a0_3 a0_4) else ((turnstilelaw04_yes.f k a0_0 a0_1 a0_2 a0_3 a0_4 t552 a0_4).bind fun t557 => (turnstilelaw04_GcraLeast.j0 k a1 t552 (!t557) a0_0 a0_1 a0_2 a0_3 a0_4))))) else (some false))
theorem turnstilelaw04_GcraLeast.mono_l : ∀ k, (∀ y0 y1 y2 y3 y4 y5 y6 y7, LeO (turnstilelaw04_GcraLeast.j0 k y0 y1 y2 y3 y4 y5 y6 y7) (turnstilelaw04_GcraLeast.j0 (k + 1) y0 y1 y2 y3 y4 y5 y6 y7))
  | 0 => fun _ _ _ _ _ _ _ _ r h => by simp [turnstilelaw04_GcraLeast.j0] at h
  | k + 1 => by
    have ih0 := turnstilelaw04_GcraLeast.mono_l k
    · intro y0 y1 y2 y3 y4 y5 y6 y7
      unfold turnstilelaw04_GcraLeast.j0
      repeat' first
      | (with_reducible exact ih0 _ _ _ _ _ _ _ _)
      | (with_reducible exact gcra_Retry.mono _ _ _ _ _ _)
      | (with_reducible exact turnstilelaw04_lives.mono _)
      | (with_reducible exact turnstilelaw04_yes.mono _ _ _ _ _ _ _ _)
      | (with_reducible exact LeO.refl _)
      | (with_reducible exact LeO.none _)
      | (with_reducible refine LeO.ite ?_ ?_)
      | (with_reducible refine LeO.bind ?_ (fun _ => ?_))
      | exact ih0 _ _ _ _ _ _ _ _
      | exact gcra_Retry.mono _ _ _ _ _ _
      | exact turnstilelaw04_lives.mono _
      | exact turnstilelaw04_yes.mono _ _ _ _ _ _ _ _
      | exact LeO.none _
      | refine LeO.ite ?_ ?_
      | refine LeO.bind ?_ (fun _ => ?_)
theorem turnstilelaw04_GcraLeast.mono : ∀ a0 a1 a2 a3 a4 a5 k, LeO (turnstilelaw04_GcraLeast.f k a0 a1 a2 a3 a4 a5) (turnstilelaw04_GcraLeast.f (k + 1) a0 a1 a2 a3 a4 a5) := by
  intro a0 a1 a2 a3 a4 a5 k
  have ih0 := turnstilelaw04_GcraLeast.mono_l k
  unfold turnstilelaw04_GcraLeast.f
  repeat' first
      | (with_reducible exact ih0 _ _ _ _ _ _ _ _)
      | (with_reducible exact gcra_Retry.mono _ _ _ _ _ _)
      | (with_reducible exact turnstilelaw04_lives.mono _)
      | (with_reducible exact turnstilelaw04_yes.mono _ _ _ _ _ _ _ _)
      | (with_reducible exact LeO.refl _)
      | (with_reducible exact LeO.none _)
      | (with_reducible refine LeO.ite ?_ ?_)
      | (with_reducible refine LeO.bind ?_ (fun _ => ?_))
      | exact ih0 _ _ _ _ _ _ _ _
      | exact gcra_Retry.mono _ _ _ _ _ _
      | exact turnstilelaw04_lives.mono _
      | exact turnstilelaw04_yes.mono _ _ _ _ _ _ _ _
      | exact LeO.none _
      | refine LeO.ite ?_ ?_
      | refine LeO.bind ?_ (fun _ => ?_)
set_option maxHeartbeats 8000000 in
set_option maxRecDepth 100000 in
theorem turnstilelaw04_GcraLeast.calls (k : Nat) (a0_0 : Int) (a0_1 : Int) (a0_2 : Int) (a0_3 : Int) (a0_4 : Int) (a1 : Int) (r : Bool) (w : World) (h : turnstilelaw04_GcraLeast.f k a0_0 a0_1 a0_2 a0_3 a0_4 a1 = some r) :
    Calls Try.prog 10 #[.agg #[.int .u64 a0_0, .int .u64 a0_1, .int .u64 a0_2, .int .u64 a0_3, .int .u64 a0_4], .int .u64 a1] w fun e w' => e = .returned (.bool r) ∧ Below w.heap.size w w' := by
  have hu46 := Try.underlying46
  have HB := Aside0.mk (Below.refl w.heap.size w)
  have H : ((turnstilelaw04_lives.f k).bind fun t551 => (if t551 = true then ((gcra_Retry.f k a0_0 a0_1 a0_2 a0_3 a0_4).bind fun t552 => (if t552 = 18446744073709551615 then ((turnstilelaw04_yes.f k a0_0 a0_1 a0_2 a0_3 a0_4 a0_3 a0_4).bind fun t553 => (if t553 = true then (some false) else (if a1 < a0_3 then (if a0_2 < a0_3 then (some true) else ((turnstilelaw04_yes.f k a0_0 a0_1 a0_2 a0_3 a0_4 a0_2 a0_4).bind fun t554 => (some (!t554)))) else ((turnstilelaw04_yes.f k a0_0 a0_1 a0_2 a0_3 a0_4 a1 a0_4).bind fun t555 => (if t555 = true then (some false) else (if a0_2 < a0_3 then (some true) else ((turnstilelaw04_yes.f k a0_0 a0_1 a0_2 a0_3 a0_4 a0_2 a0_4).bind fun t556 => (some (!t556))))))))) else (if t552 < a0_3 then (turnstilelaw04_GcraLeast.j0 k a1 t552 true a0_0 a0_1 a0_2 a0_3 a0_4) else ((turnstilelaw04_yes.f k a0_0 a0_1 a0_2 a0_3 a0_4 t552 a0_4).bind fun t557 => (turnstilelaw04_GcraLeast.j0 k a1 t552 (!t557) a0_0 a0_1 a0_2 a0_3 a0_4))))) else (some false))) = some r := h
  clear h
  replace H := Option.bind_eq_some_iff.mp H
  obtain ⟨t551, A30, H⟩ := H
  replace H : (if t551 = true then ((gcra_Retry.f k a0_0 a0_1 a0_2 a0_3 a0_4).bind fun t552 => (if t552 = 18446744073709551615 then ((turnstilelaw04_yes.f k a0_0 a0_1 a0_2 a0_3 a0_4 a0_3 a0_4).bind fun t553 => (if t553 = true then (some false) else (if a1 < a0_3 then (if a0_2 < a0_3 then (some true) else ((turnstilelaw04_yes.f k a0_0 a0_1 a0_2 a0_3 a0_4 a0_2 a0_4).bind fun t554 => (some (!t554)))) else ((turnstilelaw04_yes.f k a0_0 a0_1 a0_2 a0_3 a0_4 a1 a0_4).bind fun t555 => (if t555 = true then (some false) else (if a0_2 < a0_3 then (some true) else ((turnstilelaw04_yes.f k a0_0 a0_1 a0_2 a0_3 a0_4 a0_2 a0_4).bind fun t556 => (some (!t556))))))))) else (if t552 < a0_3 then (turnstilelaw04_GcraLeast.j0 k a1 t552 true a0_0 a0_1 a0_2 a0_3 a0_4) else ((turnstilelaw04_yes.f k a0_0 a0_1 a0_2 a0_3 a0_4 t552 a0_4).bind fun t557 => (turnstilelaw04_GcraLeast.j0 k a1 t552 (!t557) a0_0 a0_1 a0_2 a0_3 a0_4))))) else (some false)) = some r := H
  have A3 := Aside0.mk A30
  clear A30
  by_cases c4 : t551 = true
  · subst c4
    have H1 : ((gcra_Retry.f k a0_0 a0_1 a0_2 a0_3 a0_4).bind fun t552 => (if t552 = 18446744073709551615 then ((turnstilelaw04_yes.f k a0_0 a0_1 a0_2 a0_3 a0_4 a0_3 a0_4).bind fun t553 => (if t553 = true then (some false) else (if a1 < a0_3 then (if a0_2 < a0_3 then (some true) else ((turnstilelaw04_yes.f k a0_0 a0_1 a0_2 a0_3 a0_4 a0_2 a0_4).bind fun t554 => (some (!t554)))) else ((turnstilelaw04_yes.f k a0_0 a0_1 a0_2 a0_3 a0_4 a1 a0_4).bind fun t555 => (if t555 = true then (some false) else (if a0_2 < a0_3 then (some true) else ((turnstilelaw04_yes.f k a0_0 a0_1 a0_2 a0_3 a0_4 a0_2 a0_4).bind fun t556 => (some (!t556))))))))) else (if t552 < a0_3 then (turnstilelaw04_GcraLeast.j0 k a1 t552 true a0_0 a0_1 a0_2 a0_3 a0_4) else ((turnstilelaw04_yes.f k a0_0 a0_1 a0_2 a0_3 a0_4 t552 a0_4).bind fun t557 => (turnstilelaw04_GcraLeast.j0 k a1 t552 (!t557) a0_0 a0_1 a0_2 a0_3 a0_4))))) = some r := by rw [if_pos rfl] at H; exact H
    clear H
    have H := H1
    clear H1
    replace H := Option.bind_eq_some_iff.mp H
    obtain ⟨t552, A50, H⟩ := H
    replace H : (if t552 = 18446744073709551615 then ((turnstilelaw04_yes.f k a0_0 a0_1 a0_2 a0_3 a0_4 a0_3 a0_4).bind fun t553 => (if t553 = true then (some false) else (if a1 < a0_3 then (if a0_2 < a0_3 then (some true) else ((turnstilelaw04_yes.f k a0_0 a0_1 a0_2 a0_3 a0_4 a0_2 a0_4).bind fun t554 => (some (!t554)))) else ((turnstilelaw04_yes.f k a0_0 a0_1 a0_2 a0_3 a0_4 a1 a0_4).bind fun t555 => (if t555 = true then (some false) else (if a0_2 < a0_3 then (some true) else ((turnstilelaw04_yes.f k a0_0 a0_1 a0_2 a0_3 a0_4 a0_2 a0_4).bind fun t556 => (some (!t556))))))))) else (if t552 < a0_3 then (turnstilelaw04_GcraLeast.j0 k a1 t552 true a0_0 a0_1 a0_2 a0_3 a0_4) else ((turnstilelaw04_yes.f k a0_0 a0_1 a0_2 a0_3 a0_4 t552 a0_4).bind fun t557 => (turnstilelaw04_GcraLeast.j0 k a1 t552 (!t557) a0_0 a0_1 a0_2 a0_3 a0_4)))) = some r := H
    have A5 := Aside0.mk A50
    clear A50
    by_cases c6 : t552 = 18446744073709551615
    · rw [if_pos c6] at H
      have c6b0 : (t552 == 18446744073709551615) = true := beq_iff_eq.mpr c6
      have c6b1 : (t552 != 18446744073709551615) = false := bne_eq_false_iff_eq.mpr c6
      clear c6
      replace H := Option.bind_eq_some_iff.mp H
      obtain ⟨t553, A70, H⟩ := H
      replace H : (if t553 = true then (some false) else (if a1 < a0_3 then (if a0_2 < a0_3 then (some true) else ((turnstilelaw04_yes.f k a0_0 a0_1 a0_2 a0_3 a0_4 a0_2 a0_4).bind fun t554 => (some (!t554)))) else ((turnstilelaw04_yes.f k a0_0 a0_1 a0_2 a0_3 a0_4 a1 a0_4).bind fun t555 => (if t555 = true then (some false) else (if a0_2 < a0_3 then (some true) else ((turnstilelaw04_yes.f k a0_0 a0_1 a0_2 a0_3 a0_4 a0_2 a0_4).bind fun t556 => (some (!t556)))))))) = some r := H
      have A7 := Aside0.mk A70
      clear A70
      by_cases c8 : t553 = true
      · subst c8
        have H1 : (some false) = some r := by rw [if_pos rfl] at H; exact H
        clear H
        have H := H1
        clear H1
        obtain rfl := Option.some.inj H
        go_enter Try.func10, Try.ntmps10
        go_wp2_with (first | ((with_reducible refine gate_dst (N := 2) rfl ?_); refine box_event ?hg (N := 2) ?hd (cs := #[.int .u64 a0_0, .int .u64 a0_1, .int .u64 a0_2, .int .u64 a0_3, .int .u64 a0_4]) (t := 46) ?hr ?_; (case hd => rfl); (case hg => rfl); (case hr => first | (go_simp; done) | (go_simp; rfl)); intro gb550 hg w9 hbox hb; have n0_ := Aside0.mk (below_step (by repeat (first | (with_reducible first | exact HB.out | apply below_alloc | apply pw_below_drewN | apply below_drew1) | exact HB.out)) hb); have n1_ := Aside0.mk (hbox); have n2_ := Aside0.mk ((by rw [hg]; exact (below_size (by repeat (first | (with_reducible first | exact HB.out | apply below_alloc | apply pw_below_drewN | apply below_drew1) | exact HB.out))) : w.heap.size ≤ gb550)); have n3_ := Aside0.mk ((by rw [hg]; exact (below_size (by repeat (first | (with_reducible first | exact HB.out | apply below_alloc | apply pw_below_drewN | apply below_drew1) | exact HB.out))) : w.heap.size ≤ gb550)); clear HB; have HB := n0_; have BK550 := n1_; have GW550 := n2_; have GE550 := n3_; clear n0_ n1_ n2_ n3_; clear hb hbox hg) | ((with_reducible refine gate_callee (f := 27) rfl ?_); refine goesL_ (some 6) rfl rfl Try.func27 (by kernel_rfl) rfl #[] rfl (by (try simp only [List.map_toArray, List.map_cons, List.map_nil]); first | done | rfl | (simp only [List.length_drop, List.length_take]; rfl)) ?_; (with_reducible refine (turnstilelaw04_lives.calls k  true _ A3.out).mono ?_); rintro e w10 ⟨rfl, hb⟩; refine ⟨_, rfl, ?_⟩; have n0_ := Aside0.mk (blk_below (g := gb550) (o := .cells #[.int .u64 a0_0, .int .u64 a0_1, .int .u64 a0_2, .int .u64 a0_3, .int .u64 a0_4] 46 (0, 0)) (by (with_reducible repeat (first | refine blk_drewN ?_ _ | refine blk_drew ?_ | refine blk_alloc ?_ _)); exact BK550.out) hb); have n1_ := Aside0.mk (below_step (by repeat (first | (with_reducible first | exact HB.out | apply below_alloc | apply pw_below_drewN | apply below_drew1 | refine below_set ?_ GE550.out) | exact HB.out)) hb); clear BK550; clear HB; have BK550 := n0_; have HB := n1_; clear n0_ n1_; (try clear hb); (try clear hb2); (try clear hk); (try clear hi); have hcz11_0 : w10.cell? ⟨gb550, 0, none⟩ = some (.int .u64 a0_0) := (blk_cell BK550.out 0).trans rfl; have hcz11_1 : w10.cell? ⟨gb550, 1, none⟩ = some (.int .u64 a0_1) := (blk_cell BK550.out 1).trans rfl; have hcz11_2 : w10.cell? ⟨gb550, 2, none⟩ = some (.int .u64 a0_2) := (blk_cell BK550.out 2).trans rfl; have hcz11_3 : w10.cell? ⟨gb550, 3, none⟩ = some (.int .u64 a0_3) := (blk_cell BK550.out 3).trans rfl; have hcz11_4 : w10.cell? ⟨gb550, 4, none⟩ = some (.int .u64 a0_4) := (blk_cell BK550.out 4).trans rfl; have hfz11_0 := blk_frozen BK550.out 0; have hfz11_1 := blk_frozen BK550.out 1; have hfz11_2 := blk_frozen BK550.out 2; have hfz11_3 := blk_frozen BK550.out 3; have hfz11_4 := blk_frozen BK550.out 4) | ((with_reducible refine gate_callee (f := 30) rfl ?_); refine goesL_ (some 18) rfl rfl Try.func30 (by kernel_rfl) rfl #[.int .u64 a0_0, .int .u64 a0_1, .int .u64 a0_2, .int .u64 a0_3, .int .u64 a0_4] rfl (by (try simp only [List.map_toArray, List.map_cons, List.map_nil]); first | done | rfl | (simp only [List.length_drop, List.length_take]; rfl)) ?_; (with_reducible refine (gcra_Retry.calls k a0_0 a0_1 a0_2 a0_3 a0_4 t552 _ A5.out).mono ?_); rintro e w12 ⟨rfl, hb⟩; refine ⟨_, rfl, ?_⟩; have n0_ := Aside0.mk (blk_below (g := gb550) (o := .cells #[.int .u64 a0_0, .int .u64 a0_1, .int .u64 a0_2, .int .u64 a0_3, .int .u64 a0_4] 46 (0, 0)) (by (with_reducible repeat (first | refine blk_drewN ?_ _ | refine blk_drew ?_ | refine blk_alloc ?_ _)); exact BK550.out) hb); have n1_ := Aside0.mk (below_step (by repeat (first | (with_reducible first | exact HB.out | apply below_alloc | apply pw_below_drewN | apply below_drew1 | refine below_set ?_ GE550.out) | exact HB.out)) hb); clear BK550; clear HB; have BK550 := n0_; have HB := n1_; clear n0_ n1_; (try clear hb); (try clear hb2); (try clear hk); (try clear hi); have hcz13_0 : w12.cell? ⟨gb550, 0, none⟩ = some (.int .u64 a0_0) := (blk_cell BK550.out 0).trans rfl; have hcz13_1 : w12.cell? ⟨gb550, 1, none⟩ = some (.int .u64 a0_1) := (blk_cell BK550.out 1).trans rfl; have hcz13_2 : w12.cell? ⟨gb550, 2, none⟩ = some (.int .u64 a0_2) := (blk_cell BK550.out 2).trans rfl; have hcz13_3 : w12.cell? ⟨gb550, 3, none⟩ = some (.int .u64 a0_3) := (blk_cell BK550.out 3).trans rfl; have hcz13_4 : w12.cell? ⟨gb550, 4, none⟩ = some (.int .u64 a0_4) := (blk_cell BK550.out 4).trans rfl; have hfz13_0 := blk_frozen BK550.out 0; have hfz13_1 := blk_frozen BK550.out 1; have hfz13_2 := blk_frozen BK550.out 2; have hfz13_3 := blk_frozen BK550.out 3; have hfz13_4 := blk_frozen BK550.out 4) | ((with_reducible refine gate_callee (f := 36) rfl ?_); refine goesL_ (some 26) rfl rfl Try.func36 (by kernel_rfl) rfl #[.agg #[.int .u64 a0_0, .int .u64 a0_1, .int .u64 a0_2, .int .u64 a0_3, .int .u64 a0_4], .int .u64 a0_3, .int .u64 a0_4] rfl (by (try simp only [List.map_toArray, List.map_cons, List.map_nil]); first | done | rfl | (simp only [List.length_drop, List.length_take]; rfl)) ?_; (with_reducible refine (turnstilelaw04_yes.calls k a0_0 a0_1 a0_2 a0_3 a0_4 a0_3 a0_4 true _ A7.out).mono ?_); rintro e w14 ⟨rfl, hb⟩; refine ⟨_, rfl, ?_⟩; have n0_ := Aside0.mk (blk_below (g := gb550) (o := .cells #[.int .u64 a0_0, .int .u64 a0_1, .int .u64 a0_2, .int .u64 a0_3, .int .u64 a0_4] 46 (0, 0)) (by (with_reducible repeat (first | refine blk_drewN ?_ _ | refine blk_drew ?_ | refine blk_alloc ?_ _)); exact BK550.out) hb); have n1_ := Aside0.mk (below_step (by repeat (first | (with_reducible first | exact HB.out | apply below_alloc | apply pw_below_drewN | apply below_drew1 | refine below_set ?_ GE550.out) | exact HB.out)) hb); clear BK550; clear HB; have BK550 := n0_; have HB := n1_; clear n0_ n1_; (try clear hb); (try clear hb2); (try clear hk); (try clear hi)))
        go_ret
        exact ⟨by first | rfl | (simp [errW_none, errW_some] <;> rfl) | (simp [*, errW_none, errW_some] <;> rfl), by repeat (first | (with_reducible first | exact HB.out | apply below_alloc | apply pw_below_drewN | apply below_drew1 | refine below_set ?_ GE550.out) | exact HB.out)⟩
      · replace c8 := Bool.eq_false_iff.mpr c8
        subst c8
        have H1 : (if a1 < a0_3 then (if a0_2 < a0_3 then (some true) else ((turnstilelaw04_yes.f k a0_0 a0_1 a0_2 a0_3 a0_4 a0_2 a0_4).bind fun t554 => (some (!t554)))) else ((turnstilelaw04_yes.f k a0_0 a0_1 a0_2 a0_3 a0_4 a1 a0_4).bind fun t555 => (if t555 = true then (some false) else (if a0_2 < a0_3 then (some true) else ((turnstilelaw04_yes.f k a0_0 a0_1 a0_2 a0_3 a0_4 a0_2 a0_4).bind fun t556 => (some (!t556))))))) = some r := by rw [if_neg (show ¬ (false = true) by decide)] at H; exact H
        clear H
        have H := H1
        clear H1
        by_cases c15 : a1 < a0_3
        · rw [if_pos c15] at H
          have c15b0 : decide (a1 < a0_3) = true := decide_eq_true c15
          clear c15
          by_cases c16 : a0_2 < a0_3
          · rw [if_pos c16] at H
            have c16b0 : decide (a0_2 < a0_3) = true := decide_eq_true c16
            clear c16
            obtain rfl := Option.some.inj H
            go_enter Try.func10, Try.ntmps10
            go_wp2_with (first | ((with_reducible refine gate_dst (N := 2) rfl ?_); refine box_event ?hg (N := 2) ?hd (cs := #[.int .u64 a0_0, .int .u64 a0_1, .int .u64 a0_2, .int .u64 a0_3, .int .u64 a0_4]) (t := 46) ?hr ?_; (case hd => rfl); (case hg => rfl); (case hr => first | (go_simp; done) | (go_simp; rfl)); intro gb550 hg w17 hbox hb; have n0_ := Aside0.mk (below_step (by repeat (first | (with_reducible first | exact HB.out | apply below_alloc | apply pw_below_drewN | apply below_drew1) | exact HB.out)) hb); have n1_ := Aside0.mk (hbox); have n2_ := Aside0.mk ((by rw [hg]; exact (below_size (by repeat (first | (with_reducible first | exact HB.out | apply below_alloc | apply pw_below_drewN | apply below_drew1) | exact HB.out))) : w.heap.size ≤ gb550)); have n3_ := Aside0.mk ((by rw [hg]; exact (below_size (by repeat (first | (with_reducible first | exact HB.out | apply below_alloc | apply pw_below_drewN | apply below_drew1) | exact HB.out))) : w.heap.size ≤ gb550)); clear HB; have HB := n0_; have BK550 := n1_; have GW550 := n2_; have GE550 := n3_; clear n0_ n1_ n2_ n3_; clear hb hbox hg) | ((with_reducible refine gate_callee (f := 27) rfl ?_); refine goesL_ (some 6) rfl rfl Try.func27 (by kernel_rfl) rfl #[] rfl (by (try simp only [List.map_toArray, List.map_cons, List.map_nil]); first | done | rfl | (simp only [List.length_drop, List.length_take]; rfl)) ?_; (with_reducible refine (turnstilelaw04_lives.calls k  true _ A3.out).mono ?_); rintro e w18 ⟨rfl, hb⟩; refine ⟨_, rfl, ?_⟩; have n0_ := Aside0.mk (blk_below (g := gb550) (o := .cells #[.int .u64 a0_0, .int .u64 a0_1, .int .u64 a0_2, .int .u64 a0_3, .int .u64 a0_4] 46 (0, 0)) (by (with_reducible repeat (first | refine blk_drewN ?_ _ | refine blk_drew ?_ | refine blk_alloc ?_ _)); exact BK550.out) hb); have n1_ := Aside0.mk (below_step (by repeat (first | (with_reducible first | exact HB.out | apply below_alloc | apply pw_below_drewN | apply below_drew1 | refine below_set ?_ GE550.out) | exact HB.out)) hb); clear BK550; clear HB; have BK550 := n0_; have HB := n1_; clear n0_ n1_; (try clear hb); (try clear hb2); (try clear hk); (try clear hi); have hcz19_0 : w18.cell? ⟨gb550, 0, none⟩ = some (.int .u64 a0_0) := (blk_cell BK550.out 0).trans rfl; have hcz19_1 : w18.cell? ⟨gb550, 1, none⟩ = some (.int .u64 a0_1) := (blk_cell BK550.out 1).trans rfl; have hcz19_2 : w18.cell? ⟨gb550, 2, none⟩ = some (.int .u64 a0_2) := (blk_cell BK550.out 2).trans rfl; have hcz19_3 : w18.cell? ⟨gb550, 3, none⟩ = some (.int .u64 a0_3) := (blk_cell BK550.out 3).trans rfl; have hcz19_4 : w18.cell? ⟨gb550, 4, none⟩ = some (.int .u64 a0_4) := (blk_cell BK550.out 4).trans rfl; have hfz19_0 := blk_frozen BK550.out 0; have hfz19_1 := blk_frozen BK550.out 1; have hfz19_2 := blk_frozen BK550.out 2; have hfz19_3 := blk_frozen BK550.out 3; have hfz19_4 := blk_frozen BK550.out 4) | ((with_reducible refine gate_callee (f := 30) rfl ?_); refine goesL_ (some 18) rfl rfl Try.func30 (by kernel_rfl) rfl #[.int .u64 a0_0, .int .u64 a0_1, .int .u64 a0_2, .int .u64 a0_3, .int .u64 a0_4] rfl (by (try simp only [List.map_toArray, List.map_cons, List.map_nil]); first | done | rfl | (simp only [List.length_drop, List.length_take]; rfl)) ?_; (with_reducible refine (gcra_Retry.calls k a0_0 a0_1 a0_2 a0_3 a0_4 t552 _ A5.out).mono ?_); rintro e w20 ⟨rfl, hb⟩; refine ⟨_, rfl, ?_⟩; have n0_ := Aside0.mk (blk_below (g := gb550) (o := .cells #[.int .u64 a0_0, .int .u64 a0_1, .int .u64 a0_2, .int .u64 a0_3, .int .u64 a0_4] 46 (0, 0)) (by (with_reducible repeat (first | refine blk_drewN ?_ _ | refine blk_drew ?_ | refine blk_alloc ?_ _)); exact BK550.out) hb); have n1_ := Aside0.mk (below_step (by repeat (first | (with_reducible first | exact HB.out | apply below_alloc | apply pw_below_drewN | apply below_drew1 | refine below_set ?_ GE550.out) | exact HB.out)) hb); clear BK550; clear HB; have BK550 := n0_; have HB := n1_; clear n0_ n1_; (try clear hb); (try clear hb2); (try clear hk); (try clear hi); have hcz21_0 : w20.cell? ⟨gb550, 0, none⟩ = some (.int .u64 a0_0) := (blk_cell BK550.out 0).trans rfl; have hcz21_1 : w20.cell? ⟨gb550, 1, none⟩ = some (.int .u64 a0_1) := (blk_cell BK550.out 1).trans rfl; have hcz21_2 : w20.cell? ⟨gb550, 2, none⟩ = some (.int .u64 a0_2) := (blk_cell BK550.out 2).trans rfl; have hcz21_3 : w20.cell? ⟨gb550, 3, none⟩ = some (.int .u64 a0_3) := (blk_cell BK550.out 3).trans rfl; have hcz21_4 : w20.cell? ⟨gb550, 4, none⟩ = some (.int .u64 a0_4) := (blk_cell BK550.out 4).trans rfl; have hfz21_0 := blk_frozen BK550.out 0; have hfz21_1 := blk_frozen BK550.out 1; have hfz21_2 := blk_frozen BK550.out 2; have hfz21_3 := blk_frozen BK550.out 3; have hfz21_4 := blk_frozen BK550.out 4) | ((with_reducible refine gate_callee (f := 36) rfl ?_); refine goesL_ (some 26) rfl rfl Try.func36 (by kernel_rfl) rfl #[.agg #[.int .u64 a0_0, .int .u64 a0_1, .int .u64 a0_2, .int .u64 a0_3, .int .u64 a0_4], .int .u64 a0_3, .int .u64 a0_4] rfl (by (try simp only [List.map_toArray, List.map_cons, List.map_nil]); first | done | rfl | (simp only [List.length_drop, List.length_take]; rfl)) ?_; (with_reducible refine (turnstilelaw04_yes.calls k a0_0 a0_1 a0_2 a0_3 a0_4 a0_3 a0_4 false _ A7.out).mono ?_); rintro e w22 ⟨rfl, hb⟩; refine ⟨_, rfl, ?_⟩; have n0_ := Aside0.mk (blk_below (g := gb550) (o := .cells #[.int .u64 a0_0, .int .u64 a0_1, .int .u64 a0_2, .int .u64 a0_3, .int .u64 a0_4] 46 (0, 0)) (by (with_reducible repeat (first | refine blk_drewN ?_ _ | refine blk_drew ?_ | refine blk_alloc ?_ _)); exact BK550.out) hb); have n1_ := Aside0.mk (below_step (by repeat (first | (with_reducible first | exact HB.out | apply below_alloc | apply pw_below_drewN | apply below_drew1 | refine below_set ?_ GE550.out) | exact HB.out)) hb); clear BK550; clear HB; have BK550 := n0_; have HB := n1_; clear n0_ n1_; (try clear hb); (try clear hb2); (try clear hk); (try clear hi); have hcz23_0 : w22.cell? ⟨gb550, 0, none⟩ = some (.int .u64 a0_0) := (blk_cell BK550.out 0).trans rfl; have hcz23_1 : w22.cell? ⟨gb550, 1, none⟩ = some (.int .u64 a0_1) := (blk_cell BK550.out 1).trans rfl; have hcz23_2 : w22.cell? ⟨gb550, 2, none⟩ = some (.int .u64 a0_2) := (blk_cell BK550.out 2).trans rfl; have hcz23_3 : w22.cell? ⟨gb550, 3, none⟩ = some (.int .u64 a0_3) := (blk_cell BK550.out 3).trans rfl; have hcz23_4 : w22.cell? ⟨gb550, 4, none⟩ = some (.int .u64 a0_4) := (blk_cell BK550.out 4).trans rfl; have hfz23_0 := blk_frozen BK550.out 0; have hfz23_1 := blk_frozen BK550.out 1; have hfz23_2 := blk_frozen BK550.out 2; have hfz23_3 := blk_frozen BK550.out 3; have hfz23_4 := blk_frozen BK550.out 4))
            go_ret
            exact ⟨by first | rfl | (simp [errW_none, errW_some] <;> rfl) | (simp [*, errW_none, errW_some] <;> rfl), by repeat (first | (with_reducible first | exact HB.out | apply below_alloc | apply pw_below_drewN | apply below_drew1 | refine below_set ?_ GE550.out) | exact HB.out)⟩
          · rw [if_neg c16] at H
            have c16b0 : decide (a0_2 < a0_3) = false := decide_eq_false c16
            clear c16
            replace H := Option.bind_eq_some_iff.mp H
            obtain ⟨t554, A240, H⟩ := H
            replace H : (some (!t554)) = some r := H
            have A24 := Aside0.mk A240
            clear A240
            obtain rfl := Option.some.inj H
            go_enter Try.func10, Try.ntmps10
            go_wp2_with (first | ((with_reducible refine gate_dst (N := 2) rfl ?_); refine box_event ?hg (N := 2) ?hd (cs := #[.int .u64 a0_0, .int .u64 a0_1, .int .u64 a0_2, .int .u64 a0_3, .int .u64 a0_4]) (t := 46) ?hr ?_; (case hd => rfl); (case hg => rfl); (case hr => first | (go_simp; done) | (go_simp; rfl)); intro gb550 hg w25 hbox hb; have n0_ := Aside0.mk (below_step (by repeat (first | (with_reducible first | exact HB.out | apply below_alloc | apply pw_below_drewN | apply below_drew1) | exact HB.out)) hb); have n1_ := Aside0.mk (hbox); have n2_ := Aside0.mk ((by rw [hg]; exact (below_size (by repeat (first | (with_reducible first | exact HB.out | apply below_alloc | apply pw_below_drewN | apply below_drew1) | exact HB.out))) : w.heap.size ≤ gb550)); have n3_ := Aside0.mk ((by rw [hg]; exact (below_size (by repeat (first | (with_reducible first | exact HB.out | apply below_alloc | apply pw_below_drewN | apply below_drew1) | exact HB.out))) : w.heap.size ≤ gb550)); clear HB; have HB := n0_; have BK550 := n1_; have GW550 := n2_; have GE550 := n3_; clear n0_ n1_ n2_ n3_; clear hb hbox hg) | ((with_reducible refine gate_callee (f := 27) rfl ?_); refine goesL_ (some 6) rfl rfl Try.func27 (by kernel_rfl) rfl #[] rfl (by (try simp only [List.map_toArray, List.map_cons, List.map_nil]); first | done | rfl | (simp only [List.length_drop, List.length_take]; rfl)) ?_; (with_reducible refine (turnstilelaw04_lives.calls k  true _ A3.out).mono ?_); rintro e w26 ⟨rfl, hb⟩; refine ⟨_, rfl, ?_⟩; have n0_ := Aside0.mk (blk_below (g := gb550) (o := .cells #[.int .u64 a0_0, .int .u64 a0_1, .int .u64 a0_2, .int .u64 a0_3, .int .u64 a0_4] 46 (0, 0)) (by (with_reducible repeat (first | refine blk_drewN ?_ _ | refine blk_drew ?_ | refine blk_alloc ?_ _)); exact BK550.out) hb); have n1_ := Aside0.mk (below_step (by repeat (first | (with_reducible first | exact HB.out | apply below_alloc | apply pw_below_drewN | apply below_drew1 | refine below_set ?_ GE550.out) | exact HB.out)) hb); clear BK550; clear HB; have BK550 := n0_; have HB := n1_; clear n0_ n1_; (try clear hb); (try clear hb2); (try clear hk); (try clear hi); have hcz27_0 : w26.cell? ⟨gb550, 0, none⟩ = some (.int .u64 a0_0) := (blk_cell BK550.out 0).trans rfl; have hcz27_1 : w26.cell? ⟨gb550, 1, none⟩ = some (.int .u64 a0_1) := (blk_cell BK550.out 1).trans rfl; have hcz27_2 : w26.cell? ⟨gb550, 2, none⟩ = some (.int .u64 a0_2) := (blk_cell BK550.out 2).trans rfl; have hcz27_3 : w26.cell? ⟨gb550, 3, none⟩ = some (.int .u64 a0_3) := (blk_cell BK550.out 3).trans rfl; have hcz27_4 : w26.cell? ⟨gb550, 4, none⟩ = some (.int .u64 a0_4) := (blk_cell BK550.out 4).trans rfl; have hfz27_0 := blk_frozen BK550.out 0; have hfz27_1 := blk_frozen BK550.out 1; have hfz27_2 := blk_frozen BK550.out 2; have hfz27_3 := blk_frozen BK550.out 3; have hfz27_4 := blk_frozen BK550.out 4) | ((with_reducible refine gate_callee (f := 30) rfl ?_); refine goesL_ (some 18) rfl rfl Try.func30 (by kernel_rfl) rfl #[.int .u64 a0_0, .int .u64 a0_1, .int .u64 a0_2, .int .u64 a0_3, .int .u64 a0_4] rfl (by (try simp only [List.map_toArray, List.map_cons, List.map_nil]); first | done | rfl | (simp only [List.length_drop, List.length_take]; rfl)) ?_; (with_reducible refine (gcra_Retry.calls k a0_0 a0_1 a0_2 a0_3 a0_4 t552 _ A5.out).mono ?_); rintro e w28 ⟨rfl, hb⟩; refine ⟨_, rfl, ?_⟩; have n0_ := Aside0.mk (blk_below (g := gb550) (o := .cells #[.int .u64 a0_0, .int .u64 a0_1, .int .u64 a0_2, .int .u64 a0_3, .int .u64 a0_4] 46 (0, 0)) (by (with_reducible repeat (first | refine blk_drewN ?_ _ | refine blk_drew ?_ | refine blk_alloc ?_ _)); exact BK550.out) hb); have n1_ := Aside0.mk (below_step (by repeat (first | (with_reducible first | exact HB.out | apply below_alloc | apply pw_below_drewN | apply below_drew1 | refine below_set ?_ GE550.out) | exact HB.out)) hb); clear BK550; clear HB; have BK550 := n0_; have HB := n1_; clear n0_ n1_; (try clear hb); (try clear hb2); (try clear hk); (try clear hi); have hcz29_0 : w28.cell? ⟨gb550, 0, none⟩ = some (.int .u64 a0_0) := (blk_cell BK550.out 0).trans rfl; have hcz29_1 : w28.cell? ⟨gb550, 1, none⟩ = some (.int .u64 a0_1) := (blk_cell BK550.out 1).trans rfl; have hcz29_2 : w28.cell? ⟨gb550, 2, none⟩ = some (.int .u64 a0_2) := (blk_cell BK550.out 2).trans rfl; have hcz29_3 : w28.cell? ⟨gb550, 3, none⟩ = some (.int .u64 a0_3) := (blk_cell BK550.out 3).trans rfl; have hcz29_4 : w28.cell? ⟨gb550, 4, none⟩ = some (.int .u64 a0_4) := (blk_cell BK550.out 4).trans rfl; have hfz29_0 := blk_frozen BK550.out 0; have hfz29_1 := blk_frozen BK550.out 1; have hfz29_2 := blk_frozen BK550.out 2; have hfz29_3 := blk_frozen BK550.out 3; have hfz29_4 := blk_frozen BK550.out 4) | ((with_reducible refine gate_callee (f := 36) rfl ?_); refine goesL_ (some 26) rfl rfl Try.func36 (by kernel_rfl) rfl #[.agg #[.int .u64 a0_0, .int .u64 a0_1, .int .u64 a0_2, .int .u64 a0_3, .int .u64 a0_4], .int .u64 a0_3, .int .u64 a0_4] rfl (by (try simp only [List.map_toArray, List.map_cons, List.map_nil]); first | done | rfl | (simp only [List.length_drop, List.length_take]; rfl)) ?_; (with_reducible refine (turnstilelaw04_yes.calls k a0_0 a0_1 a0_2 a0_3 a0_4 a0_3 a0_4 false _ A7.out).mono ?_); rintro e w30 ⟨rfl, hb⟩; refine ⟨_, rfl, ?_⟩; have n0_ := Aside0.mk (blk_below (g := gb550) (o := .cells #[.int .u64 a0_0, .int .u64 a0_1, .int .u64 a0_2, .int .u64 a0_3, .int .u64 a0_4] 46 (0, 0)) (by (with_reducible repeat (first | refine blk_drewN ?_ _ | refine blk_drew ?_ | refine blk_alloc ?_ _)); exact BK550.out) hb); have n1_ := Aside0.mk (below_step (by repeat (first | (with_reducible first | exact HB.out | apply below_alloc | apply pw_below_drewN | apply below_drew1 | refine below_set ?_ GE550.out) | exact HB.out)) hb); clear BK550; clear HB; have BK550 := n0_; have HB := n1_; clear n0_ n1_; (try clear hb); (try clear hb2); (try clear hk); (try clear hi); have hcz31_0 : w30.cell? ⟨gb550, 0, none⟩ = some (.int .u64 a0_0) := (blk_cell BK550.out 0).trans rfl; have hcz31_1 : w30.cell? ⟨gb550, 1, none⟩ = some (.int .u64 a0_1) := (blk_cell BK550.out 1).trans rfl; have hcz31_2 : w30.cell? ⟨gb550, 2, none⟩ = some (.int .u64 a0_2) := (blk_cell BK550.out 2).trans rfl; have hcz31_3 : w30.cell? ⟨gb550, 3, none⟩ = some (.int .u64 a0_3) := (blk_cell BK550.out 3).trans rfl; have hcz31_4 : w30.cell? ⟨gb550, 4, none⟩ = some (.int .u64 a0_4) := (blk_cell BK550.out 4).trans rfl; have hfz31_0 := blk_frozen BK550.out 0; have hfz31_1 := blk_frozen BK550.out 1; have hfz31_2 := blk_frozen BK550.out 2; have hfz31_3 := blk_frozen BK550.out 3; have hfz31_4 := blk_frozen BK550.out 4) | (go_at_call 36; (with_reducible refine (turnstilelaw04_yes.calls k a0_0 a0_1 a0_2 a0_3 a0_4 a0_2 a0_4 t554 _ A24.out).mono ?_); rintro e w32 ⟨rfl, hb⟩; have n0_ := Aside0.mk (blk_below (g := gb550) (o := .cells #[.int .u64 a0_0, .int .u64 a0_1, .int .u64 a0_2, .int .u64 a0_3, .int .u64 a0_4] 46 (0, 0)) (by (with_reducible repeat (first | refine blk_drewN ?_ _ | refine blk_drew ?_ | refine blk_alloc ?_ _)); exact BK550.out) hb); have n1_ := Aside0.mk (below_step (by repeat (first | (with_reducible first | exact HB.out | apply below_alloc | apply pw_below_drewN | apply below_drew1 | refine below_set ?_ GE550.out) | exact HB.out)) hb); clear BK550; clear HB; have BK550 := n0_; have HB := n1_; clear n0_ n1_; (try clear hb); (try clear hb2); (try clear hk); (try clear hi)))
            go_ret
            exact ⟨by first | rfl | (simp [errW_none, errW_some] <;> rfl) | (simp [*, errW_none, errW_some] <;> rfl), by repeat (first | (with_reducible first | exact HB.out | apply below_alloc | apply pw_below_drewN | apply below_drew1 | refine below_set ?_ GE550.out) | exact HB.out)⟩
        · rw [if_neg c15] at H
          have c15b0 : decide (a1 < a0_3) = false := decide_eq_false c15
          clear c15
          replace H := Option.bind_eq_some_iff.mp H
          obtain ⟨t555, A330, H⟩ := H
          replace H : (if t555 = true then (some false) else (if a0_2 < a0_3 then (some true) else ((turnstilelaw04_yes.f k a0_0 a0_1 a0_2 a0_3 a0_4 a0_2 a0_4).bind fun t556 => (some (!t556))))) = some r := H
          have A33 := Aside0.mk A330
          clear A330
          by_cases c34 : t555 = true
          · subst c34
            have H1 : (some false) = some r := by rw [if_pos rfl] at H; exact H
            clear H
            have H := H1
            clear H1
            obtain rfl := Option.some.inj H
            go_enter Try.func10, Try.ntmps10
            go_wp2_with (first | ((with_reducible refine gate_dst (N := 2) rfl ?_); refine box_event ?hg (N := 2) ?hd (cs := #[.int .u64 a0_0, .int .u64 a0_1, .int .u64 a0_2, .int .u64 a0_3, .int .u64 a0_4]) (t := 46) ?hr ?_; (case hd => rfl); (case hg => rfl); (case hr => first | (go_simp; done) | (go_simp; rfl)); intro gb550 hg w35 hbox hb; have n0_ := Aside0.mk (below_step (by repeat (first | (with_reducible first | exact HB.out | apply below_alloc | apply pw_below_drewN | apply below_drew1) | exact HB.out)) hb); have n1_ := Aside0.mk (hbox); have n2_ := Aside0.mk ((by rw [hg]; exact (below_size (by repeat (first | (with_reducible first | exact HB.out | apply below_alloc | apply pw_below_drewN | apply below_drew1) | exact HB.out))) : w.heap.size ≤ gb550)); have n3_ := Aside0.mk ((by rw [hg]; exact (below_size (by repeat (first | (with_reducible first | exact HB.out | apply below_alloc | apply pw_below_drewN | apply below_drew1) | exact HB.out))) : w.heap.size ≤ gb550)); clear HB; have HB := n0_; have BK550 := n1_; have GW550 := n2_; have GE550 := n3_; clear n0_ n1_ n2_ n3_; clear hb hbox hg) | ((with_reducible refine gate_callee (f := 27) rfl ?_); refine goesL_ (some 6) rfl rfl Try.func27 (by kernel_rfl) rfl #[] rfl (by (try simp only [List.map_toArray, List.map_cons, List.map_nil]); first | done | rfl | (simp only [List.length_drop, List.length_take]; rfl)) ?_; (with_reducible refine (turnstilelaw04_lives.calls k  true _ A3.out).mono ?_); rintro e w36 ⟨rfl, hb⟩; refine ⟨_, rfl, ?_⟩; have n0_ := Aside0.mk (blk_below (g := gb550) (o := .cells #[.int .u64 a0_0, .int .u64 a0_1, .int .u64 a0_2, .int .u64 a0_3, .int .u64 a0_4] 46 (0, 0)) (by (with_reducible repeat (first | refine blk_drewN ?_ _ | refine blk_drew ?_ | refine blk_alloc ?_ _)); exact BK550.out) hb); have n1_ := Aside0.mk (below_step (by repeat (first | (with_reducible first | exact HB.out | apply below_alloc | apply pw_below_drewN | apply below_drew1 | refine below_set ?_ GE550.out) | exact HB.out)) hb); clear BK550; clear HB; have BK550 := n0_; have HB := n1_; clear n0_ n1_; (try clear hb); (try clear hb2); (try clear hk); (try clear hi); have hcz37_0 : w36.cell? ⟨gb550, 0, none⟩ = some (.int .u64 a0_0) := (blk_cell BK550.out 0).trans rfl; have hcz37_1 : w36.cell? ⟨gb550, 1, none⟩ = some (.int .u64 a0_1) := (blk_cell BK550.out 1).trans rfl; have hcz37_2 : w36.cell? ⟨gb550, 2, none⟩ = some (.int .u64 a0_2) := (blk_cell BK550.out 2).trans rfl; have hcz37_3 : w36.cell? ⟨gb550, 3, none⟩ = some (.int .u64 a0_3) := (blk_cell BK550.out 3).trans rfl; have hcz37_4 : w36.cell? ⟨gb550, 4, none⟩ = some (.int .u64 a0_4) := (blk_cell BK550.out 4).trans rfl; have hfz37_0 := blk_frozen BK550.out 0; have hfz37_1 := blk_frozen BK550.out 1; have hfz37_2 := blk_frozen BK550.out 2; have hfz37_3 := blk_frozen BK550.out 3; have hfz37_4 := blk_frozen BK550.out 4) | ((with_reducible refine gate_callee (f := 30) rfl ?_); refine goesL_ (some 18) rfl rfl Try.func30 (by kernel_rfl) rfl #[.int .u64 a0_0, .int .u64 a0_1, .int .u64 a0_2, .int .u64 a0_3, .int .u64 a0_4] rfl (by (try simp only [List.map_toArray, List.map_cons, List.map_nil]); first | done | rfl | (simp only [List.length_drop, List.length_take]; rfl)) ?_; (with_reducible refine (gcra_Retry.calls k a0_0 a0_1 a0_2 a0_3 a0_4 t552 _ A5.out).mono ?_); rintro e w38 ⟨rfl, hb⟩; refine ⟨_, rfl, ?_⟩; have n0_ := Aside0.mk (blk_below (g := gb550) (o := .cells #[.int .u64 a0_0, .int .u64 a0_1, .int .u64 a0_2, .int .u64 a0_3, .int .u64 a0_4] 46 (0, 0)) (by (with_reducible repeat (first | refine blk_drewN ?_ _ | refine blk_drew ?_ | refine blk_alloc ?_ _)); exact BK550.out) hb); have n1_ := Aside0.mk (below_step (by repeat (first | (with_reducible first | exact HB.out | apply below_alloc | apply pw_below_drewN | apply below_drew1 | refine below_set ?_ GE550.out) | exact HB.out)) hb); clear BK550; clear HB; have BK550 := n0_; have HB := n1_; clear n0_ n1_; (try clear hb); (try clear hb2); (try clear hk); (try clear hi); have hcz39_0 : w38.cell? ⟨gb550, 0, none⟩ = some (.int .u64 a0_0) := (blk_cell BK550.out 0).trans rfl; have hcz39_1 : w38.cell? ⟨gb550, 1, none⟩ = some (.int .u64 a0_1) := (blk_cell BK550.out 1).trans rfl; have hcz39_2 : w38.cell? ⟨gb550, 2, none⟩ = some (.int .u64 a0_2) := (blk_cell BK550.out 2).trans rfl; have hcz39_3 : w38.cell? ⟨gb550, 3, none⟩ = some (.int .u64 a0_3) := (blk_cell BK550.out 3).trans rfl; have hcz39_4 : w38.cell? ⟨gb550, 4, none⟩ = some (.int .u64 a0_4) := (blk_cell BK550.out 4).trans rfl; have hfz39_0 := blk_frozen BK550.out 0; have hfz39_1 := blk_frozen BK550.out 1; have hfz39_2 := blk_frozen BK550.out 2; have hfz39_3 := blk_frozen BK550.out 3; have hfz39_4 := blk_frozen BK550.out 4) | ((with_reducible refine gate_callee (f := 36) rfl ?_); refine goesL_ (some 26) rfl rfl Try.func36 (by kernel_rfl) rfl #[.agg #[.int .u64 a0_0, .int .u64 a0_1, .int .u64 a0_2, .int .u64 a0_3, .int .u64 a0_4], .int .u64 a0_3, .int .u64 a0_4] rfl (by (try simp only [List.map_toArray, List.map_cons, List.map_nil]); first | done | rfl | (simp only [List.length_drop, List.length_take]; rfl)) ?_; (with_reducible refine (turnstilelaw04_yes.calls k a0_0 a0_1 a0_2 a0_3 a0_4 a0_3 a0_4 false _ A7.out).mono ?_); rintro e w40 ⟨rfl, hb⟩; refine ⟨_, rfl, ?_⟩; have n0_ := Aside0.mk (blk_below (g := gb550) (o := .cells #[.int .u64 a0_0, .int .u64 a0_1, .int .u64 a0_2, .int .u64 a0_3, .int .u64 a0_4] 46 (0, 0)) (by (with_reducible repeat (first | refine blk_drewN ?_ _ | refine blk_drew ?_ | refine blk_alloc ?_ _)); exact BK550.out) hb); have n1_ := Aside0.mk (below_step (by repeat (first | (with_reducible first | exact HB.out | apply below_alloc | apply pw_below_drewN | apply below_drew1 | refine below_set ?_ GE550.out) | exact HB.out)) hb); clear BK550; clear HB; have BK550 := n0_; have HB := n1_; clear n0_ n1_; (try clear hb); (try clear hb2); (try clear hk); (try clear hi); have hcz41_0 : w40.cell? ⟨gb550, 0, none⟩ = some (.int .u64 a0_0) := (blk_cell BK550.out 0).trans rfl; have hcz41_1 : w40.cell? ⟨gb550, 1, none⟩ = some (.int .u64 a0_1) := (blk_cell BK550.out 1).trans rfl; have hcz41_2 : w40.cell? ⟨gb550, 2, none⟩ = some (.int .u64 a0_2) := (blk_cell BK550.out 2).trans rfl; have hcz41_3 : w40.cell? ⟨gb550, 3, none⟩ = some (.int .u64 a0_3) := (blk_cell BK550.out 3).trans rfl; have hcz41_4 : w40.cell? ⟨gb550, 4, none⟩ = some (.int .u64 a0_4) := (blk_cell BK550.out 4).trans rfl; have hfz41_0 := blk_frozen BK550.out 0; have hfz41_1 := blk_frozen BK550.out 1; have hfz41_2 := blk_frozen BK550.out 2; have hfz41_3 := blk_frozen BK550.out 3; have hfz41_4 := blk_frozen BK550.out 4) | (go_at_call 36; (with_reducible refine (turnstilelaw04_yes.calls k a0_0 a0_1 a0_2 a0_3 a0_4 a1 a0_4 true _ A33.out).mono ?_); rintro e w42 ⟨rfl, hb⟩; have n0_ := Aside0.mk (blk_below (g := gb550) (o := .cells #[.int .u64 a0_0, .int .u64 a0_1, .int .u64 a0_2, .int .u64 a0_3, .int .u64 a0_4] 46 (0, 0)) (by (with_reducible repeat (first | refine blk_drewN ?_ _ | refine blk_drew ?_ | refine blk_alloc ?_ _)); exact BK550.out) hb); have n1_ := Aside0.mk (below_step (by repeat (first | (with_reducible first | exact HB.out | apply below_alloc | apply pw_below_drewN | apply below_drew1 | refine below_set ?_ GE550.out) | exact HB.out)) hb); clear BK550; clear HB; have BK550 := n0_; have HB := n1_; clear n0_ n1_; (try clear hb); (try clear hb2); (try clear hk); (try clear hi)))
            go_ret
            exact ⟨by first | rfl | (simp [errW_none, errW_some] <;> rfl) | (simp [*, errW_none, errW_some] <;> rfl), by repeat (first | (with_reducible first | exact HB.out | apply below_alloc | apply pw_below_drewN | apply below_drew1 | refine below_set ?_ GE550.out) | exact HB.out)⟩
          · replace c34 := Bool.eq_false_iff.mpr c34
            subst c34
            have H1 : (if a0_2 < a0_3 then (some true) else ((turnstilelaw04_yes.f k a0_0 a0_1 a0_2 a0_3 a0_4 a0_2 a0_4).bind fun t556 => (some (!t556)))) = some r := by rw [if_neg (show ¬ (false = true) by decide)] at H; exact H
            clear H
            have H := H1
            clear H1
            by_cases c43 : a0_2 < a0_3
            · rw [if_pos c43] at H
              have c43b0 : decide (a0_2 < a0_3) = true := decide_eq_true c43
              clear c43
              obtain rfl := Option.some.inj H
              go_enter Try.func10, Try.ntmps10
              go_wp2_with (first | ((with_reducible refine gate_dst (N := 2) rfl ?_); refine box_event ?hg (N := 2) ?hd (cs := #[.int .u64 a0_0, .int .u64 a0_1, .int .u64 a0_2, .int .u64 a0_3, .int .u64 a0_4]) (t := 46) ?hr ?_; (case hd => rfl); (case hg => rfl); (case hr => first | (go_simp; done) | (go_simp; rfl)); intro gb550 hg w44 hbox hb; have n0_ := Aside0.mk (below_step (by repeat (first | (with_reducible first | exact HB.out | apply below_alloc | apply pw_below_drewN | apply below_drew1) | exact HB.out)) hb); have n1_ := Aside0.mk (hbox); have n2_ := Aside0.mk ((by rw [hg]; exact (below_size (by repeat (first | (with_reducible first | exact HB.out | apply below_alloc | apply pw_below_drewN | apply below_drew1) | exact HB.out))) : w.heap.size ≤ gb550)); have n3_ := Aside0.mk ((by rw [hg]; exact (below_size (by repeat (first | (with_reducible first | exact HB.out | apply below_alloc | apply pw_below_drewN | apply below_drew1) | exact HB.out))) : w.heap.size ≤ gb550)); clear HB; have HB := n0_; have BK550 := n1_; have GW550 := n2_; have GE550 := n3_; clear n0_ n1_ n2_ n3_; clear hb hbox hg) | ((with_reducible refine gate_callee (f := 27) rfl ?_); refine goesL_ (some 6) rfl rfl Try.func27 (by kernel_rfl) rfl #[] rfl (by (try simp only [List.map_toArray, List.map_cons, List.map_nil]); first | done | rfl | (simp only [List.length_drop, List.length_take]; rfl)) ?_; (with_reducible refine (turnstilelaw04_lives.calls k  true _ A3.out).mono ?_); rintro e w45 ⟨rfl, hb⟩; refine ⟨_, rfl, ?_⟩; have n0_ := Aside0.mk (blk_below (g := gb550) (o := .cells #[.int .u64 a0_0, .int .u64 a0_1, .int .u64 a0_2, .int .u64 a0_3, .int .u64 a0_4] 46 (0, 0)) (by (with_reducible repeat (first | refine blk_drewN ?_ _ | refine blk_drew ?_ | refine blk_alloc ?_ _)); exact BK550.out) hb); have n1_ := Aside0.mk (below_step (by repeat (first | (with_reducible first | exact HB.out | apply below_alloc | apply pw_below_drewN | apply below_drew1 | refine below_set ?_ GE550.out) | exact HB.out)) hb); clear BK550; clear HB; have BK550 := n0_; have HB := n1_; clear n0_ n1_; (try clear hb); (try clear hb2); (try clear hk); (try clear hi); have hcz46_0 : w45.cell? ⟨gb550, 0, none⟩ = some (.int .u64 a0_0) := (blk_cell BK550.out 0).trans rfl; have hcz46_1 : w45.cell? ⟨gb550, 1, none⟩ = some (.int .u64 a0_1) := (blk_cell BK550.out 1).trans rfl; have hcz46_2 : w45.cell? ⟨gb550, 2, none⟩ = some (.int .u64 a0_2) := (blk_cell BK550.out 2).trans rfl; have hcz46_3 : w45.cell? ⟨gb550, 3, none⟩ = some (.int .u64 a0_3) := (blk_cell BK550.out 3).trans rfl; have hcz46_4 : w45.cell? ⟨gb550, 4, none⟩ = some (.int .u64 a0_4) := (blk_cell BK550.out 4).trans rfl; have hfz46_0 := blk_frozen BK550.out 0; have hfz46_1 := blk_frozen BK550.out 1; have hfz46_2 := blk_frozen BK550.out 2; have hfz46_3 := blk_frozen BK550.out 3; have hfz46_4 := blk_frozen BK550.out 4) | ((with_reducible refine gate_callee (f := 30) rfl ?_); refine goesL_ (some 18) rfl rfl Try.func30 (by kernel_rfl) rfl #[.int .u64 a0_0, .int .u64 a0_1, .int .u64 a0_2, .int .u64 a0_3, .int .u64 a0_4] rfl (by (try simp only [List.map_toArray, List.map_cons, List.map_nil]); first | done | rfl | (simp only [List.length_drop, List.length_take]; rfl)) ?_; (with_reducible refine (gcra_Retry.calls k a0_0 a0_1 a0_2 a0_3 a0_4 t552 _ A5.out).mono ?_); rintro e w47 ⟨rfl, hb⟩; refine ⟨_, rfl, ?_⟩; have n0_ := Aside0.mk (blk_below (g := gb550) (o := .cells #[.int .u64 a0_0, .int .u64 a0_1, .int .u64 a0_2, .int .u64 a0_3, .int .u64 a0_4] 46 (0, 0)) (by (with_reducible repeat (first | refine blk_drewN ?_ _ | refine blk_drew ?_ | refine blk_alloc ?_ _)); exact BK550.out) hb); have n1_ := Aside0.mk (below_step (by repeat (first | (with_reducible first | exact HB.out | apply below_alloc | apply pw_below_drewN | apply below_drew1 | refine below_set ?_ GE550.out) | exact HB.out)) hb); clear BK550; clear HB; have BK550 := n0_; have HB := n1_; clear n0_ n1_; (try clear hb); (try clear hb2); (try clear hk); (try clear hi); have hcz48_0 : w47.cell? ⟨gb550, 0, none⟩ = some (.int .u64 a0_0) := (blk_cell BK550.out 0).trans rfl; have hcz48_1 : w47.cell? ⟨gb550, 1, none⟩ = some (.int .u64 a0_1) := (blk_cell BK550.out 1).trans rfl; have hcz48_2 : w47.cell? ⟨gb550, 2, none⟩ = some (.int .u64 a0_2) := (blk_cell BK550.out 2).trans rfl; have hcz48_3 : w47.cell? ⟨gb550, 3, none⟩ = some (.int .u64 a0_3) := (blk_cell BK550.out 3).trans rfl; have hcz48_4 : w47.cell? ⟨gb550, 4, none⟩ = some (.int .u64 a0_4) := (blk_cell BK550.out 4).trans rfl; have hfz48_0 := blk_frozen BK550.out 0; have hfz48_1 := blk_frozen BK550.out 1; have hfz48_2 := blk_frozen BK550.out 2; have hfz48_3 := blk_frozen BK550.out 3; have hfz48_4 := blk_frozen BK550.out 4) | ((with_reducible refine gate_callee (f := 36) rfl ?_); refine goesL_ (some 26) rfl rfl Try.func36 (by kernel_rfl) rfl #[.agg #[.int .u64 a0_0, .int .u64 a0_1, .int .u64 a0_2, .int .u64 a0_3, .int .u64 a0_4], .int .u64 a0_3, .int .u64 a0_4] rfl (by (try simp only [List.map_toArray, List.map_cons, List.map_nil]); first | done | rfl | (simp only [List.length_drop, List.length_take]; rfl)) ?_; (with_reducible refine (turnstilelaw04_yes.calls k a0_0 a0_1 a0_2 a0_3 a0_4 a0_3 a0_4 false _ A7.out).mono ?_); rintro e w49 ⟨rfl, hb⟩; refine ⟨_, rfl, ?_⟩; have n0_ := Aside0.mk (blk_below (g := gb550) (o := .cells #[.int .u64 a0_0, .int .u64 a0_1, .int .u64 a0_2, .int .u64 a0_3, .int .u64 a0_4] 46 (0, 0)) (by (with_reducible repeat (first | refine blk_drewN ?_ _ | refine blk_drew ?_ | refine blk_alloc ?_ _)); exact BK550.out) hb); have n1_ := Aside0.mk (below_step (by repeat (first | (with_reducible first | exact HB.out | apply below_alloc | apply pw_below_drewN | apply below_drew1 | refine below_set ?_ GE550.out) | exact HB.out)) hb); clear BK550; clear HB; have BK550 := n0_; have HB := n1_; clear n0_ n1_; (try clear hb); (try clear hb2); (try clear hk); (try clear hi); have hcz50_0 : w49.cell? ⟨gb550, 0, none⟩ = some (.int .u64 a0_0) := (blk_cell BK550.out 0).trans rfl; have hcz50_1 : w49.cell? ⟨gb550, 1, none⟩ = some (.int .u64 a0_1) := (blk_cell BK550.out 1).trans rfl; have hcz50_2 : w49.cell? ⟨gb550, 2, none⟩ = some (.int .u64 a0_2) := (blk_cell BK550.out 2).trans rfl; have hcz50_3 : w49.cell? ⟨gb550, 3, none⟩ = some (.int .u64 a0_3) := (blk_cell BK550.out 3).trans rfl; have hcz50_4 : w49.cell? ⟨gb550, 4, none⟩ = some (.int .u64 a0_4) := (blk_cell BK550.out 4).trans rfl; have hfz50_0 := blk_frozen BK550.out 0; have hfz50_1 := blk_frozen BK550.out 1; have hfz50_2 := blk_frozen BK550.out 2; have hfz50_3 := blk_frozen BK550.out 3; have hfz50_4 := blk_frozen BK550.out 4) | (go_at_call 36; (with_reducible refine (turnstilelaw04_yes.calls k a0_0 a0_1 a0_2 a0_3 a0_4 a1 a0_4 false _ A33.out).mono ?_); rintro e w51 ⟨rfl, hb⟩; have n0_ := Aside0.mk (blk_below (g := gb550) (o := .cells #[.int .u64 a0_0, .int .u64 a0_1, .int .u64 a0_2, .int .u64 a0_3, .int .u64 a0_4] 46 (0, 0)) (by (with_reducible repeat (first | refine blk_drewN ?_ _ | refine blk_drew ?_ | refine blk_alloc ?_ _)); exact BK550.out) hb); have n1_ := Aside0.mk (below_step (by repeat (first | (with_reducible first | exact HB.out | apply below_alloc | apply pw_below_drewN | apply below_drew1 | refine below_set ?_ GE550.out) | exact HB.out)) hb); clear BK550; clear HB; have BK550 := n0_; have HB := n1_; clear n0_ n1_; (try clear hb); (try clear hb2); (try clear hk); (try clear hi); have hcz52_0 : w51.cell? ⟨gb550, 0, none⟩ = some (.int .u64 a0_0) := (blk_cell BK550.out 0).trans rfl; have hcz52_1 : w51.cell? ⟨gb550, 1, none⟩ = some (.int .u64 a0_1) := (blk_cell BK550.out 1).trans rfl; have hcz52_2 : w51.cell? ⟨gb550, 2, none⟩ = some (.int .u64 a0_2) := (blk_cell BK550.out 2).trans rfl; have hcz52_3 : w51.cell? ⟨gb550, 3, none⟩ = some (.int .u64 a0_3) := (blk_cell BK550.out 3).trans rfl; have hcz52_4 : w51.cell? ⟨gb550, 4, none⟩ = some (.int .u64 a0_4) := (blk_cell BK550.out 4).trans rfl; have hfz52_0 := blk_frozen BK550.out 0; have hfz52_1 := blk_frozen BK550.out 1; have hfz52_2 := blk_frozen BK550.out 2; have hfz52_3 := blk_frozen BK550.out 3; have hfz52_4 := blk_frozen BK550.out 4))
              go_ret
              exact ⟨by first | rfl | (simp [errW_none, errW_some] <;> rfl) | (simp [*, errW_none, errW_some] <;> rfl), by repeat (first | (with_reducible first | exact HB.out | apply below_alloc | apply pw_below_drewN | apply below_drew1 | refine below_set ?_ GE550.out) | exact HB.out)⟩
            · rw [if_neg c43] at H
              have c43b0 : decide (a0_2 < a0_3) = false := decide_eq_false c43
              clear c43
              replace H := Option.bind_eq_some_iff.mp H
              obtain ⟨t556, A530, H⟩ := H
              replace H : (some (!t556)) = some r := H
              have A53 := Aside0.mk A530
              clear A530
              obtain rfl := Option.some.inj H
              go_enter Try.func10, Try.ntmps10
              go_wp2_with (first | ((with_reducible refine gate_dst (N := 2) rfl ?_); refine box_event ?hg (N := 2) ?hd (cs := #[.int .u64 a0_0, .int .u64 a0_1, .int .u64 a0_2, .int .u64 a0_3, .int .u64 a0_4]) (t := 46) ?hr ?_; (case hd => rfl); (case hg => rfl); (case hr => first | (go_simp; done) | (go_simp; rfl)); intro gb550 hg w54 hbox hb; have n0_ := Aside0.mk (below_step (by repeat (first | (with_reducible first | exact HB.out | apply below_alloc | apply pw_below_drewN | apply below_drew1) | exact HB.out)) hb); have n1_ := Aside0.mk (hbox); have n2_ := Aside0.mk ((by rw [hg]; exact (below_size (by repeat (first | (with_reducible first | exact HB.out | apply below_alloc | apply pw_below_drewN | apply below_drew1) | exact HB.out))) : w.heap.size ≤ gb550)); have n3_ := Aside0.mk ((by rw [hg]; exact (below_size (by repeat (first | (with_reducible first | exact HB.out | apply below_alloc | apply pw_below_drewN | apply below_drew1) | exact HB.out))) : w.heap.size ≤ gb550)); clear HB; have HB := n0_; have BK550 := n1_; have GW550 := n2_; have GE550 := n3_; clear n0_ n1_ n2_ n3_; clear hb hbox hg) | ((with_reducible refine gate_callee (f := 27) rfl ?_); refine goesL_ (some 6) rfl rfl Try.func27 (by kernel_rfl) rfl #[] rfl (by (try simp only [List.map_toArray, List.map_cons, List.map_nil]); first | done | rfl | (simp only [List.length_drop, List.length_take]; rfl)) ?_; (with_reducible refine (turnstilelaw04_lives.calls k  true _ A3.out).mono ?_); rintro e w55 ⟨rfl, hb⟩; refine ⟨_, rfl, ?_⟩; have n0_ := Aside0.mk (blk_below (g := gb550) (o := .cells #[.int .u64 a0_0, .int .u64 a0_1, .int .u64 a0_2, .int .u64 a0_3, .int .u64 a0_4] 46 (0, 0)) (by (with_reducible repeat (first | refine blk_drewN ?_ _ | refine blk_drew ?_ | refine blk_alloc ?_ _)); exact BK550.out) hb); have n1_ := Aside0.mk (below_step (by repeat (first | (with_reducible first | exact HB.out | apply below_alloc | apply pw_below_drewN | apply below_drew1 | refine below_set ?_ GE550.out) | exact HB.out)) hb); clear BK550; clear HB; have BK550 := n0_; have HB := n1_; clear n0_ n1_; (try clear hb); (try clear hb2); (try clear hk); (try clear hi); have hcz56_0 : w55.cell? ⟨gb550, 0, none⟩ = some (.int .u64 a0_0) := (blk_cell BK550.out 0).trans rfl; have hcz56_1 : w55.cell? ⟨gb550, 1, none⟩ = some (.int .u64 a0_1) := (blk_cell BK550.out 1).trans rfl; have hcz56_2 : w55.cell? ⟨gb550, 2, none⟩ = some (.int .u64 a0_2) := (blk_cell BK550.out 2).trans rfl; have hcz56_3 : w55.cell? ⟨gb550, 3, none⟩ = some (.int .u64 a0_3) := (blk_cell BK550.out 3).trans rfl; have hcz56_4 : w55.cell? ⟨gb550, 4, none⟩ = some (.int .u64 a0_4) := (blk_cell BK550.out 4).trans rfl; have hfz56_0 := blk_frozen BK550.out 0; have hfz56_1 := blk_frozen BK550.out 1; have hfz56_2 := blk_frozen BK550.out 2; have hfz56_3 := blk_frozen BK550.out 3; have hfz56_4 := blk_frozen BK550.out 4) | ((with_reducible refine gate_callee (f := 30) rfl ?_); refine goesL_ (some 18) rfl rfl Try.func30 (by kernel_rfl) rfl #[.int .u64 a0_0, .int .u64 a0_1, .int .u64 a0_2, .int .u64 a0_3, .int .u64 a0_4] rfl (by (try simp only [List.map_toArray, List.map_cons, List.map_nil]); first | done | rfl | (simp only [List.length_drop, List.length_take]; rfl)) ?_; (with_reducible refine (gcra_Retry.calls k a0_0 a0_1 a0_2 a0_3 a0_4 t552 _ A5.out).mono ?_); rintro e w57 ⟨rfl, hb⟩; refine ⟨_, rfl, ?_⟩; have n0_ := Aside0.mk (blk_below (g := gb550) (o := .cells #[.int .u64 a0_0, .int .u64 a0_1, .int .u64 a0_2, .int .u64 a0_3, .int .u64 a0_4] 46 (0, 0)) (by (with_reducible repeat (first | refine blk_drewN ?_ _ | refine blk_drew ?_ | refine blk_alloc ?_ _)); exact BK550.out) hb); have n1_ := Aside0.mk (below_step (by repeat (first | (with_reducible first | exact HB.out | apply below_alloc | apply pw_below_drewN | apply below_drew1 | refine below_set ?_ GE550.out) | exact HB.out)) hb); clear BK550; clear HB; have BK550 := n0_; have HB := n1_; clear n0_ n1_; (try clear hb); (try clear hb2); (try clear hk); (try clear hi); have hcz58_0 : w57.cell? ⟨gb550, 0, none⟩ = some (.int .u64 a0_0) := (blk_cell BK550.out 0).trans rfl; have hcz58_1 : w57.cell? ⟨gb550, 1, none⟩ = some (.int .u64 a0_1) := (blk_cell BK550.out 1).trans rfl; have hcz58_2 : w57.cell? ⟨gb550, 2, none⟩ = some (.int .u64 a0_2) := (blk_cell BK550.out 2).trans rfl; have hcz58_3 : w57.cell? ⟨gb550, 3, none⟩ = some (.int .u64 a0_3) := (blk_cell BK550.out 3).trans rfl; have hcz58_4 : w57.cell? ⟨gb550, 4, none⟩ = some (.int .u64 a0_4) := (blk_cell BK550.out 4).trans rfl; have hfz58_0 := blk_frozen BK550.out 0; have hfz58_1 := blk_frozen BK550.out 1; have hfz58_2 := blk_frozen BK550.out 2; have hfz58_3 := blk_frozen BK550.out 3; have hfz58_4 := blk_frozen BK550.out 4) | ((with_reducible refine gate_callee (f := 36) rfl ?_); refine goesL_ (some 26) rfl rfl Try.func36 (by kernel_rfl) rfl #[.agg #[.int .u64 a0_0, .int .u64 a0_1, .int .u64 a0_2, .int .u64 a0_3, .int .u64 a0_4], .int .u64 a0_3, .int .u64 a0_4] rfl (by (try simp only [List.map_toArray, List.map_cons, List.map_nil]); first | done | rfl | (simp only [List.length_drop, List.length_take]; rfl)) ?_; (with_reducible refine (turnstilelaw04_yes.calls k a0_0 a0_1 a0_2 a0_3 a0_4 a0_3 a0_4 false _ A7.out).mono ?_); rintro e w59 ⟨rfl, hb⟩; refine ⟨_, rfl, ?_⟩; have n0_ := Aside0.mk (blk_below (g := gb550) (o := .cells #[.int .u64 a0_0, .int .u64 a0_1, .int .u64 a0_2, .int .u64 a0_3, .int .u64 a0_4] 46 (0, 0)) (by (with_reducible repeat (first | refine blk_drewN ?_ _ | refine blk_drew ?_ | refine blk_alloc ?_ _)); exact BK550.out) hb); have n1_ := Aside0.mk (below_step (by repeat (first | (with_reducible first | exact HB.out | apply below_alloc | apply pw_below_drewN | apply below_drew1 | refine below_set ?_ GE550.out) | exact HB.out)) hb); clear BK550; clear HB; have BK550 := n0_; have HB := n1_; clear n0_ n1_; (try clear hb); (try clear hb2); (try clear hk); (try clear hi); have hcz60_0 : w59.cell? ⟨gb550, 0, none⟩ = some (.int .u64 a0_0) := (blk_cell BK550.out 0).trans rfl; have hcz60_1 : w59.cell? ⟨gb550, 1, none⟩ = some (.int .u64 a0_1) := (blk_cell BK550.out 1).trans rfl; have hcz60_2 : w59.cell? ⟨gb550, 2, none⟩ = some (.int .u64 a0_2) := (blk_cell BK550.out 2).trans rfl; have hcz60_3 : w59.cell? ⟨gb550, 3, none⟩ = some (.int .u64 a0_3) := (blk_cell BK550.out 3).trans rfl; have hcz60_4 : w59.cell? ⟨gb550, 4, none⟩ = some (.int .u64 a0_4) := (blk_cell BK550.out 4).trans rfl; have hfz60_0 := blk_frozen BK550.out 0; have hfz60_1 := blk_frozen BK550.out 1; have hfz60_2 := blk_frozen BK550.out 2; have hfz60_3 := blk_frozen BK550.out 3; have hfz60_4 := blk_frozen BK550.out 4) | (go_at_call 36; (with_reducible refine (turnstilelaw04_yes.calls k a0_0 a0_1 a0_2 a0_3 a0_4 a1 a0_4 false _ A33.out).mono ?_); rintro e w61 ⟨rfl, hb⟩; have n0_ := Aside0.mk (blk_below (g := gb550) (o := .cells #[.int .u64 a0_0, .int .u64 a0_1, .int .u64 a0_2, .int .u64 a0_3, .int .u64 a0_4] 46 (0, 0)) (by (with_reducible repeat (first | refine blk_drewN ?_ _ | refine blk_drew ?_ | refine blk_alloc ?_ _)); exact BK550.out) hb); have n1_ := Aside0.mk (below_step (by repeat (first | (with_reducible first | exact HB.out | apply below_alloc | apply pw_below_drewN | apply below_drew1 | refine below_set ?_ GE550.out) | exact HB.out)) hb); clear BK550; clear HB; have BK550 := n0_; have HB := n1_; clear n0_ n1_; (try clear hb); (try clear hb2); (try clear hk); (try clear hi); have hcz62_0 : w61.cell? ⟨gb550, 0, none⟩ = some (.int .u64 a0_0) := (blk_cell BK550.out 0).trans rfl; have hcz62_1 : w61.cell? ⟨gb550, 1, none⟩ = some (.int .u64 a0_1) := (blk_cell BK550.out 1).trans rfl; have hcz62_2 : w61.cell? ⟨gb550, 2, none⟩ = some (.int .u64 a0_2) := (blk_cell BK550.out 2).trans rfl; have hcz62_3 : w61.cell? ⟨gb550, 3, none⟩ = some (.int .u64 a0_3) := (blk_cell BK550.out 3).trans rfl; have hcz62_4 : w61.cell? ⟨gb550, 4, none⟩ = some (.int .u64 a0_4) := (blk_cell BK550.out 4).trans rfl; have hfz62_0 := blk_frozen BK550.out 0; have hfz62_1 := blk_frozen BK550.out 1; have hfz62_2 := blk_frozen BK550.out 2; have hfz62_3 := blk_frozen BK550.out 3; have hfz62_4 := blk_frozen BK550.out 4) | (go_at_call 36; (with_reducible refine (turnstilelaw04_yes.calls k a0_0 a0_1 a0_2 a0_3 a0_4 a0_2 a0_4 t556 _ A53.out).mono ?_); rintro e w63 ⟨rfl, hb⟩; have n0_ := Aside0.mk (blk_below (g := gb550) (o := .cells #[.int .u64 a0_0, .int .u64 a0_1, .int .u64 a0_2, .int .u64 a0_3, .int .u64 a0_4] 46 (0, 0)) (by (with_reducible repeat (first | refine blk_drewN ?_ _ | refine blk_drew ?_ | refine blk_alloc ?_ _)); exact BK550.out) hb); have n1_ := Aside0.mk (below_step (by repeat (first | (with_reducible first | exact HB.out | apply below_alloc | apply pw_below_drewN | apply below_drew1 | refine below_set ?_ GE550.out) | exact HB.out)) hb); clear BK550; clear HB; have BK550 := n0_; have HB := n1_; clear n0_ n1_; (try clear hb); (try clear hb2); (try clear hk); (try clear hi)))
              go_ret
              exact ⟨by first | rfl | (simp [errW_none, errW_some] <;> rfl) | (simp [*, errW_none, errW_some] <;> rfl), by repeat (first | (with_reducible first | exact HB.out | apply below_alloc | apply pw_below_drewN | apply below_drew1 | refine below_set ?_ GE550.out) | exact HB.out)⟩
    · rw [if_neg c6] at H
      have c6b0 : (t552 == 18446744073709551615) = false := beq_eq_false_iff_ne.mpr c6
      have c6b1 : (t552 != 18446744073709551615) = true := bne_iff_ne.mpr c6
      have HC64 := Aside0.mk H
      clear H
      go_enter Try.func10, Try.ntmps10
      go_upto_region 6 with (first | ((with_reducible refine gate_dst (N := 2) rfl ?_); refine box_event ?hg (N := 2) ?hd (cs := #[.int .u64 a0_0, .int .u64 a0_1, .int .u64 a0_2, .int .u64 a0_3, .int .u64 a0_4]) (t := 46) ?hr ?_; (case hd => rfl); (case hg => rfl); (case hr => first | (go_simp; done) | (go_simp; rfl)); intro gb550 hg w65 hbox hb; have n0_ := Aside0.mk (below_step (by repeat (first | (with_reducible first | exact HB.out | apply below_alloc | apply pw_below_drewN | apply below_drew1) | exact HB.out)) hb); have n1_ := Aside0.mk (hbox); have n2_ := Aside0.mk ((by rw [hg]; exact (below_size (by repeat (first | (with_reducible first | exact HB.out | apply below_alloc | apply pw_below_drewN | apply below_drew1) | exact HB.out))) : w.heap.size ≤ gb550)); have n3_ := Aside0.mk ((by rw [hg]; exact (below_size (by repeat (first | (with_reducible first | exact HB.out | apply below_alloc | apply pw_below_drewN | apply below_drew1) | exact HB.out))) : w.heap.size ≤ gb550)); clear HB; have HB := n0_; have BK550 := n1_; have GW550 := n2_; have GE550 := n3_; clear n0_ n1_ n2_ n3_; clear hb hbox hg) | ((with_reducible refine gate_callee (f := 27) rfl ?_); refine goesL_ (some 6) rfl rfl Try.func27 (by kernel_rfl) rfl #[] rfl (by (try simp only [List.map_toArray, List.map_cons, List.map_nil]); first | done | rfl | (simp only [List.length_drop, List.length_take]; rfl)) ?_; (with_reducible refine (turnstilelaw04_lives.calls k  true _ A3.out).mono ?_); rintro e w66 ⟨rfl, hb⟩; refine ⟨_, rfl, ?_⟩; have n0_ := Aside0.mk (blk_below (g := gb550) (o := .cells #[.int .u64 a0_0, .int .u64 a0_1, .int .u64 a0_2, .int .u64 a0_3, .int .u64 a0_4] 46 (0, 0)) (by (with_reducible repeat (first | refine blk_drewN ?_ _ | refine blk_drew ?_ | refine blk_alloc ?_ _)); exact BK550.out) hb); have n1_ := Aside0.mk (below_step (by repeat (first | (with_reducible first | exact HB.out | apply below_alloc | apply pw_below_drewN | apply below_drew1 | refine below_set ?_ GE550.out) | exact HB.out)) hb); clear BK550; clear HB; have BK550 := n0_; have HB := n1_; clear n0_ n1_; (try clear hb); (try clear hb2); (try clear hk); (try clear hi); have hcz67_0 : w66.cell? ⟨gb550, 0, none⟩ = some (.int .u64 a0_0) := (blk_cell BK550.out 0).trans rfl; have hcz67_1 : w66.cell? ⟨gb550, 1, none⟩ = some (.int .u64 a0_1) := (blk_cell BK550.out 1).trans rfl; have hcz67_2 : w66.cell? ⟨gb550, 2, none⟩ = some (.int .u64 a0_2) := (blk_cell BK550.out 2).trans rfl; have hcz67_3 : w66.cell? ⟨gb550, 3, none⟩ = some (.int .u64 a0_3) := (blk_cell BK550.out 3).trans rfl; have hcz67_4 : w66.cell? ⟨gb550, 4, none⟩ = some (.int .u64 a0_4) := (blk_cell BK550.out 4).trans rfl; have hfz67_0 := blk_frozen BK550.out 0; have hfz67_1 := blk_frozen BK550.out 1; have hfz67_2 := blk_frozen BK550.out 2; have hfz67_3 := blk_frozen BK550.out 3; have hfz67_4 := blk_frozen BK550.out 4) | ((with_reducible refine gate_callee (f := 30) rfl ?_); refine goesL_ (some 18) rfl rfl Try.func30 (by kernel_rfl) rfl #[.int .u64 a0_0, .int .u64 a0_1, .int .u64 a0_2, .int .u64 a0_3, .int .u64 a0_4] rfl (by (try simp only [List.map_toArray, List.map_cons, List.map_nil]); first | done | rfl | (simp only [List.length_drop, List.length_take]; rfl)) ?_; (with_reducible refine (gcra_Retry.calls k a0_0 a0_1 a0_2 a0_3 a0_4 t552 _ A5.out).mono ?_); rintro e w68 ⟨rfl, hb⟩; refine ⟨_, rfl, ?_⟩; have n0_ := Aside0.mk (blk_below (g := gb550) (o := .cells #[.int .u64 a0_0, .int .u64 a0_1, .int .u64 a0_2, .int .u64 a0_3, .int .u64 a0_4] 46 (0, 0)) (by (with_reducible repeat (first | refine blk_drewN ?_ _ | refine blk_drew ?_ | refine blk_alloc ?_ _)); exact BK550.out) hb); have n1_ := Aside0.mk (below_step (by repeat (first | (with_reducible first | exact HB.out | apply below_alloc | apply pw_below_drewN | apply below_drew1 | refine below_set ?_ GE550.out) | exact HB.out)) hb); clear BK550; clear HB; have BK550 := n0_; have HB := n1_; clear n0_ n1_; (try clear hb); (try clear hb2); (try clear hk); (try clear hi)))
      (try simp only [Act.put, List.setIfInBounds_toArray, List.set_cons_zero, List.set_cons_succ])
      go_cut [69] (fun v69 wc => ∃ (kq : Nat) (x69_63 : Bool), v69 = .bool x69_63 ∧ Aside0 (turnstilelaw04_GcraLeast.j0 kq a1 t552 x69_63 a0_0 a0_1 a0_2 a0_3 a0_4 = some r) ∧ Aside0 (kq ≤ k) ∧ Aside0 (wc.heap[gb550]? = some (.cells #[.int .u64 a0_0, .int .u64 a0_1, .int .u64 a0_2, .int .u64 a0_3, .int .u64 a0_4] 46 (0, 0))) ∧ Aside0 (Below w.heap.size w wc))
      case first =>
        have H := HC64.out
        clear HC64
        by_cases c69 : t552 < a0_3
        · rw [if_pos c69] at H
          have c69b0 : decide (t552 < a0_3) = true := decide_eq_true c69
          clear c69
          (first | rw [c69b0] | (simp only [i64_w, i32_w]; rw [c69b0]) | skip)
          have H' := Aside0.mk H
          clear H
          have hcz70_0 : w68.cell? ⟨gb550, 0, none⟩ = some (.int .u64 a0_0) := (blk_cell BK550.out 0).trans rfl
          have hcz70_1 : w68.cell? ⟨gb550, 1, none⟩ = some (.int .u64 a0_1) := (blk_cell BK550.out 1).trans rfl
          have hcz70_2 : w68.cell? ⟨gb550, 2, none⟩ = some (.int .u64 a0_2) := (blk_cell BK550.out 2).trans rfl
          have hcz70_3 : w68.cell? ⟨gb550, 3, none⟩ = some (.int .u64 a0_3) := (blk_cell BK550.out 3).trans rfl
          have hcz70_4 : w68.cell? ⟨gb550, 4, none⟩ = some (.int .u64 a0_4) := (blk_cell BK550.out 4).trans rfl
          have hfz70_0 := blk_frozen BK550.out 0
          have hfz70_1 := blk_frozen BK550.out 1
          have hfz70_2 := blk_frozen BK550.out 2
          have hfz70_3 := blk_frozen BK550.out 3
          have hfz70_4 := blk_frozen BK550.out 4
          go_wp2
          go_meet
          case rel => exact ⟨_, (true), (by first | rfl | (simp; done) | (simp [*]; done)), H', ⟨by first | omega | exact Nat.le_refl _⟩, ⟨by (with_reducible repeat (first | refine blk_drewN ?_ _ | refine blk_drew ?_ | refine blk_alloc ?_ _)); exact BK550.out⟩, ⟨by repeat (first | (with_reducible first | exact HB.out | apply below_alloc | apply pw_below_drewN | apply below_drew1 | refine below_set ?_ GE550.out) | exact HB.out)⟩⟩
        · rw [if_neg c69] at H
          have c69b0 : decide (t552 < a0_3) = false := decide_eq_false c69
          clear c69
          (first | rw [c69b0] | (simp only [i64_w, i32_w]; rw [c69b0]) | skip)
          replace H := Option.bind_eq_some_iff.mp H
          obtain ⟨t557, A710, H⟩ := H
          replace H : (turnstilelaw04_GcraLeast.j0 k a1 t552 (!t557) a0_0 a0_1 a0_2 a0_3 a0_4) = some r := H
          have A71 := Aside0.mk A710
          clear A710
          have H' := Aside0.mk H
          clear H
          have hcz72_0 : w68.cell? ⟨gb550, 0, none⟩ = some (.int .u64 a0_0) := (blk_cell BK550.out 0).trans rfl
          have hcz72_1 : w68.cell? ⟨gb550, 1, none⟩ = some (.int .u64 a0_1) := (blk_cell BK550.out 1).trans rfl
          have hcz72_2 : w68.cell? ⟨gb550, 2, none⟩ = some (.int .u64 a0_2) := (blk_cell BK550.out 2).trans rfl
          have hcz72_3 : w68.cell? ⟨gb550, 3, none⟩ = some (.int .u64 a0_3) := (blk_cell BK550.out 3).trans rfl
          have hcz72_4 : w68.cell? ⟨gb550, 4, none⟩ = some (.int .u64 a0_4) := (blk_cell BK550.out 4).trans rfl
          have hfz72_0 := blk_frozen BK550.out 0
          have hfz72_1 := blk_frozen BK550.out 1
          have hfz72_2 := blk_frozen BK550.out 2
          have hfz72_3 := blk_frozen BK550.out 3
          have hfz72_4 := blk_frozen BK550.out 4
          go_wp2_with (first | (go_at_call 36; (with_reducible refine (turnstilelaw04_yes.calls k a0_0 a0_1 a0_2 a0_3 a0_4 t552 a0_4 t557 _ A71.out).mono ?_); rintro e w73 ⟨rfl, hb⟩; have n0_ := Aside0.mk (blk_below (g := gb550) (o := .cells #[.int .u64 a0_0, .int .u64 a0_1, .int .u64 a0_2, .int .u64 a0_3, .int .u64 a0_4] 46 (0, 0)) (by (with_reducible repeat (first | refine blk_drewN ?_ _ | refine blk_drew ?_ | refine blk_alloc ?_ _)); exact BK550.out) hb); have n1_ := Aside0.mk (below_step (by repeat (first | (with_reducible first | exact HB.out | apply below_alloc | apply pw_below_drewN | apply below_drew1 | refine below_set ?_ GE550.out) | exact HB.out)) hb); clear BK550; clear HB; have BK550 := n0_; have HB := n1_; clear n0_ n1_; (try clear hb); (try clear hb2); (try clear hk); (try clear hi)))
          go_meet
          case rel => exact ⟨_, (!t557), (by first | rfl | (simp; done) | (simp [*]; done)), H', ⟨by first | omega | exact Nat.le_refl _⟩, ⟨by (with_reducible repeat (first | refine blk_drewN ?_ _ | refine blk_drew ?_ | refine blk_alloc ?_ _)); exact BK550.out⟩, ⟨by repeat (first | (with_reducible first | exact HB.out | apply below_alloc | apply pw_below_drewN | apply below_drew1 | refine below_set ?_ GE550.out) | exact HB.out)⟩⟩
      case rest =>
        clear HC64
        try clear c1
        try clear c2
        try clear p2
        try clear c3
        try clear c4
        try clear c6
        try clear c6b0
        try clear c6b1
        try clear c8
        try clear c10
        try clear c15
        try clear c15b0
        try clear c16
        try clear c16b0
        try clear c27
        try clear c30
        try clear c34
        try clear c36
        try clear c43
        try clear c43b0
        try clear c69
        try clear c69b0
        try clear hcz11_0
        try clear hcz11_1
        try clear hcz11_2
        try clear hcz11_3
        try clear hcz11_4
        try clear hcz13_0
        try clear hcz13_1
        try clear hcz13_2
        try clear hcz13_3
        try clear hcz13_4
        try clear hcz19_0
        try clear hcz19_1
        try clear hcz19_2
        try clear hcz19_3
        try clear hcz19_4
        try clear hcz21_0
        try clear hcz21_1
        try clear hcz21_2
        try clear hcz21_3
        try clear hcz21_4
        try clear hcz23_0
        try clear hcz23_1
        try clear hcz23_2
        try clear hcz23_3
        try clear hcz23_4
        try clear hcz27_0
        try clear hcz27_1
        try clear hcz27_2
        try clear hcz27_3
        try clear hcz27_4
        try clear hcz29_0
        try clear hcz29_1
        try clear hcz29_2
        try clear hcz29_3
        try clear hcz29_4
        try clear hcz31_0
        try clear hcz31_1
        try clear hcz31_2
        try clear hcz31_3
        try clear hcz31_4
        try clear hcz37_0
        try clear hcz37_1
        try clear hcz37_2
        try clear hcz37_3
        try clear hcz37_4
        try clear hcz39_0
        try clear hcz39_1
        try clear hcz39_2
        try clear hcz39_3
        try clear hcz39_4
        try clear hcz41_0
        try clear hcz41_1
        try clear hcz41_2
        try clear hcz41_3
        try clear hcz41_4
        try clear hcz46_0
        try clear hcz46_1
        try clear hcz46_2
        try clear hcz46_3
        try clear hcz46_4
        try clear hcz48_0
        try clear hcz48_1
        try clear hcz48_2
        try clear hcz48_3
        try clear hcz48_4
        try clear hcz50_0
        try clear hcz50_1
        try clear hcz50_2
        try clear hcz50_3
        try clear hcz50_4
        try clear hcz52_0
        try clear hcz52_1
        try clear hcz52_2
        try clear hcz52_3
        try clear hcz52_4
        try clear hcz56_0
        try clear hcz56_1
        try clear hcz56_2
        try clear hcz56_3
        try clear hcz56_4
        try clear hcz58_0
        try clear hcz58_1
        try clear hcz58_2
        try clear hcz58_3
        try clear hcz58_4
        try clear hcz60_0
        try clear hcz60_1
        try clear hcz60_2
        try clear hcz60_3
        try clear hcz60_4
        try clear hcz62_0
        try clear hcz62_1
        try clear hcz62_2
        try clear hcz62_3
        try clear hcz62_4
        try clear hcz67_0
        try clear hcz67_1
        try clear hcz67_2
        try clear hcz67_3
        try clear hcz67_4
        try clear hcz70_0
        try clear hcz70_1
        try clear hcz70_2
        try clear hcz70_3
        try clear hcz70_4
        try clear hcz72_0
        try clear hcz72_1
        try clear hcz72_2
        try clear hcz72_3
        try clear hcz72_4
        try clear hfz11_0
        try clear hfz11_1
        try clear hfz11_2
        try clear hfz11_3
        try clear hfz11_4
        try clear hfz13_0
        try clear hfz13_1
        try clear hfz13_2
        try clear hfz13_3
        try clear hfz13_4
        try clear hfz19_0
        try clear hfz19_1
        try clear hfz19_2
        try clear hfz19_3
        try clear hfz19_4
        try clear hfz21_0
        try clear hfz21_1
        try clear hfz21_2
        try clear hfz21_3
        try clear hfz21_4
        try clear hfz23_0
        try clear hfz23_1
        try clear hfz23_2
        try clear hfz23_3
        try clear hfz23_4
        try clear hfz27_0
        try clear hfz27_1
        try clear hfz27_2
        try clear hfz27_3
        try clear hfz27_4
        try clear hfz29_0
        try clear hfz29_1
        try clear hfz29_2
        try clear hfz29_3
        try clear hfz29_4
        try clear hfz31_0
        try clear hfz31_1
        try clear hfz31_2
        try clear hfz31_3
        try clear hfz31_4
        try clear hfz37_0
        try clear hfz37_1
        try clear hfz37_2
        try clear hfz37_3
        try clear hfz37_4
        try clear hfz39_0
        try clear hfz39_1
        try clear hfz39_2
        try clear hfz39_3
        try clear hfz39_4
        try clear hfz41_0
        try clear hfz41_1
        try clear hfz41_2
        try clear hfz41_3
        try clear hfz41_4
        try clear hfz46_0
        try clear hfz46_1
        try clear hfz46_2
        try clear hfz46_3
        try clear hfz46_4
        try clear hfz48_0
        try clear hfz48_1
        try clear hfz48_2
        try clear hfz48_3
        try clear hfz48_4
        try clear hfz50_0
        try clear hfz50_1
        try clear hfz50_2
        try clear hfz50_3
        try clear hfz50_4
        try clear hfz52_0
        try clear hfz52_1
        try clear hfz52_2
        try clear hfz52_3
        try clear hfz52_4
        try clear hfz56_0
        try clear hfz56_1
        try clear hfz56_2
        try clear hfz56_3
        try clear hfz56_4
        try clear hfz58_0
        try clear hfz58_1
        try clear hfz58_2
        try clear hfz58_3
        try clear hfz58_4
        try clear hfz60_0
        try clear hfz60_1
        try clear hfz60_2
        try clear hfz60_3
        try clear hfz60_4
        try clear hfz62_0
        try clear hfz62_1
        try clear hfz62_2
        try clear hfz62_3
        try clear hfz62_4
        try clear hfz67_0
        try clear hfz67_1
        try clear hfz67_2
        try clear hfz67_3
        try clear hfz67_4
        try clear hfz70_0
        try clear hfz70_1
        try clear hfz70_2
        try clear hfz70_3
        try clear hfz70_4
        try clear hfz72_0
        try clear hfz72_1
        try clear hfz72_2
        try clear hfz72_3
        try clear hfz72_4
        obtain ⟨kq, x69_63, rfl, HA, HJ63, BK550, HB⟩ := hcut
        cases kq with
        | zero => exact absurd HA.out (by simp [turnstilelaw04_GcraLeast.j0])
        | succ kj63 =>
          have H := HA.out
          clear HA
          simp only [turnstilelaw04_GcraLeast.j0] at H
          by_cases c74 : x69_63 = true
          · subst c74
            have H1 : (some false) = some r := by rw [if_pos rfl] at H; exact H
            clear H
            have H := H1
            clear H1
            obtain rfl := Option.some.inj H
            go_wp2
            go_ret
            exact ⟨by first | rfl | (simp [errW_none, errW_some] <;> rfl) | (simp [*, errW_none, errW_some] <;> rfl), by repeat (first | (with_reducible first | exact HB.out | apply below_alloc | apply pw_below_drewN | apply below_drew1 | refine below_set ?_ GE550.out) | exact HB.out)⟩
          · replace c74 := Bool.eq_false_iff.mpr c74
            subst c74
            have H1 : (if a1 ≥ a0_3 then (if a1 < t552 then ((turnstilelaw04_yes.f kj63 a0_0 a0_1 a0_2 a0_3 a0_4 a1 a0_4).bind fun t558 => (if t558 = true then (some false) else (if t552 = a0_3 then (some true) else ((turnstilelaw04_yes.f kj63 a0_0 a0_1 a0_2 a0_3 a0_4 (IntKind.u64.wrap (t552 - 1)) a0_4).bind fun t559 => (some (!t559)))))) else (if t552 = a0_3 then (some true) else ((turnstilelaw04_yes.f kj63 a0_0 a0_1 a0_2 a0_3 a0_4 (IntKind.u64.wrap (t552 - 1)) a0_4).bind fun t560 => (some (!t560))))) else (if t552 = a0_3 then (some true) else ((turnstilelaw04_yes.f kj63 a0_0 a0_1 a0_2 a0_3 a0_4 (IntKind.u64.wrap (t552 - 1)) a0_4).bind fun t561 => (some (!t561))))) = some r := by rw [if_neg (show ¬ (false = true) by decide)] at H; exact H
            clear H
            have H := H1
            clear H1
            by_cases c75 : a1 ≥ a0_3
            · rw [if_pos c75] at H
              have c75b0 : decide (a0_3 ≤ a1) = true := decide_eq_true c75
              clear c75
              by_cases c76 : a1 < t552
              · rw [if_pos c76] at H
                have c76b0 : decide (a1 < t552) = true := decide_eq_true c76
                clear c76
                replace H := Option.bind_eq_some_iff.mp H
                obtain ⟨t558, A770, H⟩ := H
                replace H : (if t558 = true then (some false) else (if t552 = a0_3 then (some true) else ((turnstilelaw04_yes.f kj63 a0_0 a0_1 a0_2 a0_3 a0_4 (IntKind.u64.wrap (t552 - 1)) a0_4).bind fun t559 => (some (!t559))))) = some r := H
                have A77 := Aside0.mk A770
                clear A770
                by_cases c78 : t558 = true
                · subst c78
                  have H1 : (some false) = some r := by rw [if_pos rfl] at H; exact H
                  clear H
                  have H := H1
                  clear H1
                  obtain rfl := Option.some.inj H
                  have hcz79_0 : wc.cell? ⟨gb550, 0, none⟩ = some (.int .u64 a0_0) := (blk_cell BK550.out 0).trans rfl
                  have hcz79_1 : wc.cell? ⟨gb550, 1, none⟩ = some (.int .u64 a0_1) := (blk_cell BK550.out 1).trans rfl
                  have hcz79_2 : wc.cell? ⟨gb550, 2, none⟩ = some (.int .u64 a0_2) := (blk_cell BK550.out 2).trans rfl
                  have hcz79_3 : wc.cell? ⟨gb550, 3, none⟩ = some (.int .u64 a0_3) := (blk_cell BK550.out 3).trans rfl
                  have hcz79_4 : wc.cell? ⟨gb550, 4, none⟩ = some (.int .u64 a0_4) := (blk_cell BK550.out 4).trans rfl
                  have hfz79_0 := blk_frozen BK550.out 0
                  have hfz79_1 := blk_frozen BK550.out 1
                  have hfz79_2 := blk_frozen BK550.out 2
                  have hfz79_3 := blk_frozen BK550.out 3
                  have hfz79_4 := blk_frozen BK550.out 4
                  go_wp2_with (first | (go_at_call 36; (with_reducible refine (turnstilelaw04_yes.calls kj63 a0_0 a0_1 a0_2 a0_3 a0_4 a1 a0_4 true _ A77.out).mono ?_); rintro e w80 ⟨rfl, hb⟩; have n0_ := Aside0.mk (blk_below (g := gb550) (o := .cells #[.int .u64 a0_0, .int .u64 a0_1, .int .u64 a0_2, .int .u64 a0_3, .int .u64 a0_4] 46 (0, 0)) (by (with_reducible repeat (first | refine blk_drewN ?_ _ | refine blk_drew ?_ | refine blk_alloc ?_ _)); exact BK550.out) hb); have n1_ := Aside0.mk (below_step (by repeat (first | (with_reducible first | exact HB.out | apply below_alloc | apply pw_below_drewN | apply below_drew1 | refine below_set ?_ GE550.out) | exact HB.out)) hb); clear BK550; clear HB; have BK550 := n0_; have HB := n1_; clear n0_ n1_; (try clear hb); (try clear hb2); (try clear hk); (try clear hi)))
                  go_ret
                  exact ⟨by first | rfl | (simp [errW_none, errW_some] <;> rfl) | (simp [*, errW_none, errW_some] <;> rfl), by repeat (first | (with_reducible first | exact HB.out | apply below_alloc | apply pw_below_drewN | apply below_drew1 | refine below_set ?_ GE550.out) | exact HB.out)⟩
                · replace c78 := Bool.eq_false_iff.mpr c78
                  subst c78
                  have H1 : (if t552 = a0_3 then (some true) else ((turnstilelaw04_yes.f kj63 a0_0 a0_1 a0_2 a0_3 a0_4 (IntKind.u64.wrap (t552 - 1)) a0_4).bind fun t559 => (some (!t559)))) = some r := by rw [if_neg (show ¬ (false = true) by decide)] at H; exact H
                  clear H
                  have H := H1
                  clear H1
                  by_cases c81 : t552 = a0_3
                  · rw [if_pos c81] at H
                    have c81b0 : (t552 == a0_3) = true := beq_iff_eq.mpr c81
                    have c81b1 : (t552 != a0_3) = false := bne_eq_false_iff_eq.mpr c81
                    clear c81
                    obtain rfl := Option.some.inj H
                    have hcz82_0 : wc.cell? ⟨gb550, 0, none⟩ = some (.int .u64 a0_0) := (blk_cell BK550.out 0).trans rfl
                    have hcz82_1 : wc.cell? ⟨gb550, 1, none⟩ = some (.int .u64 a0_1) := (blk_cell BK550.out 1).trans rfl
                    have hcz82_2 : wc.cell? ⟨gb550, 2, none⟩ = some (.int .u64 a0_2) := (blk_cell BK550.out 2).trans rfl
                    have hcz82_3 : wc.cell? ⟨gb550, 3, none⟩ = some (.int .u64 a0_3) := (blk_cell BK550.out 3).trans rfl
                    have hcz82_4 : wc.cell? ⟨gb550, 4, none⟩ = some (.int .u64 a0_4) := (blk_cell BK550.out 4).trans rfl
                    have hfz82_0 := blk_frozen BK550.out 0
                    have hfz82_1 := blk_frozen BK550.out 1
                    have hfz82_2 := blk_frozen BK550.out 2
                    have hfz82_3 := blk_frozen BK550.out 3
                    have hfz82_4 := blk_frozen BK550.out 4
                    go_wp2_with (first | (go_at_call 36; (with_reducible refine (turnstilelaw04_yes.calls kj63 a0_0 a0_1 a0_2 a0_3 a0_4 a1 a0_4 false _ A77.out).mono ?_); rintro e w83 ⟨rfl, hb⟩; have n0_ := Aside0.mk (blk_below (g := gb550) (o := .cells #[.int .u64 a0_0, .int .u64 a0_1, .int .u64 a0_2, .int .u64 a0_3, .int .u64 a0_4] 46 (0, 0)) (by (with_reducible repeat (first | refine blk_drewN ?_ _ | refine blk_drew ?_ | refine blk_alloc ?_ _)); exact BK550.out) hb); have n1_ := Aside0.mk (below_step (by repeat (first | (with_reducible first | exact HB.out | apply below_alloc | apply pw_below_drewN | apply below_drew1 | refine below_set ?_ GE550.out) | exact HB.out)) hb); clear BK550; clear HB; have BK550 := n0_; have HB := n1_; clear n0_ n1_; (try clear hb); (try clear hb2); (try clear hk); (try clear hi); have hcz84_0 : w83.cell? ⟨gb550, 0, none⟩ = some (.int .u64 a0_0) := (blk_cell BK550.out 0).trans rfl; have hcz84_1 : w83.cell? ⟨gb550, 1, none⟩ = some (.int .u64 a0_1) := (blk_cell BK550.out 1).trans rfl; have hcz84_2 : w83.cell? ⟨gb550, 2, none⟩ = some (.int .u64 a0_2) := (blk_cell BK550.out 2).trans rfl; have hcz84_3 : w83.cell? ⟨gb550, 3, none⟩ = some (.int .u64 a0_3) := (blk_cell BK550.out 3).trans rfl; have hcz84_4 : w83.cell? ⟨gb550, 4, none⟩ = some (.int .u64 a0_4) := (blk_cell BK550.out 4).trans rfl; have hfz84_0 := blk_frozen BK550.out 0; have hfz84_1 := blk_frozen BK550.out 1; have hfz84_2 := blk_frozen BK550.out 2; have hfz84_3 := blk_frozen BK550.out 3; have hfz84_4 := blk_frozen BK550.out 4))
                    go_ret
                    exact ⟨by first | rfl | (simp [errW_none, errW_some] <;> rfl) | (simp [*, errW_none, errW_some] <;> rfl), by repeat (first | (with_reducible first | exact HB.out | apply below_alloc | apply pw_below_drewN | apply below_drew1 | refine below_set ?_ GE550.out) | exact HB.out)⟩
                  · rw [if_neg c81] at H
                    have c81b0 : (t552 == a0_3) = false := beq_eq_false_iff_ne.mpr c81
                    have c81b1 : (t552 != a0_3) = true := bne_iff_ne.mpr c81
                    replace H := Option.bind_eq_some_iff.mp H
                    obtain ⟨t559, A850, H⟩ := H
                    replace H : (some (!t559)) = some r := H
                    have A85 := Aside0.mk A850
                    clear A850
                    obtain rfl := Option.some.inj H
                    have hcz86_0 : wc.cell? ⟨gb550, 0, none⟩ = some (.int .u64 a0_0) := (blk_cell BK550.out 0).trans rfl
                    have hcz86_1 : wc.cell? ⟨gb550, 1, none⟩ = some (.int .u64 a0_1) := (blk_cell BK550.out 1).trans rfl
                    have hcz86_2 : wc.cell? ⟨gb550, 2, none⟩ = some (.int .u64 a0_2) := (blk_cell BK550.out 2).trans rfl
                    have hcz86_3 : wc.cell? ⟨gb550, 3, none⟩ = some (.int .u64 a0_3) := (blk_cell BK550.out 3).trans rfl
                    have hcz86_4 : wc.cell? ⟨gb550, 4, none⟩ = some (.int .u64 a0_4) := (blk_cell BK550.out 4).trans rfl
                    have hfz86_0 := blk_frozen BK550.out 0
                    have hfz86_1 := blk_frozen BK550.out 1
                    have hfz86_2 := blk_frozen BK550.out 2
                    have hfz86_3 := blk_frozen BK550.out 3
                    have hfz86_4 := blk_frozen BK550.out 4
                    go_wp2_with (first | (go_at_call 36; (with_reducible refine (turnstilelaw04_yes.calls kj63 a0_0 a0_1 a0_2 a0_3 a0_4 a1 a0_4 false _ A77.out).mono ?_); rintro e w87 ⟨rfl, hb⟩; have n0_ := Aside0.mk (blk_below (g := gb550) (o := .cells #[.int .u64 a0_0, .int .u64 a0_1, .int .u64 a0_2, .int .u64 a0_3, .int .u64 a0_4] 46 (0, 0)) (by (with_reducible repeat (first | refine blk_drewN ?_ _ | refine blk_drew ?_ | refine blk_alloc ?_ _)); exact BK550.out) hb); have n1_ := Aside0.mk (below_step (by repeat (first | (with_reducible first | exact HB.out | apply below_alloc | apply pw_below_drewN | apply below_drew1 | refine below_set ?_ GE550.out) | exact HB.out)) hb); clear BK550; clear HB; have BK550 := n0_; have HB := n1_; clear n0_ n1_; (try clear hb); (try clear hb2); (try clear hk); (try clear hi); have hcz88_0 : w87.cell? ⟨gb550, 0, none⟩ = some (.int .u64 a0_0) := (blk_cell BK550.out 0).trans rfl; have hcz88_1 : w87.cell? ⟨gb550, 1, none⟩ = some (.int .u64 a0_1) := (blk_cell BK550.out 1).trans rfl; have hcz88_2 : w87.cell? ⟨gb550, 2, none⟩ = some (.int .u64 a0_2) := (blk_cell BK550.out 2).trans rfl; have hcz88_3 : w87.cell? ⟨gb550, 3, none⟩ = some (.int .u64 a0_3) := (blk_cell BK550.out 3).trans rfl; have hcz88_4 : w87.cell? ⟨gb550, 4, none⟩ = some (.int .u64 a0_4) := (blk_cell BK550.out 4).trans rfl; have hfz88_0 := blk_frozen BK550.out 0; have hfz88_1 := blk_frozen BK550.out 1; have hfz88_2 := blk_frozen BK550.out 2; have hfz88_3 := blk_frozen BK550.out 3; have hfz88_4 := blk_frozen BK550.out 4) | (go_at_call 36; (with_reducible refine (turnstilelaw04_yes.calls kj63 a0_0 a0_1 a0_2 a0_3 a0_4 (IntKind.u64.wrap (t552 - 1)) a0_4 t559 _ A85.out).mono ?_); rintro e w89 ⟨rfl, hb⟩; have n0_ := Aside0.mk (blk_below (g := gb550) (o := .cells #[.int .u64 a0_0, .int .u64 a0_1, .int .u64 a0_2, .int .u64 a0_3, .int .u64 a0_4] 46 (0, 0)) (by (with_reducible repeat (first | refine blk_drewN ?_ _ | refine blk_drew ?_ | refine blk_alloc ?_ _)); exact BK550.out) hb); have n1_ := Aside0.mk (below_step (by repeat (first | (with_reducible first | exact HB.out | apply below_alloc | apply pw_below_drewN | apply below_drew1 | refine below_set ?_ GE550.out) | exact HB.out)) hb); clear BK550; clear HB; have BK550 := n0_; have HB := n1_; clear n0_ n1_; (try clear hb); (try clear hb2); (try clear hk); (try clear hi)))
                    go_ret
                    exact ⟨by first | rfl | (simp [errW_none, errW_some] <;> rfl) | (simp [*, errW_none, errW_some] <;> rfl), by repeat (first | (with_reducible first | exact HB.out | apply below_alloc | apply pw_below_drewN | apply below_drew1 | refine below_set ?_ GE550.out) | exact HB.out)⟩
              · rw [if_neg c76] at H
                have c76b0 : decide (a1 < t552) = false := decide_eq_false c76
                clear c76
                by_cases c90 : t552 = a0_3
                · rw [if_pos c90] at H
                  have c90b0 : (t552 == a0_3) = true := beq_iff_eq.mpr c90
                  have c90b1 : (t552 != a0_3) = false := bne_eq_false_iff_eq.mpr c90
                  clear c90
                  obtain rfl := Option.some.inj H
                  have hcz91_0 : wc.cell? ⟨gb550, 0, none⟩ = some (.int .u64 a0_0) := (blk_cell BK550.out 0).trans rfl
                  have hcz91_1 : wc.cell? ⟨gb550, 1, none⟩ = some (.int .u64 a0_1) := (blk_cell BK550.out 1).trans rfl
                  have hcz91_2 : wc.cell? ⟨gb550, 2, none⟩ = some (.int .u64 a0_2) := (blk_cell BK550.out 2).trans rfl
                  have hcz91_3 : wc.cell? ⟨gb550, 3, none⟩ = some (.int .u64 a0_3) := (blk_cell BK550.out 3).trans rfl
                  have hcz91_4 : wc.cell? ⟨gb550, 4, none⟩ = some (.int .u64 a0_4) := (blk_cell BK550.out 4).trans rfl
                  have hfz91_0 := blk_frozen BK550.out 0
                  have hfz91_1 := blk_frozen BK550.out 1
                  have hfz91_2 := blk_frozen BK550.out 2
                  have hfz91_3 := blk_frozen BK550.out 3
                  have hfz91_4 := blk_frozen BK550.out 4
                  go_wp2
                  go_ret
                  exact ⟨by first | rfl | (simp [errW_none, errW_some] <;> rfl) | (simp [*, errW_none, errW_some] <;> rfl), by repeat (first | (with_reducible first | exact HB.out | apply below_alloc | apply pw_below_drewN | apply below_drew1 | refine below_set ?_ GE550.out) | exact HB.out)⟩
                · rw [if_neg c90] at H
                  have c90b0 : (t552 == a0_3) = false := beq_eq_false_iff_ne.mpr c90
                  have c90b1 : (t552 != a0_3) = true := bne_iff_ne.mpr c90
                  replace H := Option.bind_eq_some_iff.mp H
                  obtain ⟨t560, A920, H⟩ := H
                  replace H : (some (!t560)) = some r := H
                  have A92 := Aside0.mk A920
                  clear A920
                  obtain rfl := Option.some.inj H
                  have hcz93_0 : wc.cell? ⟨gb550, 0, none⟩ = some (.int .u64 a0_0) := (blk_cell BK550.out 0).trans rfl
                  have hcz93_1 : wc.cell? ⟨gb550, 1, none⟩ = some (.int .u64 a0_1) := (blk_cell BK550.out 1).trans rfl
                  have hcz93_2 : wc.cell? ⟨gb550, 2, none⟩ = some (.int .u64 a0_2) := (blk_cell BK550.out 2).trans rfl
                  have hcz93_3 : wc.cell? ⟨gb550, 3, none⟩ = some (.int .u64 a0_3) := (blk_cell BK550.out 3).trans rfl
                  have hcz93_4 : wc.cell? ⟨gb550, 4, none⟩ = some (.int .u64 a0_4) := (blk_cell BK550.out 4).trans rfl
                  have hfz93_0 := blk_frozen BK550.out 0
                  have hfz93_1 := blk_frozen BK550.out 1
                  have hfz93_2 := blk_frozen BK550.out 2
                  have hfz93_3 := blk_frozen BK550.out 3
                  have hfz93_4 := blk_frozen BK550.out 4
                  go_wp2_with (first | (go_at_call 36; (with_reducible refine (turnstilelaw04_yes.calls kj63 a0_0 a0_1 a0_2 a0_3 a0_4 (IntKind.u64.wrap (t552 - 1)) a0_4 t560 _ A92.out).mono ?_); rintro e w94 ⟨rfl, hb⟩; have n0_ := Aside0.mk (blk_below (g := gb550) (o := .cells #[.int .u64 a0_0, .int .u64 a0_1, .int .u64 a0_2, .int .u64 a0_3, .int .u64 a0_4] 46 (0, 0)) (by (with_reducible repeat (first | refine blk_drewN ?_ _ | refine blk_drew ?_ | refine blk_alloc ?_ _)); exact BK550.out) hb); have n1_ := Aside0.mk (below_step (by repeat (first | (with_reducible first | exact HB.out | apply below_alloc | apply pw_below_drewN | apply below_drew1 | refine below_set ?_ GE550.out) | exact HB.out)) hb); clear BK550; clear HB; have BK550 := n0_; have HB := n1_; clear n0_ n1_; (try clear hb); (try clear hb2); (try clear hk); (try clear hi)))
                  go_ret
                  exact ⟨by first | rfl | (simp [errW_none, errW_some] <;> rfl) | (simp [*, errW_none, errW_some] <;> rfl), by repeat (first | (with_reducible first | exact HB.out | apply below_alloc | apply pw_below_drewN | apply below_drew1 | refine below_set ?_ GE550.out) | exact HB.out)⟩
            · rw [if_neg c75] at H
              have c75b0 : decide (a0_3 ≤ a1) = false := decide_eq_false c75
              clear c75
              by_cases c95 : t552 = a0_3
              · rw [if_pos c95] at H
                have c95b0 : (t552 == a0_3) = true := beq_iff_eq.mpr c95
                have c95b1 : (t552 != a0_3) = false := bne_eq_false_iff_eq.mpr c95
                clear c95
                obtain rfl := Option.some.inj H
                have hcz96_0 : wc.cell? ⟨gb550, 0, none⟩ = some (.int .u64 a0_0) := (blk_cell BK550.out 0).trans rfl
                have hcz96_1 : wc.cell? ⟨gb550, 1, none⟩ = some (.int .u64 a0_1) := (blk_cell BK550.out 1).trans rfl
                have hcz96_2 : wc.cell? ⟨gb550, 2, none⟩ = some (.int .u64 a0_2) := (blk_cell BK550.out 2).trans rfl
                have hcz96_3 : wc.cell? ⟨gb550, 3, none⟩ = some (.int .u64 a0_3) := (blk_cell BK550.out 3).trans rfl
                have hcz96_4 : wc.cell? ⟨gb550, 4, none⟩ = some (.int .u64 a0_4) := (blk_cell BK550.out 4).trans rfl
                have hfz96_0 := blk_frozen BK550.out 0
                have hfz96_1 := blk_frozen BK550.out 1
                have hfz96_2 := blk_frozen BK550.out 2
                have hfz96_3 := blk_frozen BK550.out 3
                have hfz96_4 := blk_frozen BK550.out 4
                go_wp2
                go_ret
                exact ⟨by first | rfl | (simp [errW_none, errW_some] <;> rfl) | (simp [*, errW_none, errW_some] <;> rfl), by repeat (first | (with_reducible first | exact HB.out | apply below_alloc | apply pw_below_drewN | apply below_drew1 | refine below_set ?_ GE550.out) | exact HB.out)⟩
              · rw [if_neg c95] at H
                have c95b0 : (t552 == a0_3) = false := beq_eq_false_iff_ne.mpr c95
                have c95b1 : (t552 != a0_3) = true := bne_iff_ne.mpr c95
                replace H := Option.bind_eq_some_iff.mp H
                obtain ⟨t561, A970, H⟩ := H
                replace H : (some (!t561)) = some r := H
                have A97 := Aside0.mk A970
                clear A970
                obtain rfl := Option.some.inj H
                have hcz98_0 : wc.cell? ⟨gb550, 0, none⟩ = some (.int .u64 a0_0) := (blk_cell BK550.out 0).trans rfl
                have hcz98_1 : wc.cell? ⟨gb550, 1, none⟩ = some (.int .u64 a0_1) := (blk_cell BK550.out 1).trans rfl
                have hcz98_2 : wc.cell? ⟨gb550, 2, none⟩ = some (.int .u64 a0_2) := (blk_cell BK550.out 2).trans rfl
                have hcz98_3 : wc.cell? ⟨gb550, 3, none⟩ = some (.int .u64 a0_3) := (blk_cell BK550.out 3).trans rfl
                have hcz98_4 : wc.cell? ⟨gb550, 4, none⟩ = some (.int .u64 a0_4) := (blk_cell BK550.out 4).trans rfl
                have hfz98_0 := blk_frozen BK550.out 0
                have hfz98_1 := blk_frozen BK550.out 1
                have hfz98_2 := blk_frozen BK550.out 2
                have hfz98_3 := blk_frozen BK550.out 3
                have hfz98_4 := blk_frozen BK550.out 4
                go_wp2_with (first | (go_at_call 36; (with_reducible refine (turnstilelaw04_yes.calls kj63 a0_0 a0_1 a0_2 a0_3 a0_4 (IntKind.u64.wrap (t552 - 1)) a0_4 t561 _ A97.out).mono ?_); rintro e w99 ⟨rfl, hb⟩; have n0_ := Aside0.mk (blk_below (g := gb550) (o := .cells #[.int .u64 a0_0, .int .u64 a0_1, .int .u64 a0_2, .int .u64 a0_3, .int .u64 a0_4] 46 (0, 0)) (by (with_reducible repeat (first | refine blk_drewN ?_ _ | refine blk_drew ?_ | refine blk_alloc ?_ _)); exact BK550.out) hb); have n1_ := Aside0.mk (below_step (by repeat (first | (with_reducible first | exact HB.out | apply below_alloc | apply pw_below_drewN | apply below_drew1 | refine below_set ?_ GE550.out) | exact HB.out)) hb); clear BK550; clear HB; have BK550 := n0_; have HB := n1_; clear n0_ n1_; (try clear hb); (try clear hb2); (try clear hk); (try clear hi)))
                go_ret
                exact ⟨by first | rfl | (simp [errW_none, errW_some] <;> rfl) | (simp [*, errW_none, errW_some] <;> rfl), by repeat (first | (with_reducible first | exact HB.out | apply below_alloc | apply pw_below_drewN | apply below_drew1 | refine below_set ?_ GE550.out) | exact HB.out)⟩
  · replace c4 := Bool.eq_false_iff.mpr c4
    subst c4
    have H1 : (some false) = some r := by rw [if_neg (show ¬ (false = true) by decide)] at H; exact H
    clear H
    have H := H1
    clear H1
    obtain rfl := Option.some.inj H
    go_enter Try.func10, Try.ntmps10
    go_wp2_with (first | ((with_reducible refine gate_dst (N := 2) rfl ?_); refine box_event ?hg (N := 2) ?hd (cs := #[.int .u64 a0_0, .int .u64 a0_1, .int .u64 a0_2, .int .u64 a0_3, .int .u64 a0_4]) (t := 46) ?hr ?_; (case hd => rfl); (case hg => rfl); (case hr => first | (go_simp; done) | (go_simp; rfl)); intro gb550 hg w100 hbox hb; have n0_ := Aside0.mk (below_step (by repeat (first | (with_reducible first | exact HB.out | apply below_alloc | apply pw_below_drewN | apply below_drew1) | exact HB.out)) hb); have n1_ := Aside0.mk (hbox); have n2_ := Aside0.mk ((by rw [hg]; exact (below_size (by repeat (first | (with_reducible first | exact HB.out | apply below_alloc | apply pw_below_drewN | apply below_drew1) | exact HB.out))) : w.heap.size ≤ gb550)); have n3_ := Aside0.mk ((by rw [hg]; exact (below_size (by repeat (first | (with_reducible first | exact HB.out | apply below_alloc | apply pw_below_drewN | apply below_drew1) | exact HB.out))) : w.heap.size ≤ gb550)); clear HB; have HB := n0_; have BK550 := n1_; have GW550 := n2_; have GE550 := n3_; clear n0_ n1_ n2_ n3_; clear hb hbox hg) | ((with_reducible refine gate_callee (f := 27) rfl ?_); refine goesL_ (some 6) rfl rfl Try.func27 (by kernel_rfl) rfl #[] rfl (by (try simp only [List.map_toArray, List.map_cons, List.map_nil]); first | done | rfl | (simp only [List.length_drop, List.length_take]; rfl)) ?_; (with_reducible refine (turnstilelaw04_lives.calls k  false _ A3.out).mono ?_); rintro e w101 ⟨rfl, hb⟩; refine ⟨_, rfl, ?_⟩; have n0_ := Aside0.mk (blk_below (g := gb550) (o := .cells #[.int .u64 a0_0, .int .u64 a0_1, .int .u64 a0_2, .int .u64 a0_3, .int .u64 a0_4] 46 (0, 0)) (by (with_reducible repeat (first | refine blk_drewN ?_ _ | refine blk_drew ?_ | refine blk_alloc ?_ _)); exact BK550.out) hb); have n1_ := Aside0.mk (below_step (by repeat (first | (with_reducible first | exact HB.out | apply below_alloc | apply pw_below_drewN | apply below_drew1 | refine below_set ?_ GE550.out) | exact HB.out)) hb); clear BK550; clear HB; have BK550 := n0_; have HB := n1_; clear n0_ n1_; (try clear hb); (try clear hb2); (try clear hk); (try clear hi)))
    go_ret
    exact ⟨by first | rfl | (simp [errW_none, errW_some] <;> rfl) | (simp [*, errW_none, errW_some] <;> rfl), by repeat (first | (with_reducible first | exact HB.out | apply below_alloc | apply pw_below_drewN | apply below_drew1 | refine below_set ?_ GE550.out) | exact HB.out)⟩


end Go.Proofs.Ythnpgilknoiaaaa.Q
