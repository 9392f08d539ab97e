/- Written by the session's own program hyb.py: what functions of the program compute; Lean checks it. -/
import Derived.Test.YthnpgilknoiaaaaQx0
import Derived.Test.YthnpgilknoiaaaaQx4
import Derived.Test.YthnpgilknoiaaaaQx5
import Derived.Test.YthnpgilknoiaaaaQx16
namespace Go.Proofs.Ythnpgilknoiaaaa.Q
open Go.RowKit Go.Proofs.YthnpgilknoiaaaaW.PrintWords Go.Proofs.YthnpgilknoiaaaaW.PrintLast Go.Proofs.YthnpgilknoiaaaaW.PrintMore
attribute [local go_sem] run_Add64 run_Sub64
attribute [local go_sem] max2_int min2_int max_two min_two max_three min_three max_four min_four   -- for this text's walks alone
set_option linter.unusedVariables false
set_option linter.unusedSimpArgs false

/-! ### gcra_Retry: function 30 -/
def gcra_Retry.j0 : Nat → Int → Int → Int → Int → Int → Bool → Option (Int)
  | 0, _, _, _, _, _, _ => none
  | k + 1, x0, x1, x2, x3, x4, x27 => if x27 = true then (some 18446744073709551615) else ((sat_Product.f (IntKind.u64.wrap (x4 - 1)) x0).bind fun bt428 => ((sat_Wide_Narrow.f bt428.1 bt428.2).bind fun bt430 => (if bt430.2 = true then (if bt430.1 > x1 then (some 18446744073709551615) else ((sat_Sub.f x2 (IntKind.u64.wrap (x1 - bt430.1))).bind fun t432 => (some (mx x3 t432)))) else (some 18446744073709551615))))
def gcra_Retry.f (k : Nat) (a0 : Int) (a1 : Int) (a2 : Int) (a3 : Int) (a4 : Int) : Option (Int) := if a4 = 0 then (gcra_Retry.j0 k a0 a1 a2 a3 a4 true) else (if a0 = 0 then (gcra_Retry.j0 k a0 a1 a2 a3 a4 true) else ((gcra_room.f a0 (mx a2 a3) a4).bind fun t427 => (gcra_Retry.j0 k a0 a1 a2 a3 a4 (!t427))))
theorem gcra_Retry.mono_l : ∀ k, (∀ y0 y1 y2 y3 y4 y5, LeO (gcra_Retry.j0 k y0 y1 y2 y3 y4 y5) (gcra_Retry.j0 (k + 1) y0 y1 y2 y3 y4 y5))
  | 0 => fun _ _ _ _ _ _ r h => by simp [gcra_Retry.j0] at h
  | k + 1 => by
    have ih0 := gcra_Retry.mono_l k
    · intro y0 y1 y2 y3 y4 y5
      unfold gcra_Retry.j0
      repeat' first
      | (with_reducible exact ih0 _ _ _ _ _ _)
      | (with_reducible exact LeO.refl _)
      | (with_reducible exact LeO.none _)
      | (with_reducible refine LeO.ite ?_ ?_)
      | (with_reducible refine LeO.bind ?_ (fun _ => ?_))
      | exact ih0 _ _ _ _ _ _
      | exact LeO.none _
      | refine LeO.ite ?_ ?_
      | refine LeO.bind ?_ (fun _ => ?_)
theorem gcra_Retry.mono : ∀ a0 a1 a2 a3 a4 k, LeO (gcra_Retry.f k a0 a1 a2 a3 a4) (gcra_Retry.f (k + 1) a0 a1 a2 a3 a4) := by
  intro a0 a1 a2 a3 a4 k
  have ih0 := gcra_Retry.mono_l k
  unfold gcra_Retry.f
  repeat' first
      | (with_reducible exact ih0 _ _ _ _ _ _)
      | (with_reducible exact LeO.refl _)
      | (with_reducible exact LeO.none _)
      | (with_reducible refine LeO.ite ?_ ?_)
      | (with_reducible refine LeO.bind ?_ (fun _ => ?_))
      | exact ih0 _ _ _ _ _ _
      | exact LeO.none _
      | refine LeO.ite ?_ ?_
      | refine LeO.bind ?_ (fun _ => ?_)
set_option maxHeartbeats 8000000 in
set_option maxRecDepth 100000 in
theorem gcra_Retry.calls (k : Nat) (a0 : Int) (a1 : Int) (a2 : Int) (a3 : Int) (a4 : Int) (r : Int) (w : World) (h : gcra_Retry.f k a0 a1 a2 a3 a4 = some r) :
    Calls Try.prog 30 #[.int .u64 a0, .int .u64 a1, .int .u64 a2, .int .u64 a3, .int .u64 a4] w fun e w' => e = .returned (.int .u64 r) ∧ Below w.heap.size w w' := by
  have HB := Aside0.mk (Below.refl w.heap.size w)
  have H : (if a4 = 0 then (gcra_Retry.j0 k a0 a1 a2 a3 a4 true) else (if a0 = 0 then (gcra_Retry.j0 k a0 a1 a2 a3 a4 true) else ((gcra_room.f a0 (mx a2 a3) a4).bind fun t427 => (gcra_Retry.j0 k a0 a1 a2 a3 a4 (!t427))))) = some r := h
  clear h
  have HC6 := Aside0.mk H
  clear H
  go_enter Try.func30, Try.ntmps30
  go_upto_region 1 with (fail)
  go_cut [27] (fun v27 wc => ∃ (kq : Nat) (x27_5 : Bool), v27 = .bool x27_5 ∧ Aside0 (gcra_Retry.j0 kq a0 a1 a2 a3 a4 x27_5 = some r) ∧ Aside0 (kq ≤ k) ∧ Aside0 (Below w.heap.size w wc))
  case first =>
    have H := HC6.out
    clear HC6
    by_cases c7 : a4 = 0
    · rw [if_pos c7] at H
      have c7b0 : (a4 == 0) = true := beq_iff_eq.mpr c7
      have c7b1 : (a4 != 0) = false := bne_eq_false_iff_eq.mpr c7
      clear c7
      (first | rw [c7b0] | (simp only [i64_w, i32_w]; rw [c7b0]) | skip)
      have H' := Aside0.mk H
      clear H
      go_wp2
      go_meet
      case rel => exact ⟨_, (true), (by first | rfl | (simp; done) | (simp [*]; done)), H', ⟨by first | omega | exact Nat.le_refl _⟩, ⟨by repeat (first | (with_reducible first | exact HB.out | apply below_alloc | apply pw_below_drewN | apply below_drew1) | exact HB.out)⟩⟩
    · rw [if_neg c7] at H
      have c7b0 : (a4 == 0) = false := beq_eq_false_iff_ne.mpr c7
      have c7b1 : (a4 != 0) = true := bne_iff_ne.mpr c7
      (first | rw [c7b0] | (simp only [i64_w, i32_w]; rw [c7b0]) | skip)
      by_cases c8 : a0 = 0
      · rw [if_pos c8] at H
        have c8b0 : (a0 == 0) = true := beq_iff_eq.mpr c8
        have c8b1 : (a0 != 0) = false := bne_eq_false_iff_eq.mpr c8
        clear c8
        have H' := Aside0.mk H
        clear H
        go_wp2
        go_meet
        case rel => exact ⟨_, (true), (by first | rfl | (simp; done) | (simp [*]; done)), H', ⟨by first | omega | exact Nat.le_refl _⟩, ⟨by repeat (first | (with_reducible first | exact HB.out | apply below_alloc | apply pw_below_drewN | apply below_drew1) | exact HB.out)⟩⟩
      · rw [if_neg c8] at H
        have c8b0 : (a0 == 0) = false := beq_eq_false_iff_ne.mpr c8
        have c8b1 : (a0 != 0) = true := bne_iff_ne.mpr c8
        obtain ⟨ji9, hji9⟩ : ∃ j_ : Int, (mx a2 a3) = j_ := ⟨_, rfl⟩
        replace H : ((gcra_room.f a0 (ji9) a4).bind fun t427 => (gcra_Retry.j0 k a0 a1 a2 a3 a4 (!t427))) = some r := by first | (rw [hji9] at H; exact H) | (simp only [hji9] at H ⊢; exact H)
        have hji9_ : (if a2 < a3 then a3 else a2) = ji9 := hji9
        replace H := Option.bind_eq_some_iff.mp H
        obtain ⟨t427, A100, H⟩ := H
        replace H : (gcra_Retry.j0 k a0 a1 a2 a3 a4 (!t427)) = some r := H
        have A10 := Aside0.mk A100
        clear A100
        have H' := Aside0.mk H
        clear H
        go_wp2_with (first | (go_at_call 55; (with_reducible refine (gcra_room.calls a0 ji9 a4 t427 _ A10.out).mono ?_); rintro e w11 ⟨rfl, hb⟩; have n0_ := Aside0.mk (below_step (by repeat (first | (with_reducible first | exact HB.out | apply below_alloc | apply pw_below_drewN | apply below_drew1) | exact HB.out)) hb); clear HB; have HB := n0_; clear n0_; (try clear hb); (try clear hb2); (try clear hk); (try clear hi)))
        go_meet
        case rel => exact ⟨_, (!t427), (by first | rfl | (simp; done) | (simp [*]; done)), H', ⟨by first | omega | exact Nat.le_refl _⟩, ⟨by repeat (first | (with_reducible first | exact HB.out | apply below_alloc | apply pw_below_drewN | apply below_drew1) | exact HB.out)⟩⟩
  case rest =>
    clear HC6
    try clear p2
    try clear c3
    try clear c7
    try clear c7b0
    try clear c7b1
    try clear c8
    try clear c8b0
    try clear c8b1
    obtain ⟨kq, x27_5, rfl, HA, HJ5, HB⟩ := hcut
    cases kq with
    | zero => exact absurd HA.out (by simp [gcra_Retry.j0])
    | succ kj5 =>
      have H := HA.out
      clear HA
      simp only [gcra_Retry.j0] at H
      by_cases c12 : x27_5 = true
      · subst c12
        have H1 : (some 18446744073709551615) = some r := by rw [if_pos rfl] at H; exact H
        clear H
        have H := H1
        clear H1
        obtain rfl := Option.some.inj H
        go_wp2
        go_ret
        exact ⟨by first | rfl | (simp [errW_none, errW_some] <;> rfl) | (simp [*, errW_none, errW_some] <;> rfl), by repeat (first | (with_reducible first | exact HB.out | apply below_alloc | apply pw_below_drewN | apply below_drew1) | exact HB.out)⟩
      · replace c12 := Bool.eq_false_iff.mpr c12
        subst c12
        have H1 : ((sat_Product.f (IntKind.u64.wrap (a4 - 1)) a0).bind fun bt428 => ((sat_Wide_Narrow.f bt428.1 bt428.2).bind fun bt430 => (if bt430.2 = true then (if bt430.1 > a1 then (some 18446744073709551615) else ((sat_Sub.f a2 (IntKind.u64.wrap (a1 - bt430.1))).bind fun t432 => (some (mx a3 t432)))) else (some 18446744073709551615)))) = some r := by rw [if_neg (show ¬ (false = true) by decide)] at H; exact H
        clear H
        have H := H1
        clear H1
        replace H := Option.bind_eq_some_iff.mp H
        obtain ⟨⟨t428, t429⟩, A130, H⟩ := H
        replace H : ((sat_Wide_Narrow.f t428 t429).bind fun bt430 => (if bt430.2 = true then (if bt430.1 > a1 then (some 18446744073709551615) else ((sat_Sub.f a2 (IntKind.u64.wrap (a1 - bt430.1))).bind fun t432 => (some (mx a3 t432)))) else (some 18446744073709551615))) = some r := H
        have A13 := Aside0.mk A130
        clear A130
        replace H := Option.bind_eq_some_iff.mp H
        obtain ⟨⟨t430, t431⟩, A140, H⟩ := H
        replace H : (if t431 = true then (if t430 > a1 then (some 18446744073709551615) else ((sat_Sub.f a2 (IntKind.u64.wrap (a1 - t430))).bind fun t432 => (some (mx a3 t432)))) else (some 18446744073709551615)) = some r := H
        have A14 := Aside0.mk A140
        clear A140
        by_cases c15 : t431 = true
        · subst c15
          have H1 : (if t430 > a1 then (some 18446744073709551615) else ((sat_Sub.f a2 (IntKind.u64.wrap (a1 - t430))).bind fun t432 => (some (mx a3 t432)))) = some r := by rw [if_pos rfl] at H; exact H
          clear H
          have H := H1
          clear H1
          by_cases c16 : t430 > a1
          · rw [if_pos c16] at H
            have c16b0 : decide (a1 < t430) = true := decide_eq_true c16
            clear c16
            obtain rfl := Option.some.inj H
            go_wp2_with (first | ((with_reducible refine gate_callee (f := 17) rfl ?_); refine goesL_ (some 32) rfl rfl Try.func17 (by kernel_rfl) rfl #[.int .u64 (IntKind.u64.wrap (a4 - 1)), .int .u64 a0] rfl (by (try simp only [List.map_toArray, List.map_cons, List.map_nil]); first | done | rfl | (simp only [List.length_drop, List.length_take]; rfl)) ?_; (with_reducible refine (sat_Product.calls (IntKind.u64.wrap (a4 - 1)) a0 t428 t429 _ A13.out).mono ?_); rintro e w17 ⟨rfl, hb⟩; refine ⟨_, rfl, ?_⟩; have n0_ := Aside0.mk (below_step (by repeat (first | (with_reducible first | exact HB.out | apply below_alloc | apply pw_below_drewN | apply below_drew1) | exact HB.out)) hb); clear HB; have HB := n0_; clear n0_; (try clear hb); (try clear hb2); (try clear hk); (try clear hi)) | ((with_reducible refine gate_callee (f := 18) rfl ?_); refine goesL_ (some 33) rfl rfl Try.func18 (by kernel_rfl) rfl #[.agg #[.int .u64 t428, .int .u64 t429]] rfl (by (try simp only [List.map_toArray, List.map_cons, List.map_nil]); first | done | rfl | (simp only [List.length_drop, List.length_take]; rfl)) ?_; (with_reducible refine (sat_Wide_Narrow.calls t428 t429 t430 true _ A14.out).mono ?_); rintro e w18 ⟨rfl, hb⟩; refine ⟨_, rfl, ?_⟩; have n0_ := Aside0.mk (below_step (by repeat (first | (with_reducible first | exact HB.out | apply below_alloc | apply pw_below_drewN | apply below_drew1) | exact HB.out)) hb); clear HB; have HB := n0_; clear n0_; (try clear hb); (try clear hb2); (try clear hk); (try clear hi)))
            go_ret
            exact ⟨by first | rfl | (simp [errW_none, errW_some] <;> rfl) | (simp [*, errW_none, errW_some] <;> rfl), by repeat (first | (with_reducible first | exact HB.out | apply below_alloc | apply pw_below_drewN | apply below_drew1) | exact HB.out)⟩
          · rw [if_neg c16] at H
            have c16b0 : decide (a1 < t430) = false := decide_eq_false c16
            clear c16
            replace H := Option.bind_eq_some_iff.mp H
            obtain ⟨t432, A190, H⟩ := H
            replace H : (some (mx a3 t432)) = some r := H
            have A19 := Aside0.mk A190
            clear A190
            obtain ⟨ji20, hji20⟩ : ∃ j_ : Int, (mx a3 t432) = j_ := ⟨_, rfl⟩
            replace H : (some ji20) = some r := by first | (rw [hji20] at H; exact H) | (simp only [hji20] at H ⊢; exact H)
            (try rw [hji20] at A13)
            (try rw [hji20] at A14)
            (try rw [hji20] at A19)
            have hji20_ : (if a3 < t432 then t432 else a3) = ji20 := hji20
            obtain rfl := Option.some.inj H
            go_wp2_with (first | ((with_reducible refine gate_callee (f := 17) rfl ?_); refine goesL_ (some 32) rfl rfl Try.func17 (by kernel_rfl) rfl #[.int .u64 (IntKind.u64.wrap (a4 - 1)), .int .u64 a0] rfl (by (try simp only [List.map_toArray, List.map_cons, List.map_nil]); first | done | rfl | (simp only [List.length_drop, List.length_take]; rfl)) ?_; (with_reducible refine (sat_Product.calls (IntKind.u64.wrap (a4 - 1)) a0 t428 t429 _ A13.out).mono ?_); rintro e w21 ⟨rfl, hb⟩; refine ⟨_, rfl, ?_⟩; have n0_ := Aside0.mk (below_step (by repeat (first | (with_reducible first | exact HB.out | apply below_alloc | apply pw_below_drewN | apply below_drew1) | exact HB.out)) hb); clear HB; have HB := n0_; clear n0_; (try clear hb); (try clear hb2); (try clear hk); (try clear hi)) | ((with_reducible refine gate_callee (f := 18) rfl ?_); refine goesL_ (some 33) rfl rfl Try.func18 (by kernel_rfl) rfl #[.agg #[.int .u64 t428, .int .u64 t429]] rfl (by (try simp only [List.map_toArray, List.map_cons, List.map_nil]); first | done | rfl | (simp only [List.length_drop, List.length_take]; rfl)) ?_; (with_reducible refine (sat_Wide_Narrow.calls t428 t429 t430 true _ A14.out).mono ?_); rintro e w22 ⟨rfl, hb⟩; refine ⟨_, rfl, ?_⟩; have n0_ := Aside0.mk (below_step (by repeat (first | (with_reducible first | exact HB.out | apply below_alloc | apply pw_below_drewN | apply below_drew1) | exact HB.out)) hb); clear HB; have HB := n0_; clear n0_; (try clear hb); (try clear hb2); (try clear hk); (try clear hi)) | ((with_reducible refine gate_callee (f := 26) rfl ?_); refine goesL_ (some 48) rfl rfl Try.func26 (by kernel_rfl) rfl #[.int .u64 a2, .int .u64 (IntKind.u64.wrap (a1 - t430))] rfl (by (try simp only [List.map_toArray, List.map_cons, List.map_nil]); first | done | rfl | (simp only [List.length_drop, List.length_take]; rfl)) ?_; (with_reducible refine (sat_Sub.calls a2 (IntKind.u64.wrap (a1 - t430)) t432 _ A19.out).mono ?_); rintro e w' ⟨rfl, ⟨nd, rfl⟩⟩; refine ⟨_, rfl, ?_⟩))
            go_ret
            exact ⟨by first | rfl | (simp [errW_none, errW_some] <;> rfl) | (simp only [← hji20]; first | rfl | (simp [errW_none, errW_some] <;> rfl)) | (simp [*, errW_none, errW_some] <;> rfl), by repeat (first | (with_reducible first | exact HB.out | apply below_alloc | apply pw_below_drewN | apply below_drew1) | exact HB.out)⟩
        · replace c15 := Bool.eq_false_iff.mpr c15
          subst c15
          have H1 : (some 18446744073709551615) = some r := by rw [if_neg (show ¬ (false = true) by decide)] at H; exact H
          clear H
          have H := H1
          clear H1
          obtain rfl := Option.some.inj H
          go_wp2_with (first | ((with_reducible refine gate_callee (f := 17) rfl ?_); refine goesL_ (some 32) rfl rfl Try.func17 (by kernel_rfl) rfl #[.int .u64 (IntKind.u64.wrap (a4 - 1)), .int .u64 a0] rfl (by (try simp only [List.map_toArray, List.map_cons, List.map_nil]); first | done | rfl | (simp only [List.length_drop, List.length_take]; rfl)) ?_; (with_reducible refine (sat_Product.calls (IntKind.u64.wrap (a4 - 1)) a0 t428 t429 _ A13.out).mono ?_); rintro e w23 ⟨rfl, hb⟩; refine ⟨_, rfl, ?_⟩; have n0_ := Aside0.mk (below_step (by repeat (first | (with_reducible first | exact HB.out | apply below_alloc | apply pw_below_drewN | apply below_drew1) | exact HB.out)) hb); clear HB; have HB := n0_; clear n0_; (try clear hb); (try clear hb2); (try clear hk); (try clear hi)) | ((with_reducible refine gate_callee (f := 18) rfl ?_); refine goesL_ (some 33) rfl rfl Try.func18 (by kernel_rfl) rfl #[.agg #[.int .u64 t428, .int .u64 t429]] rfl (by (try simp only [List.map_toArray, List.map_cons, List.map_nil]); first | done | rfl | (simp only [List.length_drop, List.length_take]; rfl)) ?_; (with_reducible refine (sat_Wide_Narrow.calls t428 t429 t430 false _ A14.out).mono ?_); rintro e w24 ⟨rfl, hb⟩; refine ⟨_, rfl, ?_⟩; have n0_ := Aside0.mk (below_step (by repeat (first | (with_reducible first | exact HB.out | apply below_alloc | apply pw_below_drewN | apply below_drew1) | exact HB.out)) hb); clear HB; have HB := n0_; clear n0_; (try clear hb); (try clear hb2); (try clear hk); (try clear hi)))
          go_ret
          exact ⟨by first | rfl | (simp [errW_none, errW_some] <;> rfl) | (simp [*, errW_none, errW_some] <;> rfl), by repeat (first | (with_reducible first | exact HB.out | apply below_alloc | apply pw_below_drewN | apply below_drew1) | exact HB.out)⟩

end Go.Proofs.Ythnpgilknoiaaaa.Q
