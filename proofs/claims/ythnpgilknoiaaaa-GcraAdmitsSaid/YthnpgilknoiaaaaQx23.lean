/- Written by the session's own program hyb.py: what functions of the program compute; Lean checks it. -/
import Derived.Test.YthnpgilknoiaaaaQx0
import Derived.Test.YthnpgilknoiaaaaQx21
namespace Go.Proofs.Ythnpgilknoiaaaa.Q
open Go.RowKit Go.Proofs.YthnpgilknoiaaaaW.PrintWords Go.Proofs.YthnpgilknoiaaaaW.PrintLast Go.Proofs.YthnpgilknoiaaaaW.PrintMore
attribute [local go_sem] run_Add64 run_Sub64
attribute [local go_sem] max2_int min2_int max_two min_two max_three min_three max_four min_four   -- for this text's walks alone
set_option linter.unusedVariables false
set_option linter.unusedSimpArgs false

/-! ### turnstileref04_Retry: function 31 -/
mutual
def turnstileref04_Retry.j0 : Nat → Int → Int → Int → Int → Int → Bool → Option (Int)
  | 0, _, _, _, _, _, _ => none
  | k + 1, x0, x1, x2, x3, x4, x32 => if x32 = true then (some 18446744073709551615) else (turnstileref04_Retry.l0 k x0 x1 x2 x4 x3 x2)
def turnstileref04_Retry.l0 : Nat → Int → Int → Int → Int → Int → Int → Option (Int)
  | 0, _, _, _, _, _, _ => none
  | k + 1, x0, x1, x2, x4, x11, x12 => if (IntKind.u64.wrap (x12 - x11)) > 1 then ((turnstileref04_fits.f k x0 x1 x2 (IntKind.u64.wrap (x11 + (IntKind.u64.wrap (Int.tdiv (IntKind.u64.wrap (x12 - x11)) 2)))) x4).bind fun t533 => (if t533 = true then (turnstileref04_Retry.l0 k x0 x1 x2 x4 x11 (IntKind.u64.wrap (x11 + (IntKind.u64.wrap (Int.tdiv (IntKind.u64.wrap (x12 - x11)) 2))))) else (turnstileref04_Retry.l0 k x0 x1 x2 x4 (IntKind.u64.wrap (x11 + (IntKind.u64.wrap (Int.tdiv (IntKind.u64.wrap (x12 - x11)) 2)))) x12))) else (some x12)
end
def turnstileref04_Retry.f (k : Nat) (a0 : Int) (a1 : Int) (a2 : Int) (a3 : Int) (a4 : Int) : Option (Int) := (turnstileref04_fits.f k a0 a1 a2 a3 a4).bind fun t531 => (if t531 = true then (some a3) else (if a3 ≥ a2 then (turnstileref04_Retry.j0 k a0 a1 a2 a3 a4 true) else ((turnstileref04_fits.f k a0 a1 a2 a2 a4).bind fun t532 => (turnstileref04_Retry.j0 k a0 a1 a2 a3 a4 (!t532)))))
theorem turnstileref04_Retry.mono_l : ∀ k, (∀ y0 y1 y2 y3 y4 y5, LeO (turnstileref04_Retry.j0 k y0 y1 y2 y3 y4 y5) (turnstileref04_Retry.j0 (k + 1) y0 y1 y2 y3 y4 y5)) ∧ (∀ y0 y1 y2 y3 y4 y5, LeO (turnstileref04_Retry.l0 k y0 y1 y2 y3 y4 y5) (turnstileref04_Retry.l0 (k + 1) y0 y1 y2 y3 y4 y5))
  | 0 => ⟨fun _ _ _ _ _ _ r h => by simp [turnstileref04_Retry.j0] at h, fun _ _ _ _ _ _ r h => by simp [turnstileref04_Retry.l0] at h⟩
  | k + 1 => by
    obtain ⟨ih0, ih1⟩ := turnstileref04_Retry.mono_l k
    refine ⟨?_, ?_⟩
    · intro y0 y1 y2 y3 y4 y5
      unfold turnstileref04_Retry.j0
      repeat' first
      | (with_reducible exact ih0 _ _ _ _ _ _)
      | (with_reducible exact ih1 _ _ _ _ _ _)
      | (with_reducible exact turnstileref04_fits.mono _ _ _ _ _ _)
      | (with_reducible exact LeO.refl _)
      | (with_reducible exact LeO.none _)
      | (with_reducible refine LeO.ite ?_ ?_)
      | (with_reducible refine LeO.bind ?_ (fun _ => ?_))
      | exact ih0 _ _ _ _ _ _
      | exact ih1 _ _ _ _ _ _
      | exact turnstileref04_fits.mono _ _ _ _ _ _
      | exact LeO.none _
      | refine LeO.ite ?_ ?_
      | refine LeO.bind ?_ (fun _ => ?_)
    · intro y0 y1 y2 y3 y4 y5
      unfold turnstileref04_Retry.l0
      repeat' first
      | (with_reducible exact ih0 _ _ _ _ _ _)
      | (with_reducible exact ih1 _ _ _ _ _ _)
      | (with_reducible exact turnstileref04_fits.mono _ _ _ _ _ _)
      | (with_reducible exact LeO.refl _)
      | (with_reducible exact LeO.none _)
      | (with_reducible refine LeO.ite ?_ ?_)
      | (with_reducible refine LeO.bind ?_ (fun _ => ?_))
      | exact ih0 _ _ _ _ _ _
      | exact ih1 _ _ _ _ _ _
      | exact turnstileref04_fits.mono _ _ _ _ _ _
      | exact LeO.none _
      | refine LeO.ite ?_ ?_
      | refine LeO.bind ?_ (fun _ => ?_)
theorem turnstileref04_Retry.mono : ∀ a0 a1 a2 a3 a4 k, LeO (turnstileref04_Retry.f k a0 a1 a2 a3 a4) (turnstileref04_Retry.f (k + 1) a0 a1 a2 a3 a4) := by
  intro a0 a1 a2 a3 a4 k
  obtain ⟨ih0, ih1⟩ := turnstileref04_Retry.mono_l k
  unfold turnstileref04_Retry.f
  repeat' first
      | (with_reducible exact ih0 _ _ _ _ _ _)
      | (with_reducible exact ih1 _ _ _ _ _ _)
      | (with_reducible exact turnstileref04_fits.mono _ _ _ _ _ _)
      | (with_reducible exact LeO.refl _)
      | (with_reducible exact LeO.none _)
      | (with_reducible refine LeO.ite ?_ ?_)
      | (with_reducible refine LeO.bind ?_ (fun _ => ?_))
      | exact ih0 _ _ _ _ _ _
      | exact ih1 _ _ _ _ _ _
      | exact turnstileref04_fits.mono _ _ _ _ _ _
      | exact LeO.none _
      | refine LeO.ite ?_ ?_
      | refine LeO.bind ?_ (fun _ => ?_)
set_option maxHeartbeats 8000000 in
set_option maxRecDepth 100000 in
theorem turnstileref04_Retry.calls (k : Nat) (a0 : Int) (a1 : Int) (a2 : Int) (a3 : Int) (a4 : Int) (r : Int) (w : World) (h : turnstileref04_Retry.f k a0 a1 a2 a3 a4 = some r) :
    Calls Try.prog 31 #[.int .u64 a0, .int .u64 a1, .int .u64 a2, .int .u64 a3, .int .u64 a4] w fun e w' => e = .returned (.int .u64 r) ∧ Below w.heap.size w w' := by
  have HB := Aside0.mk (Below.refl w.heap.size w)
  have H : ((turnstileref04_fits.f k a0 a1 a2 a3 a4).bind fun t531 => (if t531 = true then (some a3) else (if a3 ≥ a2 then (turnstileref04_Retry.j0 k a0 a1 a2 a3 a4 true) else ((turnstileref04_fits.f k a0 a1 a2 a2 a4).bind fun t532 => (turnstileref04_Retry.j0 k a0 a1 a2 a3 a4 (!t532)))))) = some r := h
  clear h
  replace H := Option.bind_eq_some_iff.mp H
  obtain ⟨t531, A60, H⟩ := H
  replace H : (if t531 = true then (some a3) else (if a3 ≥ a2 then (turnstileref04_Retry.j0 k a0 a1 a2 a3 a4 true) else ((turnstileref04_fits.f k a0 a1 a2 a2 a4).bind fun t532 => (turnstileref04_Retry.j0 k a0 a1 a2 a3 a4 (!t532))))) = some r := H
  have A6 := Aside0.mk A60
  clear A60
  by_cases c7 : t531 = true
  · subst c7
    have H1 : (some a3) = some r := by rw [if_pos rfl] at H; exact H
    clear H
    have H := H1
    clear H1
    obtain rfl := Option.some.inj H
    go_enter Try.func31, Try.ntmps31
    go_wp2_with (first | ((with_reducible refine gate_callee (f := 56) rfl ?_); refine goesL_ (some 19) rfl rfl Try.func56 (by kernel_rfl) rfl #[.int .u64 a0, .int .u64 a1, .int .u64 a2, .int .u64 a3, .int .u64 a4] rfl (by (try simp only [List.map_toArray, List.map_cons, List.map_nil]); first | done | rfl | (simp only [List.length_drop, List.length_take]; rfl)) ?_; (with_reducible refine (turnstileref04_fits.calls k a0 a1 a2 a3 a4 true _ A6.out).mono ?_); rintro e w8 ⟨rfl, hb⟩; refine ⟨_, rfl, ?_⟩; have n0_ := Aside0.mk (below_step (by repeat (first | (with_reducible first | exact HB.out | apply below_alloc | apply pw_below_drewN | apply below_drew1) | exact HB.out)) hb); clear HB; have HB := n0_; clear n0_; (try clear hb); (try clear hb2); (try clear hk); (try clear hi)))
    go_ret
    exact ⟨by first | rfl | (simp [errW_none, errW_some] <;> rfl) | (simp [*, errW_none, errW_some] <;> rfl), by repeat (first | (with_reducible first | exact HB.out | apply below_alloc | apply pw_below_drewN | apply below_drew1) | exact HB.out)⟩
  · replace c7 := Bool.eq_false_iff.mpr c7
    subst c7
    have H1 : (if a3 ≥ a2 then (turnstileref04_Retry.j0 k a0 a1 a2 a3 a4 true) else ((turnstileref04_fits.f k a0 a1 a2 a2 a4).bind fun t532 => (turnstileref04_Retry.j0 k a0 a1 a2 a3 a4 (!t532)))) = some r := by rw [if_neg (show ¬ (false = true) by decide)] at H; exact H
    clear H
    have H := H1
    clear H1
    have HC9 := Aside0.mk H
    clear H
    go_enter Try.func31, Try.ntmps31
    go_upto_region 3 with (first | ((with_reducible refine gate_callee (f := 56) rfl ?_); refine goesL_ (some 19) rfl rfl Try.func56 (by kernel_rfl) rfl #[.int .u64 a0, .int .u64 a1, .int .u64 a2, .int .u64 a3, .int .u64 a4] rfl (by (try simp only [List.map_toArray, List.map_cons, List.map_nil]); first | done | rfl | (simp only [List.length_drop, List.length_take]; rfl)) ?_; (with_reducible refine (turnstileref04_fits.calls k a0 a1 a2 a3 a4 false _ A6.out).mono ?_); rintro e w10 ⟨rfl, hb⟩; refine ⟨_, rfl, ?_⟩; have n0_ := Aside0.mk (below_step (by repeat (first | (with_reducible first | exact HB.out | apply below_alloc | apply pw_below_drewN | apply below_drew1) | exact HB.out)) hb); clear HB; have HB := n0_; clear n0_; (try clear hb); (try clear hb2); (try clear hk); (try clear hi)))
    (try simp only [Act.put, List.setIfInBounds_toArray, List.set_cons_zero, List.set_cons_succ])
    go_cut [32] (fun v32 wc => ∃ (kq : Nat) (x32_8 : Bool), v32 = .bool x32_8 ∧ Aside0 (turnstileref04_Retry.j0 kq a0 a1 a2 a3 a4 x32_8 = some r) ∧ Aside0 (kq ≤ k) ∧ Aside0 (Below w.heap.size w wc))
    case first =>
      have H := HC9.out
      clear HC9
      by_cases c11 : a3 ≥ a2
      · rw [if_pos c11] at H
        have c11b0 : decide (a2 ≤ a3) = true := decide_eq_true c11
        clear c11
        (first | rw [c11b0] | (simp only [i64_w, i32_w]; rw [c11b0]) | skip)
        have H' := Aside0.mk H
        clear H
        go_wp2
        go_meet
        case rel => exact ⟨_, (true), (by first | rfl | (simp; done) | (simp [*]; done)), H', ⟨by first | omega | exact Nat.le_refl _⟩, ⟨by repeat (first | (with_reducible first | exact HB.out | apply below_alloc | apply pw_below_drewN | apply below_drew1) | exact HB.out)⟩⟩
      · rw [if_neg c11] at H
        have c11b0 : decide (a2 ≤ a3) = false := decide_eq_false c11
        clear c11
        (first | rw [c11b0] | (simp only [i64_w, i32_w]; rw [c11b0]) | skip)
        replace H := Option.bind_eq_some_iff.mp H
        obtain ⟨t532, A120, H⟩ := H
        replace H : (turnstileref04_Retry.j0 k a0 a1 a2 a3 a4 (!t532)) = some r := H
        have A12 := Aside0.mk A120
        clear A120
        have H' := Aside0.mk H
        clear H
        go_wp2_with (first | (go_at_call 56; (with_reducible refine (turnstileref04_fits.calls k a0 a1 a2 a2 a4 t532 _ A12.out).mono ?_); rintro e w13 ⟨rfl, hb⟩; have n0_ := Aside0.mk (below_step (by repeat (first | (with_reducible first | exact HB.out | apply below_alloc | apply pw_below_drewN | apply below_drew1) | exact HB.out)) hb); clear HB; have HB := n0_; clear n0_; (try clear hb); (try clear hb2); (try clear hk); (try clear hi)))
        go_meet
        case rel => exact ⟨_, (!t532), (by first | rfl | (simp; done) | (simp [*]; done)), H', ⟨by first | omega | exact Nat.le_refl _⟩, ⟨by repeat (first | (with_reducible first | exact HB.out | apply below_alloc | apply pw_below_drewN | apply below_drew1) | exact HB.out)⟩⟩
    case rest =>
      clear HC9
      try clear c1
      try clear p2
      try clear c3
      try clear c5
      try clear c7
      try clear c11
      try clear c11b0
      obtain ⟨kq, x32_8, rfl, HA, HJ8, HB⟩ := hcut
      cases kq with
      | zero => exact absurd HA.out (by simp [turnstileref04_Retry.j0])
      | succ kj8 =>
        have H := HA.out
        clear HA
        simp only [turnstileref04_Retry.j0] at H
        by_cases c14 : x32_8 = true
        · subst c14
          have H1 : (some 18446744073709551615) = some r := by rw [if_pos rfl] at H; exact H
          clear H
          have H := H1
          clear H1
          obtain rfl := Option.some.inj H
          go_wp2
          go_ret
          exact ⟨by first | rfl | (simp [errW_none, errW_some] <;> rfl) | (simp [*, errW_none, errW_some] <;> rfl), by repeat (first | (with_reducible first | exact HB.out | apply below_alloc | apply pw_below_drewN | apply below_drew1) | exact HB.out)⟩
        · replace c14 := Bool.eq_false_iff.mpr c14
          subst c14
          have H1 : (turnstileref04_Retry.l0 kj8 a0 a1 a2 a4 a3 a2) = some r := by rw [if_neg (show ¬ (false = true) by decide)] at H; exact H
          clear H
          have H := H1
          clear H1
          have H' := Aside0.mk H
          clear H
          go_wp2
          go_loopg [11, 12] kj8 (fun kq v11 v12 w' => ∃ (x11_2 : Int) (x12_2 : Int), v11 = .int .u64 x11_2 ∧ v12 = .int .u64 x12_2 ∧ Aside0 (turnstileref04_Retry.l0 kq a0 a1 a2 a4 x11_2 x12_2 = some r) ∧ Aside0 (kq ≤ kj8) ∧ Aside0 (Below w.heap.size w w'))
          case atStart => exact ⟨(a3), (a2), (by first | rfl | (simp; done) | (simp [*]; done)), (by first | rfl | (simp; done) | (simp [*]; done)), H', ⟨Nat.le_refl _⟩, ⟨by repeat (first | (with_reducible first | exact HB.out | apply below_alloc | apply pw_below_drewN | apply below_drew1) | exact HB.out)⟩⟩
          case round =>
            clear H'
            try clear c1
            try clear p2
            try clear c3
            try clear c5
            try clear c7
            try clear c11
            try clear c11b0
            try clear c14
            try clear p2
            obtain ⟨x11_2, x12_2, rfl, rfl, HA, HK2, HB⟩ := hrel
            cases gk with
            | zero => exact absurd HA.out (by simp [turnstileref04_Retry.l0])
            | succ k2 =>
              have H := HA.out
              clear HA
              simp only [turnstileref04_Retry.l0] at H
              by_cases c15 : (IntKind.u64.wrap (x12_2 - x11_2)) > 1
              · rw [if_pos c15] at H
                have c15b0 : decide (1 < (IntKind.u64.wrap (x12_2 - x11_2))) = true := decide_eq_true c15
                clear c15
                replace H := Option.bind_eq_some_iff.mp H
                obtain ⟨t533, A160, H⟩ := H
                replace H : (if t533 = true then (turnstileref04_Retry.l0 k2 a0 a1 a2 a4 x11_2 (IntKind.u64.wrap (x11_2 + (IntKind.u64.wrap (Int.tdiv (IntKind.u64.wrap (x12_2 - x11_2)) 2))))) else (turnstileref04_Retry.l0 k2 a0 a1 a2 a4 (IntKind.u64.wrap (x11_2 + (IntKind.u64.wrap (Int.tdiv (IntKind.u64.wrap (x12_2 - x11_2)) 2)))) x12_2)) = some r := H
                have A16 := Aside0.mk A160
                clear A160
                by_cases c17 : t533 = true
                · subst c17
                  have H1 : (turnstileref04_Retry.l0 k2 a0 a1 a2 a4 x11_2 (IntKind.u64.wrap (x11_2 + (IntKind.u64.wrap (Int.tdiv (IntKind.u64.wrap (x12_2 - x11_2)) 2))))) = some r := by rw [if_pos rfl] at H; exact H
                  clear H
                  have H := H1
                  clear H1
                  have H' := Aside0.mk H
                  clear H
                  go_wp2_with (first | ((with_reducible refine gate_callee (f := 56) rfl ?_); refine goesL_ (some 50) rfl rfl Try.func56 (by kernel_rfl) rfl #[.int .u64 a0, .int .u64 a1, .int .u64 a2, .int .u64 (IntKind.u64.wrap (x11_2 + (IntKind.u64.wrap (Int.tdiv (IntKind.u64.wrap (x12_2 - x11_2)) 2)))), .int .u64 a4] rfl (by (try simp only [List.map_toArray, List.map_cons, List.map_nil]); first | done | rfl | (simp only [List.length_drop, List.length_take]; rfl)) ?_; (with_reducible refine (turnstileref04_fits.calls k2 a0 a1 a2 (IntKind.u64.wrap (x11_2 + (IntKind.u64.wrap (Int.tdiv (IntKind.u64.wrap (x12_2 - x11_2)) 2)))) a4 true _ A16.out).mono ?_); rintro e w18 ⟨rfl, hb⟩; refine ⟨_, rfl, ?_⟩; have n0_ := Aside0.mk (below_step (by repeat (first | (with_reducible first | exact HB.out | apply below_alloc | apply pw_below_drewN | apply below_drew1) | exact HB.out)) hb); clear HB; have HB := n0_; clear n0_; (try clear hb); (try clear hb2); (try clear hk); (try clear hi)))
                  go_roundg k2
                  case measure => have := HJ8.out; have := HK2.out; omega
                  case rel => exact ⟨(x11_2), (IntKind.u64.wrap (x11_2 + (IntKind.u64.wrap (Int.tdiv (IntKind.u64.wrap (x12_2 - x11_2)) 2)))), (by first | rfl | (simp; done) | (simp [*]; done)), (by first | rfl | (simp; done) | (simp [*]; done)), H', ⟨by have := HJ8.out; have := HK2.out; omega⟩, ⟨by repeat (first | (with_reducible first | exact HB.out | apply below_alloc | apply pw_below_drewN | apply below_drew1) | exact HB.out)⟩⟩
                · replace c17 := Bool.eq_false_iff.mpr c17
                  subst c17
                  have H1 : (turnstileref04_Retry.l0 k2 a0 a1 a2 a4 (IntKind.u64.wrap (x11_2 + (IntKind.u64.wrap (Int.tdiv (IntKind.u64.wrap (x12_2 - x11_2)) 2)))) x12_2) = some r := by rw [if_neg (show ¬ (false = true) by decide)] at H; exact H
                  clear H
                  have H := H1
                  clear H1
                  have H' := Aside0.mk H
                  clear H
                  go_wp2_with (first | ((with_reducible refine gate_callee (f := 56) rfl ?_); refine goesL_ (some 50) rfl rfl Try.func56 (by kernel_rfl) rfl #[.int .u64 a0, .int .u64 a1, .int .u64 a2, .int .u64 (IntKind.u64.wrap (x11_2 + (IntKind.u64.wrap (Int.tdiv (IntKind.u64.wrap (x12_2 - x11_2)) 2)))), .int .u64 a4] rfl (by (try simp only [List.map_toArray, List.map_cons, List.map_nil]); first | done | rfl | (simp only [List.length_drop, List.length_take]; rfl)) ?_; (with_reducible refine (turnstileref04_fits.calls k2 a0 a1 a2 (IntKind.u64.wrap (x11_2 + (IntKind.u64.wrap (Int.tdiv (IntKind.u64.wrap (x12_2 - x11_2)) 2)))) a4 false _ A16.out).mono ?_); rintro e w19 ⟨rfl, hb⟩; refine ⟨_, rfl, ?_⟩; have n0_ := Aside0.mk (below_step (by repeat (first | (with_reducible first | exact HB.out | apply below_alloc | apply pw_below_drewN | apply below_drew1) | exact HB.out)) hb); clear HB; have HB := n0_; clear n0_; (try clear hb); (try clear hb2); (try clear hk); (try clear hi)))
                  go_roundg k2
                  case measure => have := HJ8.out; have := HK2.out; omega
                  case rel => exact ⟨(IntKind.u64.wrap (x11_2 + (IntKind.u64.wrap (Int.tdiv (IntKind.u64.wrap (x12_2 - x11_2)) 2)))), (x12_2), (by first | rfl | (simp; done) | (simp [*]; done)), (by first | rfl | (simp; done) | (simp [*]; done)), H', ⟨by have := HJ8.out; have := HK2.out; omega⟩, ⟨by repeat (first | (with_reducible first | exact HB.out | apply below_alloc | apply pw_below_drewN | apply below_drew1) | exact HB.out)⟩⟩
              · rw [if_neg c15] at H
                have c15b0 : decide (1 < (IntKind.u64.wrap (x12_2 - x11_2))) = false := decide_eq_false c15
                clear c15
                obtain rfl := Option.some.inj H
                go_wp2
                go_ret
                exact ⟨by first | rfl | (simp [errW_none, errW_some] <;> rfl) | (simp [*, errW_none, errW_some] <;> rfl), by repeat (first | (with_reducible first | exact HB.out | apply below_alloc | apply pw_below_drewN | apply below_drew1) | exact HB.out)⟩

/-! ### turnstileref04_Burst: function 33 -/
def turnstileref04_Burst.l0 : Nat → Int → Int → Int → Int → Int → Int → Option (Int)
  | 0, _, _, _, _, _, _ => none
  | k + 1, x0, x1, x2, x3, x9, x10 => if (IntKind.u64.wrap (x10 - x9)) > 1 then ((turnstileref04_fits.f k x0 x1 x2 x3 (IntKind.u64.wrap (x9 + (IntKind.u64.wrap (Int.tdiv (IntKind.u64.wrap (x10 - x9)) 2))))).bind fun t536 => (if t536 = true then (turnstileref04_Burst.l0 k x0 x1 x2 x3 (IntKind.u64.wrap (x9 + (IntKind.u64.wrap (Int.tdiv (IntKind.u64.wrap (x10 - x9)) 2)))) x10) else (turnstileref04_Burst.l0 k x0 x1 x2 x3 x9 (IntKind.u64.wrap (x9 + (IntKind.u64.wrap (Int.tdiv (IntKind.u64.wrap (x10 - x9)) 2))))))) else (some x9)
def turnstileref04_Burst.f (k : Nat) (a0 : Int) (a1 : Int) (a2 : Int) (a3 : Int) : Option (Int) := (turnstileref04_fits.f k a0 a1 a2 a3 1).bind fun t534 => (if t534 = true then ((turnstileref04_fits.f k a0 a1 a2 a3 18446744073709551615).bind fun t535 => (if t535 = true then (some 18446744073709551615) else (turnstileref04_Burst.l0 k a0 a1 a2 a3 1 18446744073709551615))) else (some 0))
theorem turnstileref04_Burst.mono_l : ∀ k, (∀ y0 y1 y2 y3 y4 y5, LeO (turnstileref04_Burst.l0 k y0 y1 y2 y3 y4 y5) (turnstileref04_Burst.l0 (k + 1) y0 y1 y2 y3 y4 y5))
  | 0 => fun _ _ _ _ _ _ r h => by simp [turnstileref04_Burst.l0] at h
  | k + 1 => by
    have ih0 := turnstileref04_Burst.mono_l k
    · intro y0 y1 y2 y3 y4 y5
      unfold turnstileref04_Burst.l0
      repeat' first
      | (with_reducible exact ih0 _ _ _ _ _ _)
      | (with_reducible exact turnstileref04_fits.mono _ _ _ _ _ _)
      | (with_reducible exact LeO.refl _)
      | (with_reducible exact LeO.none _)
      | (with_reducible refine LeO.ite ?_ ?_)
      | (with_reducible refine LeO.bind ?_ (fun _ => ?_))
      | exact ih0 _ _ _ _ _ _
      | exact turnstileref04_fits.mono _ _ _ _ _ _
      | exact LeO.none _
      | refine LeO.ite ?_ ?_
      | refine LeO.bind ?_ (fun _ => ?_)
theorem turnstileref04_Burst.mono : ∀ a0 a1 a2 a3 k, LeO (turnstileref04_Burst.f k a0 a1 a2 a3) (turnstileref04_Burst.f (k + 1) a0 a1 a2 a3) := by
  intro a0 a1 a2 a3 k
  have ih0 := turnstileref04_Burst.mono_l k
  unfold turnstileref04_Burst.f
  repeat' first
      | (with_reducible exact ih0 _ _ _ _ _ _)
      | (with_reducible exact turnstileref04_fits.mono _ _ _ _ _ _)
      | (with_reducible exact LeO.refl _)
      | (with_reducible exact LeO.none _)
      | (with_reducible refine LeO.ite ?_ ?_)
      | (with_reducible refine LeO.bind ?_ (fun _ => ?_))
      | exact ih0 _ _ _ _ _ _
      | exact turnstileref04_fits.mono _ _ _ _ _ _
      | exact LeO.none _
      | refine LeO.ite ?_ ?_
      | refine LeO.bind ?_ (fun _ => ?_)
set_option maxHeartbeats 8000000 in
set_option maxRecDepth 100000 in
theorem turnstileref04_Burst.calls (k : Nat) (a0 : Int) (a1 : Int) (a2 : Int) (a3 : Int) (r : Int) (w : World) (h : turnstileref04_Burst.f k a0 a1 a2 a3 = some r) :
    Calls Try.prog 33 #[.int .u64 a0, .int .u64 a1, .int .u64 a2, .int .u64 a3] w fun e w' => e = .returned (.int .u64 r) ∧ Below w.heap.size w w' := by
  have HB := Aside0.mk (Below.refl w.heap.size w)
  have H : ((turnstileref04_fits.f k a0 a1 a2 a3 1).bind fun t534 => (if t534 = true then ((turnstileref04_fits.f k a0 a1 a2 a3 18446744073709551615).bind fun t535 => (if t535 = true then (some 18446744073709551615) else (turnstileref04_Burst.l0 k a0 a1 a2 a3 1 18446744073709551615))) else (some 0))) = some r := h
  clear h
  replace H := Option.bind_eq_some_iff.mp H
  obtain ⟨t534, A50, H⟩ := H
  replace H : (if t534 = true then ((turnstileref04_fits.f k a0 a1 a2 a3 18446744073709551615).bind fun t535 => (if t535 = true then (some 18446744073709551615) else (turnstileref04_Burst.l0 k a0 a1 a2 a3 1 18446744073709551615))) else (some 0)) = some r := H
  have A5 := Aside0.mk A50
  clear A50
  by_cases c6 : t534 = true
  · subst c6
    have H1 : ((turnstileref04_fits.f k a0 a1 a2 a3 18446744073709551615).bind fun t535 => (if t535 = true then (some 18446744073709551615) else (turnstileref04_Burst.l0 k a0 a1 a2 a3 1 18446744073709551615))) = some r := by rw [if_pos rfl] at H; exact H
    clear H
    have H := H1
    clear H1
    replace H := Option.bind_eq_some_iff.mp H
    obtain ⟨t535, A70, H⟩ := H
    replace H : (if t535 = true then (some 18446744073709551615) else (turnstileref04_Burst.l0 k a0 a1 a2 a3 1 18446744073709551615)) = some r := H
    have A7 := Aside0.mk A70
    clear A70
    by_cases c8 : t535 = true
    · subst c8
      have H1 : (some 18446744073709551615) = some r := by rw [if_pos rfl] at H; exact H
      clear H
      have H := H1
      clear H1
      obtain rfl := Option.some.inj H
      go_enter Try.func33, Try.ntmps33
      go_wp2_with (first | ((with_reducible refine gate_callee (f := 56) rfl ?_); refine goesL_ (some 16) rfl rfl Try.func56 (by kernel_rfl) rfl #[.int .u64 a0, .int .u64 a1, .int .u64 a2, .int .u64 a3, .int .u64 1] rfl (by (try simp only [List.map_toArray, List.map_cons, List.map_nil]); first | done | rfl | (simp only [List.length_drop, List.length_take]; rfl)) ?_; (with_reducible refine (turnstileref04_fits.calls k a0 a1 a2 a3 1 true _ A5.out).mono ?_); rintro e w9 ⟨rfl, hb⟩; refine ⟨_, rfl, ?_⟩; have n0_ := Aside0.mk (below_step (by repeat (first | (with_reducible first | exact HB.out | apply below_alloc | apply pw_below_drewN | apply below_drew1) | exact HB.out)) hb); clear HB; have HB := n0_; clear n0_; (try clear hb); (try clear hb2); (try clear hk); (try clear hi)) | ((with_reducible refine gate_callee (f := 56) rfl ?_); refine goesL_ (some 22) rfl rfl Try.func56 (by kernel_rfl) rfl #[.int .u64 a0, .int .u64 a1, .int .u64 a2, .int .u64 a3, .int .u64 18446744073709551615] rfl (by (try simp only [List.map_toArray, List.map_cons, List.map_nil]); first | done | rfl | (simp only [List.length_drop, List.length_take]; rfl)) ?_; (with_reducible refine (turnstileref04_fits.calls k a0 a1 a2 a3 18446744073709551615 true _ A7.out).mono ?_); rintro e w10 ⟨rfl, hb⟩; refine ⟨_, rfl, ?_⟩; have n0_ := Aside0.mk (below_step (by repeat (first | (with_reducible first | exact HB.out | apply below_alloc | apply pw_below_drewN | apply below_drew1) | exact HB.out)) hb); clear HB; have HB := n0_; clear n0_; (try clear hb); (try clear hb2); (try clear hk); (try clear hi)))
      go_ret
      exact ⟨by first | rfl | (simp [errW_none, errW_some] <;> rfl) | (simp [*, errW_none, errW_some] <;> rfl), by repeat (first | (with_reducible first | exact HB.out | apply below_alloc | apply pw_below_drewN | apply below_drew1) | exact HB.out)⟩
    · replace c8 := Bool.eq_false_iff.mpr c8
      subst c8
      have H1 : (turnstileref04_Burst.l0 k a0 a1 a2 a3 1 18446744073709551615) = some r := by rw [if_neg (show ¬ (false = true) by decide)] at H; exact H
      clear H
      have H := H1
      clear H1
      have H' := Aside0.mk H
      clear H
      go_enter Try.func33, Try.ntmps33
      go_wp2_with (first | ((with_reducible refine gate_callee (f := 56) rfl ?_); refine goesL_ (some 16) rfl rfl Try.func56 (by kernel_rfl) rfl #[.int .u64 a0, .int .u64 a1, .int .u64 a2, .int .u64 a3, .int .u64 1] rfl (by (try simp only [List.map_toArray, List.map_cons, List.map_nil]); first | done | rfl | (simp only [List.length_drop, List.length_take]; rfl)) ?_; (with_reducible refine (turnstileref04_fits.calls k a0 a1 a2 a3 1 true _ A5.out).mono ?_); rintro e w11 ⟨rfl, hb⟩; refine ⟨_, rfl, ?_⟩; have n0_ := Aside0.mk (below_step (by repeat (first | (with_reducible first | exact HB.out | apply below_alloc | apply pw_below_drewN | apply below_drew1) | exact HB.out)) hb); clear HB; have HB := n0_; clear n0_; (try clear hb); (try clear hb2); (try clear hk); (try clear hi)) | ((with_reducible refine gate_callee (f := 56) rfl ?_); refine goesL_ (some 22) rfl rfl Try.func56 (by kernel_rfl) rfl #[.int .u64 a0, .int .u64 a1, .int .u64 a2, .int .u64 a3, .int .u64 18446744073709551615] rfl (by (try simp only [List.map_toArray, List.map_cons, List.map_nil]); first | done | rfl | (simp only [List.length_drop, List.length_take]; rfl)) ?_; (with_reducible refine (turnstileref04_fits.calls k a0 a1 a2 a3 18446744073709551615 false _ A7.out).mono ?_); rintro e w12 ⟨rfl, hb⟩; refine ⟨_, rfl, ?_⟩; have n0_ := Aside0.mk (below_step (by repeat (first | (with_reducible first | exact HB.out | apply below_alloc | apply pw_below_drewN | apply below_drew1) | exact HB.out)) hb); clear HB; have HB := n0_; clear n0_; (try clear hb); (try clear hb2); (try clear hk); (try clear hi)))
      go_loopg [9, 10] k (fun kq v9 v10 w' => ∃ (x9_1 : Int) (x10_1 : Int), v9 = .int .u64 x9_1 ∧ v10 = .int .u64 x10_1 ∧ Aside0 (turnstileref04_Burst.l0 kq a0 a1 a2 a3 x9_1 x10_1 = some r) ∧ Aside0 (kq ≤ k) ∧ Aside0 (Below w.heap.size w w'))
      case atStart => exact ⟨(1), (18446744073709551615), (by first | rfl | (simp; done) | (simp [*]; done)), (by first | rfl | (simp; done) | (simp [*]; done)), H', ⟨Nat.le_refl _⟩, ⟨by repeat (first | (with_reducible first | exact HB.out | apply below_alloc | apply pw_below_drewN | apply below_drew1) | exact HB.out)⟩⟩
      case round =>
        clear H'
        try clear p2
        try clear c3
        try clear c5
        try clear c6
        try clear c8
        obtain ⟨x9_1, x10_1, rfl, rfl, HA, HK1, HB⟩ := hrel
        cases gk with
        | zero => exact absurd HA.out (by simp [turnstileref04_Burst.l0])
        | succ k1 =>
          have H := HA.out
          clear HA
          simp only [turnstileref04_Burst.l0] at H
          by_cases c13 : (IntKind.u64.wrap (x10_1 - x9_1)) > 1
          · rw [if_pos c13] at H
            have c13b0 : decide (1 < (IntKind.u64.wrap (x10_1 - x9_1))) = true := decide_eq_true c13
            clear c13
            replace H := Option.bind_eq_some_iff.mp H
            obtain ⟨t536, A140, H⟩ := H
            replace H : (if t536 = true then (turnstileref04_Burst.l0 k1 a0 a1 a2 a3 (IntKind.u64.wrap (x9_1 + (IntKind.u64.wrap (Int.tdiv (IntKind.u64.wrap (x10_1 - x9_1)) 2)))) x10_1) else (turnstileref04_Burst.l0 k1 a0 a1 a2 a3 x9_1 (IntKind.u64.wrap (x9_1 + (IntKind.u64.wrap (Int.tdiv (IntKind.u64.wrap (x10_1 - x9_1)) 2)))))) = some r := H
            have A14 := Aside0.mk A140
            clear A140
            by_cases c15 : t536 = true
            · subst c15
              have H1 : (turnstileref04_Burst.l0 k1 a0 a1 a2 a3 (IntKind.u64.wrap (x9_1 + (IntKind.u64.wrap (Int.tdiv (IntKind.u64.wrap (x10_1 - x9_1)) 2)))) x10_1) = some r := by rw [if_pos rfl] at H; exact H
              clear H
              have H := H1
              clear H1
              have H' := Aside0.mk H
              clear H
              go_wp2_with (first | ((with_reducible refine gate_callee (f := 56) rfl ?_); refine goesL_ (some 38) rfl rfl Try.func56 (by kernel_rfl) rfl #[.int .u64 a0, .int .u64 a1, .int .u64 a2, .int .u64 a3, .int .u64 (IntKind.u64.wrap (x9_1 + (IntKind.u64.wrap (Int.tdiv (IntKind.u64.wrap (x10_1 - x9_1)) 2))))] rfl (by (try simp only [List.map_toArray, List.map_cons, List.map_nil]); first | done | rfl | (simp only [List.length_drop, List.length_take]; rfl)) ?_; (with_reducible refine (turnstileref04_fits.calls k1 a0 a1 a2 a3 (IntKind.u64.wrap (x9_1 + (IntKind.u64.wrap (Int.tdiv (IntKind.u64.wrap (x10_1 - x9_1)) 2)))) true _ A14.out).mono ?_); rintro e w16 ⟨rfl, hb⟩; refine ⟨_, rfl, ?_⟩; have n0_ := Aside0.mk (below_step (by repeat (first | (with_reducible first | exact HB.out | apply below_alloc | apply pw_below_drewN | apply below_drew1) | exact HB.out)) hb); clear HB; have HB := n0_; clear n0_; (try clear hb); (try clear hb2); (try clear hk); (try clear hi)))
              go_roundg k1
              case measure => have := HK1.out; omega
              case rel => exact ⟨(IntKind.u64.wrap (x9_1 + (IntKind.u64.wrap (Int.tdiv (IntKind.u64.wrap (x10_1 - x9_1)) 2)))), (x10_1), (by first | rfl | (simp; done) | (simp [*]; done)), (by first | rfl | (simp; done) | (simp [*]; done)), H', ⟨by have := HK1.out; omega⟩, ⟨by repeat (first | (with_reducible first | exact HB.out | apply below_alloc | apply pw_below_drewN | apply below_drew1) | exact HB.out)⟩⟩
            · replace c15 := Bool.eq_false_iff.mpr c15
              subst c15
              have H1 : (turnstileref04_Burst.l0 k1 a0 a1 a2 a3 x9_1 (IntKind.u64.wrap (x9_1 + (IntKind.u64.wrap (Int.tdiv (IntKind.u64.wrap (x10_1 - x9_1)) 2))))) = some r := by rw [if_neg (show ¬ (false = true) by decide)] at H; exact H
              clear H
              have H := H1
              clear H1
              have H' := Aside0.mk H
              clear H
              go_wp2_with (first | ((with_reducible refine gate_callee (f := 56) rfl ?_); refine goesL_ (some 38) rfl rfl Try.func56 (by kernel_rfl) rfl #[.int .u64 a0, .int .u64 a1, .int .u64 a2, .int .u64 a3, .int .u64 (IntKind.u64.wrap (x9_1 + (IntKind.u64.wrap (Int.tdiv (IntKind.u64.wrap (x10_1 - x9_1)) 2))))] rfl (by (try simp only [List.map_toArray, List.map_cons, List.map_nil]); first | done | rfl | (simp only [List.length_drop, List.length_take]; rfl)) ?_; (with_reducible refine (turnstileref04_fits.calls k1 a0 a1 a2 a3 (IntKind.u64.wrap (x9_1 + (IntKind.u64.wrap (Int.tdiv (IntKind.u64.wrap (x10_1 - x9_1)) 2)))) false _ A14.out).mono ?_); rintro e w17 ⟨rfl, hb⟩; refine ⟨_, rfl, ?_⟩; have n0_ := Aside0.mk (below_step (by repeat (first | (with_reducible first | exact HB.out | apply below_alloc | apply pw_below_drewN | apply below_drew1) | exact HB.out)) hb); clear HB; have HB := n0_; clear n0_; (try clear hb); (try clear hb2); (try clear hk); (try clear hi)))
              go_roundg k1
              case measure => have := HK1.out; omega
              case rel => exact ⟨(x9_1), (IntKind.u64.wrap (x9_1 + (IntKind.u64.wrap (Int.tdiv (IntKind.u64.wrap (x10_1 - x9_1)) 2)))), (by first | rfl | (simp; done) | (simp [*]; done)), (by first | rfl | (simp; done) | (simp [*]; done)), H', ⟨by have := HK1.out; omega⟩, ⟨by repeat (first | (with_reducible first | exact HB.out | apply below_alloc | apply pw_below_drewN | apply below_drew1) | exact HB.out)⟩⟩
          · rw [if_neg c13] at H
            have c13b0 : decide (1 < (IntKind.u64.wrap (x10_1 - x9_1))) = false := decide_eq_false c13
            clear c13
            obtain rfl := Option.some.inj H
            go_wp2
            go_ret
            exact ⟨by first | rfl | (simp [errW_none, errW_some] <;> rfl) | (simp [*, errW_none, errW_some] <;> rfl), by repeat (first | (with_reducible first | exact HB.out | apply below_alloc | apply pw_below_drewN | apply below_drew1) | exact HB.out)⟩
  · replace c6 := Bool.eq_false_iff.mpr c6
    subst c6
    have H1 : (some 0) = some r := by rw [if_neg (show ¬ (false = true) by decide)] at H; exact H
    clear H
    have H := H1
    clear H1
    obtain rfl := Option.some.inj H
    go_enter Try.func33, Try.ntmps33
    go_wp2_with (first | ((with_reducible refine gate_callee (f := 56) rfl ?_); refine goesL_ (some 16) rfl rfl Try.func56 (by kernel_rfl) rfl #[.int .u64 a0, .int .u64 a1, .int .u64 a2, .int .u64 a3, .int .u64 1] rfl (by (try simp only [List.map_toArray, List.map_cons, List.map_nil]); first | done | rfl | (simp only [List.length_drop, List.length_take]; rfl)) ?_; (with_reducible refine (turnstileref04_fits.calls k a0 a1 a2 a3 1 false _ A5.out).mono ?_); rintro e w18 ⟨rfl, hb⟩; refine ⟨_, rfl, ?_⟩; have n0_ := Aside0.mk (below_step (by repeat (first | (with_reducible first | exact HB.out | apply below_alloc | apply pw_below_drewN | apply below_drew1) | exact HB.out)) hb); clear HB; have HB := n0_; clear n0_; (try clear hb); (try clear hb2); (try clear hk); (try clear hi)))
    go_ret
    exact ⟨by first | rfl | (simp [errW_none, errW_some] <;> rfl) | (simp [*, errW_none, errW_some] <;> rfl), by repeat (first | (with_reducible first | exact HB.out | apply below_alloc | apply pw_below_drewN | apply below_drew1) | exact HB.out)⟩

/-! ### turnstileref04_Delay: function 35 -/
def turnstileref04_Delay.f (k : Nat) (a0 : Int) (a1 : Int) (a2 : Int) (a3 : Int) : Option (Int) := (turnstileref04_Retry.f k a0 a1 a2 a3 1).bind fun t537 => (if t537 = 18446744073709551615 then (some 18446744073709551615) else (some (IntKind.u64.wrap (t537 - a3))))
theorem turnstileref04_Delay.mono : ∀ a0 a1 a2 a3 k, LeO (turnstileref04_Delay.f k a0 a1 a2 a3) (turnstileref04_Delay.f (k + 1) a0 a1 a2 a3) := by
  intro a0 a1 a2 a3 k
  unfold turnstileref04_Delay.f
  repeat' first
      | (with_reducible exact turnstileref04_Retry.mono _ _ _ _ _ _)
      | (with_reducible exact LeO.refl _)
      | (with_reducible exact LeO.none _)
      | (with_reducible refine LeO.ite ?_ ?_)
      | (with_reducible refine LeO.bind ?_ (fun _ => ?_))
      | exact turnstileref04_Retry.mono _ _ _ _ _ _
      | exact LeO.none _
      | refine LeO.ite ?_ ?_
      | refine LeO.bind ?_ (fun _ => ?_)
set_option maxHeartbeats 8000000 in
set_option maxRecDepth 100000 in
theorem turnstileref04_Delay.calls (k : Nat) (a0 : Int) (a1 : Int) (a2 : Int) (a3 : Int) (r : Int) (w : World) (h : turnstileref04_Delay.f k a0 a1 a2 a3 = some r) :
    Calls Try.prog 35 #[.int .u64 a0, .int .u64 a1, .int .u64 a2, .int .u64 a3] w fun e w' => e = .returned (.int .u64 r) ∧ Below w.heap.size w w' := by
  have HB := Aside0.mk (Below.refl w.heap.size w)
  have H : ((turnstileref04_Retry.f k a0 a1 a2 a3 1).bind fun t537 => (if t537 = 18446744073709551615 then (some 18446744073709551615) else (some (IntKind.u64.wrap (t537 - a3))))) = some r := h
  clear h
  replace H := Option.bind_eq_some_iff.mp H
  obtain ⟨t537, A50, H⟩ := H
  replace H : (if t537 = 18446744073709551615 then (some 18446744073709551615) else (some (IntKind.u64.wrap (t537 - a3)))) = some r := H
  have A5 := Aside0.mk A50
  clear A50
  by_cases c6 : t537 = 18446744073709551615
  · rw [if_pos c6] at H
    have c6b0 : (t537 == 18446744073709551615) = true := beq_iff_eq.mpr c6
    have c6b1 : (t537 != 18446744073709551615) = false := bne_eq_false_iff_eq.mpr c6
    clear c6
    obtain rfl := Option.some.inj H
    go_enter Try.func35, Try.ntmps35
    go_wp2_with (first | ((with_reducible refine gate_callee (f := 31) rfl ?_); refine goesL_ (some 14) rfl rfl Try.func31 (by kernel_rfl) rfl #[.int .u64 a0, .int .u64 a1, .int .u64 a2, .int .u64 a3, .int .u64 1] rfl (by (try simp only [List.map_toArray, List.map_cons, List.map_nil]); first | done | rfl | (simp only [List.length_drop, List.length_take]; rfl)) ?_; (with_reducible refine (turnstileref04_Retry.calls k a0 a1 a2 a3 1 t537 _ A5.out).mono ?_); rintro e w7 ⟨rfl, hb⟩; refine ⟨_, rfl, ?_⟩; have n0_ := Aside0.mk (below_step (by repeat (first | (with_reducible first | exact HB.out | apply below_alloc | apply pw_below_drewN | apply below_drew1) | exact HB.out)) hb); clear HB; have HB := n0_; clear n0_; (try clear hb); (try clear hb2); (try clear hk); (try clear hi)))
    go_ret
    exact ⟨by first | rfl | (simp [errW_none, errW_some] <;> rfl) | (simp [*, errW_none, errW_some] <;> rfl), by repeat (first | (with_reducible first | exact HB.out | apply below_alloc | apply pw_below_drewN | apply below_drew1) | exact HB.out)⟩
  · rw [if_neg c6] at H
    have c6b0 : (t537 == 18446744073709551615) = false := beq_eq_false_iff_ne.mpr c6
    have c6b1 : (t537 != 18446744073709551615) = true := bne_iff_ne.mpr c6
    obtain rfl := Option.some.inj H
    go_enter Try.func35, Try.ntmps35
    go_wp2_with (first | ((with_reducible refine gate_callee (f := 31) rfl ?_); refine goesL_ (some 14) rfl rfl Try.func31 (by kernel_rfl) rfl #[.int .u64 a0, .int .u64 a1, .int .u64 a2, .int .u64 a3, .int .u64 1] rfl (by (try simp only [List.map_toArray, List.map_cons, List.map_nil]); first | done | rfl | (simp only [List.length_drop, List.length_take]; rfl)) ?_; (with_reducible refine (turnstileref04_Retry.calls k a0 a1 a2 a3 1 t537 _ A5.out).mono ?_); rintro e w8 ⟨rfl, hb⟩; refine ⟨_, rfl, ?_⟩; have n0_ := Aside0.mk (below_step (by repeat (first | (with_reducible first | exact HB.out | apply below_alloc | apply pw_below_drewN | apply below_drew1) | exact HB.out)) hb); clear HB; have HB := n0_; clear n0_; (try clear hb); (try clear hb2); (try clear hk); (try clear hi)))
    go_ret
    exact ⟨by first | rfl | (simp [errW_none, errW_some] <;> rfl) | (simp [*, errW_none, errW_some] <;> rfl), by repeat (first | (with_reducible first | exact HB.out | apply below_alloc | apply pw_below_drewN | apply below_drew1) | exact HB.out)⟩

end Go.Proofs.Ythnpgilknoiaaaa.Q
