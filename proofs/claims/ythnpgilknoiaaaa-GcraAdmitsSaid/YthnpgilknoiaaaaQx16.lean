/- Written by the session's own program hyb.py: what functions of the program compute; Lean checks it. -/
import Derived.Test.YthnpgilknoiaaaaQx0
import Derived.Test.YthnpgilknoiaaaaQx4
import Derived.Test.YthnpgilknoiaaaaQx5
import Derived.Test.YthnpgilknoiaaaaQx6
namespace Go.Proofs.Ythnpgilknoiaaaa.Q
open Go.RowKit Go.Proofs.YthnpgilknoiaaaaW.PrintWords Go.Proofs.YthnpgilknoiaaaaW.PrintLast Go.Proofs.YthnpgilknoiaaaaW.PrintMore
attribute [local go_sem] run_Add64 run_Sub64
attribute [local go_sem] max2_int min2_int max_two min_two max_three min_three max_four min_four   -- for this text's walks alone
set_option linter.unusedVariables false
set_option linter.unusedSimpArgs false

-- NOT PRINTED: function 23 (turnstilelaw03_right)

-- NOT PRINTED: function 6 (turnstilelaw03_SatExact)

/-! ### turnstilelaw03_SatLadder: function 7 -/
mutual
def turnstilelaw03_SatLadder.j0 : Nat → Int → Int → Int → Option (Bool)
  | 0, _, _, _ => none
  | k + 1, x0, x1, x5 => (sat_Product.f x0 x1).bind fun bt383 => ((sat_Wide_Narrow.f bt383.1 bt383.2).bind fun bt385 => (if bt385.2 = true then (turnstilelaw03_SatLadder.j1 k x0 x1 x5 bt385.1) else (turnstilelaw03_SatLadder.j1 k x0 x1 x5 18446744073709551615)))
def turnstilelaw03_SatLadder.j1 : Nat → Int → Int → Int → Int → Option (Bool)
  | 0, _, _, _, _ => none
  | k + 1, x0, x1, x5, x7 => (sat_Of.f x0).bind fun bt387 => ((sat_Of.f x1).bind fun bt389 => ((sat_Wide_Minus.f bt387.1 bt387.2 bt389.1 bt389.2).bind fun bt391 => ((sat_Wide_Narrow.f bt391.1 bt391.2).bind fun bt393 => (if bt393.2 = true then ((sat_Add.f x0 x1).bind fun t395 => (if x5 = t395 then ((sat_Mul.f x0 x1).bind fun t396 => (if x7 = t396 then ((sat_Sub.f x0 x1).bind fun t397 => (if bt393.1 = t397 then ((sat_Of.f x0).bind fun bt398 => ((sat_Of.f x1).bind fun bt400 => ((sat_Wide_Cmp.f bt398.1 bt398.2 bt400.1 bt400.2).bind fun t402 => (some ((decide (x0 < x1)) == (decide (t402 < 0))))))) else (some false))) else (some false))) else (some false))) else (some false)))))
end
def turnstilelaw03_SatLadder.f (k : Nat) (a0 : Int) (a1 : Int) : Option (Bool) := (turnstilelaw03_awake.f k).bind fun t374 => (if t374 = true then ((sat_Of.f a0).bind fun bt375 => ((sat_Of.f a1).bind fun bt377 => ((sat_Wide_Plus.f bt375.1 bt375.2 bt377.1 bt377.2).bind fun bt379 => ((sat_Wide_Narrow.f bt379.1 bt379.2).bind fun bt381 => (if bt381.2 = true then (turnstilelaw03_SatLadder.j0 k a0 a1 bt381.1) else (turnstilelaw03_SatLadder.j0 k a0 a1 18446744073709551615)))))) else (some false))
theorem turnstilelaw03_SatLadder.mono_l : ∀ k, (∀ y0 y1 y2, LeO (turnstilelaw03_SatLadder.j0 k y0 y1 y2) (turnstilelaw03_SatLadder.j0 (k + 1) y0 y1 y2)) ∧ (∀ y0 y1 y2 y3, LeO (turnstilelaw03_SatLadder.j1 k y0 y1 y2 y3) (turnstilelaw03_SatLadder.j1 (k + 1) y0 y1 y2 y3))
  | 0 => ⟨fun _ _ _ r h => by simp [turnstilelaw03_SatLadder.j0] at h, fun _ _ _ _ r h => by simp [turnstilelaw03_SatLadder.j1] at h⟩
  | k + 1 => by
    obtain ⟨ih0, ih1⟩ := turnstilelaw03_SatLadder.mono_l k
    refine ⟨?_, ?_⟩
    · intro y0 y1 y2
      unfold turnstilelaw03_SatLadder.j0
      repeat' first
      | (with_reducible exact ih0 _ _ _)
      | (with_reducible exact ih1 _ _ _ _)
      | (with_reducible exact turnstilelaw03_awake.mono _)
      | (with_reducible exact LeO.refl _)
      | (with_reducible exact LeO.none _)
      | (with_reducible refine LeO.ite ?_ ?_)
      | (with_reducible refine LeO.bind ?_ (fun _ => ?_))
      | exact ih0 _ _ _
      | exact ih1 _ _ _ _
      | exact turnstilelaw03_awake.mono _
      | exact LeO.none _
      | refine LeO.ite ?_ ?_
      | refine LeO.bind ?_ (fun _ => ?_)
    · intro y0 y1 y2 y3
      unfold turnstilelaw03_SatLadder.j1
      repeat' first
      | (with_reducible exact ih0 _ _ _)
      | (with_reducible exact ih1 _ _ _ _)
      | (with_reducible exact turnstilelaw03_awake.mono _)
      | (with_reducible exact LeO.refl _)
      | (with_reducible exact LeO.none _)
      | (with_reducible refine LeO.ite ?_ ?_)
      | (with_reducible refine LeO.bind ?_ (fun _ => ?_))
      | exact ih0 _ _ _
      | exact ih1 _ _ _ _
      | exact turnstilelaw03_awake.mono _
      | exact LeO.none _
      | refine LeO.ite ?_ ?_
      | refine LeO.bind ?_ (fun _ => ?_)
theorem turnstilelaw03_SatLadder.mono : ∀ a0 a1 k, LeO (turnstilelaw03_SatLadder.f k a0 a1) (turnstilelaw03_SatLadder.f (k + 1) a0 a1) := by
  intro a0 a1 k
  obtain ⟨ih0, ih1⟩ := turnstilelaw03_SatLadder.mono_l k
  unfold turnstilelaw03_SatLadder.f
  repeat' first
      | (with_reducible exact ih0 _ _ _)
      | (with_reducible exact ih1 _ _ _ _)
      | (with_reducible exact turnstilelaw03_awake.mono _)
      | (with_reducible exact LeO.refl _)
      | (with_reducible exact LeO.none _)
      | (with_reducible refine LeO.ite ?_ ?_)
      | (with_reducible refine LeO.bind ?_ (fun _ => ?_))
      | exact ih0 _ _ _
      | exact ih1 _ _ _ _
      | exact turnstilelaw03_awake.mono _
      | exact LeO.none _
      | refine LeO.ite ?_ ?_
      | refine LeO.bind ?_ (fun _ => ?_)
set_option maxHeartbeats 8000000 in
set_option maxRecDepth 100000 in
theorem turnstilelaw03_SatLadder.calls (k : Nat) (a0 : Int) (a1 : Int) (r : Bool) (w : World) (h : turnstilelaw03_SatLadder.f k a0 a1 = some r) :
    Calls Try.prog 7 #[.int .u64 a0, .int .u64 a1] w fun e w' => e = .returned (.bool r) ∧ Below w.heap.size w w' := by
  have HB := Aside0.mk (Below.refl w.heap.size w)
  have H : ((turnstilelaw03_awake.f k).bind fun t374 => (if t374 = true then ((sat_Of.f a0).bind fun bt375 => ((sat_Of.f a1).bind fun bt377 => ((sat_Wide_Plus.f bt375.1 bt375.2 bt377.1 bt377.2).bind fun bt379 => ((sat_Wide_Narrow.f bt379.1 bt379.2).bind fun bt381 => (if bt381.2 = true then (turnstilelaw03_SatLadder.j0 k a0 a1 bt381.1) else (turnstilelaw03_SatLadder.j0 k a0 a1 18446744073709551615)))))) else (some false))) = some r := h
  clear h
  replace H := Option.bind_eq_some_iff.mp H
  obtain ⟨t374, A30, H⟩ := H
  replace H : (if t374 = true then ((sat_Of.f a0).bind fun bt375 => ((sat_Of.f a1).bind fun bt377 => ((sat_Wide_Plus.f bt375.1 bt375.2 bt377.1 bt377.2).bind fun bt379 => ((sat_Wide_Narrow.f bt379.1 bt379.2).bind fun bt381 => (if bt381.2 = true then (turnstilelaw03_SatLadder.j0 k a0 a1 bt381.1) else (turnstilelaw03_SatLadder.j0 k a0 a1 18446744073709551615)))))) else (some false)) = some r := H
  have A3 := Aside0.mk A30
  clear A30
  by_cases c4 : t374 = true
  · subst c4
    have H1 : ((sat_Of.f a0).bind fun bt375 => ((sat_Of.f a1).bind fun bt377 => ((sat_Wide_Plus.f bt375.1 bt375.2 bt377.1 bt377.2).bind fun bt379 => ((sat_Wide_Narrow.f bt379.1 bt379.2).bind fun bt381 => (if bt381.2 = true then (turnstilelaw03_SatLadder.j0 k a0 a1 bt381.1) else (turnstilelaw03_SatLadder.j0 k a0 a1 18446744073709551615)))))) = some r := by rw [if_pos rfl] at H; exact H
    clear H
    have H := H1
    clear H1
    replace H := Option.bind_eq_some_iff.mp H
    obtain ⟨⟨t375, t376⟩, A50, H⟩ := H
    replace H : ((sat_Of.f a1).bind fun bt377 => ((sat_Wide_Plus.f t375 t376 bt377.1 bt377.2).bind fun bt379 => ((sat_Wide_Narrow.f bt379.1 bt379.2).bind fun bt381 => (if bt381.2 = true then (turnstilelaw03_SatLadder.j0 k a0 a1 bt381.1) else (turnstilelaw03_SatLadder.j0 k a0 a1 18446744073709551615))))) = some r := H
    have A5 := Aside0.mk A50
    clear A50
    replace H := Option.bind_eq_some_iff.mp H
    obtain ⟨⟨t377, t378⟩, A60, H⟩ := H
    replace H : ((sat_Wide_Plus.f t375 t376 t377 t378).bind fun bt379 => ((sat_Wide_Narrow.f bt379.1 bt379.2).bind fun bt381 => (if bt381.2 = true then (turnstilelaw03_SatLadder.j0 k a0 a1 bt381.1) else (turnstilelaw03_SatLadder.j0 k a0 a1 18446744073709551615)))) = some r := H
    have A6 := Aside0.mk A60
    clear A60
    replace H := Option.bind_eq_some_iff.mp H
    obtain ⟨⟨t379, t380⟩, A70, H⟩ := H
    replace H : ((sat_Wide_Narrow.f t379 t380).bind fun bt381 => (if bt381.2 = true then (turnstilelaw03_SatLadder.j0 k a0 a1 bt381.1) else (turnstilelaw03_SatLadder.j0 k a0 a1 18446744073709551615))) = some r := H
    have A7 := Aside0.mk A70
    clear A70
    replace H := Option.bind_eq_some_iff.mp H
    obtain ⟨⟨t381, t382⟩, A80, H⟩ := H
    replace H : (if t382 = true then (turnstilelaw03_SatLadder.j0 k a0 a1 t381) else (turnstilelaw03_SatLadder.j0 k a0 a1 18446744073709551615)) = some r := H
    have A8 := Aside0.mk A80
    clear A80
    have HC9 := Aside0.mk H
    clear H
    go_enter Try.func7, Try.ntmps7
    go_upto_if 21 with (first | ((with_reducible refine gate_callee (f := 15) rfl ?_); refine goesL_ (some 9) rfl rfl Try.func15 (by kernel_rfl) rfl #[] rfl (by (try simp only [List.map_toArray, List.map_cons, List.map_nil]); first | done | rfl | (simp only [List.length_drop, List.length_take]; rfl)) ?_; (with_reducible refine (turnstilelaw03_awake.calls k  true _ A3.out).mono ?_); rintro e w10 ⟨rfl, hb⟩; refine ⟨_, rfl, ?_⟩; have n0_ := Aside0.mk (below_step (by repeat (first | (with_reducible first | exact HB.out | apply below_alloc | apply pw_below_drewN | apply below_drew1) | exact HB.out)) hb); clear HB; have HB := n0_; clear n0_; (try clear hb); (try clear hb2); (try clear hk); (try clear hi)) | ((with_reducible refine gate_callee (f := 20) rfl ?_); refine goesL_ (some 13) rfl rfl Try.func20 (by kernel_rfl) rfl #[.int .u64 a0] rfl (by (try simp only [List.map_toArray, List.map_cons, List.map_nil]); first | done | rfl | (simp only [List.length_drop, List.length_take]; rfl)) ?_; (with_reducible refine (sat_Of.calls a0 t375 t376 _ A5.out).mono ?_); rintro e w11 ⟨rfl, hb⟩; refine ⟨_, rfl, ?_⟩; have n0_ := Aside0.mk (below_step (by repeat (first | (with_reducible first | exact HB.out | apply below_alloc | apply pw_below_drewN | apply below_drew1) | exact HB.out)) hb); clear HB; have HB := n0_; clear n0_; (try clear hb); (try clear hb2); (try clear hk); (try clear hi)) | ((with_reducible refine gate_callee (f := 20) rfl ?_); refine goesL_ (some 15) rfl rfl Try.func20 (by kernel_rfl) rfl #[.int .u64 a1] rfl (by (try simp only [List.map_toArray, List.map_cons, List.map_nil]); first | done | rfl | (simp only [List.length_drop, List.length_take]; rfl)) ?_; (with_reducible refine (sat_Of.calls a1 t377 t378 _ A6.out).mono ?_); rintro e w12 ⟨rfl, hb⟩; refine ⟨_, rfl, ?_⟩; have n0_ := Aside0.mk (below_step (by repeat (first | (with_reducible first | exact HB.out | apply below_alloc | apply pw_below_drewN | apply below_drew1) | exact HB.out)) hb); clear HB; have HB := n0_; clear n0_; (try clear hb); (try clear hb2); (try clear hk); (try clear hi)) | ((with_reducible refine gate_callee (f := 19) rfl ?_); refine goesL_ (some 16) rfl rfl Try.func19 (by kernel_rfl) rfl #[.agg #[.int .u64 t375, .int .u64 t376], .agg #[.int .u64 t377, .int .u64 t378]] rfl (by (try simp only [List.map_toArray, List.map_cons, List.map_nil]); first | done | rfl | (simp only [List.length_drop, List.length_take]; rfl)) ?_; (with_reducible refine (sat_Wide_Plus.calls t375 t376 t377 t378 t379 t380 _ A7.out).mono ?_); rintro e w13 ⟨rfl, hb⟩; refine ⟨_, rfl, ?_⟩; have n0_ := Aside0.mk (below_step (by repeat (first | (with_reducible first | exact HB.out | apply below_alloc | apply pw_below_drewN | apply below_drew1) | exact HB.out)) hb); clear HB; have HB := n0_; clear n0_; (try clear hb); (try clear hb2); (try clear hk); (try clear hi)) | ((with_reducible refine gate_callee (f := 18) rfl ?_); refine goesL_ (some 17) rfl rfl Try.func18 (by kernel_rfl) rfl #[.agg #[.int .u64 t379, .int .u64 t380]] rfl (by (try simp only [List.map_toArray, List.map_cons, List.map_nil]); first | done | rfl | (simp only [List.length_drop, List.length_take]; rfl)) ?_; (with_reducible refine (sat_Wide_Narrow.calls t379 t380 t381 t382 _ A8.out).mono ?_); rintro e w14 ⟨rfl, hb⟩; refine ⟨_, rfl, ?_⟩; have n0_ := Aside0.mk (below_step (by repeat (first | (with_reducible first | exact HB.out | apply below_alloc | apply pw_below_drewN | apply below_drew1) | exact HB.out)) hb); clear HB; have HB := n0_; clear n0_; (try clear hb); (try clear hb2); (try clear hk); (try clear hi)))
    (try simp only [Act.put, List.setIfInBounds_toArray, List.set_cons_zero, List.set_cons_succ])
    go_cut [5] (fun v5 wc => ∃ (kq : Nat) (x5_8 : Int), v5 = .int .u64 x5_8 ∧ Aside0 (turnstilelaw03_SatLadder.j0 kq a0 a1 x5_8 = some r) ∧ Aside0 (kq ≤ k) ∧ Aside0 (Below w.heap.size w wc))
    case first =>
      have H := HC9.out
      clear HC9
      by_cases c15 : t382 = true
      · subst c15
        have H1 : (turnstilelaw03_SatLadder.j0 k a0 a1 t381) = some r := by rw [if_pos rfl] at H; exact H
        clear H
        have H := H1
        clear H1
        have H' := Aside0.mk H
        clear H
        go_wp2
        go_meet
        case rel => exact ⟨_, (t381), (by first | rfl | (simp; done) | (simp [*]; done)), H', ⟨by first | omega | exact Nat.le_refl _⟩, ⟨by repeat (first | (with_reducible first | exact HB.out | apply below_alloc | apply pw_below_drewN | apply below_drew1) | exact HB.out)⟩⟩
      · replace c15 := Bool.eq_false_iff.mpr c15
        subst c15
        have H1 : (turnstilelaw03_SatLadder.j0 k a0 a1 18446744073709551615) = some r := by rw [if_neg (show ¬ (false = true) by decide)] at H; exact H
        clear H
        have H := H1
        clear H1
        have H' := Aside0.mk H
        clear H
        go_wp2
        go_meet
        case rel => exact ⟨_, (18446744073709551615), (by first | rfl | (simp; done) | (simp [*]; done)), H', ⟨by first | omega | exact Nat.le_refl _⟩, ⟨by repeat (first | (with_reducible first | exact HB.out | apply below_alloc | apply pw_below_drewN | apply below_drew1) | exact HB.out)⟩⟩
    case rest =>
      clear HC9
      try clear c1
      try clear c2
      try clear p2
      try clear c4
      try clear c7
      try clear c15
      obtain ⟨kq, x5_8, rfl, HA, HJ8, HB⟩ := hcut
      cases kq with
      | zero => exact absurd HA.out (by simp [turnstilelaw03_SatLadder.j0])
      | succ kj8 =>
        have H := HA.out
        clear HA
        simp only [turnstilelaw03_SatLadder.j0] at H
        replace H := Option.bind_eq_some_iff.mp H
        obtain ⟨⟨t383, t384⟩, A160, H⟩ := H
        replace H : ((sat_Wide_Narrow.f t383 t384).bind fun bt385 => (if bt385.2 = true then (turnstilelaw03_SatLadder.j1 kj8 a0 a1 x5_8 bt385.1) else (turnstilelaw03_SatLadder.j1 kj8 a0 a1 x5_8 18446744073709551615))) = some r := H
        have A16 := Aside0.mk A160
        clear A160
        replace H := Option.bind_eq_some_iff.mp H
        obtain ⟨⟨t385, t386⟩, A170, H⟩ := H
        replace H : (if t386 = true then (turnstilelaw03_SatLadder.j1 kj8 a0 a1 x5_8 t385) else (turnstilelaw03_SatLadder.j1 kj8 a0 a1 x5_8 18446744073709551615)) = some r := H
        have A17 := Aside0.mk A170
        clear A170
        have HC18 := Aside0.mk H
        clear H
        go_upto_if 30 with (first | ((with_reducible refine gate_callee (f := 17) rfl ?_); refine goesL_ (some 25) rfl rfl Try.func17 (by kernel_rfl) rfl #[.int .u64 a0, .int .u64 a1] rfl (by (try simp only [List.map_toArray, List.map_cons, List.map_nil]); first | done | rfl | (simp only [List.length_drop, List.length_take]; rfl)) ?_; (with_reducible refine (sat_Product.calls a0 a1 t383 t384 _ A16.out).mono ?_); rintro e w19 ⟨rfl, hb⟩; refine ⟨_, rfl, ?_⟩; have n0_ := Aside0.mk (below_step (by repeat (first | (with_reducible first | exact HB.out | apply below_alloc | apply pw_below_drewN | apply below_drew1) | exact HB.out)) hb); clear HB; have HB := n0_; clear n0_; (try clear hb); (try clear hb2); (try clear hk); (try clear hi)) | ((with_reducible refine gate_callee (f := 18) rfl ?_); refine goesL_ (some 26) rfl rfl Try.func18 (by kernel_rfl) rfl #[.agg #[.int .u64 t383, .int .u64 t384]] rfl (by (try simp only [List.map_toArray, List.map_cons, List.map_nil]); first | done | rfl | (simp only [List.length_drop, List.length_take]; rfl)) ?_; (with_reducible refine (sat_Wide_Narrow.calls t383 t384 t385 t386 _ A17.out).mono ?_); rintro e w20 ⟨rfl, hb⟩; refine ⟨_, rfl, ?_⟩; have n0_ := Aside0.mk (below_step (by repeat (first | (with_reducible first | exact HB.out | apply below_alloc | apply pw_below_drewN | apply below_drew1) | exact HB.out)) hb); clear HB; have HB := n0_; clear n0_; (try clear hb); (try clear hb2); (try clear hk); (try clear hi)))
        (try simp only [Act.put, List.setIfInBounds_toArray, List.set_cons_zero, List.set_cons_succ])
        go_cut [7] (fun v7 wc => ∃ (kq : Nat) (x7_17 : Int), v7 = .int .u64 x7_17 ∧ Aside0 (turnstilelaw03_SatLadder.j1 kq a0 a1 x5_8 x7_17 = some r) ∧ Aside0 (kq ≤ kj8) ∧ Aside0 (Below w.heap.size w wc))
        case first =>
          have H := HC18.out
          clear HC18
          by_cases c21 : t386 = true
          · subst c21
            have H1 : (turnstilelaw03_SatLadder.j1 kj8 a0 a1 x5_8 t385) = some r := by rw [if_pos rfl] at H; exact H
            clear H
            have H := H1
            clear H1
            have H' := Aside0.mk H
            clear H
            go_wp2
            go_meet
            case rel => exact ⟨_, (t385), (by first | rfl | (simp; done) | (simp [*]; done)), H', ⟨by have := HJ8.out; first | omega | exact Nat.le_refl _⟩, ⟨by repeat (first | (with_reducible first | exact HB.out | apply below_alloc | apply pw_below_drewN | apply below_drew1) | exact HB.out)⟩⟩
          · replace c21 := Bool.eq_false_iff.mpr c21
            subst c21
            have H1 : (turnstilelaw03_SatLadder.j1 kj8 a0 a1 x5_8 18446744073709551615) = some r := by rw [if_neg (show ¬ (false = true) by decide)] at H; exact H
            clear H
            have H := H1
            clear H1
            have H' := Aside0.mk H
            clear H
            go_wp2
            go_meet
            case rel => exact ⟨_, (18446744073709551615), (by first | rfl | (simp; done) | (simp [*]; done)), H', ⟨by have := HJ8.out; first | omega | exact Nat.le_refl _⟩, ⟨by repeat (first | (with_reducible first | exact HB.out | apply below_alloc | apply pw_below_drewN | apply below_drew1) | exact HB.out)⟩⟩
        case rest =>
          clear HC18
          try clear c1
          try clear c2
          try clear p2
          try clear c4
          try clear c7
          try clear c15
          try clear c17
          try clear c18
          try clear c19
          try clear c20
          try clear c21
          try clear p2
          obtain ⟨kq, x7_17, rfl, HA, HJ17, HB⟩ := hcut
          cases kq with
          | zero => exact absurd HA.out (by simp [turnstilelaw03_SatLadder.j1])
          | succ kj17 =>
            have H := HA.out
            clear HA
            simp only [turnstilelaw03_SatLadder.j1] at H
            replace H := Option.bind_eq_some_iff.mp H
            obtain ⟨⟨t387, t388⟩, A220, H⟩ := H
            replace H : ((sat_Of.f a1).bind fun bt389 => ((sat_Wide_Minus.f t387 t388 bt389.1 bt389.2).bind fun bt391 => ((sat_Wide_Narrow.f bt391.1 bt391.2).bind fun bt393 => (if bt393.2 = true then ((sat_Add.f a0 a1).bind fun t395 => (if x5_8 = t395 then ((sat_Mul.f a0 a1).bind fun t396 => (if x7_17 = t396 then ((sat_Sub.f a0 a1).bind fun t397 => (if bt393.1 = t397 then ((sat_Of.f a0).bind fun bt398 => ((sat_Of.f a1).bind fun bt400 => ((sat_Wide_Cmp.f bt398.1 bt398.2 bt400.1 bt400.2).bind fun t402 => (some ((decide (a0 < a1)) == (decide (t402 < 0))))))) else (some false))) else (some false))) else (some false))) else (some false))))) = some r := H
            have A22 := Aside0.mk A220
            clear A220
            replace H := Option.bind_eq_some_iff.mp H
            obtain ⟨⟨t389, t390⟩, A230, H⟩ := H
            replace H : ((sat_Wide_Minus.f t387 t388 t389 t390).bind fun bt391 => ((sat_Wide_Narrow.f bt391.1 bt391.2).bind fun bt393 => (if bt393.2 = true then ((sat_Add.f a0 a1).bind fun t395 => (if x5_8 = t395 then ((sat_Mul.f a0 a1).bind fun t396 => (if x7_17 = t396 then ((sat_Sub.f a0 a1).bind fun t397 => (if bt393.1 = t397 then ((sat_Of.f a0).bind fun bt398 => ((sat_Of.f a1).bind fun bt400 => ((sat_Wide_Cmp.f bt398.1 bt398.2 bt400.1 bt400.2).bind fun t402 => (some ((decide (a0 < a1)) == (decide (t402 < 0))))))) else (some false))) else (some false))) else (some false))) else (some false)))) = some r := H
            have A23 := Aside0.mk A230
            clear A230
            replace H := Option.bind_eq_some_iff.mp H
            obtain ⟨⟨t391, t392⟩, A240, H⟩ := H
            replace H : ((sat_Wide_Narrow.f t391 t392).bind fun bt393 => (if bt393.2 = true then ((sat_Add.f a0 a1).bind fun t395 => (if x5_8 = t395 then ((sat_Mul.f a0 a1).bind fun t396 => (if x7_17 = t396 then ((sat_Sub.f a0 a1).bind fun t397 => (if bt393.1 = t397 then ((sat_Of.f a0).bind fun bt398 => ((sat_Of.f a1).bind fun bt400 => ((sat_Wide_Cmp.f bt398.1 bt398.2 bt400.1 bt400.2).bind fun t402 => (some ((decide (a0 < a1)) == (decide (t402 < 0))))))) else (some false))) else (some false))) else (some false))) else (some false))) = some r := H
            have A24 := Aside0.mk A240
            clear A240
            replace H := Option.bind_eq_some_iff.mp H
            obtain ⟨⟨t393, t394⟩, A250, H⟩ := H
            replace H : (if t394 = true then ((sat_Add.f a0 a1).bind fun t395 => (if x5_8 = t395 then ((sat_Mul.f a0 a1).bind fun t396 => (if x7_17 = t396 then ((sat_Sub.f a0 a1).bind fun t397 => (if t393 = t397 then ((sat_Of.f a0).bind fun bt398 => ((sat_Of.f a1).bind fun bt400 => ((sat_Wide_Cmp.f bt398.1 bt398.2 bt400.1 bt400.2).bind fun t402 => (some ((decide (a0 < a1)) == (decide (t402 < 0))))))) else (some false))) else (some false))) else (some false))) else (some false)) = some r := H
            have A25 := Aside0.mk A250
            clear A250
            by_cases c26 : t394 = true
            · subst c26
              have H1 : ((sat_Add.f a0 a1).bind fun t395 => (if x5_8 = t395 then ((sat_Mul.f a0 a1).bind fun t396 => (if x7_17 = t396 then ((sat_Sub.f a0 a1).bind fun t397 => (if t393 = t397 then ((sat_Of.f a0).bind fun bt398 => ((sat_Of.f a1).bind fun bt400 => ((sat_Wide_Cmp.f bt398.1 bt398.2 bt400.1 bt400.2).bind fun t402 => (some ((decide (a0 < a1)) == (decide (t402 < 0))))))) else (some false))) else (some false))) else (some false))) = some r := by rw [if_pos rfl] at H; exact H
              clear H
              have H := H1
              clear H1
              replace H := Option.bind_eq_some_iff.mp H
              obtain ⟨t395, A270, H⟩ := H
              replace H : (if x5_8 = t395 then ((sat_Mul.f a0 a1).bind fun t396 => (if x7_17 = t396 then ((sat_Sub.f a0 a1).bind fun t397 => (if t393 = t397 then ((sat_Of.f a0).bind fun bt398 => ((sat_Of.f a1).bind fun bt400 => ((sat_Wide_Cmp.f bt398.1 bt398.2 bt400.1 bt400.2).bind fun t402 => (some ((decide (a0 < a1)) == (decide (t402 < 0))))))) else (some false))) else (some false))) else (some false)) = some r := H
              have A27 := Aside0.mk A270
              clear A270
              by_cases c28 : x5_8 = t395
              · rw [if_pos c28] at H
                have c28b0 : (x5_8 == t395) = true := beq_iff_eq.mpr c28
                have c28b1 : (x5_8 != t395) = false := bne_eq_false_iff_eq.mpr c28
                clear c28
                replace H := Option.bind_eq_some_iff.mp H
                obtain ⟨t396, A290, H⟩ := H
                replace H : (if x7_17 = t396 then ((sat_Sub.f a0 a1).bind fun t397 => (if t393 = t397 then ((sat_Of.f a0).bind fun bt398 => ((sat_Of.f a1).bind fun bt400 => ((sat_Wide_Cmp.f bt398.1 bt398.2 bt400.1 bt400.2).bind fun t402 => (some ((decide (a0 < a1)) == (decide (t402 < 0))))))) else (some false))) else (some false)) = some r := H
                have A29 := Aside0.mk A290
                clear A290
                by_cases c30 : x7_17 = t396
                · rw [if_pos c30] at H
                  have c30b0 : (x7_17 == t396) = true := beq_iff_eq.mpr c30
                  have c30b1 : (x7_17 != t396) = false := bne_eq_false_iff_eq.mpr c30
                  clear c30
                  replace H := Option.bind_eq_some_iff.mp H
                  obtain ⟨t397, A310, H⟩ := H
                  replace H : (if t393 = t397 then ((sat_Of.f a0).bind fun bt398 => ((sat_Of.f a1).bind fun bt400 => ((sat_Wide_Cmp.f bt398.1 bt398.2 bt400.1 bt400.2).bind fun t402 => (some ((decide (a0 < a1)) == (decide (t402 < 0))))))) else (some false)) = some r := H
                  have A31 := Aside0.mk A310
                  clear A310
                  by_cases c32 : t393 = t397
                  · rw [if_pos c32] at H
                    have c32b0 : (t393 == t397) = true := beq_iff_eq.mpr c32
                    have c32b1 : (t393 != t397) = false := bne_eq_false_iff_eq.mpr c32
                    clear c32
                    replace H := Option.bind_eq_some_iff.mp H
                    obtain ⟨⟨t398, t399⟩, A330, H⟩ := H
                    replace H : ((sat_Of.f a1).bind fun bt400 => ((sat_Wide_Cmp.f t398 t399 bt400.1 bt400.2).bind fun t402 => (some ((decide (a0 < a1)) == (decide (t402 < 0)))))) = some r := H
                    have A33 := Aside0.mk A330
                    clear A330
                    replace H := Option.bind_eq_some_iff.mp H
                    obtain ⟨⟨t400, t401⟩, A340, H⟩ := H
                    replace H : ((sat_Wide_Cmp.f t398 t399 t400 t401).bind fun t402 => (some ((decide (a0 < a1)) == (decide (t402 < 0))))) = some r := H
                    have A34 := Aside0.mk A340
                    clear A340
                    replace H := Option.bind_eq_some_iff.mp H
                    obtain ⟨t402, A350, H⟩ := H
                    replace H : (some ((decide (a0 < a1)) == (decide (t402 < 0)))) = some r := H
                    have A35 := Aside0.mk A350
                    clear A350
                    obtain rfl := Option.some.inj H
                    go_wp2_with (first | ((with_reducible refine gate_callee (f := 20) rfl ?_); refine goesL_ (some 33) rfl rfl Try.func20 (by kernel_rfl) rfl #[.int .u64 a0] rfl (by (try simp only [List.map_toArray, List.map_cons, List.map_nil]); first | done | rfl | (simp only [List.length_drop, List.length_take]; rfl)) ?_; (with_reducible refine (sat_Of.calls a0 t387 t388 _ A22.out).mono ?_); rintro e w36 ⟨rfl, hb⟩; refine ⟨_, rfl, ?_⟩; have n0_ := Aside0.mk (below_step (by repeat (first | (with_reducible first | exact HB.out | apply below_alloc | apply pw_below_drewN | apply below_drew1) | exact HB.out)) hb); clear HB; have HB := n0_; clear n0_; (try clear hb); (try clear hb2); (try clear hk); (try clear hi)) | ((with_reducible refine gate_callee (f := 20) rfl ?_); refine goesL_ (some 35) rfl rfl Try.func20 (by kernel_rfl) rfl #[.int .u64 a1] rfl (by (try simp only [List.map_toArray, List.map_cons, List.map_nil]); first | done | rfl | (simp only [List.length_drop, List.length_take]; rfl)) ?_; (with_reducible refine (sat_Of.calls a1 t389 t390 _ A23.out).mono ?_); rintro e w37 ⟨rfl, hb⟩; refine ⟨_, rfl, ?_⟩; have n0_ := Aside0.mk (below_step (by repeat (first | (with_reducible first | exact HB.out | apply below_alloc | apply pw_below_drewN | apply below_drew1) | exact HB.out)) hb); clear HB; have HB := n0_; clear n0_; (try clear hb); (try clear hb2); (try clear hk); (try clear hi)) | ((with_reducible refine gate_callee (f := 22) rfl ?_); refine goesL_ (some 36) rfl rfl Try.func22 (by kernel_rfl) rfl #[.agg #[.int .u64 t387, .int .u64 t388], .agg #[.int .u64 t389, .int .u64 t390]] rfl (by (try simp only [List.map_toArray, List.map_cons, List.map_nil]); first | done | rfl | (simp only [List.length_drop, List.length_take]; rfl)) ?_; (with_reducible refine (sat_Wide_Minus.calls t387 t388 t389 t390 t391 t392 _ A24.out).mono ?_); rintro e w38 ⟨rfl, hb⟩; refine ⟨_, rfl, ?_⟩; have n0_ := Aside0.mk (below_step (by repeat (first | (with_reducible first | exact HB.out | apply below_alloc | apply pw_below_drewN | apply below_drew1) | exact HB.out)) hb); clear HB; have HB := n0_; clear n0_; (try clear hb); (try clear hb2); (try clear hk); (try clear hi)) | ((with_reducible refine gate_callee (f := 18) rfl ?_); refine goesL_ (some 37) rfl rfl Try.func18 (by kernel_rfl) rfl #[.agg #[.int .u64 t391, .int .u64 t392]] rfl (by (try simp only [List.map_toArray, List.map_cons, List.map_nil]); first | done | rfl | (simp only [List.length_drop, List.length_take]; rfl)) ?_; (with_reducible refine (sat_Wide_Narrow.calls t391 t392 t393 true _ A25.out).mono ?_); rintro e w39 ⟨rfl, hb⟩; refine ⟨_, rfl, ?_⟩; have n0_ := Aside0.mk (below_step (by repeat (first | (with_reducible first | exact HB.out | apply below_alloc | apply pw_below_drewN | apply below_drew1) | exact HB.out)) hb); clear HB; have HB := n0_; clear n0_; (try clear hb); (try clear hb2); (try clear hk); (try clear hi)) | (go_at_call 24; (with_reducible refine (sat_Add.calls a0 a1 t395 _ A27.out).mono ?_); rintro e w' ⟨rfl, ⟨nd, rfl⟩⟩) | (go_at_call 25; (with_reducible refine (sat_Mul.calls a0 a1 t396 _ A29.out).mono ?_); rintro e w' ⟨rfl, ⟨nd, rfl⟩⟩) | (go_at_call 26; (with_reducible refine (sat_Sub.calls a0 a1 t397 _ A31.out).mono ?_); rintro e w' ⟨rfl, ⟨nd, rfl⟩⟩) | (go_at_call 20; (with_reducible refine (sat_Of.calls a0 t398 t399 _ A33.out).mono ?_); rintro e w40 ⟨rfl, hb⟩; have n0_ := Aside0.mk (below_step (by repeat (first | (with_reducible first | exact HB.out | apply below_alloc | apply pw_below_drewN | apply below_drew1) | exact HB.out)) hb); clear HB; have HB := n0_; clear n0_; (try clear hb); (try clear hb2); (try clear hk); (try clear hi)) | (go_at_call 20; (with_reducible refine (sat_Of.calls a1 t400 t401 _ A34.out).mono ?_); rintro e w41 ⟨rfl, hb⟩; have n0_ := Aside0.mk (below_step (by repeat (first | (with_reducible first | exact HB.out | apply below_alloc | apply pw_below_drewN | apply below_drew1) | exact HB.out)) hb); clear HB; have HB := n0_; clear n0_; (try clear hb); (try clear hb2); (try clear hk); (try clear hi)) | (go_at_call 21; (with_reducible refine (sat_Wide_Cmp.calls t398 t399 t400 t401 t402 _ A35.out).mono ?_); rintro e w42 ⟨rfl, hb⟩; have n0_ := Aside0.mk (below_step (by repeat (first | (with_reducible first | exact HB.out | apply below_alloc | apply pw_below_drewN | apply below_drew1) | exact HB.out)) hb); clear HB; have HB := n0_; clear n0_; (try clear hb); (try clear hb2); (try clear hk); (try clear hi)))
                    go_ret
                    exact ⟨by first | rfl | (simp [errW_none, errW_some] <;> rfl) | (simp [*, errW_none, errW_some] <;> rfl), by repeat (first | (with_reducible first | exact HB.out | apply below_alloc | apply pw_below_drewN | apply below_drew1) | exact HB.out)⟩
                  · rw [if_neg c32] at H
                    have c32b0 : (t393 == t397) = false := beq_eq_false_iff_ne.mpr c32
                    have c32b1 : (t393 != t397) = true := bne_iff_ne.mpr c32
                    obtain rfl := Option.some.inj H
                    go_wp2_with (first | ((with_reducible refine gate_callee (f := 20) rfl ?_); refine goesL_ (some 33) rfl rfl Try.func20 (by kernel_rfl) rfl #[.int .u64 a0] rfl (by (try simp only [List.map_toArray, List.map_cons, List.map_nil]); first | done | rfl | (simp only [List.length_drop, List.length_take]; rfl)) ?_; (with_reducible refine (sat_Of.calls a0 t387 t388 _ A22.out).mono ?_); rintro e w43 ⟨rfl, hb⟩; refine ⟨_, rfl, ?_⟩; have n0_ := Aside0.mk (below_step (by repeat (first | (with_reducible first | exact HB.out | apply below_alloc | apply pw_below_drewN | apply below_drew1) | exact HB.out)) hb); clear HB; have HB := n0_; clear n0_; (try clear hb); (try clear hb2); (try clear hk); (try clear hi)) | ((with_reducible refine gate_callee (f := 20) rfl ?_); refine goesL_ (some 35) rfl rfl Try.func20 (by kernel_rfl) rfl #[.int .u64 a1] rfl (by (try simp only [List.map_toArray, List.map_cons, List.map_nil]); first | done | rfl | (simp only [List.length_drop, List.length_take]; rfl)) ?_; (with_reducible refine (sat_Of.calls a1 t389 t390 _ A23.out).mono ?_); rintro e w44 ⟨rfl, hb⟩; refine ⟨_, rfl, ?_⟩; have n0_ := Aside0.mk (below_step (by repeat (first | (with_reducible first | exact HB.out | apply below_alloc | apply pw_below_drewN | apply below_drew1) | exact HB.out)) hb); clear HB; have HB := n0_; clear n0_; (try clear hb); (try clear hb2); (try clear hk); (try clear hi)) | ((with_reducible refine gate_callee (f := 22) rfl ?_); refine goesL_ (some 36) rfl rfl Try.func22 (by kernel_rfl) rfl #[.agg #[.int .u64 t387, .int .u64 t388], .agg #[.int .u64 t389, .int .u64 t390]] rfl (by (try simp only [List.map_toArray, List.map_cons, List.map_nil]); first | done | rfl | (simp only [List.length_drop, List.length_take]; rfl)) ?_; (with_reducible refine (sat_Wide_Minus.calls t387 t388 t389 t390 t391 t392 _ A24.out).mono ?_); rintro e w45 ⟨rfl, hb⟩; refine ⟨_, rfl, ?_⟩; have n0_ := Aside0.mk (below_step (by repeat (first | (with_reducible first | exact HB.out | apply below_alloc | apply pw_below_drewN | apply below_drew1) | exact HB.out)) hb); clear HB; have HB := n0_; clear n0_; (try clear hb); (try clear hb2); (try clear hk); (try clear hi)) | ((with_reducible refine gate_callee (f := 18) rfl ?_); refine goesL_ (some 37) rfl rfl Try.func18 (by kernel_rfl) rfl #[.agg #[.int .u64 t391, .int .u64 t392]] rfl (by (try simp only [List.map_toArray, List.map_cons, List.map_nil]); first | done | rfl | (simp only [List.length_drop, List.length_take]; rfl)) ?_; (with_reducible refine (sat_Wide_Narrow.calls t391 t392 t393 true _ A25.out).mono ?_); rintro e w46 ⟨rfl, hb⟩; refine ⟨_, rfl, ?_⟩; have n0_ := Aside0.mk (below_step (by repeat (first | (with_reducible first | exact HB.out | apply below_alloc | apply pw_below_drewN | apply below_drew1) | exact HB.out)) hb); clear HB; have HB := n0_; clear n0_; (try clear hb); (try clear hb2); (try clear hk); (try clear hi)) | (go_at_call 24; (with_reducible refine (sat_Add.calls a0 a1 t395 _ A27.out).mono ?_); rintro e w' ⟨rfl, ⟨nd, rfl⟩⟩) | (go_at_call 25; (with_reducible refine (sat_Mul.calls a0 a1 t396 _ A29.out).mono ?_); rintro e w' ⟨rfl, ⟨nd, rfl⟩⟩) | (go_at_call 26; (with_reducible refine (sat_Sub.calls a0 a1 t397 _ A31.out).mono ?_); rintro e w' ⟨rfl, ⟨nd, rfl⟩⟩))
                    go_ret
                    exact ⟨by first | rfl | (simp [errW_none, errW_some] <;> rfl) | (simp [*, errW_none, errW_some] <;> rfl), by repeat (first | (with_reducible first | exact HB.out | apply below_alloc | apply pw_below_drewN | apply below_drew1) | exact HB.out)⟩
                · rw [if_neg c30] at H
                  have c30b0 : (x7_17 == t396) = false := beq_eq_false_iff_ne.mpr c30
                  have c30b1 : (x7_17 != t396) = true := bne_iff_ne.mpr c30
                  obtain rfl := Option.some.inj H
                  go_wp2_with (first | ((with_reducible refine gate_callee (f := 20) rfl ?_); refine goesL_ (some 33) rfl rfl Try.func20 (by kernel_rfl) rfl #[.int .u64 a0] rfl (by (try simp only [List.map_toArray, List.map_cons, List.map_nil]); first | done | rfl | (simp only [List.length_drop, List.length_take]; rfl)) ?_; (with_reducible refine (sat_Of.calls a0 t387 t388 _ A22.out).mono ?_); rintro e w47 ⟨rfl, hb⟩; refine ⟨_, rfl, ?_⟩; have n0_ := Aside0.mk (below_step (by repeat (first | (with_reducible first | exact HB.out | apply below_alloc | apply pw_below_drewN | apply below_drew1) | exact HB.out)) hb); clear HB; have HB := n0_; clear n0_; (try clear hb); (try clear hb2); (try clear hk); (try clear hi)) | ((with_reducible refine gate_callee (f := 20) rfl ?_); refine goesL_ (some 35) rfl rfl Try.func20 (by kernel_rfl) rfl #[.int .u64 a1] rfl (by (try simp only [List.map_toArray, List.map_cons, List.map_nil]); first | done | rfl | (simp only [List.length_drop, List.length_take]; rfl)) ?_; (with_reducible refine (sat_Of.calls a1 t389 t390 _ A23.out).mono ?_); rintro e w48 ⟨rfl, hb⟩; refine ⟨_, rfl, ?_⟩; have n0_ := Aside0.mk (below_step (by repeat (first | (with_reducible first | exact HB.out | apply below_alloc | apply pw_below_drewN | apply below_drew1) | exact HB.out)) hb); clear HB; have HB := n0_; clear n0_; (try clear hb); (try clear hb2); (try clear hk); (try clear hi)) | ((with_reducible refine gate_callee (f := 22) rfl ?_); refine goesL_ (some 36) rfl rfl Try.func22 (by kernel_rfl) rfl #[.agg #[.int .u64 t387, .int .u64 t388], .agg #[.int .u64 t389, .int .u64 t390]] rfl (by (try simp only [List.map_toArray, List.map_cons, List.map_nil]); first | done | rfl | (simp only [List.length_drop, List.length_take]; rfl)) ?_; (with_reducible refine (sat_Wide_Minus.calls t387 t388 t389 t390 t391 t392 _ A24.out).mono ?_); rintro e w49 ⟨rfl, hb⟩; refine ⟨_, rfl, ?_⟩; have n0_ := Aside0.mk (below_step (by repeat (first | (with_reducible first | exact HB.out | apply below_alloc | apply pw_below_drewN | apply below_drew1) | exact HB.out)) hb); clear HB; have HB := n0_; clear n0_; (try clear hb); (try clear hb2); (try clear hk); (try clear hi)) | ((with_reducible refine gate_callee (f := 18) rfl ?_); refine goesL_ (some 37) rfl rfl Try.func18 (by kernel_rfl) rfl #[.agg #[.int .u64 t391, .int .u64 t392]] rfl (by (try simp only [List.map_toArray, List.map_cons, List.map_nil]); first | done | rfl | (simp only [List.length_drop, List.length_take]; rfl)) ?_; (with_reducible refine (sat_Wide_Narrow.calls t391 t392 t393 true _ A25.out).mono ?_); rintro e w50 ⟨rfl, hb⟩; refine ⟨_, rfl, ?_⟩; have n0_ := Aside0.mk (below_step (by repeat (first | (with_reducible first | exact HB.out | apply below_alloc | apply pw_below_drewN | apply below_drew1) | exact HB.out)) hb); clear HB; have HB := n0_; clear n0_; (try clear hb); (try clear hb2); (try clear hk); (try clear hi)) | (go_at_call 24; (with_reducible refine (sat_Add.calls a0 a1 t395 _ A27.out).mono ?_); rintro e w' ⟨rfl, ⟨nd, rfl⟩⟩) | (go_at_call 25; (with_reducible refine (sat_Mul.calls a0 a1 t396 _ A29.out).mono ?_); rintro e w' ⟨rfl, ⟨nd, rfl⟩⟩))
                  go_ret
                  exact ⟨by first | rfl | (simp [errW_none, errW_some] <;> rfl) | (simp [*, errW_none, errW_some] <;> rfl), by repeat (first | (with_reducible first | exact HB.out | apply below_alloc | apply pw_below_drewN | apply below_drew1) | exact HB.out)⟩
              · rw [if_neg c28] at H
                have c28b0 : (x5_8 == t395) = false := beq_eq_false_iff_ne.mpr c28
                have c28b1 : (x5_8 != t395) = true := bne_iff_ne.mpr c28
                obtain rfl := Option.some.inj H
                go_wp2_with (first | ((with_reducible refine gate_callee (f := 20) rfl ?_); refine goesL_ (some 33) rfl rfl Try.func20 (by kernel_rfl) rfl #[.int .u64 a0] rfl (by (try simp only [List.map_toArray, List.map_cons, List.map_nil]); first | done | rfl | (simp only [List.length_drop, List.length_take]; rfl)) ?_; (with_reducible refine (sat_Of.calls a0 t387 t388 _ A22.out).mono ?_); rintro e w51 ⟨rfl, hb⟩; refine ⟨_, rfl, ?_⟩; have n0_ := Aside0.mk (below_step (by repeat (first | (with_reducible first | exact HB.out | apply below_alloc | apply pw_below_drewN | apply below_drew1) | exact HB.out)) hb); clear HB; have HB := n0_; clear n0_; (try clear hb); (try clear hb2); (try clear hk); (try clear hi)) | ((with_reducible refine gate_callee (f := 20) rfl ?_); refine goesL_ (some 35) rfl rfl Try.func20 (by kernel_rfl) rfl #[.int .u64 a1] rfl (by (try simp only [List.map_toArray, List.map_cons, List.map_nil]); first | done | rfl | (simp only [List.length_drop, List.length_take]; rfl)) ?_; (with_reducible refine (sat_Of.calls a1 t389 t390 _ A23.out).mono ?_); rintro e w52 ⟨rfl, hb⟩; refine ⟨_, rfl, ?_⟩; have n0_ := Aside0.mk (below_step (by repeat (first | (with_reducible first | exact HB.out | apply below_alloc | apply pw_below_drewN | apply below_drew1) | exact HB.out)) hb); clear HB; have HB := n0_; clear n0_; (try clear hb); (try clear hb2); (try clear hk); (try clear hi)) | ((with_reducible refine gate_callee (f := 22) rfl ?_); refine goesL_ (some 36) rfl rfl Try.func22 (by kernel_rfl) rfl #[.agg #[.int .u64 t387, .int .u64 t388], .agg #[.int .u64 t389, .int .u64 t390]] rfl (by (try simp only [List.map_toArray, List.map_cons, List.map_nil]); first | done | rfl | (simp only [List.length_drop, List.length_take]; rfl)) ?_; (with_reducible refine (sat_Wide_Minus.calls t387 t388 t389 t390 t391 t392 _ A24.out).mono ?_); rintro e w53 ⟨rfl, hb⟩; refine ⟨_, rfl, ?_⟩; have n0_ := Aside0.mk (below_step (by repeat (first | (with_reducible first | exact HB.out | apply below_alloc | apply pw_below_drewN | apply below_drew1) | exact HB.out)) hb); clear HB; have HB := n0_; clear n0_; (try clear hb); (try clear hb2); (try clear hk); (try clear hi)) | ((with_reducible refine gate_callee (f := 18) rfl ?_); refine goesL_ (some 37) rfl rfl Try.func18 (by kernel_rfl) rfl #[.agg #[.int .u64 t391, .int .u64 t392]] rfl (by (try simp only [List.map_toArray, List.map_cons, List.map_nil]); first | done | rfl | (simp only [List.length_drop, List.length_take]; rfl)) ?_; (with_reducible refine (sat_Wide_Narrow.calls t391 t392 t393 true _ A25.out).mono ?_); rintro e w54 ⟨rfl, hb⟩; refine ⟨_, rfl, ?_⟩; have n0_ := Aside0.mk (below_step (by repeat (first | (with_reducible first | exact HB.out | apply below_alloc | apply pw_below_drewN | apply below_drew1) | exact HB.out)) hb); clear HB; have HB := n0_; clear n0_; (try clear hb); (try clear hb2); (try clear hk); (try clear hi)) | (go_at_call 24; (with_reducible refine (sat_Add.calls a0 a1 t395 _ A27.out).mono ?_); rintro e w' ⟨rfl, ⟨nd, rfl⟩⟩))
                go_ret
                exact ⟨by first | rfl | (simp [errW_none, errW_some] <;> rfl) | (simp [*, errW_none, errW_some] <;> rfl), by repeat (first | (with_reducible first | exact HB.out | apply below_alloc | apply pw_below_drewN | apply below_drew1) | exact HB.out)⟩
            · replace c26 := Bool.eq_false_iff.mpr c26
              subst c26
              have H1 : (some false) = some r := by rw [if_neg (show ¬ (false = true) by decide)] at H; exact H
              clear H
              have H := H1
              clear H1
              obtain rfl := Option.some.inj H
              go_wp2_with (first | ((with_reducible refine gate_callee (f := 20) rfl ?_); refine goesL_ (some 33) rfl rfl Try.func20 (by kernel_rfl) rfl #[.int .u64 a0] rfl (by (try simp only [List.map_toArray, List.map_cons, List.map_nil]); first | done | rfl | (simp only [List.length_drop, List.length_take]; rfl)) ?_; (with_reducible refine (sat_Of.calls a0 t387 t388 _ A22.out).mono ?_); rintro e w55 ⟨rfl, hb⟩; refine ⟨_, rfl, ?_⟩; have n0_ := Aside0.mk (below_step (by repeat (first | (with_reducible first | exact HB.out | apply below_alloc | apply pw_below_drewN | apply below_drew1) | exact HB.out)) hb); clear HB; have HB := n0_; clear n0_; (try clear hb); (try clear hb2); (try clear hk); (try clear hi)) | ((with_reducible refine gate_callee (f := 20) rfl ?_); refine goesL_ (some 35) rfl rfl Try.func20 (by kernel_rfl) rfl #[.int .u64 a1] rfl (by (try simp only [List.map_toArray, List.map_cons, List.map_nil]); first | done | rfl | (simp only [List.length_drop, List.length_take]; rfl)) ?_; (with_reducible refine (sat_Of.calls a1 t389 t390 _ A23.out).mono ?_); rintro e w56 ⟨rfl, hb⟩; refine ⟨_, rfl, ?_⟩; have n0_ := Aside0.mk (below_step (by repeat (first | (with_reducible first | exact HB.out | apply below_alloc | apply pw_below_drewN | apply below_drew1) | exact HB.out)) hb); clear HB; have HB := n0_; clear n0_; (try clear hb); (try clear hb2); (try clear hk); (try clear hi)) | ((with_reducible refine gate_callee (f := 22) rfl ?_); refine goesL_ (some 36) rfl rfl Try.func22 (by kernel_rfl) rfl #[.agg #[.int .u64 t387, .int .u64 t388], .agg #[.int .u64 t389, .int .u64 t390]] rfl (by (try simp only [List.map_toArray, List.map_cons, List.map_nil]); first | done | rfl | (simp only [List.length_drop, List.length_take]; rfl)) ?_; (with_reducible refine (sat_Wide_Minus.calls t387 t388 t389 t390 t391 t392 _ A24.out).mono ?_); rintro e w57 ⟨rfl, hb⟩; refine ⟨_, rfl, ?_⟩; have n0_ := Aside0.mk (below_step (by repeat (first | (with_reducible first | exact HB.out | apply below_alloc | apply pw_below_drewN | apply below_drew1) | exact HB.out)) hb); clear HB; have HB := n0_; clear n0_; (try clear hb); (try clear hb2); (try clear hk); (try clear hi)) | ((with_reducible refine gate_callee (f := 18) rfl ?_); refine goesL_ (some 37) rfl rfl Try.func18 (by kernel_rfl) rfl #[.agg #[.int .u64 t391, .int .u64 t392]] rfl (by (try simp only [List.map_toArray, List.map_cons, List.map_nil]); first | done | rfl | (simp only [List.length_drop, List.length_take]; rfl)) ?_; (with_reducible refine (sat_Wide_Narrow.calls t391 t392 t393 false _ A25.out).mono ?_); rintro e w58 ⟨rfl, hb⟩; refine ⟨_, rfl, ?_⟩; have n0_ := Aside0.mk (below_step (by repeat (first | (with_reducible first | exact HB.out | apply below_alloc | apply pw_below_drewN | apply below_drew1) | exact HB.out)) hb); clear HB; have HB := n0_; clear n0_; (try clear hb); (try clear hb2); (try clear hk); (try clear hi)))
              go_ret
              exact ⟨by first | rfl | (simp [errW_none, errW_some] <;> rfl) | (simp [*, errW_none, errW_some] <;> rfl), by repeat (first | (with_reducible first | exact HB.out | apply below_alloc | apply pw_below_drewN | apply below_drew1) | exact HB.out)⟩
  · replace c4 := Bool.eq_false_iff.mpr c4
    subst c4
    have H1 : (some false) = some r := by rw [if_neg (show ¬ (false = true) by decide)] at H; exact H
    clear H
    have H := H1
    clear H1
    obtain rfl := Option.some.inj H
    go_enter Try.func7, Try.ntmps7
    go_wp2_with (first | ((with_reducible refine gate_callee (f := 15) rfl ?_); refine goesL_ (some 9) rfl rfl Try.func15 (by kernel_rfl) rfl #[] rfl (by (try simp only [List.map_toArray, List.map_cons, List.map_nil]); first | done | rfl | (simp only [List.length_drop, List.length_take]; rfl)) ?_; (with_reducible refine (turnstilelaw03_awake.calls k  false _ A3.out).mono ?_); rintro e w59 ⟨rfl, hb⟩; refine ⟨_, rfl, ?_⟩; have n0_ := Aside0.mk (below_step (by repeat (first | (with_reducible first | exact HB.out | apply below_alloc | apply pw_below_drewN | apply below_drew1) | exact HB.out)) hb); clear HB; have HB := n0_; clear n0_; (try clear hb); (try clear hb2); (try clear hk); (try clear hi)))
    go_ret
    exact ⟨by first | rfl | (simp [errW_none, errW_some] <;> rfl) | (simp [*, errW_none, errW_some] <;> rfl), by repeat (first | (with_reducible first | exact HB.out | apply below_alloc | apply pw_below_drewN | apply below_drew1) | exact HB.out)⟩

/-- THE ONE PURE STATEMENT of turnstilelaw03_SatLadder: yours. -/
def turnstilelaw03_SatLadder.Pure : Prop := ∀ (a0 : Int) (a1 : Int), (Lit.int .u64 a0).wf = true → (Lit.int .u64 a1).wf = true → ∃ k, turnstilelaw03_SatLadder.f k a0 a1 = some true
theorem turnstilelaw03_SatLadder.walk (P : turnstilelaw03_SatLadder.Pure) (a0 : Int) (a1 : Int) (w : World) (w0 : (Lit.int .u64 a0).wf = true) (w1 : (Lit.int .u64 a1).wf = true) :
    Calls Try.prog 7 #[.int .u64 a0, .int .u64 a1] w fun e w' => e = .returned (.bool true) ∧ Below w.heap.size w w' := by
  obtain ⟨k, h⟩ := P a0 a1 w0 w1
  refine (turnstilelaw03_SatLadder.calls k a0 a1 true w h).mono ?_
  rintro e w' ⟨rfl, hd⟩
  exact ⟨rfl, hd⟩

/-! ### gcra_room: function 55 -/
def gcra_room.f (a0 : Int) (a1 : Int) (a2 : Int) : Option (Bool) := (sat_Product.f a2 a0).bind fun bt403 => ((sat_Of.f a1).bind fun bt405 => ((sat_Wide_Plus.f bt403.1 bt403.2 bt405.1 bt405.2).bind fun bt407 => ((sat_Of.f 18446744073709551615).bind fun bt409 => ((sat_Wide_Cmp.f bt407.1 bt407.2 bt409.1 bt409.2).bind fun t411 => (some (decide (t411 ≤ 0)))))))
set_option maxHeartbeats 8000000 in
set_option maxRecDepth 100000 in
theorem gcra_room.calls (a0 : Int) (a1 : Int) (a2 : Int) (r : Bool) (w : World) (h : gcra_room.f a0 a1 a2 = some r) :
    Calls Try.prog 55 #[.int .u64 a0, .int .u64 a1, .int .u64 a2] w fun e w' => e = .returned (.bool r) ∧ Below w.heap.size w w' := by
  have HB := Aside0.mk (Below.refl w.heap.size w)
  have H : ((sat_Product.f a2 a0).bind fun bt403 => ((sat_Of.f a1).bind fun bt405 => ((sat_Wide_Plus.f bt403.1 bt403.2 bt405.1 bt405.2).bind fun bt407 => ((sat_Of.f 18446744073709551615).bind fun bt409 => ((sat_Wide_Cmp.f bt407.1 bt407.2 bt409.1 bt409.2).bind fun t411 => (some (decide (t411 ≤ 0)))))))) = some r := h
  clear h
  replace H := Option.bind_eq_some_iff.mp H
  obtain ⟨⟨t403, t404⟩, A40, H⟩ := H
  replace H : ((sat_Of.f a1).bind fun bt405 => ((sat_Wide_Plus.f t403 t404 bt405.1 bt405.2).bind fun bt407 => ((sat_Of.f 18446744073709551615).bind fun bt409 => ((sat_Wide_Cmp.f bt407.1 bt407.2 bt409.1 bt409.2).bind fun t411 => (some (decide (t411 ≤ 0))))))) = some r := H
  have A4 := Aside0.mk A40
  clear A40
  replace H := Option.bind_eq_some_iff.mp H
  obtain ⟨⟨t405, t406⟩, A50, H⟩ := H
  replace H : ((sat_Wide_Plus.f t403 t404 t405 t406).bind fun bt407 => ((sat_Of.f 18446744073709551615).bind fun bt409 => ((sat_Wide_Cmp.f bt407.1 bt407.2 bt409.1 bt409.2).bind fun t411 => (some (decide (t411 ≤ 0)))))) = some r := H
  have A5 := Aside0.mk A50
  clear A50
  replace H := Option.bind_eq_some_iff.mp H
  obtain ⟨⟨t407, t408⟩, A60, H⟩ := H
  replace H : ((sat_Of.f 18446744073709551615).bind fun bt409 => ((sat_Wide_Cmp.f t407 t408 bt409.1 bt409.2).bind fun t411 => (some (decide (t411 ≤ 0))))) = some r := H
  have A6 := Aside0.mk A60
  clear A60
  replace H := Option.bind_eq_some_iff.mp H
  obtain ⟨⟨t409, t410⟩, A70, H⟩ := H
  replace H : ((sat_Wide_Cmp.f t407 t408 t409 t410).bind fun t411 => (some (decide (t411 ≤ 0)))) = some r := H
  have A7 := Aside0.mk A70
  clear A70
  replace H := Option.bind_eq_some_iff.mp H
  obtain ⟨t411, A80, H⟩ := H
  replace H : (some (decide (t411 ≤ 0))) = some r := H
  have A8 := Aside0.mk A80
  clear A80
  obtain rfl := Option.some.inj H
  go_enter Try.func55, Try.ntmps55
  go_wp2_with (first | ((with_reducible refine gate_callee (f := 17) rfl ?_); refine goesL_ (some 9) rfl rfl Try.func17 (by kernel_rfl) rfl #[.int .u64 a2, .int .u64 a0] rfl (by (try simp only [List.map_toArray, List.map_cons, List.map_nil]); first | done | rfl | (simp only [List.length_drop, List.length_take]; rfl)) ?_; (with_reducible refine (sat_Product.calls a2 a0 t403 t404 _ A4.out).mono ?_); rintro e w9 ⟨rfl, hb⟩; refine ⟨_, rfl, ?_⟩; have n0_ := Aside0.mk (below_step (by repeat (first | (with_reducible first | exact HB.out | apply below_alloc | apply pw_below_drewN | apply below_drew1) | exact HB.out)) hb); clear HB; have HB := n0_; clear n0_; (try clear hb); (try clear hb2); (try clear hk); (try clear hi)) | ((with_reducible refine gate_callee (f := 20) rfl ?_); refine goesL_ (some 11) rfl rfl Try.func20 (by kernel_rfl) rfl #[.int .u64 a1] rfl (by (try simp only [List.map_toArray, List.map_cons, List.map_nil]); first | done | rfl | (simp only [List.length_drop, List.length_take]; rfl)) ?_; (with_reducible refine (sat_Of.calls a1 t405 t406 _ A5.out).mono ?_); rintro e w10 ⟨rfl, hb⟩; refine ⟨_, rfl, ?_⟩; have n0_ := Aside0.mk (below_step (by repeat (first | (with_reducible first | exact HB.out | apply below_alloc | apply pw_below_drewN | apply below_drew1) | exact HB.out)) hb); clear HB; have HB := n0_; clear n0_; (try clear hb); (try clear hb2); (try clear hk); (try clear hi)) | ((with_reducible refine gate_callee (f := 19) rfl ?_); refine goesL_ (some 12) rfl rfl Try.func19 (by kernel_rfl) rfl #[.agg #[.int .u64 t403, .int .u64 t404], .agg #[.int .u64 t405, .int .u64 t406]] rfl (by (try simp only [List.map_toArray, List.map_cons, List.map_nil]); first | done | rfl | (simp only [List.length_drop, List.length_take]; rfl)) ?_; (with_reducible refine (sat_Wide_Plus.calls t403 t404 t405 t406 t407 t408 _ A6.out).mono ?_); rintro e w11 ⟨rfl, hb⟩; refine ⟨_, rfl, ?_⟩; have n0_ := Aside0.mk (below_step (by repeat (first | (with_reducible first | exact HB.out | apply below_alloc | apply pw_below_drewN | apply below_drew1) | exact HB.out)) hb); clear HB; have HB := n0_; clear n0_; (try clear hb); (try clear hb2); (try clear hk); (try clear hi)) | ((with_reducible refine gate_callee (f := 20) rfl ?_); refine goesL_ (some 13) rfl rfl Try.func20 (by kernel_rfl) rfl #[.int .u64 18446744073709551615] rfl (by (try simp only [List.map_toArray, List.map_cons, List.map_nil]); first | done | rfl | (simp only [List.length_drop, List.length_take]; rfl)) ?_; (with_reducible refine (sat_Of.calls 18446744073709551615 t409 t410 _ A7.out).mono ?_); rintro e w12 ⟨rfl, hb⟩; refine ⟨_, rfl, ?_⟩; have n0_ := Aside0.mk (below_step (by repeat (first | (with_reducible first | exact HB.out | apply below_alloc | apply pw_below_drewN | apply below_drew1) | exact HB.out)) hb); clear HB; have HB := n0_; clear n0_; (try clear hb); (try clear hb2); (try clear hk); (try clear hi)) | ((with_reducible refine gate_callee (f := 21) rfl ?_); refine goesL_ (some 14) rfl rfl Try.func21 (by kernel_rfl) rfl #[.agg #[.int .u64 t407, .int .u64 t408], .agg #[.int .u64 t409, .int .u64 t410]] rfl (by (try simp only [List.map_toArray, List.map_cons, List.map_nil]); first | done | rfl | (simp only [List.length_drop, List.length_take]; rfl)) ?_; (with_reducible refine (sat_Wide_Cmp.calls t407 t408 t409 t410 t411 _ A8.out).mono ?_); rintro e w13 ⟨rfl, hb⟩; refine ⟨_, rfl, ?_⟩; have n0_ := Aside0.mk (below_step (by repeat (first | (with_reducible first | exact HB.out | apply below_alloc | apply pw_below_drewN | apply below_drew1) | exact HB.out)) hb); clear HB; have HB := n0_; clear n0_; (try clear hb); (try clear hb2); (try clear hk); (try clear hi)))
  go_ret
  exact ⟨by first | rfl | (simp [errW_none, errW_some] <;> rfl) | (simp [*, errW_none, errW_some] <;> rfl), by repeat (first | (with_reducible first | exact HB.out | apply below_alloc | apply pw_below_drewN | apply below_drew1) | exact HB.out)⟩

end Go.Proofs.Ythnpgilknoiaaaa.Q
