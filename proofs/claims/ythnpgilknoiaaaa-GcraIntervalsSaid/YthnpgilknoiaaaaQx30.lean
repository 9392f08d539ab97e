/- Written by the session's own program hyb.py: what functions of the program compute; Lean checks it. -/
import Derived.Test.YthnpgilknoiaaaaQx0
import Derived.Test.YthnpgilknoiaaaaQx4
import Derived.Test.YthnpgilknoiaaaaQx5
import Derived.Test.YthnpgilknoiaaaaQx6
namespace Go.Proofs.Ythnpgilknoiaaaa.Q
open Go.RowKit Go.Proofs.YthnpgilknoiaaaaW.PrintWords Go.Proofs.YthnpgilknoiaaaaW.PrintLast Go.Proofs.YthnpgilknoiaaaaW.PrintMore
attribute [local go_sem] run_Add64 run_Sub64
attribute [local go_sem] max2_int min2_int max_two min_two max_three min_three max_four min_four   -- for this text's walks alone
set_option linter.unusedVariables false
set_option linter.unusedSimpArgs false

/-! ### turnstilelaw04_room: function 37 -/
mutual
def turnstilelaw04_room.j0 : Nat → Int → Int → List Int → List Int → Int → Int → Bool → Option (Bool × Int)
  | 0, _, _, _, _, _, _, _ => none
  | k + 1, x0, x1, x2, x3, x4, x5, x28 => if x28 = true then (some (false, 0)) else ((sat_Of.f x4).bind fun bt598 => ((sat_Of.f x1).bind fun bt600 => ((sat_Wide_Plus.f bt598.1 bt598.2 bt600.1 bt600.2).bind fun bt602 => ((sat_Of.f x4).bind fun bt605 => ((sat_Product.f (IntKind.u64.wrap (x5 - 1)) x0).bind fun bt607 => ((sat_Wide_Plus.f bt605.1 bt605.2 bt607.1 bt607.2).bind fun bt609 => ((sat_Wide_Cmp.f bt609.1 bt609.2 bt602.1 bt602.2).bind fun t611 => ((sat_Of.f x4).bind fun bt612 => ((sat_Product.f x5 x0).bind fun bt614 => ((sat_Wide_Plus.f bt612.1 bt612.2 bt614.1 bt614.2).bind fun bt616 => ((sat_Of.f 0).bind fun bt619 => (turnstilelaw04_room.l0 k x0 x2 x3 x5 (decide (t611 ≤ 0)) (wrap64 ((x2.length : Int) - 1)) bt602.1 bt602.2 bt616.1 bt616.2 bt619.1 bt619.2))))))))))))
def turnstilelaw04_room.l0 : Nat → Int → List Int → List Int → Int → Bool → Int → Int → Int → Int → Int → Int → Int → Option (Bool × Int)
  | 0, _, _, _, _, _, _, _, _, _, _, _, _ => none
  | k + 1, x0, x2, x3, x5, x15, x18, x605000, x605001, x619000, x619001, x622000, x622001 => if x18 ≥ 0 then (if 0 ≤ x18 then (if x18 < (x3.length : Int) then ((sat_Product.f (rd x3 x18) x0).bind fun bt625 => ((sat_Wide_Plus.f x622000 x622001 bt625.1 bt625.2).bind fun bt627 => (if x18 < (x2.length : Int) then ((sat_Of.f (rd x2 x18)).bind fun bt630 => ((sat_Wide_Plus.f bt630.1 bt630.2 bt627.1 bt627.2).bind fun bt632 => ((sat_Product.f (IntKind.u64.wrap (x5 - 1)) x0).bind fun bt635 => ((sat_Wide_Plus.f bt632.1 bt632.2 bt635.1 bt635.2).bind fun bt637 => ((sat_Wide_Cmp.f bt637.1 bt637.2 x605000 x605001).bind fun t639 => (if t639 > 0 then (turnstilelaw04_room.j2 k x0 x2 x3 x5 false x18 x605000 x605001 x619000 x619001 bt627.1 bt627.2 bt632.1 bt632.2) else (turnstilelaw04_room.j2 k x0 x2 x3 x5 x15 x18 x605000 x605001 x619000 x619001 bt627.1 bt627.2 bt632.1 bt632.2))))))) else (none)))) else (none)) else (none)) else ((sat_Wide_Narrow.f x619000 x619001).bind fun bt622 => (if x15 = true then (some (bt622.2, bt622.1)) else (some (false, bt622.1))))
def turnstilelaw04_room.j2 : Nat → Int → List Int → List Int → Int → Bool → Int → Int → Int → Int → Int → Int → Int → Int → Int → Option (Bool × Int)
  | 0, _, _, _, _, _, _, _, _, _, _, _, _, _, _ => none
  | k + 1, x0, x2, x3, x5, x15, x18, x605000, x605001, x619000, x619001, x622000, x622001, x635000, x635001 => (sat_Product.f x5 x0).bind fun bt640 => ((sat_Wide_Plus.f x635000 x635001 bt640.1 bt640.2).bind fun bt642 => ((sat_Wide_Cmp.f bt642.1 bt642.2 x619000 x619001).bind fun t645 => (if t645 > 0 then (turnstilelaw04_room.l0 k x0 x2 x3 x5 x15 (wrap64 (x18 - 1)) x605000 x605001 bt642.1 bt642.2 x622000 x622001) else (turnstilelaw04_room.l0 k x0 x2 x3 x5 x15 (wrap64 (x18 - 1)) x605000 x605001 x619000 x619001 x622000 x622001))))
end
def turnstilelaw04_room.f (k : Nat) (a0 : Int) (a1 : Int) (l2 : List Int) (l3 : List Int) (a4 : Int) (a5 : Int) : Option (Bool × Int) := if a5 = 0 then (turnstilelaw04_room.j0 k a0 a1 l2 l3 a4 a5 true) else (turnstilelaw04_room.j0 k a0 a1 l2 l3 a4 a5 (a0 == 0))
theorem turnstilelaw04_room.mono_l : ∀ k, (∀ y0 y1 y2 y3 y4 y5 y6, LeO (turnstilelaw04_room.j0 k y0 y1 y2 y3 y4 y5 y6) (turnstilelaw04_room.j0 (k + 1) y0 y1 y2 y3 y4 y5 y6)) ∧ (∀ y0 y1 y2 y3 y4 y5 y6 y7 y8 y9 y10 y11, LeO (turnstilelaw04_room.l0 k y0 y1 y2 y3 y4 y5 y6 y7 y8 y9 y10 y11) (turnstilelaw04_room.l0 (k + 1) y0 y1 y2 y3 y4 y5 y6 y7 y8 y9 y10 y11)) ∧ (∀ y0 y1 y2 y3 y4 y5 y6 y7 y8 y9 y10 y11 y12 y13, LeO (turnstilelaw04_room.j2 k y0 y1 y2 y3 y4 y5 y6 y7 y8 y9 y10 y11 y12 y13) (turnstilelaw04_room.j2 (k + 1) y0 y1 y2 y3 y4 y5 y6 y7 y8 y9 y10 y11 y12 y13))
  | 0 => ⟨fun _ _ _ _ _ _ _ r h => by simp [turnstilelaw04_room.j0] at h, fun _ _ _ _ _ _ _ _ _ _ _ _ r h => by simp [turnstilelaw04_room.l0] at h, fun _ _ _ _ _ _ _ _ _ _ _ _ _ _ r h => by simp [turnstilelaw04_room.j2] at h⟩
  | k + 1 => by
    obtain ⟨ih0, ih1, ih2⟩ := turnstilelaw04_room.mono_l k
    refine ⟨?_, ?_, ?_⟩
    · intro y0 y1 y2 y3 y4 y5 y6
      unfold turnstilelaw04_room.j0
      repeat' first
      | (with_reducible exact ih0 _ _ _ _ _ _ _)
      | (with_reducible exact ih1 _ _ _ _ _ _ _ _ _ _ _ _)
      | (with_reducible exact ih2 _ _ _ _ _ _ _ _ _ _ _ _ _ _)
      | (with_reducible exact LeO.refl _)
      | (with_reducible exact LeO.none _)
      | (with_reducible refine LeO.ite ?_ ?_)
      | (with_reducible refine LeO.bind ?_ (fun _ => ?_))
      | exact ih0 _ _ _ _ _ _ _
      | exact ih1 _ _ _ _ _ _ _ _ _ _ _ _
      | exact ih2 _ _ _ _ _ _ _ _ _ _ _ _ _ _
      | exact LeO.none _
      | refine LeO.ite ?_ ?_
      | refine LeO.bind ?_ (fun _ => ?_)
    · intro y0 y1 y2 y3 y4 y5 y6 y7 y8 y9 y10 y11
      unfold turnstilelaw04_room.l0
      repeat' first
      | (with_reducible exact ih0 _ _ _ _ _ _ _)
      | (with_reducible exact ih1 _ _ _ _ _ _ _ _ _ _ _ _)
      | (with_reducible exact ih2 _ _ _ _ _ _ _ _ _ _ _ _ _ _)
      | (with_reducible exact LeO.refl _)
      | (with_reducible exact LeO.none _)
      | (with_reducible refine LeO.ite ?_ ?_)
      | (with_reducible refine LeO.bind ?_ (fun _ => ?_))
      | exact ih0 _ _ _ _ _ _ _
      | exact ih1 _ _ _ _ _ _ _ _ _ _ _ _
      | exact ih2 _ _ _ _ _ _ _ _ _ _ _ _ _ _
      | exact LeO.none _
      | refine LeO.ite ?_ ?_
      | refine LeO.bind ?_ (fun _ => ?_)
    · intro y0 y1 y2 y3 y4 y5 y6 y7 y8 y9 y10 y11 y12 y13
      unfold turnstilelaw04_room.j2
      repeat' first
      | (with_reducible exact ih0 _ _ _ _ _ _ _)
      | (with_reducible exact ih1 _ _ _ _ _ _ _ _ _ _ _ _)
      | (with_reducible exact ih2 _ _ _ _ _ _ _ _ _ _ _ _ _ _)
      | (with_reducible exact LeO.refl _)
      | (with_reducible exact LeO.none _)
      | (with_reducible refine LeO.ite ?_ ?_)
      | (with_reducible refine LeO.bind ?_ (fun _ => ?_))
      | exact ih0 _ _ _ _ _ _ _
      | exact ih1 _ _ _ _ _ _ _ _ _ _ _ _
      | exact ih2 _ _ _ _ _ _ _ _ _ _ _ _ _ _
      | exact LeO.none _
      | refine LeO.ite ?_ ?_
      | refine LeO.bind ?_ (fun _ => ?_)
theorem turnstilelaw04_room.mono : ∀ a0 a1 a2 a3 a4 a5 k, LeO (turnstilelaw04_room.f k a0 a1 a2 a3 a4 a5) (turnstilelaw04_room.f (k + 1) a0 a1 a2 a3 a4 a5) := by
  intro a0 a1 a2 a3 a4 a5 k
  obtain ⟨ih0, ih1, ih2⟩ := turnstilelaw04_room.mono_l k
  unfold turnstilelaw04_room.f
  repeat' first
      | (with_reducible exact ih0 _ _ _ _ _ _ _)
      | (with_reducible exact ih1 _ _ _ _ _ _ _ _ _ _ _ _)
      | (with_reducible exact ih2 _ _ _ _ _ _ _ _ _ _ _ _ _ _)
      | (with_reducible exact LeO.refl _)
      | (with_reducible exact LeO.none _)
      | (with_reducible refine LeO.ite ?_ ?_)
      | (with_reducible refine LeO.bind ?_ (fun _ => ?_))
      | exact ih0 _ _ _ _ _ _ _
      | exact ih1 _ _ _ _ _ _ _ _ _ _ _ _
      | exact ih2 _ _ _ _ _ _ _ _ _ _ _ _ _ _
      | exact LeO.none _
      | refine LeO.ite ?_ ?_
      | refine LeO.bind ?_ (fun _ => ?_)
def turnstilelaw04_room.T4 : Bool × List (List Nat × List Nat) := (true, [([], []), ([0], [0]), ([], []), ([2], [2]), ([], []), ([3, 4, 1], [3, 4]), ([1, 5, 5], [1, 5]), ([], []), ([6, 7, 6], [6, 7]), ([8], [8]), ([9, 8, 0, 1, 2, 3, 4, 5, 6, 7, 8, 9], [9])])
def turnstilelaw04_room.B4 : List Nat := [0, 1, 0, 4, 0, 31, 63, 0, 255, 511, 1023]
theorem turnstilelaw04_room.tab4 : rtab .any (opsOf Try.f37 4) = turnstilelaw04_room.T4 := by kernel_rfl
theorem turnstilelaw04_room.bits4 : waitsOk turnstilelaw04_room.T4.2 turnstilelaw04_room.B4 = true := by kernel_rfl
def turnstilelaw04_room.T10 : Bool × List (List Nat × List Nat) := (true, [([], []), ([], []), ([], []), ([1, 2], [1, 2]), ([3], [3]), ([], []), ([4, 5], [4, 5]), ([0, 6, 6], [0, 6]), ([7, 7, 0, 1, 2, 3, 4, 5, 6, 7], [7])])
def turnstilelaw04_room.B10 : List Nat := [0, 0, 0, 6, 14, 0, 62, 127, 255]
theorem turnstilelaw04_room.tab10 : rtab .any (opsOf Try.f37 10) = turnstilelaw04_room.T10 := by kernel_rfl
theorem turnstilelaw04_room.bits10 : waitsOk turnstilelaw04_room.T10.2 turnstilelaw04_room.B10 = true := by kernel_rfl
def turnstilelaw04_room.T11 : Bool × List (List Nat × List Nat) := (true, [([], []), ([], []), ([0, 1], [0, 1]), ([2], [2]), ([3], [3]), ([], []), ([4, 5, 4], [4, 5]), ([], []), ([7, 6, 6, 0, 1, 2, 3, 4, 5, 6, 7], [6, 7])])
def turnstilelaw04_room.B11 : List Nat := [0, 0, 3, 7, 15, 0, 63, 0, 255]
theorem turnstilelaw04_room.tab11 : rtab .any (opsOf Try.f37 11) = turnstilelaw04_room.T11 := by kernel_rfl
theorem turnstilelaw04_room.bits11 : waitsOk turnstilelaw04_room.T11.2 turnstilelaw04_room.B11 = true := by kernel_rfl
def turnstilelaw04_room.T12 : Bool × List (List Nat × List Nat) := (true, [([], []), ([], []), ([1], [1]), ([], []), ([2, 3], [2, 3]), ([0, 4, 4], [0, 4]), ([], []), ([5, 6, 5], [5, 6]), ([7], [7])])
def turnstilelaw04_room.B12 : List Nat := [0, 0, 2, 0, 14, 31, 0, 127, 255]
theorem turnstilelaw04_room.tab12 : rtab .any (opsOf Try.f37 12) = turnstilelaw04_room.T12 := by kernel_rfl
theorem turnstilelaw04_room.bits12 : waitsOk turnstilelaw04_room.T12.2 turnstilelaw04_room.B12 = true := by kernel_rfl
set_option maxHeartbeats 8000000 in
set_option maxRecDepth 100000 in
theorem turnstilelaw04_room.calls (k : Nat) (a0 : Int) (a1 : Int) (A2 : Option Addr) (c2 : Nat) (l2 : List Int) (A3 : Option Addr) (c3 : Nat) (l3 : List Int) (a4 : Int) (a5 : Int) (r1 : Bool) (r2 : Int) (w : World) (hr2 : Kd.C (Kd.int .u64) w A2 l2.length l2) (hc2 : l2.length ≤ c2) (hr3 : Kd.C (Kd.int .u64) w A3 l3.length l3) (hc3 : l3.length ≤ c3) (h : turnstilelaw04_room.f k a0 a1 l2 l3 a4 a5 = some (r1, r2)) :
    Calls Try.prog 37 #[.int .u64 a0, .int .u64 a1, .slice A2 l2.length c2, .slice A3 l3.length c3, .int .u64 a4, .int .u64 a5] w fun e w' => e = .returned (.tuple #[.bool r1, .int .u64 r2]) ∧ Below w.heap.size w w' := by
  have hu24 := Try.underlying24
  have HR2 := Aside0.mk hr2
  have HC2 := Aside0.mk hc2
  clear hr2 hc2
  have HR3 := Aside0.mk hr3
  have HC3 := Aside0.mk hc3
  clear hr3 hc3
  have HB := Aside0.mk (Below.refl w.heap.size w)
  have H : (if a5 = 0 then (turnstilelaw04_room.j0 k a0 a1 l2 l3 a4 a5 true) else (turnstilelaw04_room.j0 k a0 a1 l2 l3 a4 a5 (a0 == 0))) = some (r1, r2) := h
  clear h
  have HC7 := Aside0.mk H
  clear H
  go_enter Try.func37, Try.ntmps37
  go_upto_region 1 with (fail)
  go_cut [28] (fun v28 wc => ∃ (kq : Nat) (x28_6 : Bool), v28 = .bool x28_6 ∧ Aside0 (turnstilelaw04_room.j0 kq a0 a1 l2 l3 a4 a5 x28_6 = some (r1, r2)) ∧ Aside0 (kq ≤ k) ∧ Aside0 (Below w.heap.size w wc))
  case first =>
    have H := HC7.out
    clear HC7
    by_cases c8 : a5 = 0
    · rw [if_pos c8] at H
      have c8b0 : (a5 == 0) = true := beq_iff_eq.mpr c8
      have c8b1 : (a5 != 0) = false := bne_eq_false_iff_eq.mpr c8
      clear c8
      (first | rw [c8b0] | (simp only [i64_w, i32_w]; rw [c8b0]) | skip)
      have H' := Aside0.mk H
      clear H
      go_wp2
      go_meet
      case rel => exact ⟨_, (true), (by first | rfl | (simp; done) | (simp [*]; done)), H', ⟨by first | omega | exact Nat.le_refl _⟩, ⟨by repeat (first | (with_reducible first | exact HB.out | apply below_alloc | apply pw_below_drewN | apply below_drew1) | exact HB.out)⟩⟩
    · rw [if_neg c8] at H
      have c8b0 : (a5 == 0) = false := beq_eq_false_iff_ne.mpr c8
      have c8b1 : (a5 != 0) = true := bne_iff_ne.mpr c8
      (first | rw [c8b0] | (simp only [i64_w, i32_w]; rw [c8b0]) | skip)
      have H' := Aside0.mk H
      clear H
      go_wp2
      go_meet
      case rel => exact ⟨_, ((a0 == 0)), (by first | rfl | (simp; done) | (simp [*]; done)), H', ⟨by first | omega | exact Nat.le_refl _⟩, ⟨by repeat (first | (with_reducible first | exact HB.out | apply below_alloc | apply pw_below_drewN | apply below_drew1) | exact HB.out)⟩⟩
  case rest =>
    clear HC7
    try clear c2
    try clear p2
    try clear c3
    try clear c8
    try clear c8b0
    try clear c8b1
    obtain ⟨kq, x28_6, rfl, HA, HJ6, HB⟩ := hcut
    cases kq with
    | zero => exact absurd HA.out (by simp [turnstilelaw04_room.j0])
    | succ kj6 =>
      have H := HA.out
      clear HA
      simp only [turnstilelaw04_room.j0] at H
      by_cases c9 : x28_6 = true
      · subst c9
        have H1 : (some (false, 0)) = some (r1, r2) := by rw [if_pos rfl] at H; exact H
        clear H
        have H := H1
        clear H1
        simp only [Option.some.injEq, Prod.mk.injEq] at H
        obtain ⟨rfl, rfl⟩ := H
        go_wp2
        go_ret2
        exact ⟨by first | rfl | (simp [errW_none, errW_some] <;> rfl) | (simp [*, errW_none, errW_some] <;> rfl), by repeat (first | (with_reducible first | exact HB.out | apply below_alloc | apply pw_below_drewN | apply below_drew1) | exact HB.out)⟩
      · replace c9 := Bool.eq_false_iff.mpr c9
        subst c9
        have H1 : ((sat_Of.f a4).bind fun bt598 => ((sat_Of.f a1).bind fun bt600 => ((sat_Wide_Plus.f bt598.1 bt598.2 bt600.1 bt600.2).bind fun bt602 => ((sat_Of.f a4).bind fun bt605 => ((sat_Product.f (IntKind.u64.wrap (a5 - 1)) a0).bind fun bt607 => ((sat_Wide_Plus.f bt605.1 bt605.2 bt607.1 bt607.2).bind fun bt609 => ((sat_Wide_Cmp.f bt609.1 bt609.2 bt602.1 bt602.2).bind fun t611 => ((sat_Of.f a4).bind fun bt612 => ((sat_Product.f a5 a0).bind fun bt614 => ((sat_Wide_Plus.f bt612.1 bt612.2 bt614.1 bt614.2).bind fun bt616 => ((sat_Of.f 0).bind fun bt619 => (turnstilelaw04_room.l0 kj6 a0 l2 l3 a5 (decide (t611 ≤ 0)) (wrap64 ((l2.length : Int) - 1)) bt602.1 bt602.2 bt616.1 bt616.2 bt619.1 bt619.2)))))))))))) = some (r1, r2) := by rw [if_neg (show ¬ (false = true) by decide)] at H; exact H
        clear H
        have H := H1
        clear H1
        replace H := Option.bind_eq_some_iff.mp H
        obtain ⟨⟨t598, t599⟩, A100, H⟩ := H
        replace H : ((sat_Of.f a1).bind fun bt600 => ((sat_Wide_Plus.f t598 t599 bt600.1 bt600.2).bind fun bt602 => ((sat_Of.f a4).bind fun bt605 => ((sat_Product.f (IntKind.u64.wrap (a5 - 1)) a0).bind fun bt607 => ((sat_Wide_Plus.f bt605.1 bt605.2 bt607.1 bt607.2).bind fun bt609 => ((sat_Wide_Cmp.f bt609.1 bt609.2 bt602.1 bt602.2).bind fun t611 => ((sat_Of.f a4).bind fun bt612 => ((sat_Product.f a5 a0).bind fun bt614 => ((sat_Wide_Plus.f bt612.1 bt612.2 bt614.1 bt614.2).bind fun bt616 => ((sat_Of.f 0).bind fun bt619 => (turnstilelaw04_room.l0 kj6 a0 l2 l3 a5 (decide (t611 ≤ 0)) (wrap64 ((l2.length : Int) - 1)) bt602.1 bt602.2 bt616.1 bt616.2 bt619.1 bt619.2))))))))))) = some (r1, r2) := H
        have A10 := Aside0.mk A100
        clear A100
        replace H := Option.bind_eq_some_iff.mp H
        obtain ⟨⟨t600, t601⟩, A110, H⟩ := H
        replace H : ((sat_Wide_Plus.f t598 t599 t600 t601).bind fun bt602 => ((sat_Of.f a4).bind fun bt605 => ((sat_Product.f (IntKind.u64.wrap (a5 - 1)) a0).bind fun bt607 => ((sat_Wide_Plus.f bt605.1 bt605.2 bt607.1 bt607.2).bind fun bt609 => ((sat_Wide_Cmp.f bt609.1 bt609.2 bt602.1 bt602.2).bind fun t611 => ((sat_Of.f a4).bind fun bt612 => ((sat_Product.f a5 a0).bind fun bt614 => ((sat_Wide_Plus.f bt612.1 bt612.2 bt614.1 bt614.2).bind fun bt616 => ((sat_Of.f 0).bind fun bt619 => (turnstilelaw04_room.l0 kj6 a0 l2 l3 a5 (decide (t611 ≤ 0)) (wrap64 ((l2.length : Int) - 1)) bt602.1 bt602.2 bt616.1 bt616.2 bt619.1 bt619.2)))))))))) = some (r1, r2) := H
        have A11 := Aside0.mk A110
        clear A110
        replace H := Option.bind_eq_some_iff.mp H
        obtain ⟨⟨t602, t603⟩, A120, H⟩ := H
        replace H : ((sat_Of.f a4).bind fun bt605 => ((sat_Product.f (IntKind.u64.wrap (a5 - 1)) a0).bind fun bt607 => ((sat_Wide_Plus.f bt605.1 bt605.2 bt607.1 bt607.2).bind fun bt609 => ((sat_Wide_Cmp.f bt609.1 bt609.2 t602 t603).bind fun t611 => ((sat_Of.f a4).bind fun bt612 => ((sat_Product.f a5 a0).bind fun bt614 => ((sat_Wide_Plus.f bt612.1 bt612.2 bt614.1 bt614.2).bind fun bt616 => ((sat_Of.f 0).bind fun bt619 => (turnstilelaw04_room.l0 kj6 a0 l2 l3 a5 (decide (t611 ≤ 0)) (wrap64 ((l2.length : Int) - 1)) t602 t603 bt616.1 bt616.2 bt619.1 bt619.2))))))))) = some (r1, r2) := H
        have A12 := Aside0.mk A120
        clear A120
        replace H := Option.bind_eq_some_iff.mp H
        obtain ⟨⟨t605, t606⟩, A130, H⟩ := H
        replace H : ((sat_Product.f (IntKind.u64.wrap (a5 - 1)) a0).bind fun bt607 => ((sat_Wide_Plus.f t605 t606 bt607.1 bt607.2).bind fun bt609 => ((sat_Wide_Cmp.f bt609.1 bt609.2 t602 t603).bind fun t611 => ((sat_Of.f a4).bind fun bt612 => ((sat_Product.f a5 a0).bind fun bt614 => ((sat_Wide_Plus.f bt612.1 bt612.2 bt614.1 bt614.2).bind fun bt616 => ((sat_Of.f 0).bind fun bt619 => (turnstilelaw04_room.l0 kj6 a0 l2 l3 a5 (decide (t611 ≤ 0)) (wrap64 ((l2.length : Int) - 1)) t602 t603 bt616.1 bt616.2 bt619.1 bt619.2)))))))) = some (r1, r2) := H
        have A13 := Aside0.mk A130
        clear A130
        replace H := Option.bind_eq_some_iff.mp H
        obtain ⟨⟨t607, t608⟩, A140, H⟩ := H
        replace H : ((sat_Wide_Plus.f t605 t606 t607 t608).bind fun bt609 => ((sat_Wide_Cmp.f bt609.1 bt609.2 t602 t603).bind fun t611 => ((sat_Of.f a4).bind fun bt612 => ((sat_Product.f a5 a0).bind fun bt614 => ((sat_Wide_Plus.f bt612.1 bt612.2 bt614.1 bt614.2).bind fun bt616 => ((sat_Of.f 0).bind fun bt619 => (turnstilelaw04_room.l0 kj6 a0 l2 l3 a5 (decide (t611 ≤ 0)) (wrap64 ((l2.length : Int) - 1)) t602 t603 bt616.1 bt616.2 bt619.1 bt619.2))))))) = some (r1, r2) := H
        have A14 := Aside0.mk A140
        clear A140
        replace H := Option.bind_eq_some_iff.mp H
        obtain ⟨⟨t609, t610⟩, A150, H⟩ := H
        replace H : ((sat_Wide_Cmp.f t609 t610 t602 t603).bind fun t611 => ((sat_Of.f a4).bind fun bt612 => ((sat_Product.f a5 a0).bind fun bt614 => ((sat_Wide_Plus.f bt612.1 bt612.2 bt614.1 bt614.2).bind fun bt616 => ((sat_Of.f 0).bind fun bt619 => (turnstilelaw04_room.l0 kj6 a0 l2 l3 a5 (decide (t611 ≤ 0)) (wrap64 ((l2.length : Int) - 1)) t602 t603 bt616.1 bt616.2 bt619.1 bt619.2)))))) = some (r1, r2) := H
        have A15 := Aside0.mk A150
        clear A150
        replace H := Option.bind_eq_some_iff.mp H
        obtain ⟨t611, A160, H⟩ := H
        replace H : ((sat_Of.f a4).bind fun bt612 => ((sat_Product.f a5 a0).bind fun bt614 => ((sat_Wide_Plus.f bt612.1 bt612.2 bt614.1 bt614.2).bind fun bt616 => ((sat_Of.f 0).bind fun bt619 => (turnstilelaw04_room.l0 kj6 a0 l2 l3 a5 (decide (t611 ≤ 0)) (wrap64 ((l2.length : Int) - 1)) t602 t603 bt616.1 bt616.2 bt619.1 bt619.2))))) = some (r1, r2) := H
        have A16 := Aside0.mk A160
        clear A160
        replace H := Option.bind_eq_some_iff.mp H
        obtain ⟨⟨t612, t613⟩, A170, H⟩ := H
        replace H : ((sat_Product.f a5 a0).bind fun bt614 => ((sat_Wide_Plus.f t612 t613 bt614.1 bt614.2).bind fun bt616 => ((sat_Of.f 0).bind fun bt619 => (turnstilelaw04_room.l0 kj6 a0 l2 l3 a5 (decide (t611 ≤ 0)) (wrap64 ((l2.length : Int) - 1)) t602 t603 bt616.1 bt616.2 bt619.1 bt619.2)))) = some (r1, r2) := H
        have A17 := Aside0.mk A170
        clear A170
        replace H := Option.bind_eq_some_iff.mp H
        obtain ⟨⟨t614, t615⟩, A180, H⟩ := H
        replace H : ((sat_Wide_Plus.f t612 t613 t614 t615).bind fun bt616 => ((sat_Of.f 0).bind fun bt619 => (turnstilelaw04_room.l0 kj6 a0 l2 l3 a5 (decide (t611 ≤ 0)) (wrap64 ((l2.length : Int) - 1)) t602 t603 bt616.1 bt616.2 bt619.1 bt619.2))) = some (r1, r2) := H
        have A18 := Aside0.mk A180
        clear A180
        replace H := Option.bind_eq_some_iff.mp H
        obtain ⟨⟨t616, t617⟩, A190, H⟩ := H
        replace H : ((sat_Of.f 0).bind fun bt619 => (turnstilelaw04_room.l0 kj6 a0 l2 l3 a5 (decide (t611 ≤ 0)) (wrap64 ((l2.length : Int) - 1)) t602 t603 t616 t617 bt619.1 bt619.2)) = some (r1, r2) := H
        have A19 := Aside0.mk A190
        clear A190
        replace H := Option.bind_eq_some_iff.mp H
        obtain ⟨⟨t619, t620⟩, A200, H⟩ := H
        replace H : (turnstilelaw04_room.l0 kj6 a0 l2 l3 a5 (decide (t611 ≤ 0)) (wrap64 ((l2.length : Int) - 1)) t602 t603 t616 t617 t619 t620) = some (r1, r2) := H
        have A20 := Aside0.mk A200
        clear A200
        have H' := Aside0.mk H
        clear H
        try go_wp2_with (first | ((with_reducible refine gate_callee (f := 20) rfl ?_); refine goesL_ (some 30) rfl rfl Try.func20 (by kernel_rfl) rfl #[.int .u64 a4] rfl (by (try simp only [List.map_toArray, List.map_cons, List.map_nil]); first | done | rfl | (simp only [List.length_drop, List.length_take]; rfl)) ?_; (with_reducible refine (sat_Of.calls a4 t598 t599 _ A10.out).mono ?_); rintro e w21 ⟨rfl, hb⟩; refine ⟨_, rfl, ?_⟩; have n0_ := Aside0.mk (below_step (by repeat (first | (with_reducible first | exact HB.out | apply below_alloc | apply pw_below_drewN | apply below_drew1) | exact HB.out)) hb); clear HB; have HB := n0_; clear n0_; (try clear hb); (try clear hb2); (try clear hk); (try clear hi)) | ((with_reducible refine gate_callee (f := 20) rfl ?_); refine goesL_ (some 32) rfl rfl Try.func20 (by kernel_rfl) rfl #[.int .u64 a1] rfl (by (try simp only [List.map_toArray, List.map_cons, List.map_nil]); first | done | rfl | (simp only [List.length_drop, List.length_take]; rfl)) ?_; (with_reducible refine (sat_Of.calls a1 t600 t601 _ A11.out).mono ?_); rintro e w22 ⟨rfl, hb⟩; refine ⟨_, rfl, ?_⟩; have n0_ := Aside0.mk (below_step (by repeat (first | (with_reducible first | exact HB.out | apply below_alloc | apply pw_below_drewN | apply below_drew1) | exact HB.out)) hb); clear HB; have HB := n0_; clear n0_; (try clear hb); (try clear hb2); (try clear hk); (try clear hi)) | ((with_reducible refine gate_callee (f := 19) rfl ?_); refine goesL_ (some 33) rfl rfl Try.func19 (by kernel_rfl) rfl #[.agg #[.int .u64 t598, .int .u64 t599], .agg #[.int .u64 t600, .int .u64 t601]] rfl (by (try simp only [List.map_toArray, List.map_cons, List.map_nil]); first | done | rfl | (simp only [List.length_drop, List.length_take]; rfl)) ?_; (with_reducible refine (sat_Wide_Plus.calls t598 t599 t600 t601 t602 t603 _ A12.out).mono ?_); rintro e w23 ⟨rfl, hb⟩; refine ⟨_, rfl, ?_⟩; have n0_ := Aside0.mk (below_step (by repeat (first | (with_reducible first | exact HB.out | apply below_alloc | apply pw_below_drewN | apply below_drew1) | exact HB.out)) hb); clear HB; have HB := n0_; clear n0_; (try clear hb); (try clear hb2); (try clear hk); (try clear hi)) | ((with_reducible refine gate_dst (N := 14) rfl ?_); refine box_event ?hg (N := 14) ?hd (cs := #[.int .u64 0, .int .u64 0]) (t := 24) ?hr ?_; (case hd => rfl); (case hg => rfl); (case hr => first | (go_simp; done) | (go_simp; rfl)); intro gb604 hg w24 hbox hb; have n0_ := Aside0.mk (below_step (by repeat (first | (with_reducible first | exact HB.out | apply below_alloc | apply pw_below_drewN | apply below_drew1) | exact HB.out)) hb); have n1_ := Aside0.mk (hbox); have n2_ := Aside0.mk ((by rw [hg]; exact (below_size (by repeat (first | (with_reducible first | exact HB.out | apply below_alloc | apply pw_below_drewN | apply below_drew1) | exact HB.out))) : w.heap.size ≤ gb604)); have n3_ := Aside0.mk ((by rw [hg]; exact (below_size (by repeat (first | (with_reducible first | exact HB.out | apply below_alloc | apply pw_below_drewN | apply below_drew1) | exact HB.out))) : w.heap.size ≤ gb604)); clear HB; have HB := n0_; have BK604 := n1_; have GW604 := n2_; have GE604 := n3_; clear n0_ n1_ n2_ n3_; clear hb hbox hg; have hcz25_0 : w24.cell? ⟨gb604, 0, none⟩ = some (.int .u64 0) := (blk_cell BK604.out 0).trans rfl; have hcz25_1 : w24.cell? ⟨gb604, 1, none⟩ = some (.int .u64 0) := (blk_cell BK604.out 1).trans rfl; have hfz25_0 := blk_frozen BK604.out 0; have hfz25_1 := blk_frozen BK604.out 1))
        have n0_ : Aside0 (((w24.setCell ⟨gb604, 0, none⟩ (.int .u64 t602)).setCell ⟨gb604, 1, none⟩ (.int .u64 t603)).heap[gb604]? = some (.cells #[.int .u64 t602, .int .u64 t603] 24 (0, 0))) := ⟨by (with_reducible repeat (first | refine blk_drewN ?_ _ | refine blk_drew ?_ | refine blk_alloc ?_ _)); refine blk_put (cs := #[.int .u64 t602, .int .u64 0]) ?_ 1 _ rfl; (with_reducible repeat (first | refine blk_drewN ?_ _ | refine blk_drew ?_ | refine blk_alloc ?_ _)); refine blk_put (cs := #[.int .u64 0, .int .u64 0]) ?_ 0 _ rfl; (with_reducible repeat (first | refine blk_drewN ?_ _ | refine blk_drew ?_ | refine blk_alloc ?_ _)); exact BK604.out⟩
        have n1_ : Aside0 (Below w.heap.size w ((w24.setCell ⟨gb604, 0, none⟩ (.int .u64 t602)).setCell ⟨gb604, 1, none⟩ (.int .u64 t603))) := ⟨by repeat (first | (with_reducible first | exact HB.out | apply below_alloc | apply pw_below_drewN | apply below_drew1 | refine below_set ?_ GE604.out) | exact HB.out)⟩
        (try clear BK604)
        (try clear HB)
        generalize ((w24.setCell ⟨gb604, 0, none⟩ (.int .u64 t602)).setCell ⟨gb604, 1, none⟩ (.int .u64 t603)) = w26 at n0_ n1_ ⊢
        have BK604 := n0_
        have HB := n1_
        clear n0_ n1_
        have n0_ := Aside0.mk (blk_drew BK604.out)
        have n1_ := Aside0.mk (below_drew1 HB.out)
        clear BK604
        clear HB
        have BK604 := n0_
        have HB := n1_
        clear n0_ n1_
        refine start_ (n := 11) (S := fun w' => w'.cell? ⟨gb604, 0, none⟩ = some (.int .u64 t602) ∧ w'.cell? ⟨gb604, 1, none⟩ = some (.int .u64 t603)) (ds := []) #[false, false, false, false, false, false, false, false, false, false, false] (by kernel_rfl) rfl rfl ⟨(blk_cell BK604.out 0).trans rfl, (blk_cell BK604.out 1).trans rfl⟩ (fun hHeld => ?_); refine with_tabW turnstilelaw04_room.tab4 turnstilelaw04_room.bits4 (fun HT_ HW_ => ?_)
        generalize w26.drew = w27 at BK604 HB hHeld ⊢
        refine pure_ (i := 0) (N := some 34) (v := ?_) (a' := ?_) #[true, false, false, false, false, false, false, false, false, false, false] rfl rfl (any_of HT_.out (by kernel_rfl)) (fun _ _ _ h => h) (Or.inl ⟨by rfl, ?_⟩) ?_ ?_
        rotate_left
        · intro w'
          go_simp
          with_reducible rfl
        rotate_left
        · simp only [Act.put, List.setIfInBounds_toArray, List.set_cons_zero, List.set_cons_succ, i64_w, i32_w]
          rfl
        refine pure_ (i := 2) (N := some 36) (v := ?_) (a' := ?_) #[true, false, true, false, false, false, false, false, false, false, false] rfl rfl (any_of HT_.out (by kernel_rfl)) (fun _ _ _ h => h) (Or.inl ⟨by rfl, ?_⟩) ?_ ?_
        rotate_left
        · intro w'
          go_simp
          with_reducible rfl
        rotate_left
        · simp only [Act.put, List.setIfInBounds_toArray, List.set_cons_zero, List.set_cons_succ, i64_w, i32_w]
          rfl
        refine pure_ (i := 3) (N := some 37) (v := ?_) (a' := ?_) #[true, false, true, true, false, false, false, false, false, false, false] rfl rfl (any_of HT_.out (by kernel_rfl)) (fun _ _ _ h => h) (Or.inl ⟨by rfl, ?_⟩) ?_ ?_
        rotate_left
        · intro w'
          go_simp
          with_reducible rfl
        rotate_left
        · simp only [Act.put, List.setIfInBounds_toArray, List.set_cons_zero, List.set_cons_succ, i64_w, i32_w]
          rfl
        refine pure_ (i := 4) (N := some 38) (v := ?_) (a' := ?_) #[true, false, true, true, true, false, false, false, false, false, false] rfl rfl (any_of HT_.out (by kernel_rfl)) (fun _ _ _ h => h) (Or.inl ⟨by rfl, ?_⟩) ?_ ?_
        rotate_left
        · intro w'
          go_simp
          with_reducible rfl
        rotate_left
        · simp only [Act.put, List.setIfInBounds_toArray, List.set_cons_zero, List.set_cons_succ, i64_w, i32_w]
          rfl
        refine take_ (i := 7) (N := some 41) (v := ?_) (a' := ?_) #[true, false, true, true, true, false, false, true, false, false, false] rfl rfl (take_ofW HT_.out HW_.out (by kernel_rfl)) (fun _ _ _ h => h) (Or.inl ⟨by rfl, ?_⟩) hHeld ?_ ?_
        rotate_left
        · rintro w' ⟨s0, s1⟩
          go_simp
          with_reducible rfl
        rotate_left
        · simp only [Act.put, List.setIfInBounds_toArray, List.set_cons_zero, List.set_cons_succ, i64_w, i32_w]
          rfl
        refine one_ (i := 1) (N := some 35) #[true, true, true, true, true, false, false, true, false, false, false] rfl rfl (one_of HT_.out (by kernel_rfl)) (by decide) (fun K hK => ?_)
        refine goes_ Try.func20 (by kernel_rfl) rfl #[.int .u64 a4] (by rfl) rfl rfl (by (try simp only [List.map_toArray, List.map_cons, List.map_nil]); first | done | rfl | (simp only [List.length_drop, List.length_take]; rfl)) ?_
        with_reducible refine (sat_Of.calls a4 t605 t606 _ A13.out).mono ?_
        rintro e w28 ⟨rfl, hb⟩
        refine ⟨_, rfl, ?_⟩
        have n0_ := Aside0.mk (blk_below (g := gb604) (o := .cells #[.int .u64 t602, .int .u64 t603] 24 (0, 0)) (by (with_reducible repeat (first | refine blk_drewN ?_ _ | refine blk_drew ?_ | refine blk_alloc ?_ _)); exact BK604.out) hb)
        have n1_ := Aside0.mk (below_step (by repeat (first | (with_reducible first | exact HB.out | apply below_alloc | apply pw_below_drewN | apply below_drew1 | refine below_set ?_ GE604.out) | exact HB.out)) hb)
        clear BK604
        clear HB
        have BK604 := n0_
        have HB := n1_
        clear n0_ n1_
        (try clear hb)
        (try clear hb2)
        (try clear hk)
        (try clear hi)
        refine hK.out _ _ ⟨(blk_cell BK604.out 0).trans rfl, (blk_cell BK604.out 1).trans rfl⟩ (fun hHeld => ?_)
        clear hK K
        refine norm_ (a' := ?_) ?_ ?_
        rotate_left
        · show Act.put _ (some 35) _ = _
          simp only [Act.put, List.setIfInBounds_toArray, List.set_cons_zero, List.set_cons_succ, i64_w, i32_w]
          rfl
        refine one_ (i := 5) (N := some 39) #[true, true, true, true, true, true, false, true, false, false, false] rfl rfl (one_of HT_.out (by kernel_rfl)) (by decide) (fun K hK => ?_)
        refine goes_ Try.func17 (by kernel_rfl) rfl #[.int .u64 (IntKind.u64.wrap (a5 - 1)), .int .u64 a0] (by rfl) rfl rfl (by (try simp only [List.map_toArray, List.map_cons, List.map_nil]); first | done | rfl | (simp only [List.length_drop, List.length_take]; rfl)) ?_
        with_reducible refine (sat_Product.calls (IntKind.u64.wrap (a5 - 1)) a0 t607 t608 _ A14.out).mono ?_
        rintro e w29 ⟨rfl, hb⟩
        refine ⟨_, rfl, ?_⟩
        have n0_ := Aside0.mk (blk_below (g := gb604) (o := .cells #[.int .u64 t602, .int .u64 t603] 24 (0, 0)) (by (with_reducible repeat (first | refine blk_drewN ?_ _ | refine blk_drew ?_ | refine blk_alloc ?_ _)); exact BK604.out) hb)
        have n1_ := Aside0.mk (below_step (by repeat (first | (with_reducible first | exact HB.out | apply below_alloc | apply pw_below_drewN | apply below_drew1 | refine below_set ?_ GE604.out) | exact HB.out)) hb)
        clear BK604
        clear HB
        have BK604 := n0_
        have HB := n1_
        clear n0_ n1_
        (try clear hb)
        (try clear hb2)
        (try clear hk)
        (try clear hi)
        refine hK.out _ _ ⟨(blk_cell BK604.out 0).trans rfl, (blk_cell BK604.out 1).trans rfl⟩ (fun hHeld => ?_)
        clear hK K
        refine norm_ (a' := ?_) ?_ ?_
        rotate_left
        · show Act.put _ (some 39) _ = _
          simp only [Act.put, List.setIfInBounds_toArray, List.set_cons_zero, List.set_cons_succ, i64_w, i32_w]
          rfl
        refine one_ (i := 6) (N := some 40) #[true, true, true, true, true, true, true, true, false, false, false] rfl rfl (one_of HT_.out (by kernel_rfl)) (by decide) (fun K hK => ?_)
        refine goes_ Try.func19 (by kernel_rfl) rfl #[.agg #[.int .u64 t605, .int .u64 t606], .agg #[.int .u64 t607, .int .u64 t608]] (by rfl) rfl rfl (by (try simp only [List.map_toArray, List.map_cons, List.map_nil]); first | done | rfl | (simp only [List.length_drop, List.length_take]; rfl)) ?_
        with_reducible refine (sat_Wide_Plus.calls t605 t606 t607 t608 t609 t610 _ A15.out).mono ?_
        rintro e w30 ⟨rfl, hb⟩
        refine ⟨_, rfl, ?_⟩
        have n0_ := Aside0.mk (blk_below (g := gb604) (o := .cells #[.int .u64 t602, .int .u64 t603] 24 (0, 0)) (by (with_reducible repeat (first | refine blk_drewN ?_ _ | refine blk_drew ?_ | refine blk_alloc ?_ _)); exact BK604.out) hb)
        have n1_ := Aside0.mk (below_step (by repeat (first | (with_reducible first | exact HB.out | apply below_alloc | apply pw_below_drewN | apply below_drew1 | refine below_set ?_ GE604.out) | exact HB.out)) hb)
        clear BK604
        clear HB
        have BK604 := n0_
        have HB := n1_
        clear n0_ n1_
        (try clear hb)
        (try clear hb2)
        (try clear hk)
        (try clear hi)
        refine hK.out _ _ ⟨(blk_cell BK604.out 0).trans rfl, (blk_cell BK604.out 1).trans rfl⟩ (fun hHeld => ?_)
        clear hK K
        refine norm_ (a' := ?_) ?_ ?_
        rotate_left
        · show Act.put _ (some 40) _ = _
          simp only [Act.put, List.setIfInBounds_toArray, List.set_cons_zero, List.set_cons_succ, i64_w, i32_w]
          rfl
        refine one_ (i := 8) (N := some 42) #[true, true, true, true, true, true, true, true, true, false, false] rfl rfl (one_of HT_.out (by kernel_rfl)) (by decide) (fun K hK => ?_)
        refine goes_ Try.func21 (by kernel_rfl) rfl #[.agg #[.int .u64 t609, .int .u64 t610], .agg #[.int .u64 t602, .int .u64 t603]] (by rfl) rfl rfl (by (try simp only [List.map_toArray, List.map_cons, List.map_nil]); first | done | rfl | (simp only [List.length_drop, List.length_take]; rfl)) ?_
        with_reducible refine (sat_Wide_Cmp.calls t609 t610 t602 t603 t611 _ A16.out).mono ?_
        rintro e w31 ⟨rfl, hb⟩
        refine ⟨_, rfl, ?_⟩
        have n0_ := Aside0.mk (blk_below (g := gb604) (o := .cells #[.int .u64 t602, .int .u64 t603] 24 (0, 0)) (by (with_reducible repeat (first | refine blk_drewN ?_ _ | refine blk_drew ?_ | refine blk_alloc ?_ _)); exact BK604.out) hb)
        have n1_ := Aside0.mk (below_step (by repeat (first | (with_reducible first | exact HB.out | apply below_alloc | apply pw_below_drewN | apply below_drew1 | refine below_set ?_ GE604.out) | exact HB.out)) hb)
        clear BK604
        clear HB
        have BK604 := n0_
        have HB := n1_
        clear n0_ n1_
        (try clear hb)
        (try clear hb2)
        (try clear hk)
        (try clear hi)
        refine hK.out _ _ ⟨(blk_cell BK604.out 0).trans rfl, (blk_cell BK604.out 1).trans rfl⟩ (fun hHeld => ?_)
        clear hK K
        refine norm_ (a' := ?_) ?_ ?_
        rotate_left
        · show Act.put _ (some 42) _ = _
          simp only [Act.put, List.setIfInBounds_toArray, List.set_cons_zero, List.set_cons_succ, i64_w, i32_w]
          rfl
        refine pure_ (i := 9) (N := some 43) (v := ?_) (a' := ?_) #[true, true, true, true, true, true, true, true, true, true, false] rfl rfl (any_of HT_.out (by kernel_rfl)) (fun _ _ _ h => h) (Or.inl ⟨by rfl, ?_⟩) ?_ ?_
        rotate_left
        · intro w'
          go_simp
          with_reducible rfl
        rotate_left
        · simp only [Act.put, List.setIfInBounds_toArray, List.set_cons_zero, List.set_cons_succ, i64_w, i32_w]
          rfl
        refine pure_ (i := 10) (N := some 15) (v := ?_) (a' := ?_) #[true, true, true, true, true, true, true, true, true, true, true] rfl rfl (any_of HT_.out (by kernel_rfl)) (fun _ _ _ h => h) (Or.inl ⟨by rfl, ?_⟩) ?_ ?_
        rotate_left
        · intro w'
          go_simp
          with_reducible rfl
        rotate_left
        · simp only [Act.put, List.setIfInBounds_toArray, List.set_cons_zero, List.set_cons_succ, i64_w, i32_w]
          rfl
        refine done_ (done_of HT_.out (by kernel_rfl)) ?_
        try go_wp2_with (first | ((with_reducible refine gate_callee (f := 20) rfl ?_); refine goesL_ (some 45) rfl rfl Try.func20 (by kernel_rfl) rfl #[.int .u64 a4] rfl (by (try simp only [List.map_toArray, List.map_cons, List.map_nil]); first | done | rfl | (simp only [List.length_drop, List.length_take]; rfl)) ?_; (with_reducible refine (sat_Of.calls a4 t612 t613 _ A17.out).mono ?_); rintro e w32 ⟨rfl, hb⟩; refine ⟨_, rfl, ?_⟩; have n0_ := Aside0.mk (blk_below (g := gb604) (o := .cells #[.int .u64 t602, .int .u64 t603] 24 (0, 0)) (by (with_reducible repeat (first | refine blk_drewN ?_ _ | refine blk_drew ?_ | refine blk_alloc ?_ _)); exact BK604.out) hb); have n1_ := Aside0.mk (below_step (by repeat (first | (with_reducible first | exact HB.out | apply below_alloc | apply pw_below_drewN | apply below_drew1 | refine below_set ?_ GE604.out) | exact HB.out)) hb); clear BK604; clear HB; have BK604 := n0_; have HB := n1_; clear n0_ n1_; (try clear hb); (try clear hb2); (try clear hk); (try clear hi)) | ((with_reducible refine gate_callee (f := 17) rfl ?_); refine goesL_ (some 48) rfl rfl Try.func17 (by kernel_rfl) rfl #[.int .u64 a5, .int .u64 a0] rfl (by (try simp only [List.map_toArray, List.map_cons, List.map_nil]); first | done | rfl | (simp only [List.length_drop, List.length_take]; rfl)) ?_; (with_reducible refine (sat_Product.calls a5 a0 t614 t615 _ A18.out).mono ?_); rintro e w33 ⟨rfl, hb⟩; refine ⟨_, rfl, ?_⟩; have n0_ := Aside0.mk (blk_below (g := gb604) (o := .cells #[.int .u64 t602, .int .u64 t603] 24 (0, 0)) (by (with_reducible repeat (first | refine blk_drewN ?_ _ | refine blk_drew ?_ | refine blk_alloc ?_ _)); exact BK604.out) hb); have n1_ := Aside0.mk (below_step (by repeat (first | (with_reducible first | exact HB.out | apply below_alloc | apply pw_below_drewN | apply below_drew1 | refine below_set ?_ GE604.out) | exact HB.out)) hb); clear BK604; clear HB; have BK604 := n0_; have HB := n1_; clear n0_ n1_; (try clear hb); (try clear hb2); (try clear hk); (try clear hi)) | ((with_reducible refine gate_callee (f := 19) rfl ?_); refine goesL_ (some 49) rfl rfl Try.func19 (by kernel_rfl) rfl #[.agg #[.int .u64 t612, .int .u64 t613], .agg #[.int .u64 t614, .int .u64 t615]] rfl (by (try simp only [List.map_toArray, List.map_cons, List.map_nil]); first | done | rfl | (simp only [List.length_drop, List.length_take]; rfl)) ?_; (with_reducible refine (sat_Wide_Plus.calls t612 t613 t614 t615 t616 t617 _ A19.out).mono ?_); rintro e w34 ⟨rfl, hb⟩; refine ⟨_, rfl, ?_⟩; have n0_ := Aside0.mk (blk_below (g := gb604) (o := .cells #[.int .u64 t602, .int .u64 t603] 24 (0, 0)) (by (with_reducible repeat (first | refine blk_drewN ?_ _ | refine blk_drew ?_ | refine blk_alloc ?_ _)); exact BK604.out) hb); have n1_ := Aside0.mk (below_step (by repeat (first | (with_reducible first | exact HB.out | apply below_alloc | apply pw_below_drewN | apply below_drew1 | refine below_set ?_ GE604.out) | exact HB.out)) hb); clear BK604; clear HB; have BK604 := n0_; have HB := n1_; clear n0_ n1_; (try clear hb); (try clear hb2); (try clear hk); (try clear hi)) | ((with_reducible refine gate_dst (N := 16) rfl ?_); refine box_event ?hg (N := 16) ?hd (cs := #[.int .u64 0, .int .u64 0]) (t := 24) ?hr ?_; (case hd => rfl); (case hg => rfl); (case hr => first | (go_simp; done) | (go_simp; rfl)); intro gb618 hg w35 hbox hb; have n0_ := Aside0.mk (blk_below (g := gb604) (o := .cells #[.int .u64 t602, .int .u64 t603] 24 (0, 0)) (by (with_reducible repeat (first | refine blk_drewN ?_ _ | refine blk_drew ?_ | refine blk_alloc ?_ _)); exact BK604.out) hb); have n1_ := Aside0.mk (below_step (by repeat (first | (with_reducible first | exact HB.out | apply below_alloc | apply pw_below_drewN | apply below_drew1 | refine below_set ?_ GE604.out) | exact HB.out)) hb); have n2_ := Aside0.mk (hbox); have n3_ := Aside0.mk ((by rw [hg]; exact (below_size (by repeat (first | (with_reducible first | exact HB.out | apply below_alloc | apply pw_below_drewN | apply below_drew1 | refine below_set ?_ GE604.out) | exact HB.out))) : w.heap.size ≤ gb618)); have n4_ := Aside0.mk ((by rw [hg]; exact (below_size (by repeat (first | (with_reducible first | exact HB.out | apply below_alloc | apply pw_below_drewN | apply below_drew1 | refine below_set ?_ GE604.out) | exact HB.out))) : w.heap.size ≤ gb618)); have n5_ := Aside0.mk ((by rw [hg]; exact Nat.ne_of_lt (blk_lt (g := gb604) (o := .cells #[.int .u64 t602, .int .u64 t603] 24 (0, 0)) (by (with_reducible repeat (first | refine blk_drewN ?_ _ | refine blk_drew ?_ | refine blk_alloc ?_ _)); exact BK604.out)) : gb604 ≠ gb618)); have n6_ := Aside0.mk ((by rw [hg]; exact Nat.ne_of_gt (blk_lt (g := gb604) (o := .cells #[.int .u64 t602, .int .u64 t603] 24 (0, 0)) (by (with_reducible repeat (first | refine blk_drewN ?_ _ | refine blk_drew ?_ | refine blk_alloc ?_ _)); exact BK604.out)) : gb618 ≠ gb604)); clear BK604; clear HB; have BK604 := n0_; have HB := n1_; have BK618 := n2_; have GW618 := n3_; have GE618 := n4_; have NB604_618 := n5_; have NB618_604 := n6_; clear n0_ n1_ n2_ n3_ n4_ n5_ n6_; clear hb hbox hg; have hnb36 := NB618_604.out; have hnc36 := NB604_618.out; have hcz37_0 : w35.cell? ⟨gb618, 0, none⟩ = some (.int .u64 0) := (blk_cell BK618.out 0).trans rfl; have hcz37_1 : w35.cell? ⟨gb618, 1, none⟩ = some (.int .u64 0) := (blk_cell BK618.out 1).trans rfl; have hfz37_0 := blk_frozen BK618.out 0; have hfz37_1 := blk_frozen BK618.out 1) | ((with_reducible refine gate_callee (f := 20) rfl ?_); refine goesL_ (some 50) rfl rfl Try.func20 (by kernel_rfl) rfl #[.int .u64 0] rfl (by (try simp only [List.map_toArray, List.map_cons, List.map_nil]); first | done | rfl | (simp only [List.length_drop, List.length_take]; rfl)) ?_; (with_reducible refine (sat_Of.calls 0 t619 t620 _ A20.out).mono ?_); rintro e w38 ⟨rfl, hb⟩; refine ⟨_, rfl, ?_⟩; have n0_ := Aside0.mk (blk_below (g := gb604) (o := .cells #[.int .u64 t602, .int .u64 t603] 24 (0, 0)) (by (with_reducible repeat (first | refine blk_drewN ?_ _ | refine blk_drew ?_ | refine blk_alloc ?_ _)); refine blk_far ?_ NB604_618.out _; (with_reducible repeat (first | refine blk_drewN ?_ _ | refine blk_drew ?_ | refine blk_alloc ?_ _)); refine blk_far ?_ NB604_618.out _; (with_reducible repeat (first | refine blk_drewN ?_ _ | refine blk_drew ?_ | refine blk_alloc ?_ _)); exact BK604.out) hb); have n1_ := Aside0.mk (blk_below (g := gb618) (o := .cells #[.int .u64 t616, .int .u64 t617] 24 (0, 0)) (by (with_reducible repeat (first | refine blk_drewN ?_ _ | refine blk_drew ?_ | refine blk_alloc ?_ _)); refine blk_put (cs := #[.int .u64 t616, .int .u64 0]) ?_ 1 _ rfl; (with_reducible repeat (first | refine blk_drewN ?_ _ | refine blk_drew ?_ | refine blk_alloc ?_ _)); refine blk_put (cs := #[.int .u64 0, .int .u64 0]) ?_ 0 _ rfl; (with_reducible repeat (first | refine blk_drewN ?_ _ | refine blk_drew ?_ | refine blk_alloc ?_ _)); exact BK618.out) hb); have n2_ := Aside0.mk (below_step (by repeat (first | (with_reducible first | exact HB.out | apply below_alloc | apply pw_below_drewN | apply below_drew1 | refine below_set ?_ GE604.out | refine below_set ?_ GE618.out) | exact HB.out)) hb); clear BK604; clear BK618; clear HB; have BK604 := n0_; have BK618 := n1_; have HB := n2_; clear n0_ n1_ n2_; (try clear hb); (try clear hb2); (try clear hk); (try clear hi)) | ((with_reducible refine gate_dst (N := 17) rfl ?_); refine box_event ?hg (N := 17) ?hd (cs := #[.int .u64 0, .int .u64 0]) (t := 24) ?hr ?_; (case hd => rfl); (case hg => rfl); (case hr => first | (go_simp; done) | (go_simp; rfl)); intro gb621 hg w39 hbox hb; have n0_ := Aside0.mk (blk_below (g := gb604) (o := .cells #[.int .u64 t602, .int .u64 t603] 24 (0, 0)) (by (with_reducible repeat (first | refine blk_drewN ?_ _ | refine blk_drew ?_ | refine blk_alloc ?_ _)); exact BK604.out) hb); have n1_ := Aside0.mk (blk_below (g := gb618) (o := .cells #[.int .u64 t616, .int .u64 t617] 24 (0, 0)) (by (with_reducible repeat (first | refine blk_drewN ?_ _ | refine blk_drew ?_ | refine blk_alloc ?_ _)); exact BK618.out) hb); have n2_ := Aside0.mk (below_step (by repeat (first | (with_reducible first | exact HB.out | apply below_alloc | apply pw_below_drewN | apply below_drew1 | refine below_set ?_ GE604.out | refine below_set ?_ GE618.out) | exact HB.out)) hb); have n3_ := Aside0.mk (hbox); have n4_ := Aside0.mk ((by rw [hg]; exact (below_size (by repeat (first | (with_reducible first | exact HB.out | apply below_alloc | apply pw_below_drewN | apply below_drew1 | refine below_set ?_ GE604.out | refine below_set ?_ GE618.out) | exact HB.out))) : w.heap.size ≤ gb621)); have n5_ := Aside0.mk ((by rw [hg]; exact (below_size (by repeat (first | (with_reducible first | exact HB.out | apply below_alloc | apply pw_below_drewN | apply below_drew1 | refine below_set ?_ GE604.out | refine below_set ?_ GE618.out) | exact HB.out))) : w.heap.size ≤ gb621)); have n6_ := Aside0.mk ((by rw [hg]; exact Nat.ne_of_lt (blk_lt (g := gb604) (o := .cells #[.int .u64 t602, .int .u64 t603] 24 (0, 0)) (by (with_reducible repeat (first | refine blk_drewN ?_ _ | refine blk_drew ?_ | refine blk_alloc ?_ _)); exact BK604.out)) : gb604 ≠ gb621)); have n7_ := Aside0.mk ((by rw [hg]; exact Nat.ne_of_gt (blk_lt (g := gb604) (o := .cells #[.int .u64 t602, .int .u64 t603] 24 (0, 0)) (by (with_reducible repeat (first | refine blk_drewN ?_ _ | refine blk_drew ?_ | refine blk_alloc ?_ _)); exact BK604.out)) : gb621 ≠ gb604)); have n8_ := Aside0.mk ((by rw [hg]; exact Nat.ne_of_lt (blk_lt (g := gb618) (o := .cells #[.int .u64 t616, .int .u64 t617] 24 (0, 0)) (by (with_reducible repeat (first | refine blk_drewN ?_ _ | refine blk_drew ?_ | refine blk_alloc ?_ _)); exact BK618.out)) : gb618 ≠ gb621)); have n9_ := Aside0.mk ((by rw [hg]; exact Nat.ne_of_gt (blk_lt (g := gb618) (o := .cells #[.int .u64 t616, .int .u64 t617] 24 (0, 0)) (by (with_reducible repeat (first | refine blk_drewN ?_ _ | refine blk_drew ?_ | refine blk_alloc ?_ _)); exact BK618.out)) : gb621 ≠ gb618)); clear BK604; clear BK618; clear HB; have BK604 := n0_; have BK618 := n1_; have HB := n2_; have BK621 := n3_; have GW621 := n4_; have GE621 := n5_; have NB604_621 := n6_; have NB621_604 := n7_; have NB618_621 := n8_; have NB621_618 := n9_; clear n0_ n1_ n2_ n3_ n4_ n5_ n6_ n7_ n8_ n9_; clear hb hbox hg; have hnb40 := NB621_604.out; have hnc40 := NB604_621.out; have hnb41 := NB621_618.out; have hnc41 := NB618_621.out; have hcz42_0 : w39.cell? ⟨gb621, 0, none⟩ = some (.int .u64 0) := (blk_cell BK621.out 0).trans rfl; have hcz42_1 : w39.cell? ⟨gb621, 1, none⟩ = some (.int .u64 0) := (blk_cell BK621.out 1).trans rfl; have hfz42_0 := blk_frozen BK621.out 0; have hfz42_1 := blk_frozen BK621.out 1))
        go_loopg [15, 18] kj6 (fun kq v15 v18 w' => ∃ (x15_2 : Bool) (x18_2 : Int) (x619000_2 : Int) (x619001_2 : Int) (x622000_2 : Int) (x622001_2 : Int), v15 = .bool x15_2 ∧ v18 = .int .i64 x18_2 ∧ Aside0 (turnstilelaw04_room.l0 kq a0 l2 l3 a5 x15_2 x18_2 t602 t603 x619000_2 x619001_2 x622000_2 x622001_2 = some (r1, r2)) ∧ Aside0 (kq ≤ kj6) ∧ Aside0 (w'.heap[gb604]? = some (.cells #[.int .u64 t602, .int .u64 t603] 24 (0, 0))) ∧ Aside0 (w'.heap[gb618]? = some (.cells #[.int .u64 x619000_2, .int .u64 x619001_2] 24 (0, 0))) ∧ Aside0 (w'.heap[gb621]? = some (.cells #[.int .u64 x622000_2, .int .u64 x622001_2] 24 (0, 0))) ∧ Aside0 (Below w.heap.size w w'))
        case atStart => exact ⟨(decide (t611 ≤ 0)), (wrap64 ((l2.length : Int) - 1)), (t616), (t617), (t619), (t620), (by first | rfl | (simp; done) | (simp [*]; done)), (by first | rfl | (simp; done) | (simp [*]; done)), H', ⟨Nat.le_refl _⟩, ⟨by (with_reducible repeat (first | refine blk_drewN ?_ _ | refine blk_drew ?_ | refine blk_alloc ?_ _)); refine blk_far ?_ NB604_621.out _; (with_reducible repeat (first | refine blk_drewN ?_ _ | refine blk_drew ?_ | refine blk_alloc ?_ _)); refine blk_far ?_ NB604_621.out _; (with_reducible repeat (first | refine blk_drewN ?_ _ | refine blk_drew ?_ | refine blk_alloc ?_ _)); exact BK604.out⟩, ⟨by (with_reducible repeat (first | refine blk_drewN ?_ _ | refine blk_drew ?_ | refine blk_alloc ?_ _)); refine blk_far ?_ NB618_621.out _; (with_reducible repeat (first | refine blk_drewN ?_ _ | refine blk_drew ?_ | refine blk_alloc ?_ _)); refine blk_far ?_ NB618_621.out _; (with_reducible repeat (first | refine blk_drewN ?_ _ | refine blk_drew ?_ | refine blk_alloc ?_ _)); exact BK618.out⟩, ⟨by (with_reducible repeat (first | refine blk_drewN ?_ _ | refine blk_drew ?_ | refine blk_alloc ?_ _)); refine blk_put (cs := #[.int .u64 t619, .int .u64 0]) ?_ 1 _ rfl; (with_reducible repeat (first | refine blk_drewN ?_ _ | refine blk_drew ?_ | refine blk_alloc ?_ _)); refine blk_put (cs := #[.int .u64 0, .int .u64 0]) ?_ 0 _ rfl; (with_reducible repeat (first | refine blk_drewN ?_ _ | refine blk_drew ?_ | refine blk_alloc ?_ _)); exact BK621.out⟩, ⟨by repeat (first | (with_reducible first | exact HB.out | apply below_alloc | apply pw_below_drewN | apply below_drew1 | refine below_set ?_ GE604.out | refine below_set ?_ GE618.out | refine below_set ?_ GE621.out) | exact HB.out)⟩⟩
        case round =>
          clear H'
          try clear c1
          try clear c2
          try clear p2
          try clear c3
          try clear c4
          try clear p6
          try clear c8
          try clear c8b0
          try clear c8b1
          try clear c9
          try clear c17
          try clear c19
          try clear c20
          try clear c21
          try clear c36
          try clear c37
          try clear c40
          try clear c41
          try clear hcz25_0
          try clear hcz25_1
          try clear hcz37_0
          try clear hcz37_1
          try clear hcz42_0
          try clear hcz42_1
          try clear hfz25_0
          try clear hfz25_1
          try clear hfz37_0
          try clear hfz37_1
          try clear hfz42_0
          try clear hfz42_1
          try clear p2
          obtain ⟨x15_2, x18_2, x619000_2, x619001_2, x622000_2, x622001_2, rfl, rfl, HA, HK2, BK604, BK618, BK621, HB⟩ := hrel
          cases gk with
          | zero => exact absurd HA.out (by simp [turnstilelaw04_room.l0])
          | succ k2 =>
            have H := HA.out
            clear HA
            simp only [turnstilelaw04_room.l0] at H
            by_cases c43 : x18_2 ≥ 0
            · rw [if_pos c43] at H
              have c43b0 : decide (0 ≤ x18_2) = true := decide_eq_true c43
              clear c43
              by_cases c44 : 0 ≤ x18_2
              · rw [if_pos c44] at H
                have c44b0 : decide (0 ≤ x18_2) = true := decide_eq_true c44
                clear c44
                by_cases c45 : x18_2 < (l3.length : Int)
                · rw [if_pos c45] at H
                  have c45b0 : decide (x18_2 < (l3.length : Int)) = true := decide_eq_true c45
                  clear c45
                  replace H := Option.bind_eq_some_iff.mp H
                  obtain ⟨⟨t625, t626⟩, A460, H⟩ := H
                  replace H : ((sat_Wide_Plus.f x622000_2 x622001_2 t625 t626).bind fun bt627 => (if x18_2 < (l2.length : Int) then ((sat_Of.f (rd l2 x18_2)).bind fun bt630 => ((sat_Wide_Plus.f bt630.1 bt630.2 bt627.1 bt627.2).bind fun bt632 => ((sat_Product.f (IntKind.u64.wrap (a5 - 1)) a0).bind fun bt635 => ((sat_Wide_Plus.f bt632.1 bt632.2 bt635.1 bt635.2).bind fun bt637 => ((sat_Wide_Cmp.f bt637.1 bt637.2 t602 t603).bind fun t639 => (if t639 > 0 then (turnstilelaw04_room.j2 k2 a0 l2 l3 a5 false x18_2 t602 t603 x619000_2 x619001_2 bt627.1 bt627.2 bt632.1 bt632.2) else (turnstilelaw04_room.j2 k2 a0 l2 l3 a5 x15_2 x18_2 t602 t603 x619000_2 x619001_2 bt627.1 bt627.2 bt632.1 bt632.2))))))) else (none))) = some (r1, r2) := H
                  have A46 := Aside0.mk A460
                  clear A460
                  replace H := Option.bind_eq_some_iff.mp H
                  obtain ⟨⟨t627, t628⟩, A470, H⟩ := H
                  replace H : (if x18_2 < (l2.length : Int) then ((sat_Of.f (rd l2 x18_2)).bind fun bt630 => ((sat_Wide_Plus.f bt630.1 bt630.2 t627 t628).bind fun bt632 => ((sat_Product.f (IntKind.u64.wrap (a5 - 1)) a0).bind fun bt635 => ((sat_Wide_Plus.f bt632.1 bt632.2 bt635.1 bt635.2).bind fun bt637 => ((sat_Wide_Cmp.f bt637.1 bt637.2 t602 t603).bind fun t639 => (if t639 > 0 then (turnstilelaw04_room.j2 k2 a0 l2 l3 a5 false x18_2 t602 t603 x619000_2 x619001_2 t627 t628 bt632.1 bt632.2) else (turnstilelaw04_room.j2 k2 a0 l2 l3 a5 x15_2 x18_2 t602 t603 x619000_2 x619001_2 t627 t628 bt632.1 bt632.2))))))) else (none)) = some (r1, r2) := H
                  have A47 := Aside0.mk A470
                  clear A470
                  by_cases c48 : x18_2 < (l2.length : Int)
                  · rw [if_pos c48] at H
                    have c48b0 : decide (x18_2 < (l2.length : Int)) = true := decide_eq_true c48
                    clear c48
                    replace H := Option.bind_eq_some_iff.mp H
                    obtain ⟨⟨t630, t631⟩, A490, H⟩ := H
                    replace H : ((sat_Wide_Plus.f t630 t631 t627 t628).bind fun bt632 => ((sat_Product.f (IntKind.u64.wrap (a5 - 1)) a0).bind fun bt635 => ((sat_Wide_Plus.f bt632.1 bt632.2 bt635.1 bt635.2).bind fun bt637 => ((sat_Wide_Cmp.f bt637.1 bt637.2 t602 t603).bind fun t639 => (if t639 > 0 then (turnstilelaw04_room.j2 k2 a0 l2 l3 a5 false x18_2 t602 t603 x619000_2 x619001_2 t627 t628 bt632.1 bt632.2) else (turnstilelaw04_room.j2 k2 a0 l2 l3 a5 x15_2 x18_2 t602 t603 x619000_2 x619001_2 t627 t628 bt632.1 bt632.2)))))) = some (r1, r2) := H
                    have A49 := Aside0.mk A490
                    clear A490
                    replace H := Option.bind_eq_some_iff.mp H
                    obtain ⟨⟨t632, t633⟩, A500, H⟩ := H
                    replace H : ((sat_Product.f (IntKind.u64.wrap (a5 - 1)) a0).bind fun bt635 => ((sat_Wide_Plus.f t632 t633 bt635.1 bt635.2).bind fun bt637 => ((sat_Wide_Cmp.f bt637.1 bt637.2 t602 t603).bind fun t639 => (if t639 > 0 then (turnstilelaw04_room.j2 k2 a0 l2 l3 a5 false x18_2 t602 t603 x619000_2 x619001_2 t627 t628 t632 t633) else (turnstilelaw04_room.j2 k2 a0 l2 l3 a5 x15_2 x18_2 t602 t603 x619000_2 x619001_2 t627 t628 t632 t633))))) = some (r1, r2) := H
                    have A50 := Aside0.mk A500
                    clear A500
                    replace H := Option.bind_eq_some_iff.mp H
                    obtain ⟨⟨t635, t636⟩, A510, H⟩ := H
                    replace H : ((sat_Wide_Plus.f t632 t633 t635 t636).bind fun bt637 => ((sat_Wide_Cmp.f bt637.1 bt637.2 t602 t603).bind fun t639 => (if t639 > 0 then (turnstilelaw04_room.j2 k2 a0 l2 l3 a5 false x18_2 t602 t603 x619000_2 x619001_2 t627 t628 t632 t633) else (turnstilelaw04_room.j2 k2 a0 l2 l3 a5 x15_2 x18_2 t602 t603 x619000_2 x619001_2 t627 t628 t632 t633)))) = some (r1, r2) := H
                    have A51 := Aside0.mk A510
                    clear A510
                    replace H := Option.bind_eq_some_iff.mp H
                    obtain ⟨⟨t637, t638⟩, A520, H⟩ := H
                    replace H : ((sat_Wide_Cmp.f t637 t638 t602 t603).bind fun t639 => (if t639 > 0 then (turnstilelaw04_room.j2 k2 a0 l2 l3 a5 false x18_2 t602 t603 x619000_2 x619001_2 t627 t628 t632 t633) else (turnstilelaw04_room.j2 k2 a0 l2 l3 a5 x15_2 x18_2 t602 t603 x619000_2 x619001_2 t627 t628 t632 t633))) = some (r1, r2) := H
                    have A52 := Aside0.mk A520
                    clear A520
                    replace H := Option.bind_eq_some_iff.mp H
                    obtain ⟨t639, A530, H⟩ := H
                    replace H : (if t639 > 0 then (turnstilelaw04_room.j2 k2 a0 l2 l3 a5 false x18_2 t602 t603 x619000_2 x619001_2 t627 t628 t632 t633) else (turnstilelaw04_room.j2 k2 a0 l2 l3 a5 x15_2 x18_2 t602 t603 x619000_2 x619001_2 t627 t628 t632 t633)) = some (r1, r2) := H
                    have A53 := Aside0.mk A530
                    clear A530
                    have HC54 := Aside0.mk H
                    clear H
                    try go_wp2
                    have n0_ := Aside0.mk (blk_drew BK604.out)
                    have n1_ := Aside0.mk (blk_drew BK618.out)
                    have n2_ := Aside0.mk (blk_drew BK621.out)
                    have n3_ := Aside0.mk (below_drew1 HB.out)
                    clear BK604
                    clear BK618
                    clear BK621
                    clear HB
                    have BK604 := n0_
                    have BK618 := n1_
                    have BK621 := n2_
                    have HB := n3_
                    clear n0_ n1_ n2_ n3_
                    have p624 : 0 ≤ (x18_2 : Int) := of_decide_eq_true (by first | (with_reducible assumption) | assumption)
                    have q624 : x18_2 < (l3.length : Int) := of_decide_eq_true (by first | (with_reducible assumption) | assumption)
                    obtain ⟨ad624, e624, hx624_0⟩ := Kd.at_int HR3.out x18_2 p624 q624
                    have hw624_0 := hx624_0
                    cases e624
                    replace hx624_0 := (HB.out.cell (World.block_lt_of_cell? w _ hx624_0)).trans hx624_0
                    replace p624 := eq_true p624
                    replace q624 := eq_true q624
                    refine start_ (n := 9) (S := fun w' => w'.cell? ⟨gb621, 0, none⟩ = some (.int .u64 x622000_2) ∧ w'.cell? ⟨gb621, 1, none⟩ = some (.int .u64 x622001_2) ∧ w'.cell? (ad624.add (x18_2).toNat) = some (.int .u64 (rd l3 x18_2))) (ds := [8]) #[false, false, false, false, false, false, false, false, false] (by kernel_rfl) rfl rfl ⟨(blk_cell BK621.out 0).trans rfl, (blk_cell BK621.out 1).trans rfl, ((HB.out.cell (World.block_lt_of_cell? w _ hw624_0)).trans hw624_0)⟩ (fun hHeld => ?_); refine with_tabW turnstilelaw04_room.tab10 turnstilelaw04_room.bits10 (fun HT_ HW_ => ?_)
                    generalize wr.drew = w55 at BK604 BK618 BK621 HB hx624_0 hHeld ⊢
                    refine pure_ (i := 1) (N := some 59) (v := ?_) (a' := ?_) #[false, true, false, false, false, false, false, false, false] rfl rfl (any_of HT_.out (by kernel_rfl)) (fun _ _ _ h => h) (Or.inl ⟨by rfl, ?_⟩) ?_ ?_
                    rotate_left
                    · intro w'
                      go_simp
                      with_reducible rfl
                    rotate_left
                    · simp only [Act.put, List.setIfInBounds_toArray, List.set_cons_zero, List.set_cons_succ, i64_w, i32_w]
                      rfl
                    refine pure_ (i := 2) (N := some 60) (v := ?_) (a' := ?_) #[false, true, true, false, false, false, false, false, false] rfl rfl (any_of HT_.out (by kernel_rfl)) (fun _ _ _ h => h) (Or.inl ⟨by rfl, ?_⟩) ?_ ?_
                    rotate_left
                    · intro w'
                      go_simp
                      with_reducible rfl
                    rotate_left
                    · simp only [Act.put, List.setIfInBounds_toArray, List.set_cons_zero, List.set_cons_succ, i64_w, i32_w]
                      rfl
                    refine pure_ (i := 3) (N := some 61) (v := ?_) (a' := ?_) #[false, true, true, true, false, false, false, false, false] rfl rfl (any_of HT_.out (by kernel_rfl)) (fun _ _ _ h => h) (Or.inl ⟨by rfl, ?_⟩) ?_ ?_
                    rotate_left
                    · intro w'
                      go_simp
                      with_reducible rfl
                    rotate_left
                    · simp only [Act.put, List.setIfInBounds_toArray, List.set_cons_zero, List.set_cons_succ, i64_w, i32_w]
                      rfl
                    refine pure_ (i := 5) (N := some 63) (v := ?_) (a' := ?_) #[false, true, true, true, false, true, false, false, false] rfl rfl (any_of HT_.out (by kernel_rfl)) (fun _ _ _ h => h) (Or.inl ⟨by rfl, ?_⟩) ?_ ?_
                    rotate_left
                    · intro w'
                      go_simp
                      with_reducible rfl
                    rotate_left
                    · simp only [Act.put, List.setIfInBounds_toArray, List.set_cons_zero, List.set_cons_succ, i64_w, i32_w]
                      rfl
                    refine take_ (i := 0) (N := some 58) (v := ?_) (a' := ?_) #[true, true, true, true, false, true, false, false, false] rfl rfl (take_ofW HT_.out HW_.out (by kernel_rfl)) (fun _ _ _ h => h) (Or.inl ⟨by rfl, ?_⟩) hHeld ?_ ?_
                    rotate_left
                    · rintro w' ⟨s0, s1, s2⟩
                      go_simp
                      with_reducible rfl
                    rotate_left
                    · simp only [Act.put, List.setIfInBounds_toArray, List.set_cons_zero, List.set_cons_succ, i64_w, i32_w]
                      rfl
                    refine take_ (i := 4) (N := some 62) (v := ?_) (a' := ?_) #[true, true, true, true, true, true, false, false, false] rfl rfl (take_ofW HT_.out HW_.out (by kernel_rfl)) (fun _ _ _ h => h) (Or.inl ⟨by rfl, ?_⟩) hHeld ?_ ?_
                    rotate_left
                    · rintro w' ⟨s0, s1, s2⟩
                      go_simp
                      with_reducible rfl
                    rotate_left
                    · simp only [Act.put, List.setIfInBounds_toArray, List.set_cons_zero, List.set_cons_succ, i64_w, i32_w]
                      rfl
                    refine one_ (i := 6) (N := some 64) #[true, true, true, true, true, true, true, false, false] rfl rfl (one_of HT_.out (by kernel_rfl)) (by decide) (fun K hK => ?_)
                    refine goes_ Try.func17 (by kernel_rfl) rfl #[.int .u64 (rd l3 x18_2), .int .u64 a0] (by rfl) rfl rfl (by (try simp only [List.map_toArray, List.map_cons, List.map_nil]); first | done | rfl | (simp only [List.length_drop, List.length_take]; rfl)) ?_
                    with_reducible refine (sat_Product.calls (rd l3 x18_2) a0 t625 t626 _ A46.out).mono ?_
                    rintro e w56 ⟨rfl, hb⟩
                    refine ⟨_, rfl, ?_⟩
                    have n0_ := Aside0.mk (blk_below (g := gb604) (o := .cells #[.int .u64 t602, .int .u64 t603] 24 (0, 0)) (by (with_reducible repeat (first | refine blk_drewN ?_ _ | refine blk_drew ?_ | refine blk_alloc ?_ _)); exact BK604.out) hb)
                    have n1_ := Aside0.mk (blk_below (g := gb618) (o := .cells #[.int .u64 x619000_2, .int .u64 x619001_2] 24 (0, 0)) (by (with_reducible repeat (first | refine blk_drewN ?_ _ | refine blk_drew ?_ | refine blk_alloc ?_ _)); exact BK618.out) hb)
                    have n2_ := Aside0.mk (blk_below (g := gb621) (o := .cells #[.int .u64 x622000_2, .int .u64 x622001_2] 24 (0, 0)) (by (with_reducible repeat (first | refine blk_drewN ?_ _ | refine blk_drew ?_ | refine blk_alloc ?_ _)); exact BK621.out) hb)
                    have n3_ := Aside0.mk (below_step (by repeat (first | (with_reducible first | exact HB.out | apply below_alloc | apply pw_below_drewN | apply below_drew1 | refine below_set ?_ GE604.out | refine below_set ?_ GE618.out | refine below_set ?_ GE621.out) | exact HB.out)) hb)
                    clear BK604
                    clear BK618
                    clear BK621
                    clear HB
                    have BK604 := n0_
                    have BK618 := n1_
                    have BK621 := n2_
                    have HB := n3_
                    clear n0_ n1_ n2_ n3_
                    (try clear hb)
                    (try clear hb2)
                    (try clear hk)
                    (try clear hi)
                    refine hK.out _ _ ⟨(blk_cell BK621.out 0).trans rfl, (blk_cell BK621.out 1).trans rfl, ((HB.out.cell (World.block_lt_of_cell? w _ hw624_0)).trans hw624_0)⟩ (fun hHeld => ?_)
                    clear hK K
                    refine norm_ (a' := ?_) ?_ ?_
                    rotate_left
                    · show Act.put _ (some 64) _ = _
                      simp only [Act.put, List.setIfInBounds_toArray, List.set_cons_zero, List.set_cons_succ, i64_w, i32_w]
                      rfl
                    refine one_ (i := 7) (N := some 65) #[true, true, true, true, true, true, true, true, false] rfl rfl (one_of HT_.out (by kernel_rfl)) (by decide) (fun K hK => ?_)
                    refine goes_ Try.func19 (by kernel_rfl) rfl #[.agg #[.int .u64 x622000_2, .int .u64 x622001_2], .agg #[.int .u64 t625, .int .u64 t626]] (by rfl) rfl rfl (by (try simp only [List.map_toArray, List.map_cons, List.map_nil]); first | done | rfl | (simp only [List.length_drop, List.length_take]; rfl)) ?_
                    with_reducible refine (sat_Wide_Plus.calls x622000_2 x622001_2 t625 t626 t627 t628 _ A47.out).mono ?_
                    rintro e w57 ⟨rfl, hb⟩
                    refine ⟨_, rfl, ?_⟩
                    have n0_ := Aside0.mk (blk_below (g := gb604) (o := .cells #[.int .u64 t602, .int .u64 t603] 24 (0, 0)) (by (with_reducible repeat (first | refine blk_drewN ?_ _ | refine blk_drew ?_ | refine blk_alloc ?_ _)); exact BK604.out) hb)
                    have n1_ := Aside0.mk (blk_below (g := gb618) (o := .cells #[.int .u64 x619000_2, .int .u64 x619001_2] 24 (0, 0)) (by (with_reducible repeat (first | refine blk_drewN ?_ _ | refine blk_drew ?_ | refine blk_alloc ?_ _)); exact BK618.out) hb)
                    have n2_ := Aside0.mk (blk_below (g := gb621) (o := .cells #[.int .u64 x622000_2, .int .u64 x622001_2] 24 (0, 0)) (by (with_reducible repeat (first | refine blk_drewN ?_ _ | refine blk_drew ?_ | refine blk_alloc ?_ _)); exact BK621.out) hb)
                    have n3_ := Aside0.mk (below_step (by repeat (first | (with_reducible first | exact HB.out | apply below_alloc | apply pw_below_drewN | apply below_drew1 | refine below_set ?_ GE604.out | refine below_set ?_ GE618.out | refine below_set ?_ GE621.out) | exact HB.out)) hb)
                    clear BK604
                    clear BK618
                    clear BK621
                    clear HB
                    have BK604 := n0_
                    have BK618 := n1_
                    have BK621 := n2_
                    have HB := n3_
                    clear n0_ n1_ n2_ n3_
                    (try clear hb)
                    (try clear hb2)
                    (try clear hk)
                    (try clear hi)
                    refine hK.out _ _ ⟨(blk_cell BK621.out 0).trans rfl, (blk_cell BK621.out 1).trans rfl, ((HB.out.cell (World.block_lt_of_cell? w _ hw624_0)).trans hw624_0)⟩ (fun hHeld => ?_)
                    clear hK K
                    refine norm_ (a' := ?_) ?_ ?_
                    rotate_left
                    · show Act.put _ (some 65) _ = _
                      simp only [Act.put, List.setIfInBounds_toArray, List.set_cons_zero, List.set_cons_succ, i64_w, i32_w]
                      rfl
                    refine last_ (i := 8) (N := none) #[true, true, true, true, true, true, true, true, true] rfl rfl (one_of HT_.out (by kernel_rfl)) (by decide) (fun K hK => ?_)
                    have hs58 : w57.cell? ⟨gb621, 0, none⟩ = some (.int .u64 x622000_2) := (blk_cell BK621.out 0).trans rfl
                    have hfs58 := blk_frozen BK621.out 0
                    have hns58_0 := NB604_621.out
                    have hns58_1 := NB618_621.out
                    have hms58_0 := NB621_604.out
                    have hms58_1 := NB621_618.out
                    have hs59 : w57.cell? ⟨gb621, 1, none⟩ = some (.int .u64 x622001_2) := (blk_cell BK621.out 1).trans rfl
                    have hfs59 := blk_frozen BK621.out 1
                    have hns59_0 := NB604_621.out
                    have hns59_1 := NB618_621.out
                    have hms59_0 := NB621_604.out
                    have hms59_1 := NB621_618.out
                    refine skip_ (w1 := ?_) (by rfl) rfl ?_ ?_
                    rotate_left
                    · go_simp
                      rfl
                    refine hK.out _ _ ?_
                    clear hK K
                    refine done_ (done_of HT_.out (by kernel_rfl)) ?_
                    try go_wp2
                    have n0_ : Aside0 (((w57.setCell ⟨gb621, 0, none⟩ (.int .u64 t627)).setCell ⟨gb621, 1, none⟩ (.int .u64 t628)).heap[gb604]? = some (.cells #[.int .u64 t602, .int .u64 t603] 24 (0, 0))) := ⟨by (with_reducible repeat (first | refine blk_drewN ?_ _ | refine blk_drew ?_ | refine blk_alloc ?_ _)); refine blk_far ?_ NB604_621.out _; (with_reducible repeat (first | refine blk_drewN ?_ _ | refine blk_drew ?_ | refine blk_alloc ?_ _)); refine blk_far ?_ NB604_621.out _; (with_reducible repeat (first | refine blk_drewN ?_ _ | refine blk_drew ?_ | refine blk_alloc ?_ _)); exact BK604.out⟩
                    have n1_ : Aside0 (((w57.setCell ⟨gb621, 0, none⟩ (.int .u64 t627)).setCell ⟨gb621, 1, none⟩ (.int .u64 t628)).heap[gb618]? = some (.cells #[.int .u64 x619000_2, .int .u64 x619001_2] 24 (0, 0))) := ⟨by (with_reducible repeat (first | refine blk_drewN ?_ _ | refine blk_drew ?_ | refine blk_alloc ?_ _)); refine blk_far ?_ NB618_621.out _; (with_reducible repeat (first | refine blk_drewN ?_ _ | refine blk_drew ?_ | refine blk_alloc ?_ _)); refine blk_far ?_ NB618_621.out _; (with_reducible repeat (first | refine blk_drewN ?_ _ | refine blk_drew ?_ | refine blk_alloc ?_ _)); exact BK618.out⟩
                    have n2_ : Aside0 (((w57.setCell ⟨gb621, 0, none⟩ (.int .u64 t627)).setCell ⟨gb621, 1, none⟩ (.int .u64 t628)).heap[gb621]? = some (.cells #[.int .u64 t627, .int .u64 t628] 24 (0, 0))) := ⟨by (with_reducible repeat (first | refine blk_drewN ?_ _ | refine blk_drew ?_ | refine blk_alloc ?_ _)); refine blk_put (cs := #[.int .u64 t627, .int .u64 x622001_2]) ?_ 1 _ rfl; (with_reducible repeat (first | refine blk_drewN ?_ _ | refine blk_drew ?_ | refine blk_alloc ?_ _)); refine blk_put (cs := #[.int .u64 x622000_2, .int .u64 x622001_2]) ?_ 0 _ rfl; (with_reducible repeat (first | refine blk_drewN ?_ _ | refine blk_drew ?_ | refine blk_alloc ?_ _)); exact BK621.out⟩
                    have n3_ : Aside0 (Below w.heap.size w ((w57.setCell ⟨gb621, 0, none⟩ (.int .u64 t627)).setCell ⟨gb621, 1, none⟩ (.int .u64 t628))) := ⟨by repeat (first | (with_reducible first | exact HB.out | apply below_alloc | apply pw_below_drewN | apply below_drew1 | refine below_set ?_ GE604.out | refine below_set ?_ GE618.out | refine below_set ?_ GE621.out) | exact HB.out)⟩
                    (try clear BK604)
                    (try clear BK618)
                    (try clear BK621)
                    (try clear HB)
                    generalize ((w57.setCell ⟨gb621, 0, none⟩ (.int .u64 t627)).setCell ⟨gb621, 1, none⟩ (.int .u64 t628)) = w60 at n0_ n1_ n2_ n3_ ⊢
                    have BK604 := n0_
                    have BK618 := n1_
                    have BK621 := n2_
                    have HB := n3_
                    clear n0_ n1_ n2_ n3_
                    have n0_ := Aside0.mk (blk_drew BK604.out)
                    have n1_ := Aside0.mk (blk_drew BK618.out)
                    have n2_ := Aside0.mk (blk_drew BK621.out)
                    have n3_ := Aside0.mk (below_drew1 HB.out)
                    clear BK604
                    clear BK618
                    clear BK621
                    clear HB
                    have BK604 := n0_
                    have BK618 := n1_
                    have BK621 := n2_
                    have HB := n3_
                    clear n0_ n1_ n2_ n3_
                    have p629 : 0 ≤ (x18_2 : Int) := of_decide_eq_true (by first | (with_reducible assumption) | assumption)
                    have q629 : x18_2 < (l2.length : Int) := of_decide_eq_true (by first | (with_reducible assumption) | assumption)
                    obtain ⟨ad629, e629, hx629_0⟩ := Kd.at_int HR2.out x18_2 p629 q629
                    have hw629_0 := hx629_0
                    cases e629
                    replace hx629_0 := (HB.out.cell (World.block_lt_of_cell? w _ hx629_0)).trans hx629_0
                    replace p629 := eq_true p629
                    replace q629 := eq_true q629
                    refine start_ (n := 9) (S := fun w' => w'.cell? ⟨gb621, 0, none⟩ = some (.int .u64 t627) ∧ w'.cell? ⟨gb621, 1, none⟩ = some (.int .u64 t628) ∧ w'.cell? (ad629.add (x18_2).toNat) = some (.int .u64 (rd l2 x18_2))) (ds := []) #[false, false, false, false, false, false, false, false, false] (by kernel_rfl) rfl rfl ⟨(blk_cell BK621.out 0).trans rfl, (blk_cell BK621.out 1).trans rfl, ((HB.out.cell (World.block_lt_of_cell? w _ hw629_0)).trans hw629_0)⟩ (fun hHeld => ?_); refine with_tabW turnstilelaw04_room.tab11 turnstilelaw04_room.bits11 (fun HT_ HW_ => ?_)
                    generalize w60.drew = w61 at BK604 BK618 BK621 HB hx629_0 hHeld ⊢
                    refine pure_ (i := 0) (N := some 66) (v := ?_) (a' := ?_) #[true, false, false, false, false, false, false, false, false] rfl rfl (any_of HT_.out (by kernel_rfl)) (fun _ _ _ h => h) (Or.inl ⟨by rfl, ?_⟩) ?_ ?_
                    rotate_left
                    · intro w'
                      go_simp
                      with_reducible rfl
                    rotate_left
                    · simp only [Act.put, List.setIfInBounds_toArray, List.set_cons_zero, List.set_cons_succ, i64_w, i32_w]
                      rfl
                    refine pure_ (i := 1) (N := some 67) (v := ?_) (a' := ?_) #[true, true, false, false, false, false, false, false, false] rfl rfl (any_of HT_.out (by kernel_rfl)) (fun _ _ _ h => h) (Or.inl ⟨by rfl, ?_⟩) ?_ ?_
                    rotate_left
                    · intro w'
                      go_simp
                      with_reducible rfl
                    rotate_left
                    · simp only [Act.put, List.setIfInBounds_toArray, List.set_cons_zero, List.set_cons_succ, i64_w, i32_w]
                      rfl
                    refine pure_ (i := 2) (N := some 68) (v := ?_) (a' := ?_) #[true, true, true, false, false, false, false, false, false] rfl rfl (any_of HT_.out (by kernel_rfl)) (fun _ _ _ h => h) (Or.inl ⟨by rfl, ?_⟩) ?_ ?_
                    rotate_left
                    · intro w'
                      go_simp
                      with_reducible rfl
                    rotate_left
                    · simp only [Act.put, List.setIfInBounds_toArray, List.set_cons_zero, List.set_cons_succ, i64_w, i32_w]
                      rfl
                    refine take_ (i := 3) (N := some 69) (v := ?_) (a' := ?_) #[true, true, true, true, false, false, false, false, false] rfl rfl (take_ofW HT_.out HW_.out (by kernel_rfl)) (fun _ _ _ h => h) (Or.inl ⟨by rfl, ?_⟩) hHeld ?_ ?_
                    rotate_left
                    · rintro w' ⟨s0, s1, s2⟩
                      go_simp
                      with_reducible rfl
                    rotate_left
                    · simp only [Act.put, List.setIfInBounds_toArray, List.set_cons_zero, List.set_cons_succ, i64_w, i32_w]
                      rfl
                    refine take_ (i := 5) (N := some 71) (v := ?_) (a' := ?_) #[true, true, true, true, false, true, false, false, false] rfl rfl (take_ofW HT_.out HW_.out (by kernel_rfl)) (fun _ _ _ h => h) (Or.inl ⟨by rfl, ?_⟩) hHeld ?_ ?_
                    rotate_left
                    · rintro w' ⟨s0, s1, s2⟩
                      go_simp
                      with_reducible rfl
                    rotate_left
                    · simp only [Act.put, List.setIfInBounds_toArray, List.set_cons_zero, List.set_cons_succ, i64_w, i32_w]
                      rfl
                    refine join_ (σ := Nat) 1 #[true, true, true, true, true, true, true, true, false] (fun s_ => [(70, .agg #[.int .u64 t630, .int .u64 t631]), (72, .agg #[.int .u64 t632, .int .u64 t633]), (19, .pointer (some ⟨s_, 0, none⟩))]) (fun s_ w' => (w'.cell? ⟨gb621, 0, none⟩ = some (.int .u64 t627) ∧ w'.cell? ⟨gb621, 1, none⟩ = some (.int .u64 t628) ∧ w'.cell? (ad629.add (x18_2).toNat) = some (.int .u64 (rd l2 x18_2))) ∧ (w'.heap[gb604]? = some (.cells #[.int .u64 t602, .int .u64 t603] 24 (0, 0))) ∧ (w'.heap[gb618]? = some (.cells #[.int .u64 x619000_2, .int .u64 x619001_2] 24 (0, 0))) ∧ (w'.heap[gb621]? = some (.cells #[.int .u64 t627, .int .u64 t628] 24 (0, 0))) ∧ (w'.heap[s_]? = some (.cells #[.int .u64 0, .int .u64 0] 24 (0, 0))) ∧ (w.heap.size ≤ s_) ∧ (w.heap.size ≤ s_) ∧ (gb604 ≠ s_) ∧ (s_ ≠ gb604) ∧ (gb618 ≠ s_) ∧ (s_ ≠ gb618) ∧ (gb621 ≠ s_) ∧ (s_ ≠ gb621) ∧ (Below w.heap.size w w')) ?_ ?_
                    rotate_left
                    · intro hCont
                      refine two_ (i := 4) (j := 7) (Ni := some 70) (Nj := some 19) #[true, true, true, true, true, true, false, false, false] #[true, true, true, true, false, true, false, true, false] rfl rfl rfl rfl (two_of HT_.out (by kernel_rfl)) (by decide) (by decide) (fun K hK => ?_) (fun K hK => ?_)
                      · skip
                        refine goes_ Try.func20 (by kernel_rfl) rfl #[.int .u64 (rd l2 x18_2)] (by rfl) rfl rfl (by (try simp only [List.map_toArray, List.map_cons, List.map_nil]); first | done | rfl | (simp only [List.length_drop, List.length_take]; rfl)) ?_
                        with_reducible refine (sat_Of.calls (rd l2 x18_2) t630 t631 _ A49.out).mono ?_
                        rintro e w62 ⟨rfl, hb⟩
                        refine ⟨_, rfl, ?_⟩
                        have n0_ := Aside0.mk (blk_below (g := gb604) (o := .cells #[.int .u64 t602, .int .u64 t603] 24 (0, 0)) (by (with_reducible repeat (first | refine blk_drewN ?_ _ | refine blk_drew ?_ | refine blk_alloc ?_ _)); exact BK604.out) hb)
                        have n1_ := Aside0.mk (blk_below (g := gb618) (o := .cells #[.int .u64 x619000_2, .int .u64 x619001_2] 24 (0, 0)) (by (with_reducible repeat (first | refine blk_drewN ?_ _ | refine blk_drew ?_ | refine blk_alloc ?_ _)); exact BK618.out) hb)
                        have n2_ := Aside0.mk (blk_below (g := gb621) (o := .cells #[.int .u64 t627, .int .u64 t628] 24 (0, 0)) (by (with_reducible repeat (first | refine blk_drewN ?_ _ | refine blk_drew ?_ | refine blk_alloc ?_ _)); exact BK621.out) hb)
                        have n3_ := Aside0.mk (below_step (by repeat (first | (with_reducible first | exact HB.out | apply below_alloc | apply pw_below_drewN | apply below_drew1 | refine below_set ?_ GE604.out | refine below_set ?_ GE618.out | refine below_set ?_ GE621.out) | exact HB.out)) hb)
                        clear BK604
                        clear BK618
                        clear BK621
                        clear HB
                        have BK604 := n0_
                        have BK618 := n1_
                        have BK621 := n2_
                        have HB := n3_
                        clear n0_ n1_ n2_ n3_
                        (try clear hb)
                        (try clear hb2)
                        (try clear hk)
                        (try clear hi)
                        refine hK.out _ _ ⟨(blk_cell BK621.out 0).trans rfl, (blk_cell BK621.out 1).trans rfl, ((HB.out.cell (World.block_lt_of_cell? w _ hw629_0)).trans hw629_0)⟩ (fun hHeld => ?_)
                        clear hK K
                        refine norm_ (a' := ?_) ?_ ?_
                        rotate_left
                        · show Act.put _ (some 70) _ = _
                          simp only [Act.put, List.setIfInBounds_toArray, List.set_cons_zero, List.set_cons_succ, i64_w, i32_w]
                          rfl
                        refine two_ (i := 6) (j := 7) (Ni := some 72) (Nj := some 19) #[true, true, true, true, true, true, true, false, false] #[true, true, true, true, true, true, false, true, false] rfl rfl rfl rfl (two_of HT_.out (by kernel_rfl)) (by decide) (by decide) (fun K hK => ?_) (fun K hK => ?_)
                        · skip
                          refine goes_ Try.func19 (by kernel_rfl) rfl #[.agg #[.int .u64 t630, .int .u64 t631], .agg #[.int .u64 t627, .int .u64 t628]] (by rfl) rfl rfl (by (try simp only [List.map_toArray, List.map_cons, List.map_nil]); first | done | rfl | (simp only [List.length_drop, List.length_take]; rfl)) ?_
                          with_reducible refine (sat_Wide_Plus.calls t630 t631 t627 t628 t632 t633 _ A50.out).mono ?_
                          rintro e w63 ⟨rfl, hb⟩
                          refine ⟨_, rfl, ?_⟩
                          have n0_ := Aside0.mk (blk_below (g := gb604) (o := .cells #[.int .u64 t602, .int .u64 t603] 24 (0, 0)) (by (with_reducible repeat (first | refine blk_drewN ?_ _ | refine blk_drew ?_ | refine blk_alloc ?_ _)); exact BK604.out) hb)
                          have n1_ := Aside0.mk (blk_below (g := gb618) (o := .cells #[.int .u64 x619000_2, .int .u64 x619001_2] 24 (0, 0)) (by (with_reducible repeat (first | refine blk_drewN ?_ _ | refine blk_drew ?_ | refine blk_alloc ?_ _)); exact BK618.out) hb)
                          have n2_ := Aside0.mk (blk_below (g := gb621) (o := .cells #[.int .u64 t627, .int .u64 t628] 24 (0, 0)) (by (with_reducible repeat (first | refine blk_drewN ?_ _ | refine blk_drew ?_ | refine blk_alloc ?_ _)); exact BK621.out) hb)
                          have n3_ := Aside0.mk (below_step (by repeat (first | (with_reducible first | exact HB.out | apply below_alloc | apply pw_below_drewN | apply below_drew1 | refine below_set ?_ GE604.out | refine below_set ?_ GE618.out | refine below_set ?_ GE621.out) | exact HB.out)) hb)
                          clear BK604
                          clear BK618
                          clear BK621
                          clear HB
                          have BK604 := n0_
                          have BK618 := n1_
                          have BK621 := n2_
                          have HB := n3_
                          clear n0_ n1_ n2_ n3_
                          (try clear hb)
                          (try clear hb2)
                          (try clear hk)
                          (try clear hi)
                          refine hK.out _ _ ⟨(blk_cell BK621.out 0).trans rfl, (blk_cell BK621.out 1).trans rfl, ((HB.out.cell (World.block_lt_of_cell? w _ hw629_0)).trans hw629_0)⟩ (fun hHeld => ?_)
                          clear hK K
                          refine norm_ (a' := ?_) ?_ ?_
                          rotate_left
                          · show Act.put _ (some 72) _ = _
                            simp only [Act.put, List.setIfInBounds_toArray, List.set_cons_zero, List.set_cons_succ, i64_w, i32_w]
                            rfl
                          refine one_ (i := 7) (N := some 19) #[true, true, true, true, true, true, true, true, false] rfl rfl (one_of HT_.out (by kernel_rfl)) (by decide) (fun K hK => ?_)
                          refine box_step ?hg (N := 19) ?hd (cs := #[.int .u64 0, .int .u64 0]) (t := 24) ?hr ?_; (case hd => rfl); (case hg => rfl); (case hr => first | (go_simp; done) | (go_simp; rfl))
                          intro gb634 hg w64 hbox hb
                          have n0_ := Aside0.mk (blk_below (g := gb604) (o := .cells #[.int .u64 t602, .int .u64 t603] 24 (0, 0)) (by (with_reducible repeat (first | refine blk_drewN ?_ _ | refine blk_drew ?_ | refine blk_alloc ?_ _)); exact BK604.out) hb)
                          have n1_ := Aside0.mk (blk_below (g := gb618) (o := .cells #[.int .u64 x619000_2, .int .u64 x619001_2] 24 (0, 0)) (by (with_reducible repeat (first | refine blk_drewN ?_ _ | refine blk_drew ?_ | refine blk_alloc ?_ _)); exact BK618.out) hb)
                          have n2_ := Aside0.mk (blk_below (g := gb621) (o := .cells #[.int .u64 t627, .int .u64 t628] 24 (0, 0)) (by (with_reducible repeat (first | refine blk_drewN ?_ _ | refine blk_drew ?_ | refine blk_alloc ?_ _)); exact BK621.out) hb)
                          have n3_ := Aside0.mk (below_step (by repeat (first | (with_reducible first | exact HB.out | apply below_alloc | apply pw_below_drewN | apply below_drew1 | refine below_set ?_ GE604.out | refine below_set ?_ GE618.out | refine below_set ?_ GE621.out) | exact HB.out)) hb)
                          have n4_ := Aside0.mk (hbox)
                          have n5_ := Aside0.mk ((by rw [hg]; exact (below_size (by repeat (first | (with_reducible first | exact HB.out | apply below_alloc | apply pw_below_drewN | apply below_drew1 | refine below_set ?_ GE604.out | refine below_set ?_ GE618.out | refine below_set ?_ GE621.out) | exact HB.out))) : w.heap.size ≤ gb634))
                          have n6_ := Aside0.mk ((by rw [hg]; exact (below_size (by repeat (first | (with_reducible first | exact HB.out | apply below_alloc | apply pw_below_drewN | apply below_drew1 | refine below_set ?_ GE604.out | refine below_set ?_ GE618.out | refine below_set ?_ GE621.out) | exact HB.out))) : w.heap.size ≤ gb634))
                          have n7_ := Aside0.mk ((by rw [hg]; exact Nat.ne_of_lt (blk_lt (g := gb604) (o := .cells #[.int .u64 t602, .int .u64 t603] 24 (0, 0)) (by (with_reducible repeat (first | refine blk_drewN ?_ _ | refine blk_drew ?_ | refine blk_alloc ?_ _)); exact BK604.out)) : gb604 ≠ gb634))
                          have n8_ := Aside0.mk ((by rw [hg]; exact Nat.ne_of_gt (blk_lt (g := gb604) (o := .cells #[.int .u64 t602, .int .u64 t603] 24 (0, 0)) (by (with_reducible repeat (first | refine blk_drewN ?_ _ | refine blk_drew ?_ | refine blk_alloc ?_ _)); exact BK604.out)) : gb634 ≠ gb604))
                          have n9_ := Aside0.mk ((by rw [hg]; exact Nat.ne_of_lt (blk_lt (g := gb618) (o := .cells #[.int .u64 x619000_2, .int .u64 x619001_2] 24 (0, 0)) (by (with_reducible repeat (first | refine blk_drewN ?_ _ | refine blk_drew ?_ | refine blk_alloc ?_ _)); exact BK618.out)) : gb618 ≠ gb634))
                          have n10_ := Aside0.mk ((by rw [hg]; exact Nat.ne_of_gt (blk_lt (g := gb618) (o := .cells #[.int .u64 x619000_2, .int .u64 x619001_2] 24 (0, 0)) (by (with_reducible repeat (first | refine blk_drewN ?_ _ | refine blk_drew ?_ | refine blk_alloc ?_ _)); exact BK618.out)) : gb634 ≠ gb618))
                          have n11_ := Aside0.mk ((by rw [hg]; exact Nat.ne_of_lt (blk_lt (g := gb621) (o := .cells #[.int .u64 t627, .int .u64 t628] 24 (0, 0)) (by (with_reducible repeat (first | refine blk_drewN ?_ _ | refine blk_drew ?_ | refine blk_alloc ?_ _)); exact BK621.out)) : gb621 ≠ gb634))
                          have n12_ := Aside0.mk ((by rw [hg]; exact Nat.ne_of_gt (blk_lt (g := gb621) (o := .cells #[.int .u64 t627, .int .u64 t628] 24 (0, 0)) (by (with_reducible repeat (first | refine blk_drewN ?_ _ | refine blk_drew ?_ | refine blk_alloc ?_ _)); exact BK621.out)) : gb634 ≠ gb621))
                          clear BK604
                          clear BK618
                          clear BK621
                          clear HB
                          have BK604 := n0_
                          have BK618 := n1_
                          have BK621 := n2_
                          have HB := n3_
                          have BK634 := n4_
                          have GW634 := n5_
                          have GE634 := n6_
                          have NB604_634 := n7_
                          have NB634_604 := n8_
                          have NB618_634 := n9_
                          have NB634_618 := n10_
                          have NB621_634 := n11_
                          have NB634_621 := n12_
                          clear n0_ n1_ n2_ n3_ n4_ n5_ n6_ n7_ n8_ n9_ n10_ n11_ n12_
                          clear hb hbox hg
                          refine hK.out _ _ ⟨(blk_cell BK621.out 0).trans rfl, (blk_cell BK621.out 1).trans rfl, ((HB.out.cell (World.block_lt_of_cell? w _ hw629_0)).trans hw629_0)⟩ (fun hHeld => ?_)
                          clear hK K
                          refine norm_ (a' := ?_) ?_ ?_
                          rotate_left
                          · show Act.put _ (some 19) _ = _
                            simp only [Act.put, List.setIfInBounds_toArray, List.set_cons_zero, List.set_cons_succ, i64_w, i32_w]
                            rfl
                          exact norm_ (by simp only [putAll, Act.put, List.setIfInBounds_toArray, List.set_cons_zero, List.set_cons_succ]) (hCont (gb634) _ ⟨hHeld, (by (with_reducible repeat (first | refine blk_drewN ?_ _ | refine blk_drew ?_ | refine blk_alloc ?_ _)); exact BK604.out), (by (with_reducible repeat (first | refine blk_drewN ?_ _ | refine blk_drew ?_ | refine blk_alloc ?_ _)); exact BK618.out), (by (with_reducible repeat (first | refine blk_drewN ?_ _ | refine blk_drew ?_ | refine blk_alloc ?_ _)); exact BK621.out), (by (with_reducible repeat (first | refine blk_drewN ?_ _ | refine blk_drew ?_ | refine blk_alloc ?_ _)); exact BK634.out), GW634.out, GE634.out, NB604_634.out, NB634_604.out, NB618_634.out, NB634_618.out, NB621_634.out, NB634_621.out, (by repeat (first | (with_reducible first | exact HB.out | apply below_alloc | apply pw_below_drewN | apply below_drew1 | refine below_set ?_ GE604.out | refine below_set ?_ GE618.out | refine below_set ?_ GE621.out | refine below_set ?_ GE634.out) | exact HB.out))⟩)
                        · skip
                          refine box_step ?hg (N := 19) ?hd (cs := #[.int .u64 0, .int .u64 0]) (t := 24) ?hr ?_; (case hd => rfl); (case hg => rfl); (case hr => first | (go_simp; done) | (go_simp; rfl))
                          intro gb634 hg w63 hbox hb
                          have n0_ := Aside0.mk (blk_below (g := gb604) (o := .cells #[.int .u64 t602, .int .u64 t603] 24 (0, 0)) (by (with_reducible repeat (first | refine blk_drewN ?_ _ | refine blk_drew ?_ | refine blk_alloc ?_ _)); exact BK604.out) hb)
                          have n1_ := Aside0.mk (blk_below (g := gb618) (o := .cells #[.int .u64 x619000_2, .int .u64 x619001_2] 24 (0, 0)) (by (with_reducible repeat (first | refine blk_drewN ?_ _ | refine blk_drew ?_ | refine blk_alloc ?_ _)); exact BK618.out) hb)
                          have n2_ := Aside0.mk (blk_below (g := gb621) (o := .cells #[.int .u64 t627, .int .u64 t628] 24 (0, 0)) (by (with_reducible repeat (first | refine blk_drewN ?_ _ | refine blk_drew ?_ | refine blk_alloc ?_ _)); exact BK621.out) hb)
                          have n3_ := Aside0.mk (below_step (by repeat (first | (with_reducible first | exact HB.out | apply below_alloc | apply pw_below_drewN | apply below_drew1 | refine below_set ?_ GE604.out | refine below_set ?_ GE618.out | refine below_set ?_ GE621.out) | exact HB.out)) hb)
                          have n4_ := Aside0.mk (hbox)
                          have n5_ := Aside0.mk ((by rw [hg]; exact (below_size (by repeat (first | (with_reducible first | exact HB.out | apply below_alloc | apply pw_below_drewN | apply below_drew1 | refine below_set ?_ GE604.out | refine below_set ?_ GE618.out | refine below_set ?_ GE621.out) | exact HB.out))) : w.heap.size ≤ gb634))
                          have n6_ := Aside0.mk ((by rw [hg]; exact (below_size (by repeat (first | (with_reducible first | exact HB.out | apply below_alloc | apply pw_below_drewN | apply below_drew1 | refine below_set ?_ GE604.out | refine below_set ?_ GE618.out | refine below_set ?_ GE621.out) | exact HB.out))) : w.heap.size ≤ gb634))
                          have n7_ := Aside0.mk ((by rw [hg]; exact Nat.ne_of_lt (blk_lt (g := gb604) (o := .cells #[.int .u64 t602, .int .u64 t603] 24 (0, 0)) (by (with_reducible repeat (first | refine blk_drewN ?_ _ | refine blk_drew ?_ | refine blk_alloc ?_ _)); exact BK604.out)) : gb604 ≠ gb634))
                          have n8_ := Aside0.mk ((by rw [hg]; exact Nat.ne_of_gt (blk_lt (g := gb604) (o := .cells #[.int .u64 t602, .int .u64 t603] 24 (0, 0)) (by (with_reducible repeat (first | refine blk_drewN ?_ _ | refine blk_drew ?_ | refine blk_alloc ?_ _)); exact BK604.out)) : gb634 ≠ gb604))
                          have n9_ := Aside0.mk ((by rw [hg]; exact Nat.ne_of_lt (blk_lt (g := gb618) (o := .cells #[.int .u64 x619000_2, .int .u64 x619001_2] 24 (0, 0)) (by (with_reducible repeat (first | refine blk_drewN ?_ _ | refine blk_drew ?_ | refine blk_alloc ?_ _)); exact BK618.out)) : gb618 ≠ gb634))
                          have n10_ := Aside0.mk ((by rw [hg]; exact Nat.ne_of_gt (blk_lt (g := gb618) (o := .cells #[.int .u64 x619000_2, .int .u64 x619001_2] 24 (0, 0)) (by (with_reducible repeat (first | refine blk_drewN ?_ _ | refine blk_drew ?_ | refine blk_alloc ?_ _)); exact BK618.out)) : gb634 ≠ gb618))
                          have n11_ := Aside0.mk ((by rw [hg]; exact Nat.ne_of_lt (blk_lt (g := gb621) (o := .cells #[.int .u64 t627, .int .u64 t628] 24 (0, 0)) (by (with_reducible repeat (first | refine blk_drewN ?_ _ | refine blk_drew ?_ | refine blk_alloc ?_ _)); exact BK621.out)) : gb621 ≠ gb634))
                          have n12_ := Aside0.mk ((by rw [hg]; exact Nat.ne_of_gt (blk_lt (g := gb621) (o := .cells #[.int .u64 t627, .int .u64 t628] 24 (0, 0)) (by (with_reducible repeat (first | refine blk_drewN ?_ _ | refine blk_drew ?_ | refine blk_alloc ?_ _)); exact BK621.out)) : gb634 ≠ gb621))
                          clear BK604
                          clear BK618
                          clear BK621
                          clear HB
                          have BK604 := n0_
                          have BK618 := n1_
                          have BK621 := n2_
                          have HB := n3_
                          have BK634 := n4_
                          have GW634 := n5_
                          have GE634 := n6_
                          have NB604_634 := n7_
                          have NB634_604 := n8_
                          have NB618_634 := n9_
                          have NB634_618 := n10_
                          have NB621_634 := n11_
                          have NB634_621 := n12_
                          clear n0_ n1_ n2_ n3_ n4_ n5_ n6_ n7_ n8_ n9_ n10_ n11_ n12_
                          clear hb hbox hg
                          refine hK.out _ _ ⟨(blk_cell BK621.out 0).trans rfl, (blk_cell BK621.out 1).trans rfl, ((HB.out.cell (World.block_lt_of_cell? w _ hw629_0)).trans hw629_0)⟩ (fun hHeld => ?_)
                          clear hK K
                          refine norm_ (a' := ?_) ?_ ?_
                          rotate_left
                          · show Act.put _ (some 19) _ = _
                            simp only [Act.put, List.setIfInBounds_toArray, List.set_cons_zero, List.set_cons_succ, i64_w, i32_w]
                            rfl
                          refine one_ (i := 6) (N := some 72) #[true, true, true, true, true, true, true, true, false] rfl rfl (one_of HT_.out (by kernel_rfl)) (by decide) (fun K hK => ?_)
                          refine goes_ Try.func19 (by kernel_rfl) rfl #[.agg #[.int .u64 t630, .int .u64 t631], .agg #[.int .u64 t627, .int .u64 t628]] (by rfl) rfl rfl (by (try simp only [List.map_toArray, List.map_cons, List.map_nil]); first | done | rfl | (simp only [List.length_drop, List.length_take]; rfl)) ?_
                          with_reducible refine (sat_Wide_Plus.calls t630 t631 t627 t628 t632 t633 _ A50.out).mono ?_
                          rintro e w64 ⟨rfl, hb⟩
                          refine ⟨_, rfl, ?_⟩
                          have n0_ := Aside0.mk (blk_below (g := gb604) (o := .cells #[.int .u64 t602, .int .u64 t603] 24 (0, 0)) (by (with_reducible repeat (first | refine blk_drewN ?_ _ | refine blk_drew ?_ | refine blk_alloc ?_ _)); exact BK604.out) hb)
                          have n1_ := Aside0.mk (blk_below (g := gb618) (o := .cells #[.int .u64 x619000_2, .int .u64 x619001_2] 24 (0, 0)) (by (with_reducible repeat (first | refine blk_drewN ?_ _ | refine blk_drew ?_ | refine blk_alloc ?_ _)); exact BK618.out) hb)
                          have n2_ := Aside0.mk (blk_below (g := gb621) (o := .cells #[.int .u64 t627, .int .u64 t628] 24 (0, 0)) (by (with_reducible repeat (first | refine blk_drewN ?_ _ | refine blk_drew ?_ | refine blk_alloc ?_ _)); exact BK621.out) hb)
                          have n3_ := Aside0.mk (blk_below (g := gb634) (o := .cells #[.int .u64 0, .int .u64 0] 24 (0, 0)) (by (with_reducible repeat (first | refine blk_drewN ?_ _ | refine blk_drew ?_ | refine blk_alloc ?_ _)); exact BK634.out) hb)
                          have n4_ := Aside0.mk (below_step (by repeat (first | (with_reducible first | exact HB.out | apply below_alloc | apply pw_below_drewN | apply below_drew1 | refine below_set ?_ GE604.out | refine below_set ?_ GE618.out | refine below_set ?_ GE621.out | refine below_set ?_ GE634.out) | exact HB.out)) hb)
                          clear BK604
                          clear BK618
                          clear BK621
                          clear BK634
                          clear HB
                          have BK604 := n0_
                          have BK618 := n1_
                          have BK621 := n2_
                          have BK634 := n3_
                          have HB := n4_
                          clear n0_ n1_ n2_ n3_ n4_
                          (try clear hb)
                          (try clear hb2)
                          (try clear hk)
                          (try clear hi)
                          refine hK.out _ _ ⟨(blk_cell BK621.out 0).trans rfl, (blk_cell BK621.out 1).trans rfl, ((HB.out.cell (World.block_lt_of_cell? w _ hw629_0)).trans hw629_0)⟩ (fun hHeld => ?_)
                          clear hK K
                          refine norm_ (a' := ?_) ?_ ?_
                          rotate_left
                          · show Act.put _ (some 72) _ = _
                            simp only [Act.put, List.setIfInBounds_toArray, List.set_cons_zero, List.set_cons_succ, i64_w, i32_w]
                            rfl
                          exact norm_ (by simp only [putAll, Act.put, List.setIfInBounds_toArray, List.set_cons_zero, List.set_cons_succ]) (hCont (gb634) _ ⟨hHeld, (by (with_reducible repeat (first | refine blk_drewN ?_ _ | refine blk_drew ?_ | refine blk_alloc ?_ _)); exact BK604.out), (by (with_reducible repeat (first | refine blk_drewN ?_ _ | refine blk_drew ?_ | refine blk_alloc ?_ _)); exact BK618.out), (by (with_reducible repeat (first | refine blk_drewN ?_ _ | refine blk_drew ?_ | refine blk_alloc ?_ _)); exact BK621.out), (by (with_reducible repeat (first | refine blk_drewN ?_ _ | refine blk_drew ?_ | refine blk_alloc ?_ _)); exact BK634.out), GW634.out, GE634.out, NB604_634.out, NB634_604.out, NB618_634.out, NB634_618.out, NB621_634.out, NB634_621.out, (by repeat (first | (with_reducible first | exact HB.out | apply below_alloc | apply pw_below_drewN | apply below_drew1 | refine below_set ?_ GE604.out | refine below_set ?_ GE618.out | refine below_set ?_ GE621.out | refine below_set ?_ GE634.out) | exact HB.out))⟩)
                      · skip
                        refine box_step ?hg (N := 19) ?hd (cs := #[.int .u64 0, .int .u64 0]) (t := 24) ?hr ?_; (case hd => rfl); (case hg => rfl); (case hr => first | (go_simp; done) | (go_simp; rfl))
                        intro gb634 hg w62 hbox hb
                        have n0_ := Aside0.mk (blk_below (g := gb604) (o := .cells #[.int .u64 t602, .int .u64 t603] 24 (0, 0)) (by (with_reducible repeat (first | refine blk_drewN ?_ _ | refine blk_drew ?_ | refine blk_alloc ?_ _)); exact BK604.out) hb)
                        have n1_ := Aside0.mk (blk_below (g := gb618) (o := .cells #[.int .u64 x619000_2, .int .u64 x619001_2] 24 (0, 0)) (by (with_reducible repeat (first | refine blk_drewN ?_ _ | refine blk_drew ?_ | refine blk_alloc ?_ _)); exact BK618.out) hb)
                        have n2_ := Aside0.mk (blk_below (g := gb621) (o := .cells #[.int .u64 t627, .int .u64 t628] 24 (0, 0)) (by (with_reducible repeat (first | refine blk_drewN ?_ _ | refine blk_drew ?_ | refine blk_alloc ?_ _)); exact BK621.out) hb)
                        have n3_ := Aside0.mk (below_step (by repeat (first | (with_reducible first | exact HB.out | apply below_alloc | apply pw_below_drewN | apply below_drew1 | refine below_set ?_ GE604.out | refine below_set ?_ GE618.out | refine below_set ?_ GE621.out) | exact HB.out)) hb)
                        have n4_ := Aside0.mk (hbox)
                        have n5_ := Aside0.mk ((by rw [hg]; exact (below_size (by repeat (first | (with_reducible first | exact HB.out | apply below_alloc | apply pw_below_drewN | apply below_drew1 | refine below_set ?_ GE604.out | refine below_set ?_ GE618.out | refine below_set ?_ GE621.out) | exact HB.out))) : w.heap.size ≤ gb634))
                        have n6_ := Aside0.mk ((by rw [hg]; exact (below_size (by repeat (first | (with_reducible first | exact HB.out | apply below_alloc | apply pw_below_drewN | apply below_drew1 | refine below_set ?_ GE604.out | refine below_set ?_ GE618.out | refine below_set ?_ GE621.out) | exact HB.out))) : w.heap.size ≤ gb634))
                        have n7_ := Aside0.mk ((by rw [hg]; exact Nat.ne_of_lt (blk_lt (g := gb604) (o := .cells #[.int .u64 t602, .int .u64 t603] 24 (0, 0)) (by (with_reducible repeat (first | refine blk_drewN ?_ _ | refine blk_drew ?_ | refine blk_alloc ?_ _)); exact BK604.out)) : gb604 ≠ gb634))
                        have n8_ := Aside0.mk ((by rw [hg]; exact Nat.ne_of_gt (blk_lt (g := gb604) (o := .cells #[.int .u64 t602, .int .u64 t603] 24 (0, 0)) (by (with_reducible repeat (first | refine blk_drewN ?_ _ | refine blk_drew ?_ | refine blk_alloc ?_ _)); exact BK604.out)) : gb634 ≠ gb604))
                        have n9_ := Aside0.mk ((by rw [hg]; exact Nat.ne_of_lt (blk_lt (g := gb618) (o := .cells #[.int .u64 x619000_2, .int .u64 x619001_2] 24 (0, 0)) (by (with_reducible repeat (first | refine blk_drewN ?_ _ | refine blk_drew ?_ | refine blk_alloc ?_ _)); exact BK618.out)) : gb618 ≠ gb634))
                        have n10_ := Aside0.mk ((by rw [hg]; exact Nat.ne_of_gt (blk_lt (g := gb618) (o := .cells #[.int .u64 x619000_2, .int .u64 x619001_2] 24 (0, 0)) (by (with_reducible repeat (first | refine blk_drewN ?_ _ | refine blk_drew ?_ | refine blk_alloc ?_ _)); exact BK618.out)) : gb634 ≠ gb618))
                        have n11_ := Aside0.mk ((by rw [hg]; exact Nat.ne_of_lt (blk_lt (g := gb621) (o := .cells #[.int .u64 t627, .int .u64 t628] 24 (0, 0)) (by (with_reducible repeat (first | refine blk_drewN ?_ _ | refine blk_drew ?_ | refine blk_alloc ?_ _)); exact BK621.out)) : gb621 ≠ gb634))
                        have n12_ := Aside0.mk ((by rw [hg]; exact Nat.ne_of_gt (blk_lt (g := gb621) (o := .cells #[.int .u64 t627, .int .u64 t628] 24 (0, 0)) (by (with_reducible repeat (first | refine blk_drewN ?_ _ | refine blk_drew ?_ | refine blk_alloc ?_ _)); exact BK621.out)) : gb634 ≠ gb621))
                        clear BK604
                        clear BK618
                        clear BK621
                        clear HB
                        have BK604 := n0_
                        have BK618 := n1_
                        have BK621 := n2_
                        have HB := n3_
                        have BK634 := n4_
                        have GW634 := n5_
                        have GE634 := n6_
                        have NB604_634 := n7_
                        have NB634_604 := n8_
                        have NB618_634 := n9_
                        have NB634_618 := n10_
                        have NB621_634 := n11_
                        have NB634_621 := n12_
                        clear n0_ n1_ n2_ n3_ n4_ n5_ n6_ n7_ n8_ n9_ n10_ n11_ n12_
                        clear hb hbox hg
                        refine hK.out _ _ ⟨(blk_cell BK621.out 0).trans rfl, (blk_cell BK621.out 1).trans rfl, ((HB.out.cell (World.block_lt_of_cell? w _ hw629_0)).trans hw629_0)⟩ (fun hHeld => ?_)
                        clear hK K
                        refine norm_ (a' := ?_) ?_ ?_
                        rotate_left
                        · show Act.put _ (some 19) _ = _
                          simp only [Act.put, List.setIfInBounds_toArray, List.set_cons_zero, List.set_cons_succ, i64_w, i32_w]
                          rfl
                        refine one_ (i := 4) (N := some 70) #[true, true, true, true, true, true, false, true, false] rfl rfl (one_of HT_.out (by kernel_rfl)) (by decide) (fun K hK => ?_)
                        refine goes_ Try.func20 (by kernel_rfl) rfl #[.int .u64 (rd l2 x18_2)] (by rfl) rfl rfl (by (try simp only [List.map_toArray, List.map_cons, List.map_nil]); first | done | rfl | (simp only [List.length_drop, List.length_take]; rfl)) ?_
                        with_reducible refine (sat_Of.calls (rd l2 x18_2) t630 t631 _ A49.out).mono ?_
                        rintro e w63 ⟨rfl, hb⟩
                        refine ⟨_, rfl, ?_⟩
                        have n0_ := Aside0.mk (blk_below (g := gb604) (o := .cells #[.int .u64 t602, .int .u64 t603] 24 (0, 0)) (by (with_reducible repeat (first | refine blk_drewN ?_ _ | refine blk_drew ?_ | refine blk_alloc ?_ _)); exact BK604.out) hb)
                        have n1_ := Aside0.mk (blk_below (g := gb618) (o := .cells #[.int .u64 x619000_2, .int .u64 x619001_2] 24 (0, 0)) (by (with_reducible repeat (first | refine blk_drewN ?_ _ | refine blk_drew ?_ | refine blk_alloc ?_ _)); exact BK618.out) hb)
                        have n2_ := Aside0.mk (blk_below (g := gb621) (o := .cells #[.int .u64 t627, .int .u64 t628] 24 (0, 0)) (by (with_reducible repeat (first | refine blk_drewN ?_ _ | refine blk_drew ?_ | refine blk_alloc ?_ _)); exact BK621.out) hb)
                        have n3_ := Aside0.mk (blk_below (g := gb634) (o := .cells #[.int .u64 0, .int .u64 0] 24 (0, 0)) (by (with_reducible repeat (first | refine blk_drewN ?_ _ | refine blk_drew ?_ | refine blk_alloc ?_ _)); exact BK634.out) hb)
                        have n4_ := Aside0.mk (below_step (by repeat (first | (with_reducible first | exact HB.out | apply below_alloc | apply pw_below_drewN | apply below_drew1 | refine below_set ?_ GE604.out | refine below_set ?_ GE618.out | refine below_set ?_ GE621.out | refine below_set ?_ GE634.out) | exact HB.out)) hb)
                        clear BK604
                        clear BK618
                        clear BK621
                        clear BK634
                        clear HB
                        have BK604 := n0_
                        have BK618 := n1_
                        have BK621 := n2_
                        have BK634 := n3_
                        have HB := n4_
                        clear n0_ n1_ n2_ n3_ n4_
                        (try clear hb)
                        (try clear hb2)
                        (try clear hk)
                        (try clear hi)
                        refine hK.out _ _ ⟨(blk_cell BK621.out 0).trans rfl, (blk_cell BK621.out 1).trans rfl, ((HB.out.cell (World.block_lt_of_cell? w _ hw629_0)).trans hw629_0)⟩ (fun hHeld => ?_)
                        clear hK K
                        refine norm_ (a' := ?_) ?_ ?_
                        rotate_left
                        · show Act.put _ (some 70) _ = _
                          simp only [Act.put, List.setIfInBounds_toArray, List.set_cons_zero, List.set_cons_succ, i64_w, i32_w]
                          rfl
                        refine one_ (i := 6) (N := some 72) #[true, true, true, true, true, true, true, true, false] rfl rfl (one_of HT_.out (by kernel_rfl)) (by decide) (fun K hK => ?_)
                        refine goes_ Try.func19 (by kernel_rfl) rfl #[.agg #[.int .u64 t630, .int .u64 t631], .agg #[.int .u64 t627, .int .u64 t628]] (by rfl) rfl rfl (by (try simp only [List.map_toArray, List.map_cons, List.map_nil]); first | done | rfl | (simp only [List.length_drop, List.length_take]; rfl)) ?_
                        with_reducible refine (sat_Wide_Plus.calls t630 t631 t627 t628 t632 t633 _ A50.out).mono ?_
                        rintro e w64 ⟨rfl, hb⟩
                        refine ⟨_, rfl, ?_⟩
                        have n0_ := Aside0.mk (blk_below (g := gb604) (o := .cells #[.int .u64 t602, .int .u64 t603] 24 (0, 0)) (by (with_reducible repeat (first | refine blk_drewN ?_ _ | refine blk_drew ?_ | refine blk_alloc ?_ _)); exact BK604.out) hb)
                        have n1_ := Aside0.mk (blk_below (g := gb618) (o := .cells #[.int .u64 x619000_2, .int .u64 x619001_2] 24 (0, 0)) (by (with_reducible repeat (first | refine blk_drewN ?_ _ | refine blk_drew ?_ | refine blk_alloc ?_ _)); exact BK618.out) hb)
                        have n2_ := Aside0.mk (blk_below (g := gb621) (o := .cells #[.int .u64 t627, .int .u64 t628] 24 (0, 0)) (by (with_reducible repeat (first | refine blk_drewN ?_ _ | refine blk_drew ?_ | refine blk_alloc ?_ _)); exact BK621.out) hb)
                        have n3_ := Aside0.mk (blk_below (g := gb634) (o := .cells #[.int .u64 0, .int .u64 0] 24 (0, 0)) (by (with_reducible repeat (first | refine blk_drewN ?_ _ | refine blk_drew ?_ | refine blk_alloc ?_ _)); exact BK634.out) hb)
                        have n4_ := Aside0.mk (below_step (by repeat (first | (with_reducible first | exact HB.out | apply below_alloc | apply pw_below_drewN | apply below_drew1 | refine below_set ?_ GE604.out | refine below_set ?_ GE618.out | refine below_set ?_ GE621.out | refine below_set ?_ GE634.out) | exact HB.out)) hb)
                        clear BK604
                        clear BK618
                        clear BK621
                        clear BK634
                        clear HB
                        have BK604 := n0_
                        have BK618 := n1_
                        have BK621 := n2_
                        have BK634 := n3_
                        have HB := n4_
                        clear n0_ n1_ n2_ n3_ n4_
                        (try clear hb)
                        (try clear hb2)
                        (try clear hk)
                        (try clear hi)
                        refine hK.out _ _ ⟨(blk_cell BK621.out 0).trans rfl, (blk_cell BK621.out 1).trans rfl, ((HB.out.cell (World.block_lt_of_cell? w _ hw629_0)).trans hw629_0)⟩ (fun hHeld => ?_)
                        clear hK K
                        refine norm_ (a' := ?_) ?_ ?_
                        rotate_left
                        · show Act.put _ (some 72) _ = _
                          simp only [Act.put, List.setIfInBounds_toArray, List.set_cons_zero, List.set_cons_succ, i64_w, i32_w]
                          rfl
                        exact norm_ (by simp only [putAll, Act.put, List.setIfInBounds_toArray, List.set_cons_zero, List.set_cons_succ]) (hCont (gb634) _ ⟨hHeld, (by (with_reducible repeat (first | refine blk_drewN ?_ _ | refine blk_drew ?_ | refine blk_alloc ?_ _)); exact BK604.out), (by (with_reducible repeat (first | refine blk_drewN ?_ _ | refine blk_drew ?_ | refine blk_alloc ?_ _)); exact BK618.out), (by (with_reducible repeat (first | refine blk_drewN ?_ _ | refine blk_drew ?_ | refine blk_alloc ?_ _)); exact BK621.out), (by (with_reducible repeat (first | refine blk_drewN ?_ _ | refine blk_drew ?_ | refine blk_alloc ?_ _)); exact BK634.out), GW634.out, GE634.out, NB604_634.out, NB634_604.out, NB618_634.out, NB634_618.out, NB621_634.out, NB634_621.out, (by repeat (first | (with_reducible first | exact HB.out | apply below_alloc | apply pw_below_drewN | apply below_drew1 | refine below_set ?_ GE604.out | refine below_set ?_ GE618.out | refine below_set ?_ GE621.out | refine below_set ?_ GE634.out) | exact HB.out))⟩)
                    rintro gb634 w65 ⟨hS_, h0_, h1_, h2_, h3_, h4_, h5_, h6_, h7_, h8_, h9_, h10_, h11_, h12_⟩
                    have n0_ : Aside0 (w65.heap[gb604]? = some (.cells #[.int .u64 t602, .int .u64 t603] 24 (0, 0))) := ⟨h0_⟩
                    have n1_ : Aside0 (w65.heap[gb618]? = some (.cells #[.int .u64 x619000_2, .int .u64 x619001_2] 24 (0, 0))) := ⟨h1_⟩
                    have n2_ : Aside0 (w65.heap[gb621]? = some (.cells #[.int .u64 t627, .int .u64 t628] 24 (0, 0))) := ⟨h2_⟩
                    have n3_ : Aside0 (w65.heap[gb634]? = some (.cells #[.int .u64 0, .int .u64 0] 24 (0, 0))) := ⟨h3_⟩
                    have n4_ : Aside0 (w.heap.size ≤ gb634) := ⟨h4_⟩
                    have n5_ : Aside0 (w.heap.size ≤ gb634) := ⟨h5_⟩
                    have n6_ : Aside0 (gb604 ≠ gb634) := ⟨h6_⟩
                    have n7_ : Aside0 (gb634 ≠ gb604) := ⟨h7_⟩
                    have n8_ : Aside0 (gb618 ≠ gb634) := ⟨h8_⟩
                    have n9_ : Aside0 (gb634 ≠ gb618) := ⟨h9_⟩
                    have n10_ : Aside0 (gb621 ≠ gb634) := ⟨h10_⟩
                    have n11_ : Aside0 (gb634 ≠ gb621) := ⟨h11_⟩
                    have n12_ : Aside0 (Below w.heap.size w w65) := ⟨h12_⟩
                    clear BK604
                    clear BK618
                    clear BK621
                    clear HB
                    clear h0_ h1_ h2_ h3_ h4_ h5_ h6_ h7_ h8_ h9_ h10_ h11_ h12_
                    have BK604 := n0_
                    have BK618 := n1_
                    have BK621 := n2_
                    have BK634 := n3_
                    have GW634 := n4_
                    have GE634 := n5_
                    have NB604_634 := n6_
                    have NB634_604 := n7_
                    have NB618_634 := n8_
                    have NB634_618 := n9_
                    have NB621_634 := n10_
                    have NB634_621 := n11_
                    have HB := n12_
                    clear n0_ n1_ n2_ n3_ n4_ n5_ n6_ n7_ n8_ n9_ n10_ n11_ n12_
                    have hHeld : w65.cell? ⟨gb621, 0, none⟩ = some (.int .u64 t627) ∧ w65.cell? ⟨gb621, 1, none⟩ = some (.int .u64 t628) ∧ w65.cell? (ad629.add (x18_2).toNat) = some (.int .u64 (rd l2 x18_2)) := hS_
                    refine norm_ (a' := ?_) ?_ ?_
                    rotate_left
                    · simp only [putAll, Act.put, List.setIfInBounds_toArray, List.set_cons_zero, List.set_cons_succ]
                      rfl
                    refine one_ (i := 8) (N := none) #[true, true, true, true, true, true, true, true, true] rfl rfl (one_of HT_.out (by kernel_rfl)) (by decide) (fun K hK => ?_)
                    have hs66 : w65.cell? ⟨gb634, 0, none⟩ = some (.int .u64 0) := (blk_cell BK634.out 0).trans rfl
                    have hfs66 := blk_frozen BK634.out 0
                    have hns66_0 := NB604_634.out
                    have hns66_1 := NB618_634.out
                    have hns66_2 := NB621_634.out
                    have hms66_0 := NB634_604.out
                    have hms66_1 := NB634_618.out
                    have hms66_2 := NB634_621.out
                    have hs67 : w65.cell? ⟨gb634, 1, none⟩ = some (.int .u64 0) := (blk_cell BK634.out 1).trans rfl
                    have hfs67 := blk_frozen BK634.out 1
                    have hns67_0 := NB604_634.out
                    have hns67_1 := NB618_634.out
                    have hns67_2 := NB621_634.out
                    have hms67_0 := NB634_604.out
                    have hms67_1 := NB634_618.out
                    have hms67_2 := NB634_621.out
                    refine skip_ (w1 := ?_) (by rfl) rfl ?_ ?_
                    rotate_left
                    · go_simp
                      rfl
                    refine hK.out _ _ ⟨((cell_far (p := ⟨gb634, _, none⟩) NB621_634.out _).trans (((cell_far (p := ⟨gb634, _, none⟩) NB621_634.out _).trans (hHeld.1)))), ((cell_far (p := ⟨gb634, _, none⟩) NB621_634.out _).trans (((cell_far (p := ⟨gb634, _, none⟩) NB621_634.out _).trans (hHeld.2.1)))), ((cell_far (p := ⟨gb634, _, none⟩) (by first | exact Nat.ne_of_lt (Nat.lt_of_lt_of_le (by have := World.block_lt_of_cell? _ _ hw629_0; first | rwa [add_block] at this | exact this) GW634.out) | (rw [add_block]; exact Nat.ne_of_lt (Nat.lt_of_lt_of_le (by have := World.block_lt_of_cell? _ _ hw629_0; first | rwa [add_block] at this | exact this) GW634.out)) | (show (Addr.add _ _).block ≠ _; rw [add_block]; exact Nat.ne_of_lt (Nat.lt_of_lt_of_le (by have := World.block_lt_of_cell? _ _ hw629_0; first | rwa [add_block] at this | exact this) GW634.out)) | (dsimp only; exact Nat.ne_of_lt (Nat.lt_of_lt_of_le (by have := World.block_lt_of_cell? _ _ hw629_0; first | rwa [add_block] at this | exact this) GW634.out))) _).trans (((cell_far (p := ⟨gb634, _, none⟩) (by first | exact Nat.ne_of_lt (Nat.lt_of_lt_of_le (by have := World.block_lt_of_cell? _ _ hw629_0; first | rwa [add_block] at this | exact this) GW634.out) | (rw [add_block]; exact Nat.ne_of_lt (Nat.lt_of_lt_of_le (by have := World.block_lt_of_cell? _ _ hw629_0; first | rwa [add_block] at this | exact this) GW634.out)) | (show (Addr.add _ _).block ≠ _; rw [add_block]; exact Nat.ne_of_lt (Nat.lt_of_lt_of_le (by have := World.block_lt_of_cell? _ _ hw629_0; first | rwa [add_block] at this | exact this) GW634.out)) | (dsimp only; exact Nat.ne_of_lt (Nat.lt_of_lt_of_le (by have := World.block_lt_of_cell? _ _ hw629_0; first | rwa [add_block] at this | exact this) GW634.out))) _).trans (hHeld.2.2))))⟩ (fun hHeld => ?_)
                    clear hK K
                    refine done_ (done_of HT_.out (by kernel_rfl)) ?_
                    try go_wp2
                    have n0_ : Aside0 (((w65.setCell ⟨gb634, 0, none⟩ (.int .u64 t632)).setCell ⟨gb634, 1, none⟩ (.int .u64 t633)).heap[gb604]? = some (.cells #[.int .u64 t602, .int .u64 t603] 24 (0, 0))) := ⟨by (with_reducible repeat (first | refine blk_drewN ?_ _ | refine blk_drew ?_ | refine blk_alloc ?_ _)); refine blk_far ?_ NB604_634.out _; (with_reducible repeat (first | refine blk_drewN ?_ _ | refine blk_drew ?_ | refine blk_alloc ?_ _)); refine blk_far ?_ NB604_634.out _; (with_reducible repeat (first | refine blk_drewN ?_ _ | refine blk_drew ?_ | refine blk_alloc ?_ _)); exact BK604.out⟩
                    have n1_ : Aside0 (((w65.setCell ⟨gb634, 0, none⟩ (.int .u64 t632)).setCell ⟨gb634, 1, none⟩ (.int .u64 t633)).heap[gb618]? = some (.cells #[.int .u64 x619000_2, .int .u64 x619001_2] 24 (0, 0))) := ⟨by (with_reducible repeat (first | refine blk_drewN ?_ _ | refine blk_drew ?_ | refine blk_alloc ?_ _)); refine blk_far ?_ NB618_634.out _; (with_reducible repeat (first | refine blk_drewN ?_ _ | refine blk_drew ?_ | refine blk_alloc ?_ _)); refine blk_far ?_ NB618_634.out _; (with_reducible repeat (first | refine blk_drewN ?_ _ | refine blk_drew ?_ | refine blk_alloc ?_ _)); exact BK618.out⟩
                    have n2_ : Aside0 (((w65.setCell ⟨gb634, 0, none⟩ (.int .u64 t632)).setCell ⟨gb634, 1, none⟩ (.int .u64 t633)).heap[gb621]? = some (.cells #[.int .u64 t627, .int .u64 t628] 24 (0, 0))) := ⟨by (with_reducible repeat (first | refine blk_drewN ?_ _ | refine blk_drew ?_ | refine blk_alloc ?_ _)); refine blk_far ?_ NB621_634.out _; (with_reducible repeat (first | refine blk_drewN ?_ _ | refine blk_drew ?_ | refine blk_alloc ?_ _)); refine blk_far ?_ NB621_634.out _; (with_reducible repeat (first | refine blk_drewN ?_ _ | refine blk_drew ?_ | refine blk_alloc ?_ _)); exact BK621.out⟩
                    have n3_ : Aside0 (((w65.setCell ⟨gb634, 0, none⟩ (.int .u64 t632)).setCell ⟨gb634, 1, none⟩ (.int .u64 t633)).heap[gb634]? = some (.cells #[.int .u64 t632, .int .u64 t633] 24 (0, 0))) := ⟨by (with_reducible repeat (first | refine blk_drewN ?_ _ | refine blk_drew ?_ | refine blk_alloc ?_ _)); refine blk_put (cs := #[.int .u64 t632, .int .u64 0]) ?_ 1 _ rfl; (with_reducible repeat (first | refine blk_drewN ?_ _ | refine blk_drew ?_ | refine blk_alloc ?_ _)); refine blk_put (cs := #[.int .u64 0, .int .u64 0]) ?_ 0 _ rfl; (with_reducible repeat (first | refine blk_drewN ?_ _ | refine blk_drew ?_ | refine blk_alloc ?_ _)); exact BK634.out⟩
                    have n4_ : Aside0 (Below w.heap.size w ((w65.setCell ⟨gb634, 0, none⟩ (.int .u64 t632)).setCell ⟨gb634, 1, none⟩ (.int .u64 t633))) := ⟨by repeat (first | (with_reducible first | exact HB.out | apply below_alloc | apply pw_below_drewN | apply below_drew1 | refine below_set ?_ GE604.out | refine below_set ?_ GE618.out | refine below_set ?_ GE621.out | refine below_set ?_ GE634.out) | exact HB.out)⟩
                    (try clear BK604)
                    (try clear BK618)
                    (try clear BK621)
                    (try clear BK634)
                    (try clear HB)
                    generalize ((w65.setCell ⟨gb634, 0, none⟩ (.int .u64 t632)).setCell ⟨gb634, 1, none⟩ (.int .u64 t633)) = w68 at n0_ n1_ n2_ n3_ n4_ ⊢
                    have BK604 := n0_
                    have BK618 := n1_
                    have BK621 := n2_
                    have BK634 := n3_
                    have HB := n4_
                    clear n0_ n1_ n2_ n3_ n4_
                    have n0_ := Aside0.mk (blk_drew BK604.out)
                    have n1_ := Aside0.mk (blk_drew BK618.out)
                    have n2_ := Aside0.mk (blk_drew BK621.out)
                    have n3_ := Aside0.mk (blk_drew BK634.out)
                    have n4_ := Aside0.mk (below_drew1 HB.out)
                    clear BK604
                    clear BK618
                    clear BK621
                    clear BK634
                    clear HB
                    have BK604 := n0_
                    have BK618 := n1_
                    have BK621 := n2_
                    have BK634 := n3_
                    have HB := n4_
                    clear n0_ n1_ n2_ n3_ n4_
                    refine start_ (n := 9) (S := fun w' => w'.cell? ⟨gb634, 0, none⟩ = some (.int .u64 t632) ∧ w'.cell? ⟨gb634, 1, none⟩ = some (.int .u64 t633) ∧ w'.cell? ⟨gb604, 0, none⟩ = some (.int .u64 t602) ∧ w'.cell? ⟨gb604, 1, none⟩ = some (.int .u64 t603)) (ds := []) #[false, false, false, false, false, false, false, false, false] (by kernel_rfl) rfl rfl ⟨(blk_cell BK634.out 0).trans rfl, (blk_cell BK634.out 1).trans rfl, (blk_cell BK604.out 0).trans rfl, (blk_cell BK604.out 1).trans rfl⟩ (fun hHeld => ?_); refine with_tabW turnstilelaw04_room.tab12 turnstilelaw04_room.bits12 (fun HT_ HW_ => ?_)
                    generalize w68.drew = w69 at BK604 BK618 BK621 BK634 HB hHeld ⊢
                    refine pure_ (i := 1) (N := some 74) (v := ?_) (a' := ?_) #[false, true, false, false, false, false, false, false, false] rfl rfl (any_of HT_.out (by kernel_rfl)) (fun _ _ _ h => h) (Or.inl ⟨by rfl, ?_⟩) ?_ ?_
                    rotate_left
                    · intro w'
                      go_simp
                      with_reducible rfl
                    rotate_left
                    · simp only [Act.put, List.setIfInBounds_toArray, List.set_cons_zero, List.set_cons_succ, i64_w, i32_w]
                      rfl
                    refine pure_ (i := 2) (N := some 75) (v := ?_) (a' := ?_) #[false, true, true, false, false, false, false, false, false] rfl rfl (any_of HT_.out (by kernel_rfl)) (fun _ _ _ h => h) (Or.inl ⟨by rfl, ?_⟩) ?_ ?_
                    rotate_left
                    · intro w'
                      go_simp
                      with_reducible rfl
                    rotate_left
                    · simp only [Act.put, List.setIfInBounds_toArray, List.set_cons_zero, List.set_cons_succ, i64_w, i32_w]
                      rfl
                    refine pure_ (i := 3) (N := some 76) (v := ?_) (a' := ?_) #[false, true, true, true, false, false, false, false, false] rfl rfl (any_of HT_.out (by kernel_rfl)) (fun _ _ _ h => h) (Or.inl ⟨by rfl, ?_⟩) ?_ ?_
                    rotate_left
                    · intro w'
                      go_simp
                      with_reducible rfl
                    rotate_left
                    · simp only [Act.put, List.setIfInBounds_toArray, List.set_cons_zero, List.set_cons_succ, i64_w, i32_w]
                      rfl
                    refine take_ (i := 0) (N := some 73) (v := ?_) (a' := ?_) #[true, true, true, true, false, false, false, false, false] rfl rfl (take_ofW HT_.out HW_.out (by kernel_rfl)) (fun _ _ _ h => h) (Or.inl ⟨by rfl, ?_⟩) hHeld ?_ ?_
                    rotate_left
                    · rintro w' ⟨s0, s1, s2, s3⟩
                      go_simp
                      with_reducible rfl
                    rotate_left
                    · simp only [Act.put, List.setIfInBounds_toArray, List.set_cons_zero, List.set_cons_succ, i64_w, i32_w]
                      rfl
                    refine take_ (i := 6) (N := some 79) (v := ?_) (a' := ?_) #[true, true, true, true, false, false, true, false, false] rfl rfl (take_ofW HT_.out HW_.out (by kernel_rfl)) (fun _ _ _ h => h) (Or.inl ⟨by rfl, ?_⟩) hHeld ?_ ?_
                    rotate_left
                    · rintro w' ⟨s0, s1, s2, s3⟩
                      go_simp
                      with_reducible rfl
                    rotate_left
                    · simp only [Act.put, List.setIfInBounds_toArray, List.set_cons_zero, List.set_cons_succ, i64_w, i32_w]
                      rfl
                    refine one_ (i := 4) (N := some 77) #[true, true, true, true, true, false, true, false, false] rfl rfl (one_of HT_.out (by kernel_rfl)) (by decide) (fun K hK => ?_)
                    refine goes_ Try.func17 (by kernel_rfl) rfl #[.int .u64 (IntKind.u64.wrap (a5 - 1)), .int .u64 a0] (by rfl) rfl rfl (by (try simp only [List.map_toArray, List.map_cons, List.map_nil]); first | done | rfl | (simp only [List.length_drop, List.length_take]; rfl)) ?_
                    with_reducible refine (sat_Product.calls (IntKind.u64.wrap (a5 - 1)) a0 t635 t636 _ A51.out).mono ?_
                    rintro e w70 ⟨rfl, hb⟩
                    refine ⟨_, rfl, ?_⟩
                    have n0_ := Aside0.mk (blk_below (g := gb604) (o := .cells #[.int .u64 t602, .int .u64 t603] 24 (0, 0)) (by (with_reducible repeat (first | refine blk_drewN ?_ _ | refine blk_drew ?_ | refine blk_alloc ?_ _)); exact BK604.out) hb)
                    have n1_ := Aside0.mk (blk_below (g := gb618) (o := .cells #[.int .u64 x619000_2, .int .u64 x619001_2] 24 (0, 0)) (by (with_reducible repeat (first | refine blk_drewN ?_ _ | refine blk_drew ?_ | refine blk_alloc ?_ _)); exact BK618.out) hb)
                    have n2_ := Aside0.mk (blk_below (g := gb621) (o := .cells #[.int .u64 t627, .int .u64 t628] 24 (0, 0)) (by (with_reducible repeat (first | refine blk_drewN ?_ _ | refine blk_drew ?_ | refine blk_alloc ?_ _)); exact BK621.out) hb)
                    have n3_ := Aside0.mk (blk_below (g := gb634) (o := .cells #[.int .u64 t632, .int .u64 t633] 24 (0, 0)) (by (with_reducible repeat (first | refine blk_drewN ?_ _ | refine blk_drew ?_ | refine blk_alloc ?_ _)); exact BK634.out) hb)
                    have n4_ := Aside0.mk (below_step (by repeat (first | (with_reducible first | exact HB.out | apply below_alloc | apply pw_below_drewN | apply below_drew1 | refine below_set ?_ GE604.out | refine below_set ?_ GE618.out | refine below_set ?_ GE621.out | refine below_set ?_ GE634.out) | exact HB.out)) hb)
                    clear BK604
                    clear BK618
                    clear BK621
                    clear BK634
                    clear HB
                    have BK604 := n0_
                    have BK618 := n1_
                    have BK621 := n2_
                    have BK634 := n3_
                    have HB := n4_
                    clear n0_ n1_ n2_ n3_ n4_
                    (try clear hb)
                    (try clear hb2)
                    (try clear hk)
                    (try clear hi)
                    refine hK.out _ _ ⟨(blk_cell BK634.out 0).trans rfl, (blk_cell BK634.out 1).trans rfl, (blk_cell BK604.out 0).trans rfl, (blk_cell BK604.out 1).trans rfl⟩ (fun hHeld => ?_)
                    clear hK K
                    refine norm_ (a' := ?_) ?_ ?_
                    rotate_left
                    · show Act.put _ (some 77) _ = _
                      simp only [Act.put, List.setIfInBounds_toArray, List.set_cons_zero, List.set_cons_succ, i64_w, i32_w]
                      rfl
                    refine one_ (i := 5) (N := some 78) #[true, true, true, true, true, true, true, false, false] rfl rfl (one_of HT_.out (by kernel_rfl)) (by decide) (fun K hK => ?_)
                    refine goes_ Try.func19 (by kernel_rfl) rfl #[.agg #[.int .u64 t632, .int .u64 t633], .agg #[.int .u64 t635, .int .u64 t636]] (by rfl) rfl rfl (by (try simp only [List.map_toArray, List.map_cons, List.map_nil]); first | done | rfl | (simp only [List.length_drop, List.length_take]; rfl)) ?_
                    with_reducible refine (sat_Wide_Plus.calls t632 t633 t635 t636 t637 t638 _ A52.out).mono ?_
                    rintro e w71 ⟨rfl, hb⟩
                    refine ⟨_, rfl, ?_⟩
                    have n0_ := Aside0.mk (blk_below (g := gb604) (o := .cells #[.int .u64 t602, .int .u64 t603] 24 (0, 0)) (by (with_reducible repeat (first | refine blk_drewN ?_ _ | refine blk_drew ?_ | refine blk_alloc ?_ _)); exact BK604.out) hb)
                    have n1_ := Aside0.mk (blk_below (g := gb618) (o := .cells #[.int .u64 x619000_2, .int .u64 x619001_2] 24 (0, 0)) (by (with_reducible repeat (first | refine blk_drewN ?_ _ | refine blk_drew ?_ | refine blk_alloc ?_ _)); exact BK618.out) hb)
                    have n2_ := Aside0.mk (blk_below (g := gb621) (o := .cells #[.int .u64 t627, .int .u64 t628] 24 (0, 0)) (by (with_reducible repeat (first | refine blk_drewN ?_ _ | refine blk_drew ?_ | refine blk_alloc ?_ _)); exact BK621.out) hb)
                    have n3_ := Aside0.mk (blk_below (g := gb634) (o := .cells #[.int .u64 t632, .int .u64 t633] 24 (0, 0)) (by (with_reducible repeat (first | refine blk_drewN ?_ _ | refine blk_drew ?_ | refine blk_alloc ?_ _)); exact BK634.out) hb)
                    have n4_ := Aside0.mk (below_step (by repeat (first | (with_reducible first | exact HB.out | apply below_alloc | apply pw_below_drewN | apply below_drew1 | refine below_set ?_ GE604.out | refine below_set ?_ GE618.out | refine below_set ?_ GE621.out | refine below_set ?_ GE634.out) | exact HB.out)) hb)
                    clear BK604
                    clear BK618
                    clear BK621
                    clear BK634
                    clear HB
                    have BK604 := n0_
                    have BK618 := n1_
                    have BK621 := n2_
                    have BK634 := n3_
                    have HB := n4_
                    clear n0_ n1_ n2_ n3_ n4_
                    (try clear hb)
                    (try clear hb2)
                    (try clear hk)
                    (try clear hi)
                    refine hK.out _ _ ⟨(blk_cell BK634.out 0).trans rfl, (blk_cell BK634.out 1).trans rfl, (blk_cell BK604.out 0).trans rfl, (blk_cell BK604.out 1).trans rfl⟩ (fun hHeld => ?_)
                    clear hK K
                    refine norm_ (a' := ?_) ?_ ?_
                    rotate_left
                    · show Act.put _ (some 78) _ = _
                      simp only [Act.put, List.setIfInBounds_toArray, List.set_cons_zero, List.set_cons_succ, i64_w, i32_w]
                      rfl
                    refine one_ (i := 7) (N := some 80) #[true, true, true, true, true, true, true, true, false] rfl rfl (one_of HT_.out (by kernel_rfl)) (by decide) (fun K hK => ?_)
                    refine goes_ Try.func21 (by kernel_rfl) rfl #[.agg #[.int .u64 t637, .int .u64 t638], .agg #[.int .u64 t602, .int .u64 t603]] (by rfl) rfl rfl (by (try simp only [List.map_toArray, List.map_cons, List.map_nil]); first | done | rfl | (simp only [List.length_drop, List.length_take]; rfl)) ?_
                    with_reducible refine (sat_Wide_Cmp.calls t637 t638 t602 t603 t639 _ A53.out).mono ?_
                    rintro e w72 ⟨rfl, hb⟩
                    refine ⟨_, rfl, ?_⟩
                    have n0_ := Aside0.mk (blk_below (g := gb604) (o := .cells #[.int .u64 t602, .int .u64 t603] 24 (0, 0)) (by (with_reducible repeat (first | refine blk_drewN ?_ _ | refine blk_drew ?_ | refine blk_alloc ?_ _)); exact BK604.out) hb)
                    have n1_ := Aside0.mk (blk_below (g := gb618) (o := .cells #[.int .u64 x619000_2, .int .u64 x619001_2] 24 (0, 0)) (by (with_reducible repeat (first | refine blk_drewN ?_ _ | refine blk_drew ?_ | refine blk_alloc ?_ _)); exact BK618.out) hb)
                    have n2_ := Aside0.mk (blk_below (g := gb621) (o := .cells #[.int .u64 t627, .int .u64 t628] 24 (0, 0)) (by (with_reducible repeat (first | refine blk_drewN ?_ _ | refine blk_drew ?_ | refine blk_alloc ?_ _)); exact BK621.out) hb)
                    have n3_ := Aside0.mk (blk_below (g := gb634) (o := .cells #[.int .u64 t632, .int .u64 t633] 24 (0, 0)) (by (with_reducible repeat (first | refine blk_drewN ?_ _ | refine blk_drew ?_ | refine blk_alloc ?_ _)); exact BK634.out) hb)
                    have n4_ := Aside0.mk (below_step (by repeat (first | (with_reducible first | exact HB.out | apply below_alloc | apply pw_below_drewN | apply below_drew1 | refine below_set ?_ GE604.out | refine below_set ?_ GE618.out | refine below_set ?_ GE621.out | refine below_set ?_ GE634.out) | exact HB.out)) hb)
                    clear BK604
                    clear BK618
                    clear BK621
                    clear BK634
                    clear HB
                    have BK604 := n0_
                    have BK618 := n1_
                    have BK621 := n2_
                    have BK634 := n3_
                    have HB := n4_
                    clear n0_ n1_ n2_ n3_ n4_
                    (try clear hb)
                    (try clear hb2)
                    (try clear hk)
                    (try clear hi)
                    refine hK.out _ _ ⟨(blk_cell BK634.out 0).trans rfl, (blk_cell BK634.out 1).trans rfl, (blk_cell BK604.out 0).trans rfl, (blk_cell BK604.out 1).trans rfl⟩ (fun hHeld => ?_)
                    clear hK K
                    refine norm_ (a' := ?_) ?_ ?_
                    rotate_left
                    · show Act.put _ (some 80) _ = _
                      simp only [Act.put, List.setIfInBounds_toArray, List.set_cons_zero, List.set_cons_succ, i64_w, i32_w]
                      rfl
                    refine pure_ (i := 8) (N := some 81) (v := ?_) (a' := ?_) #[true, true, true, true, true, true, true, true, true] rfl rfl (any_of HT_.out (by kernel_rfl)) (fun _ _ _ h => h) (Or.inl ⟨by rfl, ?_⟩) ?_ ?_
                    rotate_left
                    · intro w'
                      go_simp
                      with_reducible rfl
                    rotate_left
                    · simp only [Act.put, List.setIfInBounds_toArray, List.set_cons_zero, List.set_cons_succ, i64_w, i32_w]
                      rfl
                    refine done_ (done_of HT_.out (by kernel_rfl)) ?_
                    go_upto_if 81 with (fail)
                    go_cut [15] (fun v15 wc => ∃ (kq : Nat) (x15_53 : Bool), v15 = .bool x15_53 ∧ Aside0 (turnstilelaw04_room.j2 kq a0 l2 l3 a5 x15_53 x18_2 t602 t603 x619000_2 x619001_2 t627 t628 t632 t633 = some (r1, r2)) ∧ Aside0 (kq ≤ k2) ∧ Aside0 (wc.heap[gb604]? = some (.cells #[.int .u64 t602, .int .u64 t603] 24 (0, 0))) ∧ Aside0 (wc.heap[gb618]? = some (.cells #[.int .u64 x619000_2, .int .u64 x619001_2] 24 (0, 0))) ∧ Aside0 (wc.heap[gb621]? = some (.cells #[.int .u64 t627, .int .u64 t628] 24 (0, 0))) ∧ Aside0 (wc.heap[gb634]? = some (.cells #[.int .u64 t632, .int .u64 t633] 24 (0, 0))) ∧ Aside0 (Below w.heap.size w wc))
                    case first =>
                      have H := HC54.out
                      clear HC54
                      by_cases c73 : t639 > 0
                      · rw [if_pos c73] at H
                        have c73b0 : decide (0 < t639) = true := decide_eq_true c73
                        clear c73
                        (first | rw [c73b0] | (simp only [i64_w, i32_w]; rw [c73b0]) | skip)
                        have H' := Aside0.mk H
                        clear H
                        go_wp2
                        go_meet
                        case rel => exact ⟨_, (false), (by first | rfl | (simp; done) | (simp [*]; done)), H', ⟨by have := HJ6.out; have := HK2.out; first | omega | exact Nat.le_refl _⟩, ⟨by (with_reducible repeat (first | refine blk_drewN ?_ _ | refine blk_drew ?_ | refine blk_alloc ?_ _)); exact BK604.out⟩, ⟨by (with_reducible repeat (first | refine blk_drewN ?_ _ | refine blk_drew ?_ | refine blk_alloc ?_ _)); exact BK618.out⟩, ⟨by (with_reducible repeat (first | refine blk_drewN ?_ _ | refine blk_drew ?_ | refine blk_alloc ?_ _)); exact BK621.out⟩, ⟨by (with_reducible repeat (first | refine blk_drewN ?_ _ | refine blk_drew ?_ | refine blk_alloc ?_ _)); exact BK634.out⟩, ⟨by repeat (first | (with_reducible first | exact HB.out | apply below_alloc | apply pw_below_drewN | apply below_drew1 | refine below_set ?_ GE604.out | refine below_set ?_ GE618.out | refine below_set ?_ GE621.out | refine below_set ?_ GE634.out) | exact HB.out)⟩⟩
                      · rw [if_neg c73] at H
                        have c73b0 : decide (0 < t639) = false := decide_eq_false c73
                        clear c73
                        (first | rw [c73b0] | (simp only [i64_w, i32_w]; rw [c73b0]) | skip)
                        have H' := Aside0.mk H
                        clear H
                        go_wp2
                        go_meet
                        case rel => exact ⟨_, (x15_2), (by first | rfl | (simp; done) | (simp [*]; done)), H', ⟨by have := HJ6.out; have := HK2.out; first | omega | exact Nat.le_refl _⟩, ⟨by (with_reducible repeat (first | refine blk_drewN ?_ _ | refine blk_drew ?_ | refine blk_alloc ?_ _)); exact BK604.out⟩, ⟨by (with_reducible repeat (first | refine blk_drewN ?_ _ | refine blk_drew ?_ | refine blk_alloc ?_ _)); exact BK618.out⟩, ⟨by (with_reducible repeat (first | refine blk_drewN ?_ _ | refine blk_drew ?_ | refine blk_alloc ?_ _)); exact BK621.out⟩, ⟨by (with_reducible repeat (first | refine blk_drewN ?_ _ | refine blk_drew ?_ | refine blk_alloc ?_ _)); exact BK634.out⟩, ⟨by repeat (first | (with_reducible first | exact HB.out | apply below_alloc | apply pw_below_drewN | apply below_drew1 | refine below_set ?_ GE604.out | refine below_set ?_ GE618.out | refine below_set ?_ GE621.out | refine below_set ?_ GE634.out) | exact HB.out)⟩⟩
                    case rest =>
                      clear HC54
                      try clear c1
                      try clear c2
                      try clear p2
                      try clear q6
                      try clear hx6
                      try clear c7
                      try clear c17
                      try clear c19
                      try clear c20
                      try clear c21
                      try clear q62
                      try clear hx62
                      try clear c73
                      try clear c73b0
                      try clear hx629_0
                      try clear q629
                      obtain ⟨kq, x15_53, rfl, HA, HJ53, BK604, BK618, BK621, BK634, HB⟩ := hcut
                      cases kq with
                      | zero => exact absurd HA.out (by simp [turnstilelaw04_room.j2])
                      | succ kj53 =>
                        have H := HA.out
                        clear HA
                        simp only [turnstilelaw04_room.j2] at H
                        replace H := Option.bind_eq_some_iff.mp H
                        obtain ⟨⟨t640, t641⟩, A740, H⟩ := H
                        replace H : ((sat_Wide_Plus.f t632 t633 t640 t641).bind fun bt642 => ((sat_Wide_Cmp.f bt642.1 bt642.2 x619000_2 x619001_2).bind fun t645 => (if t645 > 0 then (turnstilelaw04_room.l0 kj53 a0 l2 l3 a5 x15_53 (wrap64 (x18_2 - 1)) t602 t603 bt642.1 bt642.2 t627 t628) else (turnstilelaw04_room.l0 kj53 a0 l2 l3 a5 x15_53 (wrap64 (x18_2 - 1)) t602 t603 x619000_2 x619001_2 t627 t628)))) = some (r1, r2) := H
                        have A74 := Aside0.mk A740
                        clear A740
                        replace H := Option.bind_eq_some_iff.mp H
                        obtain ⟨⟨t642, t643⟩, A750, H⟩ := H
                        replace H : ((sat_Wide_Cmp.f t642 t643 x619000_2 x619001_2).bind fun t645 => (if t645 > 0 then (turnstilelaw04_room.l0 kj53 a0 l2 l3 a5 x15_53 (wrap64 (x18_2 - 1)) t602 t603 t642 t643 t627 t628) else (turnstilelaw04_room.l0 kj53 a0 l2 l3 a5 x15_53 (wrap64 (x18_2 - 1)) t602 t603 x619000_2 x619001_2 t627 t628))) = some (r1, r2) := H
                        have A75 := Aside0.mk A750
                        clear A750
                        replace H := Option.bind_eq_some_iff.mp H
                        obtain ⟨t645, A760, H⟩ := H
                        replace H : (if t645 > 0 then (turnstilelaw04_room.l0 kj53 a0 l2 l3 a5 x15_53 (wrap64 (x18_2 - 1)) t602 t603 t642 t643 t627 t628) else (turnstilelaw04_room.l0 kj53 a0 l2 l3 a5 x15_53 (wrap64 (x18_2 - 1)) t602 t603 x619000_2 x619001_2 t627 t628)) = some (r1, r2) := H
                        have A76 := Aside0.mk A760
                        clear A760
                        by_cases c77 : t645 > 0
                        · rw [if_pos c77] at H
                          have c77b0 : decide (0 < t645) = true := decide_eq_true c77
                          clear c77
                          have H' := Aside0.mk H
                          clear H
                          try go_wp2
                          have n0_ := Aside0.mk (blk_drew BK604.out)
                          have n1_ := Aside0.mk (blk_drew BK618.out)
                          have n2_ := Aside0.mk (blk_drew BK621.out)
                          have n3_ := Aside0.mk (blk_drew BK634.out)
                          have n4_ := Aside0.mk (below_drew1 HB.out)
                          clear BK604
                          clear BK618
                          clear BK621
                          clear BK634
                          clear HB
                          have BK604 := n0_
                          have BK618 := n1_
                          have BK621 := n2_
                          have BK634 := n3_
                          have HB := n4_
                          clear n0_ n1_ n2_ n3_ n4_
                          refine start_ (n := 7) (S := fun w' => w'.cell? ⟨gb634, 0, none⟩ = some (.int .u64 t632) ∧ w'.cell? ⟨gb634, 1, none⟩ = some (.int .u64 t633)) (ds := []) #[false, false, false, false, false, false, false] (by kernel_rfl) rfl rfl ⟨(blk_cell BK634.out 0).trans rfl, (blk_cell BK634.out 1).trans rfl⟩ (fun hHeld => ?_)
                          generalize wc.drew = w78 at BK604 BK618 BK621 BK634 HB hHeld ⊢
                          refine pure_ (i := 1) (N := some 83) (v := ?_) (a' := ?_) #[false, true, false, false, false, false, false] rfl rfl (by kernel_rfl) (fun _ _ _ h => h) (Or.inl ⟨by rfl, ?_⟩) ?_ ?_
                          rotate_left
                          · intro w'
                            go_simp
                            with_reducible rfl
                          rotate_left
                          · simp only [Act.put, List.setIfInBounds_toArray, List.set_cons_zero, List.set_cons_succ, i64_w, i32_w]
                            rfl
                          refine pure_ (i := 2) (N := some 84) (v := ?_) (a' := ?_) #[false, true, true, false, false, false, false] rfl rfl (by kernel_rfl) (fun _ _ _ h => h) (Or.inl ⟨by rfl, ?_⟩) ?_ ?_
                          rotate_left
                          · intro w'
                            go_simp
                            with_reducible rfl
                          rotate_left
                          · simp only [Act.put, List.setIfInBounds_toArray, List.set_cons_zero, List.set_cons_succ, i64_w, i32_w]
                            rfl
                          refine take_ (i := 0) (N := some 82) (v := ?_) (a' := ?_) #[true, true, true, false, false, false, false] rfl rfl (by kernel_rfl) (fun _ _ _ h => h) (Or.inl ⟨by rfl, ?_⟩) hHeld ?_ ?_
                          rotate_left
                          · rintro w' ⟨s0, s1⟩
                            go_simp
                            with_reducible rfl
                          rotate_left
                          · simp only [Act.put, List.setIfInBounds_toArray, List.set_cons_zero, List.set_cons_succ, i64_w, i32_w]
                            rfl
                          refine join_ (σ := Nat) 1 #[true, true, true, true, true, true, false] (fun s_ => [(85, .agg #[.int .u64 t640, .int .u64 t641]), (86, .agg #[.int .u64 t642, .int .u64 t643]), (20, .pointer (some ⟨s_, 0, none⟩))]) (fun s_ w' => (w'.cell? ⟨gb634, 0, none⟩ = some (.int .u64 t632) ∧ w'.cell? ⟨gb634, 1, none⟩ = some (.int .u64 t633)) ∧ (w'.heap[gb604]? = some (.cells #[.int .u64 t602, .int .u64 t603] 24 (0, 0))) ∧ (w'.heap[gb618]? = some (.cells #[.int .u64 x619000_2, .int .u64 x619001_2] 24 (0, 0))) ∧ (w'.heap[gb621]? = some (.cells #[.int .u64 t627, .int .u64 t628] 24 (0, 0))) ∧ (w'.heap[gb634]? = some (.cells #[.int .u64 t632, .int .u64 t633] 24 (0, 0))) ∧ (w'.heap[s_]? = some (.cells #[.int .u64 0, .int .u64 0] 24 (0, 0))) ∧ (w.heap.size ≤ s_) ∧ (w.heap.size ≤ s_) ∧ (gb604 ≠ s_) ∧ (s_ ≠ gb604) ∧ (gb618 ≠ s_) ∧ (s_ ≠ gb618) ∧ (gb621 ≠ s_) ∧ (s_ ≠ gb621) ∧ (gb634 ≠ s_) ∧ (s_ ≠ gb634) ∧ (Below w.heap.size w w')) ?_ ?_
                          rotate_left
                          · intro hCont
                            refine two_ (i := 3) (j := 5) (Ni := some 85) (Nj := some 20) #[true, true, true, true, false, false, false] #[true, true, true, false, false, true, false] rfl rfl rfl rfl (by kernel_rfl) (by decide) (by decide) (fun K hK => ?_) (fun K hK => ?_)
                            · skip
                              refine goes_ Try.func17 (by kernel_rfl) rfl #[.int .u64 a5, .int .u64 a0] (by rfl) rfl rfl (by (try simp only [List.map_toArray, List.map_cons, List.map_nil]); first | done | rfl | (simp only [List.length_drop, List.length_take]; rfl)) ?_
                              with_reducible refine (sat_Product.calls a5 a0 t640 t641 _ A74.out).mono ?_
                              rintro e w79 ⟨rfl, hb⟩
                              refine ⟨_, rfl, ?_⟩
                              have n0_ := Aside0.mk (blk_below (g := gb604) (o := .cells #[.int .u64 t602, .int .u64 t603] 24 (0, 0)) (by (with_reducible repeat (first | refine blk_drewN ?_ _ | refine blk_drew ?_ | refine blk_alloc ?_ _)); exact BK604.out) hb)
                              have n1_ := Aside0.mk (blk_below (g := gb618) (o := .cells #[.int .u64 x619000_2, .int .u64 x619001_2] 24 (0, 0)) (by (with_reducible repeat (first | refine blk_drewN ?_ _ | refine blk_drew ?_ | refine blk_alloc ?_ _)); exact BK618.out) hb)
                              have n2_ := Aside0.mk (blk_below (g := gb621) (o := .cells #[.int .u64 t627, .int .u64 t628] 24 (0, 0)) (by (with_reducible repeat (first | refine blk_drewN ?_ _ | refine blk_drew ?_ | refine blk_alloc ?_ _)); exact BK621.out) hb)
                              have n3_ := Aside0.mk (blk_below (g := gb634) (o := .cells #[.int .u64 t632, .int .u64 t633] 24 (0, 0)) (by (with_reducible repeat (first | refine blk_drewN ?_ _ | refine blk_drew ?_ | refine blk_alloc ?_ _)); exact BK634.out) hb)
                              have n4_ := Aside0.mk (below_step (by repeat (first | (with_reducible first | exact HB.out | apply below_alloc | apply pw_below_drewN | apply below_drew1 | refine below_set ?_ GE604.out | refine below_set ?_ GE618.out | refine below_set ?_ GE621.out | refine below_set ?_ GE634.out) | exact HB.out)) hb)
                              clear BK604
                              clear BK618
                              clear BK621
                              clear BK634
                              clear HB
                              have BK604 := n0_
                              have BK618 := n1_
                              have BK621 := n2_
                              have BK634 := n3_
                              have HB := n4_
                              clear n0_ n1_ n2_ n3_ n4_
                              (try clear hb)
                              (try clear hb2)
                              (try clear hk)
                              (try clear hi)
                              refine hK.out _ _ ⟨(blk_cell BK634.out 0).trans rfl, (blk_cell BK634.out 1).trans rfl⟩ (fun hHeld => ?_)
                              clear hK K
                              refine norm_ (a' := ?_) ?_ ?_
                              rotate_left
                              · show Act.put _ (some 85) _ = _
                                simp only [Act.put, List.setIfInBounds_toArray, List.set_cons_zero, List.set_cons_succ, i64_w, i32_w]
                                rfl
                              refine two_ (i := 4) (j := 5) (Ni := some 86) (Nj := some 20) #[true, true, true, true, true, false, false] #[true, true, true, true, false, true, false] rfl rfl rfl rfl (by kernel_rfl) (by decide) (by decide) (fun K hK => ?_) (fun K hK => ?_)
                              · skip
                                refine goes_ Try.func19 (by kernel_rfl) rfl #[.agg #[.int .u64 t632, .int .u64 t633], .agg #[.int .u64 t640, .int .u64 t641]] (by rfl) rfl rfl (by (try simp only [List.map_toArray, List.map_cons, List.map_nil]); first | done | rfl | (simp only [List.length_drop, List.length_take]; rfl)) ?_
                                with_reducible refine (sat_Wide_Plus.calls t632 t633 t640 t641 t642 t643 _ A75.out).mono ?_
                                rintro e w80 ⟨rfl, hb⟩
                                refine ⟨_, rfl, ?_⟩
                                have n0_ := Aside0.mk (blk_below (g := gb604) (o := .cells #[.int .u64 t602, .int .u64 t603] 24 (0, 0)) (by (with_reducible repeat (first | refine blk_drewN ?_ _ | refine blk_drew ?_ | refine blk_alloc ?_ _)); exact BK604.out) hb)
                                have n1_ := Aside0.mk (blk_below (g := gb618) (o := .cells #[.int .u64 x619000_2, .int .u64 x619001_2] 24 (0, 0)) (by (with_reducible repeat (first | refine blk_drewN ?_ _ | refine blk_drew ?_ | refine blk_alloc ?_ _)); exact BK618.out) hb)
                                have n2_ := Aside0.mk (blk_below (g := gb621) (o := .cells #[.int .u64 t627, .int .u64 t628] 24 (0, 0)) (by (with_reducible repeat (first | refine blk_drewN ?_ _ | refine blk_drew ?_ | refine blk_alloc ?_ _)); exact BK621.out) hb)
                                have n3_ := Aside0.mk (blk_below (g := gb634) (o := .cells #[.int .u64 t632, .int .u64 t633] 24 (0, 0)) (by (with_reducible repeat (first | refine blk_drewN ?_ _ | refine blk_drew ?_ | refine blk_alloc ?_ _)); exact BK634.out) hb)
                                have n4_ := Aside0.mk (below_step (by repeat (first | (with_reducible first | exact HB.out | apply below_alloc | apply pw_below_drewN | apply below_drew1 | refine below_set ?_ GE604.out | refine below_set ?_ GE618.out | refine below_set ?_ GE621.out | refine below_set ?_ GE634.out) | exact HB.out)) hb)
                                clear BK604
                                clear BK618
                                clear BK621
                                clear BK634
                                clear HB
                                have BK604 := n0_
                                have BK618 := n1_
                                have BK621 := n2_
                                have BK634 := n3_
                                have HB := n4_
                                clear n0_ n1_ n2_ n3_ n4_
                                (try clear hb)
                                (try clear hb2)
                                (try clear hk)
                                (try clear hi)
                                refine hK.out _ _ ⟨(blk_cell BK634.out 0).trans rfl, (blk_cell BK634.out 1).trans rfl⟩ (fun hHeld => ?_)
                                clear hK K
                                refine norm_ (a' := ?_) ?_ ?_
                                rotate_left
                                · show Act.put _ (some 86) _ = _
                                  simp only [Act.put, List.setIfInBounds_toArray, List.set_cons_zero, List.set_cons_succ, i64_w, i32_w]
                                  rfl
                                refine one_ (i := 5) (N := some 20) #[true, true, true, true, true, true, false] rfl rfl (by kernel_rfl) (by decide) (fun K hK => ?_)
                                refine box_step ?hg (N := 20) ?hd (cs := #[.int .u64 0, .int .u64 0]) (t := 24) ?hr ?_; (case hd => rfl); (case hg => rfl); (case hr => first | (go_simp; done) | (go_simp; rfl))
                                intro gb644 hg w81 hbox hb
                                have n0_ := Aside0.mk (blk_below (g := gb604) (o := .cells #[.int .u64 t602, .int .u64 t603] 24 (0, 0)) (by (with_reducible repeat (first | refine blk_drewN ?_ _ | refine blk_drew ?_ | refine blk_alloc ?_ _)); exact BK604.out) hb)
                                have n1_ := Aside0.mk (blk_below (g := gb618) (o := .cells #[.int .u64 x619000_2, .int .u64 x619001_2] 24 (0, 0)) (by (with_reducible repeat (first | refine blk_drewN ?_ _ | refine blk_drew ?_ | refine blk_alloc ?_ _)); exact BK618.out) hb)
                                have n2_ := Aside0.mk (blk_below (g := gb621) (o := .cells #[.int .u64 t627, .int .u64 t628] 24 (0, 0)) (by (with_reducible repeat (first | refine blk_drewN ?_ _ | refine blk_drew ?_ | refine blk_alloc ?_ _)); exact BK621.out) hb)
                                have n3_ := Aside0.mk (blk_below (g := gb634) (o := .cells #[.int .u64 t632, .int .u64 t633] 24 (0, 0)) (by (with_reducible repeat (first | refine blk_drewN ?_ _ | refine blk_drew ?_ | refine blk_alloc ?_ _)); exact BK634.out) hb)
                                have n4_ := Aside0.mk (below_step (by repeat (first | (with_reducible first | exact HB.out | apply below_alloc | apply pw_below_drewN | apply below_drew1 | refine below_set ?_ GE604.out | refine below_set ?_ GE618.out | refine below_set ?_ GE621.out | refine below_set ?_ GE634.out) | exact HB.out)) hb)
                                have n5_ := Aside0.mk (hbox)
                                have n6_ := Aside0.mk ((by rw [hg]; exact (below_size (by repeat (first | (with_reducible first | exact HB.out | apply below_alloc | apply pw_below_drewN | apply below_drew1 | refine below_set ?_ GE604.out | refine below_set ?_ GE618.out | refine below_set ?_ GE621.out | refine below_set ?_ GE634.out) | exact HB.out))) : w.heap.size ≤ gb644))
                                have n7_ := Aside0.mk ((by rw [hg]; exact (below_size (by repeat (first | (with_reducible first | exact HB.out | apply below_alloc | apply pw_below_drewN | apply below_drew1 | refine below_set ?_ GE604.out | refine below_set ?_ GE618.out | refine below_set ?_ GE621.out | refine below_set ?_ GE634.out) | exact HB.out))) : w.heap.size ≤ gb644))
                                have n8_ := Aside0.mk ((by rw [hg]; exact Nat.ne_of_lt (blk_lt (g := gb604) (o := .cells #[.int .u64 t602, .int .u64 t603] 24 (0, 0)) (by (with_reducible repeat (first | refine blk_drewN ?_ _ | refine blk_drew ?_ | refine blk_alloc ?_ _)); exact BK604.out)) : gb604 ≠ gb644))
                                have n9_ := Aside0.mk ((by rw [hg]; exact Nat.ne_of_gt (blk_lt (g := gb604) (o := .cells #[.int .u64 t602, .int .u64 t603] 24 (0, 0)) (by (with_reducible repeat (first | refine blk_drewN ?_ _ | refine blk_drew ?_ | refine blk_alloc ?_ _)); exact BK604.out)) : gb644 ≠ gb604))
                                have n10_ := Aside0.mk ((by rw [hg]; exact Nat.ne_of_lt (blk_lt (g := gb618) (o := .cells #[.int .u64 x619000_2, .int .u64 x619001_2] 24 (0, 0)) (by (with_reducible repeat (first | refine blk_drewN ?_ _ | refine blk_drew ?_ | refine blk_alloc ?_ _)); exact BK618.out)) : gb618 ≠ gb644))
                                have n11_ := Aside0.mk ((by rw [hg]; exact Nat.ne_of_gt (blk_lt (g := gb618) (o := .cells #[.int .u64 x619000_2, .int .u64 x619001_2] 24 (0, 0)) (by (with_reducible repeat (first | refine blk_drewN ?_ _ | refine blk_drew ?_ | refine blk_alloc ?_ _)); exact BK618.out)) : gb644 ≠ gb618))
                                have n12_ := Aside0.mk ((by rw [hg]; exact Nat.ne_of_lt (blk_lt (g := gb621) (o := .cells #[.int .u64 t627, .int .u64 t628] 24 (0, 0)) (by (with_reducible repeat (first | refine blk_drewN ?_ _ | refine blk_drew ?_ | refine blk_alloc ?_ _)); exact BK621.out)) : gb621 ≠ gb644))
                                have n13_ := Aside0.mk ((by rw [hg]; exact Nat.ne_of_gt (blk_lt (g := gb621) (o := .cells #[.int .u64 t627, .int .u64 t628] 24 (0, 0)) (by (with_reducible repeat (first | refine blk_drewN ?_ _ | refine blk_drew ?_ | refine blk_alloc ?_ _)); exact BK621.out)) : gb644 ≠ gb621))
                                have n14_ := Aside0.mk ((by rw [hg]; exact Nat.ne_of_lt (blk_lt (g := gb634) (o := .cells #[.int .u64 t632, .int .u64 t633] 24 (0, 0)) (by (with_reducible repeat (first | refine blk_drewN ?_ _ | refine blk_drew ?_ | refine blk_alloc ?_ _)); exact BK634.out)) : gb634 ≠ gb644))
                                have n15_ := Aside0.mk ((by rw [hg]; exact Nat.ne_of_gt (blk_lt (g := gb634) (o := .cells #[.int .u64 t632, .int .u64 t633] 24 (0, 0)) (by (with_reducible repeat (first | refine blk_drewN ?_ _ | refine blk_drew ?_ | refine blk_alloc ?_ _)); exact BK634.out)) : gb644 ≠ gb634))
                                clear BK604
                                clear BK618
                                clear BK621
                                clear BK634
                                clear HB
                                have BK604 := n0_
                                have BK618 := n1_
                                have BK621 := n2_
                                have BK634 := n3_
                                have HB := n4_
                                have BK644 := n5_
                                have GW644 := n6_
                                have GE644 := n7_
                                have NB604_644 := n8_
                                have NB644_604 := n9_
                                have NB618_644 := n10_
                                have NB644_618 := n11_
                                have NB621_644 := n12_
                                have NB644_621 := n13_
                                have NB634_644 := n14_
                                have NB644_634 := n15_
                                clear n0_ n1_ n2_ n3_ n4_ n5_ n6_ n7_ n8_ n9_ n10_ n11_ n12_ n13_ n14_ n15_
                                clear hb hbox hg
                                refine hK.out _ _ ⟨(blk_cell BK634.out 0).trans rfl, (blk_cell BK634.out 1).trans rfl⟩ (fun hHeld => ?_)
                                clear hK K
                                refine norm_ (a' := ?_) ?_ ?_
                                rotate_left
                                · show Act.put _ (some 20) _ = _
                                  simp only [Act.put, List.setIfInBounds_toArray, List.set_cons_zero, List.set_cons_succ, i64_w, i32_w]
                                  rfl
                                exact norm_ (by simp only [putAll, Act.put, List.setIfInBounds_toArray, List.set_cons_zero, List.set_cons_succ]) (hCont (gb644) _ ⟨hHeld, (by (with_reducible repeat (first | refine blk_drewN ?_ _ | refine blk_drew ?_ | refine blk_alloc ?_ _)); exact BK604.out), (by (with_reducible repeat (first | refine blk_drewN ?_ _ | refine blk_drew ?_ | refine blk_alloc ?_ _)); exact BK618.out), (by (with_reducible repeat (first | refine blk_drewN ?_ _ | refine blk_drew ?_ | refine blk_alloc ?_ _)); exact BK621.out), (by (with_reducible repeat (first | refine blk_drewN ?_ _ | refine blk_drew ?_ | refine blk_alloc ?_ _)); exact BK634.out), (by (with_reducible repeat (first | refine blk_drewN ?_ _ | refine blk_drew ?_ | refine blk_alloc ?_ _)); exact BK644.out), GW644.out, GE644.out, NB604_644.out, NB644_604.out, NB618_644.out, NB644_618.out, NB621_644.out, NB644_621.out, NB634_644.out, NB644_634.out, (by repeat (first | (with_reducible first | exact HB.out | apply below_alloc | apply pw_below_drewN | apply below_drew1 | refine below_set ?_ GE604.out | refine below_set ?_ GE618.out | refine below_set ?_ GE621.out | refine below_set ?_ GE634.out | refine below_set ?_ GE644.out) | exact HB.out))⟩)
                              · skip
                                refine box_step ?hg (N := 20) ?hd (cs := #[.int .u64 0, .int .u64 0]) (t := 24) ?hr ?_; (case hd => rfl); (case hg => rfl); (case hr => first | (go_simp; done) | (go_simp; rfl))
                                intro gb644 hg w80 hbox hb
                                have n0_ := Aside0.mk (blk_below (g := gb604) (o := .cells #[.int .u64 t602, .int .u64 t603] 24 (0, 0)) (by (with_reducible repeat (first | refine blk_drewN ?_ _ | refine blk_drew ?_ | refine blk_alloc ?_ _)); exact BK604.out) hb)
                                have n1_ := Aside0.mk (blk_below (g := gb618) (o := .cells #[.int .u64 x619000_2, .int .u64 x619001_2] 24 (0, 0)) (by (with_reducible repeat (first | refine blk_drewN ?_ _ | refine blk_drew ?_ | refine blk_alloc ?_ _)); exact BK618.out) hb)
                                have n2_ := Aside0.mk (blk_below (g := gb621) (o := .cells #[.int .u64 t627, .int .u64 t628] 24 (0, 0)) (by (with_reducible repeat (first | refine blk_drewN ?_ _ | refine blk_drew ?_ | refine blk_alloc ?_ _)); exact BK621.out) hb)
                                have n3_ := Aside0.mk (blk_below (g := gb634) (o := .cells #[.int .u64 t632, .int .u64 t633] 24 (0, 0)) (by (with_reducible repeat (first | refine blk_drewN ?_ _ | refine blk_drew ?_ | refine blk_alloc ?_ _)); exact BK634.out) hb)
                                have n4_ := Aside0.mk (below_step (by repeat (first | (with_reducible first | exact HB.out | apply below_alloc | apply pw_below_drewN | apply below_drew1 | refine below_set ?_ GE604.out | refine below_set ?_ GE618.out | refine below_set ?_ GE621.out | refine below_set ?_ GE634.out) | exact HB.out)) hb)
                                have n5_ := Aside0.mk (hbox)
                                have n6_ := Aside0.mk ((by rw [hg]; exact (below_size (by repeat (first | (with_reducible first | exact HB.out | apply below_alloc | apply pw_below_drewN | apply below_drew1 | refine below_set ?_ GE604.out | refine below_set ?_ GE618.out | refine below_set ?_ GE621.out | refine below_set ?_ GE634.out) | exact HB.out))) : w.heap.size ≤ gb644))
                                have n7_ := Aside0.mk ((by rw [hg]; exact (below_size (by repeat (first | (with_reducible first | exact HB.out | apply below_alloc | apply pw_below_drewN | apply below_drew1 | refine below_set ?_ GE604.out | refine below_set ?_ GE618.out | refine below_set ?_ GE621.out | refine below_set ?_ GE634.out) | exact HB.out))) : w.heap.size ≤ gb644))
                                have n8_ := Aside0.mk ((by rw [hg]; exact Nat.ne_of_lt (blk_lt (g := gb604) (o := .cells #[.int .u64 t602, .int .u64 t603] 24 (0, 0)) (by (with_reducible repeat (first | refine blk_drewN ?_ _ | refine blk_drew ?_ | refine blk_alloc ?_ _)); exact BK604.out)) : gb604 ≠ gb644))
                                have n9_ := Aside0.mk ((by rw [hg]; exact Nat.ne_of_gt (blk_lt (g := gb604) (o := .cells #[.int .u64 t602, .int .u64 t603] 24 (0, 0)) (by (with_reducible repeat (first | refine blk_drewN ?_ _ | refine blk_drew ?_ | refine blk_alloc ?_ _)); exact BK604.out)) : gb644 ≠ gb604))
                                have n10_ := Aside0.mk ((by rw [hg]; exact Nat.ne_of_lt (blk_lt (g := gb618) (o := .cells #[.int .u64 x619000_2, .int .u64 x619001_2] 24 (0, 0)) (by (with_reducible repeat (first | refine blk_drewN ?_ _ | refine blk_drew ?_ | refine blk_alloc ?_ _)); exact BK618.out)) : gb618 ≠ gb644))
                                have n11_ := Aside0.mk ((by rw [hg]; exact Nat.ne_of_gt (blk_lt (g := gb618) (o := .cells #[.int .u64 x619000_2, .int .u64 x619001_2] 24 (0, 0)) (by (with_reducible repeat (first | refine blk_drewN ?_ _ | refine blk_drew ?_ | refine blk_alloc ?_ _)); exact BK618.out)) : gb644 ≠ gb618))
                                have n12_ := Aside0.mk ((by rw [hg]; exact Nat.ne_of_lt (blk_lt (g := gb621) (o := .cells #[.int .u64 t627, .int .u64 t628] 24 (0, 0)) (by (with_reducible repeat (first | refine blk_drewN ?_ _ | refine blk_drew ?_ | refine blk_alloc ?_ _)); exact BK621.out)) : gb621 ≠ gb644))
                                have n13_ := Aside0.mk ((by rw [hg]; exact Nat.ne_of_gt (blk_lt (g := gb621) (o := .cells #[.int .u64 t627, .int .u64 t628] 24 (0, 0)) (by (with_reducible repeat (first | refine blk_drewN ?_ _ | refine blk_drew ?_ | refine blk_alloc ?_ _)); exact BK621.out)) : gb644 ≠ gb621))
                                have n14_ := Aside0.mk ((by rw [hg]; exact Nat.ne_of_lt (blk_lt (g := gb634) (o := .cells #[.int .u64 t632, .int .u64 t633] 24 (0, 0)) (by (with_reducible repeat (first | refine blk_drewN ?_ _ | refine blk_drew ?_ | refine blk_alloc ?_ _)); exact BK634.out)) : gb634 ≠ gb644))
                                have n15_ := Aside0.mk ((by rw [hg]; exact Nat.ne_of_gt (blk_lt (g := gb634) (o := .cells #[.int .u64 t632, .int .u64 t633] 24 (0, 0)) (by (with_reducible repeat (first | refine blk_drewN ?_ _ | refine blk_drew ?_ | refine blk_alloc ?_ _)); exact BK634.out)) : gb644 ≠ gb634))
                                clear BK604
                                clear BK618
                                clear BK621
                                clear BK634
                                clear HB
                                have BK604 := n0_
                                have BK618 := n1_
                                have BK621 := n2_
                                have BK634 := n3_
                                have HB := n4_
                                have BK644 := n5_
                                have GW644 := n6_
                                have GE644 := n7_
                                have NB604_644 := n8_
                                have NB644_604 := n9_
                                have NB618_644 := n10_
                                have NB644_618 := n11_
                                have NB621_644 := n12_
                                have NB644_621 := n13_
                                have NB634_644 := n14_
                                have NB644_634 := n15_
                                clear n0_ n1_ n2_ n3_ n4_ n5_ n6_ n7_ n8_ n9_ n10_ n11_ n12_ n13_ n14_ n15_
                                clear hb hbox hg
                                refine hK.out _ _ ⟨(blk_cell BK634.out 0).trans rfl, (blk_cell BK634.out 1).trans rfl⟩ (fun hHeld => ?_)
                                clear hK K
                                refine norm_ (a' := ?_) ?_ ?_
                                rotate_left
                                · show Act.put _ (some 20) _ = _
                                  simp only [Act.put, List.setIfInBounds_toArray, List.set_cons_zero, List.set_cons_succ, i64_w, i32_w]
                                  rfl
                                refine one_ (i := 4) (N := some 86) #[true, true, true, true, true, true, false] rfl rfl (by kernel_rfl) (by decide) (fun K hK => ?_)
                                refine goes_ Try.func19 (by kernel_rfl) rfl #[.agg #[.int .u64 t632, .int .u64 t633], .agg #[.int .u64 t640, .int .u64 t641]] (by rfl) rfl rfl (by (try simp only [List.map_toArray, List.map_cons, List.map_nil]); first | done | rfl | (simp only [List.length_drop, List.length_take]; rfl)) ?_
                                with_reducible refine (sat_Wide_Plus.calls t632 t633 t640 t641 t642 t643 _ A75.out).mono ?_
                                rintro e w81 ⟨rfl, hb⟩
                                refine ⟨_, rfl, ?_⟩
                                have n0_ := Aside0.mk (blk_below (g := gb604) (o := .cells #[.int .u64 t602, .int .u64 t603] 24 (0, 0)) (by (with_reducible repeat (first | refine blk_drewN ?_ _ | refine blk_drew ?_ | refine blk_alloc ?_ _)); exact BK604.out) hb)
                                have n1_ := Aside0.mk (blk_below (g := gb618) (o := .cells #[.int .u64 x619000_2, .int .u64 x619001_2] 24 (0, 0)) (by (with_reducible repeat (first | refine blk_drewN ?_ _ | refine blk_drew ?_ | refine blk_alloc ?_ _)); exact BK618.out) hb)
                                have n2_ := Aside0.mk (blk_below (g := gb621) (o := .cells #[.int .u64 t627, .int .u64 t628] 24 (0, 0)) (by (with_reducible repeat (first | refine blk_drewN ?_ _ | refine blk_drew ?_ | refine blk_alloc ?_ _)); exact BK621.out) hb)
                                have n3_ := Aside0.mk (blk_below (g := gb634) (o := .cells #[.int .u64 t632, .int .u64 t633] 24 (0, 0)) (by (with_reducible repeat (first | refine blk_drewN ?_ _ | refine blk_drew ?_ | refine blk_alloc ?_ _)); exact BK634.out) hb)
                                have n4_ := Aside0.mk (blk_below (g := gb644) (o := .cells #[.int .u64 0, .int .u64 0] 24 (0, 0)) (by (with_reducible repeat (first | refine blk_drewN ?_ _ | refine blk_drew ?_ | refine blk_alloc ?_ _)); exact BK644.out) hb)
                                have n5_ := Aside0.mk (below_step (by repeat (first | (with_reducible first | exact HB.out | apply below_alloc | apply pw_below_drewN | apply below_drew1 | refine below_set ?_ GE604.out | refine below_set ?_ GE618.out | refine below_set ?_ GE621.out | refine below_set ?_ GE634.out | refine below_set ?_ GE644.out) | exact HB.out)) hb)
                                clear BK604
                                clear BK618
                                clear BK621
                                clear BK634
                                clear BK644
                                clear HB
                                have BK604 := n0_
                                have BK618 := n1_
                                have BK621 := n2_
                                have BK634 := n3_
                                have BK644 := n4_
                                have HB := n5_
                                clear n0_ n1_ n2_ n3_ n4_ n5_
                                (try clear hb)
                                (try clear hb2)
                                (try clear hk)
                                (try clear hi)
                                refine hK.out _ _ ⟨(blk_cell BK634.out 0).trans rfl, (blk_cell BK634.out 1).trans rfl⟩ (fun hHeld => ?_)
                                clear hK K
                                refine norm_ (a' := ?_) ?_ ?_
                                rotate_left
                                · show Act.put _ (some 86) _ = _
                                  simp only [Act.put, List.setIfInBounds_toArray, List.set_cons_zero, List.set_cons_succ, i64_w, i32_w]
                                  rfl
                                exact norm_ (by simp only [putAll, Act.put, List.setIfInBounds_toArray, List.set_cons_zero, List.set_cons_succ]) (hCont (gb644) _ ⟨hHeld, (by (with_reducible repeat (first | refine blk_drewN ?_ _ | refine blk_drew ?_ | refine blk_alloc ?_ _)); exact BK604.out), (by (with_reducible repeat (first | refine blk_drewN ?_ _ | refine blk_drew ?_ | refine blk_alloc ?_ _)); exact BK618.out), (by (with_reducible repeat (first | refine blk_drewN ?_ _ | refine blk_drew ?_ | refine blk_alloc ?_ _)); exact BK621.out), (by (with_reducible repeat (first | refine blk_drewN ?_ _ | refine blk_drew ?_ | refine blk_alloc ?_ _)); exact BK634.out), (by (with_reducible repeat (first | refine blk_drewN ?_ _ | refine blk_drew ?_ | refine blk_alloc ?_ _)); exact BK644.out), GW644.out, GE644.out, NB604_644.out, NB644_604.out, NB618_644.out, NB644_618.out, NB621_644.out, NB644_621.out, NB634_644.out, NB644_634.out, (by repeat (first | (with_reducible first | exact HB.out | apply below_alloc | apply pw_below_drewN | apply below_drew1 | refine below_set ?_ GE604.out | refine below_set ?_ GE618.out | refine below_set ?_ GE621.out | refine below_set ?_ GE634.out | refine below_set ?_ GE644.out) | exact HB.out))⟩)
                            · skip
                              refine box_step ?hg (N := 20) ?hd (cs := #[.int .u64 0, .int .u64 0]) (t := 24) ?hr ?_; (case hd => rfl); (case hg => rfl); (case hr => first | (go_simp; done) | (go_simp; rfl))
                              intro gb644 hg w79 hbox hb
                              have n0_ := Aside0.mk (blk_below (g := gb604) (o := .cells #[.int .u64 t602, .int .u64 t603] 24 (0, 0)) (by (with_reducible repeat (first | refine blk_drewN ?_ _ | refine blk_drew ?_ | refine blk_alloc ?_ _)); exact BK604.out) hb)
                              have n1_ := Aside0.mk (blk_below (g := gb618) (o := .cells #[.int .u64 x619000_2, .int .u64 x619001_2] 24 (0, 0)) (by (with_reducible repeat (first | refine blk_drewN ?_ _ | refine blk_drew ?_ | refine blk_alloc ?_ _)); exact BK618.out) hb)
                              have n2_ := Aside0.mk (blk_below (g := gb621) (o := .cells #[.int .u64 t627, .int .u64 t628] 24 (0, 0)) (by (with_reducible repeat (first | refine blk_drewN ?_ _ | refine blk_drew ?_ | refine blk_alloc ?_ _)); exact BK621.out) hb)
                              have n3_ := Aside0.mk (blk_below (g := gb634) (o := .cells #[.int .u64 t632, .int .u64 t633] 24 (0, 0)) (by (with_reducible repeat (first | refine blk_drewN ?_ _ | refine blk_drew ?_ | refine blk_alloc ?_ _)); exact BK634.out) hb)
                              have n4_ := Aside0.mk (below_step (by repeat (first | (with_reducible first | exact HB.out | apply below_alloc | apply pw_below_drewN | apply below_drew1 | refine below_set ?_ GE604.out | refine below_set ?_ GE618.out | refine below_set ?_ GE621.out | refine below_set ?_ GE634.out) | exact HB.out)) hb)
                              have n5_ := Aside0.mk (hbox)
                              have n6_ := Aside0.mk ((by rw [hg]; exact (below_size (by repeat (first | (with_reducible first | exact HB.out | apply below_alloc | apply pw_below_drewN | apply below_drew1 | refine below_set ?_ GE604.out | refine below_set ?_ GE618.out | refine below_set ?_ GE621.out | refine below_set ?_ GE634.out) | exact HB.out))) : w.heap.size ≤ gb644))
                              have n7_ := Aside0.mk ((by rw [hg]; exact (below_size (by repeat (first | (with_reducible first | exact HB.out | apply below_alloc | apply pw_below_drewN | apply below_drew1 | refine below_set ?_ GE604.out | refine below_set ?_ GE618.out | refine below_set ?_ GE621.out | refine below_set ?_ GE634.out) | exact HB.out))) : w.heap.size ≤ gb644))
                              have n8_ := Aside0.mk ((by rw [hg]; exact Nat.ne_of_lt (blk_lt (g := gb604) (o := .cells #[.int .u64 t602, .int .u64 t603] 24 (0, 0)) (by (with_reducible repeat (first | refine blk_drewN ?_ _ | refine blk_drew ?_ | refine blk_alloc ?_ _)); exact BK604.out)) : gb604 ≠ gb644))
                              have n9_ := Aside0.mk ((by rw [hg]; exact Nat.ne_of_gt (blk_lt (g := gb604) (o := .cells #[.int .u64 t602, .int .u64 t603] 24 (0, 0)) (by (with_reducible repeat (first | refine blk_drewN ?_ _ | refine blk_drew ?_ | refine blk_alloc ?_ _)); exact BK604.out)) : gb644 ≠ gb604))
                              have n10_ := Aside0.mk ((by rw [hg]; exact Nat.ne_of_lt (blk_lt (g := gb618) (o := .cells #[.int .u64 x619000_2, .int .u64 x619001_2] 24 (0, 0)) (by (with_reducible repeat (first | refine blk_drewN ?_ _ | refine blk_drew ?_ | refine blk_alloc ?_ _)); exact BK618.out)) : gb618 ≠ gb644))
                              have n11_ := Aside0.mk ((by rw [hg]; exact Nat.ne_of_gt (blk_lt (g := gb618) (o := .cells #[.int .u64 x619000_2, .int .u64 x619001_2] 24 (0, 0)) (by (with_reducible repeat (first | refine blk_drewN ?_ _ | refine blk_drew ?_ | refine blk_alloc ?_ _)); exact BK618.out)) : gb644 ≠ gb618))
                              have n12_ := Aside0.mk ((by rw [hg]; exact Nat.ne_of_lt (blk_lt (g := gb621) (o := .cells #[.int .u64 t627, .int .u64 t628] 24 (0, 0)) (by (with_reducible repeat (first | refine blk_drewN ?_ _ | refine blk_drew ?_ | refine blk_alloc ?_ _)); exact BK621.out)) : gb621 ≠ gb644))
                              have n13_ := Aside0.mk ((by rw [hg]; exact Nat.ne_of_gt (blk_lt (g := gb621) (o := .cells #[.int .u64 t627, .int .u64 t628] 24 (0, 0)) (by (with_reducible repeat (first | refine blk_drewN ?_ _ | refine blk_drew ?_ | refine blk_alloc ?_ _)); exact BK621.out)) : gb644 ≠ gb621))
                              have n14_ := Aside0.mk ((by rw [hg]; exact Nat.ne_of_lt (blk_lt (g := gb634) (o := .cells #[.int .u64 t632, .int .u64 t633] 24 (0, 0)) (by (with_reducible repeat (first | refine blk_drewN ?_ _ | refine blk_drew ?_ | refine blk_alloc ?_ _)); exact BK634.out)) : gb634 ≠ gb644))
                              have n15_ := Aside0.mk ((by rw [hg]; exact Nat.ne_of_gt (blk_lt (g := gb634) (o := .cells #[.int .u64 t632, .int .u64 t633] 24 (0, 0)) (by (with_reducible repeat (first | refine blk_drewN ?_ _ | refine blk_drew ?_ | refine blk_alloc ?_ _)); exact BK634.out)) : gb644 ≠ gb634))
                              clear BK604
                              clear BK618
                              clear BK621
                              clear BK634
                              clear HB
                              have BK604 := n0_
                              have BK618 := n1_
                              have BK621 := n2_
                              have BK634 := n3_
                              have HB := n4_
                              have BK644 := n5_
                              have GW644 := n6_
                              have GE644 := n7_
                              have NB604_644 := n8_
                              have NB644_604 := n9_
                              have NB618_644 := n10_
                              have NB644_618 := n11_
                              have NB621_644 := n12_
                              have NB644_621 := n13_
                              have NB634_644 := n14_
                              have NB644_634 := n15_
                              clear n0_ n1_ n2_ n3_ n4_ n5_ n6_ n7_ n8_ n9_ n10_ n11_ n12_ n13_ n14_ n15_
                              clear hb hbox hg
                              refine hK.out _ _ ⟨(blk_cell BK634.out 0).trans rfl, (blk_cell BK634.out 1).trans rfl⟩ (fun hHeld => ?_)
                              clear hK K
                              refine norm_ (a' := ?_) ?_ ?_
                              rotate_left
                              · show Act.put _ (some 20) _ = _
                                simp only [Act.put, List.setIfInBounds_toArray, List.set_cons_zero, List.set_cons_succ, i64_w, i32_w]
                                rfl
                              refine one_ (i := 3) (N := some 85) #[true, true, true, true, false, true, false] rfl rfl (by kernel_rfl) (by decide) (fun K hK => ?_)
                              refine goes_ Try.func17 (by kernel_rfl) rfl #[.int .u64 a5, .int .u64 a0] (by rfl) rfl rfl (by (try simp only [List.map_toArray, List.map_cons, List.map_nil]); first | done | rfl | (simp only [List.length_drop, List.length_take]; rfl)) ?_
                              with_reducible refine (sat_Product.calls a5 a0 t640 t641 _ A74.out).mono ?_
                              rintro e w80 ⟨rfl, hb⟩
                              refine ⟨_, rfl, ?_⟩
                              have n0_ := Aside0.mk (blk_below (g := gb604) (o := .cells #[.int .u64 t602, .int .u64 t603] 24 (0, 0)) (by (with_reducible repeat (first | refine blk_drewN ?_ _ | refine blk_drew ?_ | refine blk_alloc ?_ _)); exact BK604.out) hb)
                              have n1_ := Aside0.mk (blk_below (g := gb618) (o := .cells #[.int .u64 x619000_2, .int .u64 x619001_2] 24 (0, 0)) (by (with_reducible repeat (first | refine blk_drewN ?_ _ | refine blk_drew ?_ | refine blk_alloc ?_ _)); exact BK618.out) hb)
                              have n2_ := Aside0.mk (blk_below (g := gb621) (o := .cells #[.int .u64 t627, .int .u64 t628] 24 (0, 0)) (by (with_reducible repeat (first | refine blk_drewN ?_ _ | refine blk_drew ?_ | refine blk_alloc ?_ _)); exact BK621.out) hb)
                              have n3_ := Aside0.mk (blk_below (g := gb634) (o := .cells #[.int .u64 t632, .int .u64 t633] 24 (0, 0)) (by (with_reducible repeat (first | refine blk_drewN ?_ _ | refine blk_drew ?_ | refine blk_alloc ?_ _)); exact BK634.out) hb)
                              have n4_ := Aside0.mk (blk_below (g := gb644) (o := .cells #[.int .u64 0, .int .u64 0] 24 (0, 0)) (by (with_reducible repeat (first | refine blk_drewN ?_ _ | refine blk_drew ?_ | refine blk_alloc ?_ _)); exact BK644.out) hb)
                              have n5_ := Aside0.mk (below_step (by repeat (first | (with_reducible first | exact HB.out | apply below_alloc | apply pw_below_drewN | apply below_drew1 | refine below_set ?_ GE604.out | refine below_set ?_ GE618.out | refine below_set ?_ GE621.out | refine below_set ?_ GE634.out | refine below_set ?_ GE644.out) | exact HB.out)) hb)
                              clear BK604
                              clear BK618
                              clear BK621
                              clear BK634
                              clear BK644
                              clear HB
                              have BK604 := n0_
                              have BK618 := n1_
                              have BK621 := n2_
                              have BK634 := n3_
                              have BK644 := n4_
                              have HB := n5_
                              clear n0_ n1_ n2_ n3_ n4_ n5_
                              (try clear hb)
                              (try clear hb2)
                              (try clear hk)
                              (try clear hi)
                              refine hK.out _ _ ⟨(blk_cell BK634.out 0).trans rfl, (blk_cell BK634.out 1).trans rfl⟩ (fun hHeld => ?_)
                              clear hK K
                              refine norm_ (a' := ?_) ?_ ?_
                              rotate_left
                              · show Act.put _ (some 85) _ = _
                                simp only [Act.put, List.setIfInBounds_toArray, List.set_cons_zero, List.set_cons_succ, i64_w, i32_w]
                                rfl
                              refine one_ (i := 4) (N := some 86) #[true, true, true, true, true, true, false] rfl rfl (by kernel_rfl) (by decide) (fun K hK => ?_)
                              refine goes_ Try.func19 (by kernel_rfl) rfl #[.agg #[.int .u64 t632, .int .u64 t633], .agg #[.int .u64 t640, .int .u64 t641]] (by rfl) rfl rfl (by (try simp only [List.map_toArray, List.map_cons, List.map_nil]); first | done | rfl | (simp only [List.length_drop, List.length_take]; rfl)) ?_
                              with_reducible refine (sat_Wide_Plus.calls t632 t633 t640 t641 t642 t643 _ A75.out).mono ?_
                              rintro e w81 ⟨rfl, hb⟩
                              refine ⟨_, rfl, ?_⟩
                              have n0_ := Aside0.mk (blk_below (g := gb604) (o := .cells #[.int .u64 t602, .int .u64 t603] 24 (0, 0)) (by (with_reducible repeat (first | refine blk_drewN ?_ _ | refine blk_drew ?_ | refine blk_alloc ?_ _)); exact BK604.out) hb)
                              have n1_ := Aside0.mk (blk_below (g := gb618) (o := .cells #[.int .u64 x619000_2, .int .u64 x619001_2] 24 (0, 0)) (by (with_reducible repeat (first | refine blk_drewN ?_ _ | refine blk_drew ?_ | refine blk_alloc ?_ _)); exact BK618.out) hb)
                              have n2_ := Aside0.mk (blk_below (g := gb621) (o := .cells #[.int .u64 t627, .int .u64 t628] 24 (0, 0)) (by (with_reducible repeat (first | refine blk_drewN ?_ _ | refine blk_drew ?_ | refine blk_alloc ?_ _)); exact BK621.out) hb)
                              have n3_ := Aside0.mk (blk_below (g := gb634) (o := .cells #[.int .u64 t632, .int .u64 t633] 24 (0, 0)) (by (with_reducible repeat (first | refine blk_drewN ?_ _ | refine blk_drew ?_ | refine blk_alloc ?_ _)); exact BK634.out) hb)
                              have n4_ := Aside0.mk (blk_below (g := gb644) (o := .cells #[.int .u64 0, .int .u64 0] 24 (0, 0)) (by (with_reducible repeat (first | refine blk_drewN ?_ _ | refine blk_drew ?_ | refine blk_alloc ?_ _)); exact BK644.out) hb)
                              have n5_ := Aside0.mk (below_step (by repeat (first | (with_reducible first | exact HB.out | apply below_alloc | apply pw_below_drewN | apply below_drew1 | refine below_set ?_ GE604.out | refine below_set ?_ GE618.out | refine below_set ?_ GE621.out | refine below_set ?_ GE634.out | refine below_set ?_ GE644.out) | exact HB.out)) hb)
                              clear BK604
                              clear BK618
                              clear BK621
                              clear BK634
                              clear BK644
                              clear HB
                              have BK604 := n0_
                              have BK618 := n1_
                              have BK621 := n2_
                              have BK634 := n3_
                              have BK644 := n4_
                              have HB := n5_
                              clear n0_ n1_ n2_ n3_ n4_ n5_
                              (try clear hb)
                              (try clear hb2)
                              (try clear hk)
                              (try clear hi)
                              refine hK.out _ _ ⟨(blk_cell BK634.out 0).trans rfl, (blk_cell BK634.out 1).trans rfl⟩ (fun hHeld => ?_)
                              clear hK K
                              refine norm_ (a' := ?_) ?_ ?_
                              rotate_left
                              · show Act.put _ (some 86) _ = _
                                simp only [Act.put, List.setIfInBounds_toArray, List.set_cons_zero, List.set_cons_succ, i64_w, i32_w]
                                rfl
                              exact norm_ (by simp only [putAll, Act.put, List.setIfInBounds_toArray, List.set_cons_zero, List.set_cons_succ]) (hCont (gb644) _ ⟨hHeld, (by (with_reducible repeat (first | refine blk_drewN ?_ _ | refine blk_drew ?_ | refine blk_alloc ?_ _)); exact BK604.out), (by (with_reducible repeat (first | refine blk_drewN ?_ _ | refine blk_drew ?_ | refine blk_alloc ?_ _)); exact BK618.out), (by (with_reducible repeat (first | refine blk_drewN ?_ _ | refine blk_drew ?_ | refine blk_alloc ?_ _)); exact BK621.out), (by (with_reducible repeat (first | refine blk_drewN ?_ _ | refine blk_drew ?_ | refine blk_alloc ?_ _)); exact BK634.out), (by (with_reducible repeat (first | refine blk_drewN ?_ _ | refine blk_drew ?_ | refine blk_alloc ?_ _)); exact BK644.out), GW644.out, GE644.out, NB604_644.out, NB644_604.out, NB618_644.out, NB644_618.out, NB621_644.out, NB644_621.out, NB634_644.out, NB644_634.out, (by repeat (first | (with_reducible first | exact HB.out | apply below_alloc | apply pw_below_drewN | apply below_drew1 | refine below_set ?_ GE604.out | refine below_set ?_ GE618.out | refine below_set ?_ GE621.out | refine below_set ?_ GE634.out | refine below_set ?_ GE644.out) | exact HB.out))⟩)
                          rintro gb644 w82 ⟨hS_, h0_, h1_, h2_, h3_, h4_, h5_, h6_, h7_, h8_, h9_, h10_, h11_, h12_, h13_, h14_, h15_⟩
                          have n0_ : Aside0 (w82.heap[gb604]? = some (.cells #[.int .u64 t602, .int .u64 t603] 24 (0, 0))) := ⟨h0_⟩
                          have n1_ : Aside0 (w82.heap[gb618]? = some (.cells #[.int .u64 x619000_2, .int .u64 x619001_2] 24 (0, 0))) := ⟨h1_⟩
                          have n2_ : Aside0 (w82.heap[gb621]? = some (.cells #[.int .u64 t627, .int .u64 t628] 24 (0, 0))) := ⟨h2_⟩
                          have n3_ : Aside0 (w82.heap[gb634]? = some (.cells #[.int .u64 t632, .int .u64 t633] 24 (0, 0))) := ⟨h3_⟩
                          have n4_ : Aside0 (w82.heap[gb644]? = some (.cells #[.int .u64 0, .int .u64 0] 24 (0, 0))) := ⟨h4_⟩
                          have n5_ : Aside0 (w.heap.size ≤ gb644) := ⟨h5_⟩
                          have n6_ : Aside0 (w.heap.size ≤ gb644) := ⟨h6_⟩
                          have n7_ : Aside0 (gb604 ≠ gb644) := ⟨h7_⟩
                          have n8_ : Aside0 (gb644 ≠ gb604) := ⟨h8_⟩
                          have n9_ : Aside0 (gb618 ≠ gb644) := ⟨h9_⟩
                          have n10_ : Aside0 (gb644 ≠ gb618) := ⟨h10_⟩
                          have n11_ : Aside0 (gb621 ≠ gb644) := ⟨h11_⟩
                          have n12_ : Aside0 (gb644 ≠ gb621) := ⟨h12_⟩
                          have n13_ : Aside0 (gb634 ≠ gb644) := ⟨h13_⟩
                          have n14_ : Aside0 (gb644 ≠ gb634) := ⟨h14_⟩
                          have n15_ : Aside0 (Below w.heap.size w w82) := ⟨h15_⟩
                          clear BK604
                          clear BK618
                          clear BK621
                          clear BK634
                          clear HB
                          clear h0_ h1_ h2_ h3_ h4_ h5_ h6_ h7_ h8_ h9_ h10_ h11_ h12_ h13_ h14_ h15_
                          have BK604 := n0_
                          have BK618 := n1_
                          have BK621 := n2_
                          have BK634 := n3_
                          have BK644 := n4_
                          have GW644 := n5_
                          have GE644 := n6_
                          have NB604_644 := n7_
                          have NB644_604 := n8_
                          have NB618_644 := n9_
                          have NB644_618 := n10_
                          have NB621_644 := n11_
                          have NB644_621 := n12_
                          have NB634_644 := n13_
                          have NB644_634 := n14_
                          have HB := n15_
                          clear n0_ n1_ n2_ n3_ n4_ n5_ n6_ n7_ n8_ n9_ n10_ n11_ n12_ n13_ n14_ n15_
                          have hHeld : w82.cell? ⟨gb634, 0, none⟩ = some (.int .u64 t632) ∧ w82.cell? ⟨gb634, 1, none⟩ = some (.int .u64 t633) := hS_
                          refine norm_ (a' := ?_) ?_ ?_
                          rotate_left
                          · simp only [putAll, Act.put, List.setIfInBounds_toArray, List.set_cons_zero, List.set_cons_succ]
                            rfl
                          refine one_ (i := 6) (N := none) #[true, true, true, true, true, true, true] rfl rfl (by kernel_rfl) (by decide) (fun K hK => ?_)
                          have hs83 : w82.cell? ⟨gb644, 0, none⟩ = some (.int .u64 0) := (blk_cell BK644.out 0).trans rfl
                          have hfs83 := blk_frozen BK644.out 0
                          have hns83_0 := NB604_644.out
                          have hns83_1 := NB618_644.out
                          have hns83_2 := NB621_644.out
                          have hns83_3 := NB634_644.out
                          have hms83_0 := NB644_604.out
                          have hms83_1 := NB644_618.out
                          have hms83_2 := NB644_621.out
                          have hms83_3 := NB644_634.out
                          have hs84 : w82.cell? ⟨gb644, 1, none⟩ = some (.int .u64 0) := (blk_cell BK644.out 1).trans rfl
                          have hfs84 := blk_frozen BK644.out 1
                          have hns84_0 := NB604_644.out
                          have hns84_1 := NB618_644.out
                          have hns84_2 := NB621_644.out
                          have hns84_3 := NB634_644.out
                          have hms84_0 := NB644_604.out
                          have hms84_1 := NB644_618.out
                          have hms84_2 := NB644_621.out
                          have hms84_3 := NB644_634.out
                          refine skip_ (w1 := ?_) (by rfl) rfl ?_ ?_
                          rotate_left
                          · go_simp
                            rfl
                          refine hK.out _ _ ⟨((cell_far (p := ⟨gb644, _, none⟩) NB634_644.out _).trans (((cell_far (p := ⟨gb644, _, none⟩) NB634_644.out _).trans (hHeld.1)))), ((cell_far (p := ⟨gb644, _, none⟩) NB634_644.out _).trans (((cell_far (p := ⟨gb644, _, none⟩) NB634_644.out _).trans (hHeld.2))))⟩ (fun hHeld => ?_)
                          clear hK K
                          refine done_ (by kernel_rfl) ?_
                          have hnb85 := NB644_604.out
                          have hnc85 := NB604_644.out
                          have hnb86 := NB644_618.out
                          have hnc86 := NB618_644.out
                          have hnb87 := NB644_621.out
                          have hnc87 := NB621_644.out
                          have hnb88 := NB644_634.out
                          have hnc88 := NB634_644.out
                          have hcz89_0 : w82.cell? ⟨gb644, 0, none⟩ = some (.int .u64 0) := (blk_cell BK644.out 0).trans rfl
                          have hcz89_1 : w82.cell? ⟨gb644, 1, none⟩ = some (.int .u64 0) := (blk_cell BK644.out 1).trans rfl
                          have hfz89_0 := blk_frozen BK644.out 0
                          have hfz89_1 := blk_frozen BK644.out 1
                          have hnb90 := NB618_604.out
                          have hnc90 := NB604_618.out
                          have hnb91 := NB618_621.out
                          have hnc91 := NB621_618.out
                          have hnb92 := NB618_634.out
                          have hnc92 := NB634_618.out
                          have hcz93_0 : w82.cell? ⟨gb618, 0, none⟩ = some (.int .u64 x619000_2) := (blk_cell BK618.out 0).trans rfl
                          have hcz93_1 : w82.cell? ⟨gb618, 1, none⟩ = some (.int .u64 x619001_2) := (blk_cell BK618.out 1).trans rfl
                          have hfz93_0 := blk_frozen BK618.out 0
                          have hfz93_1 := blk_frozen BK618.out 1
                          try go_wp2_with (first | ((with_reducible refine gate_callee (f := 21) rfl ?_); refine goesL_ (some 89) rfl rfl Try.func21 (by kernel_rfl) rfl #[.agg #[.int .u64 t642, .int .u64 t643], .agg #[.int .u64 x619000_2, .int .u64 x619001_2]] rfl (by (try simp only [List.map_toArray, List.map_cons, List.map_nil]); first | done | rfl | (simp only [List.length_drop, List.length_take]; rfl)) ?_; (with_reducible refine (sat_Wide_Cmp.calls t642 t643 x619000_2 x619001_2 t645 _ A76.out).mono ?_); rintro e w94 ⟨rfl, hb⟩; refine ⟨_, rfl, ?_⟩; have n0_ := Aside0.mk (blk_below (g := gb604) (o := .cells #[.int .u64 t602, .int .u64 t603] 24 (0, 0)) (by (with_reducible repeat (first | refine blk_drewN ?_ _ | refine blk_drew ?_ | refine blk_alloc ?_ _)); refine blk_far ?_ NB604_644.out _; (with_reducible repeat (first | refine blk_drewN ?_ _ | refine blk_drew ?_ | refine blk_alloc ?_ _)); refine blk_far ?_ NB604_644.out _; (with_reducible repeat (first | refine blk_drewN ?_ _ | refine blk_drew ?_ | refine blk_alloc ?_ _)); exact BK604.out) hb); have n1_ := Aside0.mk (blk_below (g := gb618) (o := .cells #[.int .u64 x619000_2, .int .u64 x619001_2] 24 (0, 0)) (by (with_reducible repeat (first | refine blk_drewN ?_ _ | refine blk_drew ?_ | refine blk_alloc ?_ _)); refine blk_far ?_ NB618_644.out _; (with_reducible repeat (first | refine blk_drewN ?_ _ | refine blk_drew ?_ | refine blk_alloc ?_ _)); refine blk_far ?_ NB618_644.out _; (with_reducible repeat (first | refine blk_drewN ?_ _ | refine blk_drew ?_ | refine blk_alloc ?_ _)); exact BK618.out) hb); have n2_ := Aside0.mk (blk_below (g := gb621) (o := .cells #[.int .u64 t627, .int .u64 t628] 24 (0, 0)) (by (with_reducible repeat (first | refine blk_drewN ?_ _ | refine blk_drew ?_ | refine blk_alloc ?_ _)); refine blk_far ?_ NB621_644.out _; (with_reducible repeat (first | refine blk_drewN ?_ _ | refine blk_drew ?_ | refine blk_alloc ?_ _)); refine blk_far ?_ NB621_644.out _; (with_reducible repeat (first | refine blk_drewN ?_ _ | refine blk_drew ?_ | refine blk_alloc ?_ _)); exact BK621.out) hb); have n3_ := Aside0.mk (blk_below (g := gb634) (o := .cells #[.int .u64 t632, .int .u64 t633] 24 (0, 0)) (by (with_reducible repeat (first | refine blk_drewN ?_ _ | refine blk_drew ?_ | refine blk_alloc ?_ _)); refine blk_far ?_ NB634_644.out _; (with_reducible repeat (first | refine blk_drewN ?_ _ | refine blk_drew ?_ | refine blk_alloc ?_ _)); refine blk_far ?_ NB634_644.out _; (with_reducible repeat (first | refine blk_drewN ?_ _ | refine blk_drew ?_ | refine blk_alloc ?_ _)); exact BK634.out) hb); have n4_ := Aside0.mk (blk_below (g := gb644) (o := .cells #[.int .u64 t642, .int .u64 t643] 24 (0, 0)) (by (with_reducible repeat (first | refine blk_drewN ?_ _ | refine blk_drew ?_ | refine blk_alloc ?_ _)); refine blk_put (cs := #[.int .u64 t642, .int .u64 0]) ?_ 1 _ rfl; (with_reducible repeat (first | refine blk_drewN ?_ _ | refine blk_drew ?_ | refine blk_alloc ?_ _)); refine blk_put (cs := #[.int .u64 0, .int .u64 0]) ?_ 0 _ rfl; (with_reducible repeat (first | refine blk_drewN ?_ _ | refine blk_drew ?_ | refine blk_alloc ?_ _)); exact BK644.out) hb); have n5_ := Aside0.mk (below_step (by repeat (first | (with_reducible first | exact HB.out | apply below_alloc | apply pw_below_drewN | apply below_drew1 | refine below_set ?_ GE604.out | refine below_set ?_ GE618.out | refine below_set ?_ GE621.out | refine below_set ?_ GE634.out | refine below_set ?_ GE644.out) | exact HB.out)) hb); clear BK604; clear BK618; clear BK621; clear BK634; clear BK644; clear HB; have BK604 := n0_; have BK618 := n1_; have BK621 := n2_; have BK634 := n3_; have BK644 := n4_; have HB := n5_; clear n0_ n1_ n2_ n3_ n4_ n5_; (try clear hb); (try clear hb2); (try clear hk); (try clear hi); have hcz95_0 : w94.cell? ⟨gb644, 0, none⟩ = some (.int .u64 t642) := (blk_cell BK644.out 0).trans rfl; have hcz95_1 : w94.cell? ⟨gb644, 1, none⟩ = some (.int .u64 t643) := (blk_cell BK644.out 1).trans rfl; have hfz95_0 := blk_frozen BK644.out 0; have hfz95_1 := blk_frozen BK644.out 1; have hcz96_0 : w94.cell? ⟨gb618, 0, none⟩ = some (.int .u64 x619000_2) := (blk_cell BK618.out 0).trans rfl; have hcz96_1 : w94.cell? ⟨gb618, 1, none⟩ = some (.int .u64 x619001_2) := (blk_cell BK618.out 1).trans rfl; have hfz96_0 := blk_frozen BK618.out 0; have hfz96_1 := blk_frozen BK618.out 1))
                          go_roundg kj53
                          case measure => have := HJ6.out; have := HK2.out; have := HJ53.out; omega
                          case rel => exact ⟨(x15_53), (wrap64 (x18_2 - 1)), (t642), (t643), (t627), (t628), (by first | rfl | (simp; done) | (simp [*]; done)), (by first | rfl | (simp; done) | (simp [*]; done)), H', ⟨by have := HJ6.out; have := HK2.out; have := HJ53.out; omega⟩, ⟨by (with_reducible repeat (first | refine blk_drewN ?_ _ | refine blk_drew ?_ | refine blk_alloc ?_ _)); refine blk_far ?_ NB604_618.out _; (with_reducible repeat (first | refine blk_drewN ?_ _ | refine blk_drew ?_ | refine blk_alloc ?_ _)); refine blk_far ?_ NB604_618.out _; (with_reducible repeat (first | refine blk_drewN ?_ _ | refine blk_drew ?_ | refine blk_alloc ?_ _)); exact BK604.out⟩, ⟨by (with_reducible repeat (first | refine blk_drewN ?_ _ | refine blk_drew ?_ | refine blk_alloc ?_ _)); refine blk_put (cs := #[.int .u64 t642, .int .u64 x619001_2]) ?_ 1 _ rfl; (with_reducible repeat (first | refine blk_drewN ?_ _ | refine blk_drew ?_ | refine blk_alloc ?_ _)); refine blk_put (cs := #[.int .u64 x619000_2, .int .u64 x619001_2]) ?_ 0 _ rfl; (with_reducible repeat (first | refine blk_drewN ?_ _ | refine blk_drew ?_ | refine blk_alloc ?_ _)); exact BK618.out⟩, ⟨by (with_reducible repeat (first | refine blk_drewN ?_ _ | refine blk_drew ?_ | refine blk_alloc ?_ _)); refine blk_far ?_ NB621_618.out _; (with_reducible repeat (first | refine blk_drewN ?_ _ | refine blk_drew ?_ | refine blk_alloc ?_ _)); refine blk_far ?_ NB621_618.out _; (with_reducible repeat (first | refine blk_drewN ?_ _ | refine blk_drew ?_ | refine blk_alloc ?_ _)); exact BK621.out⟩, ⟨by repeat (first | (with_reducible first | exact HB.out | apply below_alloc | apply pw_below_drewN | apply below_drew1 | refine below_set ?_ GE604.out | refine below_set ?_ GE618.out | refine below_set ?_ GE621.out | refine below_set ?_ GE634.out | refine below_set ?_ GE644.out) | exact HB.out)⟩⟩
                        · rw [if_neg c77] at H
                          have c77b0 : decide (0 < t645) = false := decide_eq_false c77
                          clear c77
                          have H' := Aside0.mk H
                          clear H
                          try go_wp2
                          have n0_ := Aside0.mk (blk_drew BK604.out)
                          have n1_ := Aside0.mk (blk_drew BK618.out)
                          have n2_ := Aside0.mk (blk_drew BK621.out)
                          have n3_ := Aside0.mk (blk_drew BK634.out)
                          have n4_ := Aside0.mk (below_drew1 HB.out)
                          clear BK604
                          clear BK618
                          clear BK621
                          clear BK634
                          clear HB
                          have BK604 := n0_
                          have BK618 := n1_
                          have BK621 := n2_
                          have BK634 := n3_
                          have HB := n4_
                          clear n0_ n1_ n2_ n3_ n4_
                          refine start_ (n := 7) (S := fun w' => w'.cell? ⟨gb634, 0, none⟩ = some (.int .u64 t632) ∧ w'.cell? ⟨gb634, 1, none⟩ = some (.int .u64 t633)) (ds := []) #[false, false, false, false, false, false, false] (by kernel_rfl) rfl rfl ⟨(blk_cell BK634.out 0).trans rfl, (blk_cell BK634.out 1).trans rfl⟩ (fun hHeld => ?_)
                          generalize wc.drew = w97 at BK604 BK618 BK621 BK634 HB hHeld ⊢
                          refine pure_ (i := 1) (N := some 83) (v := ?_) (a' := ?_) #[false, true, false, false, false, false, false] rfl rfl (by kernel_rfl) (fun _ _ _ h => h) (Or.inl ⟨by rfl, ?_⟩) ?_ ?_
                          rotate_left
                          · intro w'
                            go_simp
                            with_reducible rfl
                          rotate_left
                          · simp only [Act.put, List.setIfInBounds_toArray, List.set_cons_zero, List.set_cons_succ, i64_w, i32_w]
                            rfl
                          refine pure_ (i := 2) (N := some 84) (v := ?_) (a' := ?_) #[false, true, true, false, false, false, false] rfl rfl (by kernel_rfl) (fun _ _ _ h => h) (Or.inl ⟨by rfl, ?_⟩) ?_ ?_
                          rotate_left
                          · intro w'
                            go_simp
                            with_reducible rfl
                          rotate_left
                          · simp only [Act.put, List.setIfInBounds_toArray, List.set_cons_zero, List.set_cons_succ, i64_w, i32_w]
                            rfl
                          refine take_ (i := 0) (N := some 82) (v := ?_) (a' := ?_) #[true, true, true, false, false, false, false] rfl rfl (by kernel_rfl) (fun _ _ _ h => h) (Or.inl ⟨by rfl, ?_⟩) hHeld ?_ ?_
                          rotate_left
                          · rintro w' ⟨s0, s1⟩
                            go_simp
                            with_reducible rfl
                          rotate_left
                          · simp only [Act.put, List.setIfInBounds_toArray, List.set_cons_zero, List.set_cons_succ, i64_w, i32_w]
                            rfl
                          refine join_ (σ := Nat) 1 #[true, true, true, true, true, true, false] (fun s_ => [(85, .agg #[.int .u64 t640, .int .u64 t641]), (86, .agg #[.int .u64 t642, .int .u64 t643]), (20, .pointer (some ⟨s_, 0, none⟩))]) (fun s_ w' => (w'.cell? ⟨gb634, 0, none⟩ = some (.int .u64 t632) ∧ w'.cell? ⟨gb634, 1, none⟩ = some (.int .u64 t633)) ∧ (w'.heap[gb604]? = some (.cells #[.int .u64 t602, .int .u64 t603] 24 (0, 0))) ∧ (w'.heap[gb618]? = some (.cells #[.int .u64 x619000_2, .int .u64 x619001_2] 24 (0, 0))) ∧ (w'.heap[gb621]? = some (.cells #[.int .u64 t627, .int .u64 t628] 24 (0, 0))) ∧ (w'.heap[gb634]? = some (.cells #[.int .u64 t632, .int .u64 t633] 24 (0, 0))) ∧ (w'.heap[s_]? = some (.cells #[.int .u64 0, .int .u64 0] 24 (0, 0))) ∧ (w.heap.size ≤ s_) ∧ (w.heap.size ≤ s_) ∧ (gb604 ≠ s_) ∧ (s_ ≠ gb604) ∧ (gb618 ≠ s_) ∧ (s_ ≠ gb618) ∧ (gb621 ≠ s_) ∧ (s_ ≠ gb621) ∧ (gb634 ≠ s_) ∧ (s_ ≠ gb634) ∧ (Below w.heap.size w w')) ?_ ?_
                          rotate_left
                          · intro hCont
                            refine two_ (i := 3) (j := 5) (Ni := some 85) (Nj := some 20) #[true, true, true, true, false, false, false] #[true, true, true, false, false, true, false] rfl rfl rfl rfl (by kernel_rfl) (by decide) (by decide) (fun K hK => ?_) (fun K hK => ?_)
                            · skip
                              refine goes_ Try.func17 (by kernel_rfl) rfl #[.int .u64 a5, .int .u64 a0] (by rfl) rfl rfl (by (try simp only [List.map_toArray, List.map_cons, List.map_nil]); first | done | rfl | (simp only [List.length_drop, List.length_take]; rfl)) ?_
                              with_reducible refine (sat_Product.calls a5 a0 t640 t641 _ A74.out).mono ?_
                              rintro e w98 ⟨rfl, hb⟩
                              refine ⟨_, rfl, ?_⟩
                              have n0_ := Aside0.mk (blk_below (g := gb604) (o := .cells #[.int .u64 t602, .int .u64 t603] 24 (0, 0)) (by (with_reducible repeat (first | refine blk_drewN ?_ _ | refine blk_drew ?_ | refine blk_alloc ?_ _)); exact BK604.out) hb)
                              have n1_ := Aside0.mk (blk_below (g := gb618) (o := .cells #[.int .u64 x619000_2, .int .u64 x619001_2] 24 (0, 0)) (by (with_reducible repeat (first | refine blk_drewN ?_ _ | refine blk_drew ?_ | refine blk_alloc ?_ _)); exact BK618.out) hb)
                              have n2_ := Aside0.mk (blk_below (g := gb621) (o := .cells #[.int .u64 t627, .int .u64 t628] 24 (0, 0)) (by (with_reducible repeat (first | refine blk_drewN ?_ _ | refine blk_drew ?_ | refine blk_alloc ?_ _)); exact BK621.out) hb)
                              have n3_ := Aside0.mk (blk_below (g := gb634) (o := .cells #[.int .u64 t632, .int .u64 t633] 24 (0, 0)) (by (with_reducible repeat (first | refine blk_drewN ?_ _ | refine blk_drew ?_ | refine blk_alloc ?_ _)); exact BK634.out) hb)
                              have n4_ := Aside0.mk (below_step (by repeat (first | (with_reducible first | exact HB.out | apply below_alloc | apply pw_below_drewN | apply below_drew1 | refine below_set ?_ GE604.out | refine below_set ?_ GE618.out | refine below_set ?_ GE621.out | refine below_set ?_ GE634.out) | exact HB.out)) hb)
                              clear BK604
                              clear BK618
                              clear BK621
                              clear BK634
                              clear HB
                              have BK604 := n0_
                              have BK618 := n1_
                              have BK621 := n2_
                              have BK634 := n3_
                              have HB := n4_
                              clear n0_ n1_ n2_ n3_ n4_
                              (try clear hb)
                              (try clear hb2)
                              (try clear hk)
                              (try clear hi)
                              refine hK.out _ _ ⟨(blk_cell BK634.out 0).trans rfl, (blk_cell BK634.out 1).trans rfl⟩ (fun hHeld => ?_)
                              clear hK K
                              refine norm_ (a' := ?_) ?_ ?_
                              rotate_left
                              · show Act.put _ (some 85) _ = _
                                simp only [Act.put, List.setIfInBounds_toArray, List.set_cons_zero, List.set_cons_succ, i64_w, i32_w]
                                rfl
                              refine two_ (i := 4) (j := 5) (Ni := some 86) (Nj := some 20) #[true, true, true, true, true, false, false] #[true, true, true, true, false, true, false] rfl rfl rfl rfl (by kernel_rfl) (by decide) (by decide) (fun K hK => ?_) (fun K hK => ?_)
                              · skip
                                refine goes_ Try.func19 (by kernel_rfl) rfl #[.agg #[.int .u64 t632, .int .u64 t633], .agg #[.int .u64 t640, .int .u64 t641]] (by rfl) rfl rfl (by (try simp only [List.map_toArray, List.map_cons, List.map_nil]); first | done | rfl | (simp only [List.length_drop, List.length_take]; rfl)) ?_
                                with_reducible refine (sat_Wide_Plus.calls t632 t633 t640 t641 t642 t643 _ A75.out).mono ?_
                                rintro e w99 ⟨rfl, hb⟩
                                refine ⟨_, rfl, ?_⟩
                                have n0_ := Aside0.mk (blk_below (g := gb604) (o := .cells #[.int .u64 t602, .int .u64 t603] 24 (0, 0)) (by (with_reducible repeat (first | refine blk_drewN ?_ _ | refine blk_drew ?_ | refine blk_alloc ?_ _)); exact BK604.out) hb)
                                have n1_ := Aside0.mk (blk_below (g := gb618) (o := .cells #[.int .u64 x619000_2, .int .u64 x619001_2] 24 (0, 0)) (by (with_reducible repeat (first | refine blk_drewN ?_ _ | refine blk_drew ?_ | refine blk_alloc ?_ _)); exact BK618.out) hb)
                                have n2_ := Aside0.mk (blk_below (g := gb621) (o := .cells #[.int .u64 t627, .int .u64 t628] 24 (0, 0)) (by (with_reducible repeat (first | refine blk_drewN ?_ _ | refine blk_drew ?_ | refine blk_alloc ?_ _)); exact BK621.out) hb)
                                have n3_ := Aside0.mk (blk_below (g := gb634) (o := .cells #[.int .u64 t632, .int .u64 t633] 24 (0, 0)) (by (with_reducible repeat (first | refine blk_drewN ?_ _ | refine blk_drew ?_ | refine blk_alloc ?_ _)); exact BK634.out) hb)
                                have n4_ := Aside0.mk (below_step (by repeat (first | (with_reducible first | exact HB.out | apply below_alloc | apply pw_below_drewN | apply below_drew1 | refine below_set ?_ GE604.out | refine below_set ?_ GE618.out | refine below_set ?_ GE621.out | refine below_set ?_ GE634.out) | exact HB.out)) hb)
                                clear BK604
                                clear BK618
                                clear BK621
                                clear BK634
                                clear HB
                                have BK604 := n0_
                                have BK618 := n1_
                                have BK621 := n2_
                                have BK634 := n3_
                                have HB := n4_
                                clear n0_ n1_ n2_ n3_ n4_
                                (try clear hb)
                                (try clear hb2)
                                (try clear hk)
                                (try clear hi)
                                refine hK.out _ _ ⟨(blk_cell BK634.out 0).trans rfl, (blk_cell BK634.out 1).trans rfl⟩ (fun hHeld => ?_)
                                clear hK K
                                refine norm_ (a' := ?_) ?_ ?_
                                rotate_left
                                · show Act.put _ (some 86) _ = _
                                  simp only [Act.put, List.setIfInBounds_toArray, List.set_cons_zero, List.set_cons_succ, i64_w, i32_w]
                                  rfl
                                refine one_ (i := 5) (N := some 20) #[true, true, true, true, true, true, false] rfl rfl (by kernel_rfl) (by decide) (fun K hK => ?_)
                                refine box_step ?hg (N := 20) ?hd (cs := #[.int .u64 0, .int .u64 0]) (t := 24) ?hr ?_; (case hd => rfl); (case hg => rfl); (case hr => first | (go_simp; done) | (go_simp; rfl))
                                intro gb644 hg w100 hbox hb
                                have n0_ := Aside0.mk (blk_below (g := gb604) (o := .cells #[.int .u64 t602, .int .u64 t603] 24 (0, 0)) (by (with_reducible repeat (first | refine blk_drewN ?_ _ | refine blk_drew ?_ | refine blk_alloc ?_ _)); exact BK604.out) hb)
                                have n1_ := Aside0.mk (blk_below (g := gb618) (o := .cells #[.int .u64 x619000_2, .int .u64 x619001_2] 24 (0, 0)) (by (with_reducible repeat (first | refine blk_drewN ?_ _ | refine blk_drew ?_ | refine blk_alloc ?_ _)); exact BK618.out) hb)
                                have n2_ := Aside0.mk (blk_below (g := gb621) (o := .cells #[.int .u64 t627, .int .u64 t628] 24 (0, 0)) (by (with_reducible repeat (first | refine blk_drewN ?_ _ | refine blk_drew ?_ | refine blk_alloc ?_ _)); exact BK621.out) hb)
                                have n3_ := Aside0.mk (blk_below (g := gb634) (o := .cells #[.int .u64 t632, .int .u64 t633] 24 (0, 0)) (by (with_reducible repeat (first | refine blk_drewN ?_ _ | refine blk_drew ?_ | refine blk_alloc ?_ _)); exact BK634.out) hb)
                                have n4_ := Aside0.mk (below_step (by repeat (first | (with_reducible first | exact HB.out | apply below_alloc | apply pw_below_drewN | apply below_drew1 | refine below_set ?_ GE604.out | refine below_set ?_ GE618.out | refine below_set ?_ GE621.out | refine below_set ?_ GE634.out) | exact HB.out)) hb)
                                have n5_ := Aside0.mk (hbox)
                                have n6_ := Aside0.mk ((by rw [hg]; exact (below_size (by repeat (first | (with_reducible first | exact HB.out | apply below_alloc | apply pw_below_drewN | apply below_drew1 | refine below_set ?_ GE604.out | refine below_set ?_ GE618.out | refine below_set ?_ GE621.out | refine below_set ?_ GE634.out) | exact HB.out))) : w.heap.size ≤ gb644))
                                have n7_ := Aside0.mk ((by rw [hg]; exact (below_size (by repeat (first | (with_reducible first | exact HB.out | apply below_alloc | apply pw_below_drewN | apply below_drew1 | refine below_set ?_ GE604.out | refine below_set ?_ GE618.out | refine below_set ?_ GE621.out | refine below_set ?_ GE634.out) | exact HB.out))) : w.heap.size ≤ gb644))
                                have n8_ := Aside0.mk ((by rw [hg]; exact Nat.ne_of_lt (blk_lt (g := gb604) (o := .cells #[.int .u64 t602, .int .u64 t603] 24 (0, 0)) (by (with_reducible repeat (first | refine blk_drewN ?_ _ | refine blk_drew ?_ | refine blk_alloc ?_ _)); exact BK604.out)) : gb604 ≠ gb644))
                                have n9_ := Aside0.mk ((by rw [hg]; exact Nat.ne_of_gt (blk_lt (g := gb604) (o := .cells #[.int .u64 t602, .int .u64 t603] 24 (0, 0)) (by (with_reducible repeat (first | refine blk_drewN ?_ _ | refine blk_drew ?_ | refine blk_alloc ?_ _)); exact BK604.out)) : gb644 ≠ gb604))
                                have n10_ := Aside0.mk ((by rw [hg]; exact Nat.ne_of_lt (blk_lt (g := gb618) (o := .cells #[.int .u64 x619000_2, .int .u64 x619001_2] 24 (0, 0)) (by (with_reducible repeat (first | refine blk_drewN ?_ _ | refine blk_drew ?_ | refine blk_alloc ?_ _)); exact BK618.out)) : gb618 ≠ gb644))
                                have n11_ := Aside0.mk ((by rw [hg]; exact Nat.ne_of_gt (blk_lt (g := gb618) (o := .cells #[.int .u64 x619000_2, .int .u64 x619001_2] 24 (0, 0)) (by (with_reducible repeat (first | refine blk_drewN ?_ _ | refine blk_drew ?_ | refine blk_alloc ?_ _)); exact BK618.out)) : gb644 ≠ gb618))
                                have n12_ := Aside0.mk ((by rw [hg]; exact Nat.ne_of_lt (blk_lt (g := gb621) (o := .cells #[.int .u64 t627, .int .u64 t628] 24 (0, 0)) (by (with_reducible repeat (first | refine blk_drewN ?_ _ | refine blk_drew ?_ | refine blk_alloc ?_ _)); exact BK621.out)) : gb621 ≠ gb644))
                                have n13_ := Aside0.mk ((by rw [hg]; exact Nat.ne_of_gt (blk_lt (g := gb621) (o := .cells #[.int .u64 t627, .int .u64 t628] 24 (0, 0)) (by (with_reducible repeat (first | refine blk_drewN ?_ _ | refine blk_drew ?_ | refine blk_alloc ?_ _)); exact BK621.out)) : gb644 ≠ gb621))
                                have n14_ := Aside0.mk ((by rw [hg]; exact Nat.ne_of_lt (blk_lt (g := gb634) (o := .cells #[.int .u64 t632, .int .u64 t633] 24 (0, 0)) (by (with_reducible repeat (first | refine blk_drewN ?_ _ | refine blk_drew ?_ | refine blk_alloc ?_ _)); exact BK634.out)) : gb634 ≠ gb644))
                                have n15_ := Aside0.mk ((by rw [hg]; exact Nat.ne_of_gt (blk_lt (g := gb634) (o := .cells #[.int .u64 t632, .int .u64 t633] 24 (0, 0)) (by (with_reducible repeat (first | refine blk_drewN ?_ _ | refine blk_drew ?_ | refine blk_alloc ?_ _)); exact BK634.out)) : gb644 ≠ gb634))
                                clear BK604
                                clear BK618
                                clear BK621
                                clear BK634
                                clear HB
                                have BK604 := n0_
                                have BK618 := n1_
                                have BK621 := n2_
                                have BK634 := n3_
                                have HB := n4_
                                have BK644 := n5_
                                have GW644 := n6_
                                have GE644 := n7_
                                have NB604_644 := n8_
                                have NB644_604 := n9_
                                have NB618_644 := n10_
                                have NB644_618 := n11_
                                have NB621_644 := n12_
                                have NB644_621 := n13_
                                have NB634_644 := n14_
                                have NB644_634 := n15_
                                clear n0_ n1_ n2_ n3_ n4_ n5_ n6_ n7_ n8_ n9_ n10_ n11_ n12_ n13_ n14_ n15_
                                clear hb hbox hg
                                refine hK.out _ _ ⟨(blk_cell BK634.out 0).trans rfl, (blk_cell BK634.out 1).trans rfl⟩ (fun hHeld => ?_)
                                clear hK K
                                refine norm_ (a' := ?_) ?_ ?_
                                rotate_left
                                · show Act.put _ (some 20) _ = _
                                  simp only [Act.put, List.setIfInBounds_toArray, List.set_cons_zero, List.set_cons_succ, i64_w, i32_w]
                                  rfl
                                exact norm_ (by simp only [putAll, Act.put, List.setIfInBounds_toArray, List.set_cons_zero, List.set_cons_succ]) (hCont (gb644) _ ⟨hHeld, (by (with_reducible repeat (first | refine blk_drewN ?_ _ | refine blk_drew ?_ | refine blk_alloc ?_ _)); exact BK604.out), (by (with_reducible repeat (first | refine blk_drewN ?_ _ | refine blk_drew ?_ | refine blk_alloc ?_ _)); exact BK618.out), (by (with_reducible repeat (first | refine blk_drewN ?_ _ | refine blk_drew ?_ | refine blk_alloc ?_ _)); exact BK621.out), (by (with_reducible repeat (first | refine blk_drewN ?_ _ | refine blk_drew ?_ | refine blk_alloc ?_ _)); exact BK634.out), (by (with_reducible repeat (first | refine blk_drewN ?_ _ | refine blk_drew ?_ | refine blk_alloc ?_ _)); exact BK644.out), GW644.out, GE644.out, NB604_644.out, NB644_604.out, NB618_644.out, NB644_618.out, NB621_644.out, NB644_621.out, NB634_644.out, NB644_634.out, (by repeat (first | (with_reducible first | exact HB.out | apply below_alloc | apply pw_below_drewN | apply below_drew1 | refine below_set ?_ GE604.out | refine below_set ?_ GE618.out | refine below_set ?_ GE621.out | refine below_set ?_ GE634.out | refine below_set ?_ GE644.out) | exact HB.out))⟩)
                              · skip
                                refine box_step ?hg (N := 20) ?hd (cs := #[.int .u64 0, .int .u64 0]) (t := 24) ?hr ?_; (case hd => rfl); (case hg => rfl); (case hr => first | (go_simp; done) | (go_simp; rfl))
                                intro gb644 hg w99 hbox hb
                                have n0_ := Aside0.mk (blk_below (g := gb604) (o := .cells #[.int .u64 t602, .int .u64 t603] 24 (0, 0)) (by (with_reducible repeat (first | refine blk_drewN ?_ _ | refine blk_drew ?_ | refine blk_alloc ?_ _)); exact BK604.out) hb)
                                have n1_ := Aside0.mk (blk_below (g := gb618) (o := .cells #[.int .u64 x619000_2, .int .u64 x619001_2] 24 (0, 0)) (by (with_reducible repeat (first | refine blk_drewN ?_ _ | refine blk_drew ?_ | refine blk_alloc ?_ _)); exact BK618.out) hb)
                                have n2_ := Aside0.mk (blk_below (g := gb621) (o := .cells #[.int .u64 t627, .int .u64 t628] 24 (0, 0)) (by (with_reducible repeat (first | refine blk_drewN ?_ _ | refine blk_drew ?_ | refine blk_alloc ?_ _)); exact BK621.out) hb)
                                have n3_ := Aside0.mk (blk_below (g := gb634) (o := .cells #[.int .u64 t632, .int .u64 t633] 24 (0, 0)) (by (with_reducible repeat (first | refine blk_drewN ?_ _ | refine blk_drew ?_ | refine blk_alloc ?_ _)); exact BK634.out) hb)
                                have n4_ := Aside0.mk (below_step (by repeat (first | (with_reducible first | exact HB.out | apply below_alloc | apply pw_below_drewN | apply below_drew1 | refine below_set ?_ GE604.out | refine below_set ?_ GE618.out | refine below_set ?_ GE621.out | refine below_set ?_ GE634.out) | exact HB.out)) hb)
                                have n5_ := Aside0.mk (hbox)
                                have n6_ := Aside0.mk ((by rw [hg]; exact (below_size (by repeat (first | (with_reducible first | exact HB.out | apply below_alloc | apply pw_below_drewN | apply below_drew1 | refine below_set ?_ GE604.out | refine below_set ?_ GE618.out | refine below_set ?_ GE621.out | refine below_set ?_ GE634.out) | exact HB.out))) : w.heap.size ≤ gb644))
                                have n7_ := Aside0.mk ((by rw [hg]; exact (below_size (by repeat (first | (with_reducible first | exact HB.out | apply below_alloc | apply pw_below_drewN | apply below_drew1 | refine below_set ?_ GE604.out | refine below_set ?_ GE618.out | refine below_set ?_ GE621.out | refine below_set ?_ GE634.out) | exact HB.out))) : w.heap.size ≤ gb644))
                                have n8_ := Aside0.mk ((by rw [hg]; exact Nat.ne_of_lt (blk_lt (g := gb604) (o := .cells #[.int .u64 t602, .int .u64 t603] 24 (0, 0)) (by (with_reducible repeat (first | refine blk_drewN ?_ _ | refine blk_drew ?_ | refine blk_alloc ?_ _)); exact BK604.out)) : gb604 ≠ gb644))
                                have n9_ := Aside0.mk ((by rw [hg]; exact Nat.ne_of_gt (blk_lt (g := gb604) (o := .cells #[.int .u64 t602, .int .u64 t603] 24 (0, 0)) (by (with_reducible repeat (first | refine blk_drewN ?_ _ | refine blk_drew ?_ | refine blk_alloc ?_ _)); exact BK604.out)) : gb644 ≠ gb604))
                                have n10_ := Aside0.mk ((by rw [hg]; exact Nat.ne_of_lt (blk_lt (g := gb618) (o := .cells #[.int .u64 x619000_2, .int .u64 x619001_2] 24 (0, 0)) (by (with_reducible repeat (first | refine blk_drewN ?_ _ | refine blk_drew ?_ | refine blk_alloc ?_ _)); exact BK618.out)) : gb618 ≠ gb644))
                                have n11_ := Aside0.mk ((by rw [hg]; exact Nat.ne_of_gt (blk_lt (g := gb618) (o := .cells #[.int .u64 x619000_2, .int .u64 x619001_2] 24 (0, 0)) (by (with_reducible repeat (first | refine blk_drewN ?_ _ | refine blk_drew ?_ | refine blk_alloc ?_ _)); exact BK618.out)) : gb644 ≠ gb618))
                                have n12_ := Aside0.mk ((by rw [hg]; exact Nat.ne_of_lt (blk_lt (g := gb621) (o := .cells #[.int .u64 t627, .int .u64 t628] 24 (0, 0)) (by (with_reducible repeat (first | refine blk_drewN ?_ _ | refine blk_drew ?_ | refine blk_alloc ?_ _)); exact BK621.out)) : gb621 ≠ gb644))
                                have n13_ := Aside0.mk ((by rw [hg]; exact Nat.ne_of_gt (blk_lt (g := gb621) (o := .cells #[.int .u64 t627, .int .u64 t628] 24 (0, 0)) (by (with_reducible repeat (first | refine blk_drewN ?_ _ | refine blk_drew ?_ | refine blk_alloc ?_ _)); exact BK621.out)) : gb644 ≠ gb621))
                                have n14_ := Aside0.mk ((by rw [hg]; exact Nat.ne_of_lt (blk_lt (g := gb634) (o := .cells #[.int .u64 t632, .int .u64 t633] 24 (0, 0)) (by (with_reducible repeat (first | refine blk_drewN ?_ _ | refine blk_drew ?_ | refine blk_alloc ?_ _)); exact BK634.out)) : gb634 ≠ gb644))
                                have n15_ := Aside0.mk ((by rw [hg]; exact Nat.ne_of_gt (blk_lt (g := gb634) (o := .cells #[.int .u64 t632, .int .u64 t633] 24 (0, 0)) (by (with_reducible repeat (first | refine blk_drewN ?_ _ | refine blk_drew ?_ | refine blk_alloc ?_ _)); exact BK634.out)) : gb644 ≠ gb634))
                                clear BK604
                                clear BK618
                                clear BK621
                                clear BK634
                                clear HB
                                have BK604 := n0_
                                have BK618 := n1_
                                have BK621 := n2_
                                have BK634 := n3_
                                have HB := n4_
                                have BK644 := n5_
                                have GW644 := n6_
                                have GE644 := n7_
                                have NB604_644 := n8_
                                have NB644_604 := n9_
                                have NB618_644 := n10_
                                have NB644_618 := n11_
                                have NB621_644 := n12_
                                have NB644_621 := n13_
                                have NB634_644 := n14_
                                have NB644_634 := n15_
                                clear n0_ n1_ n2_ n3_ n4_ n5_ n6_ n7_ n8_ n9_ n10_ n11_ n12_ n13_ n14_ n15_
                                clear hb hbox hg
                                refine hK.out _ _ ⟨(blk_cell BK634.out 0).trans rfl, (blk_cell BK634.out 1).trans rfl⟩ (fun hHeld => ?_)
                                clear hK K
                                refine norm_ (a' := ?_) ?_ ?_
                                rotate_left
                                · show Act.put _ (some 20) _ = _
                                  simp only [Act.put, List.setIfInBounds_toArray, List.set_cons_zero, List.set_cons_succ, i64_w, i32_w]
                                  rfl
                                refine one_ (i := 4) (N := some 86) #[true, true, true, true, true, true, false] rfl rfl (by kernel_rfl) (by decide) (fun K hK => ?_)
                                refine goes_ Try.func19 (by kernel_rfl) rfl #[.agg #[.int .u64 t632, .int .u64 t633], .agg #[.int .u64 t640, .int .u64 t641]] (by rfl) rfl rfl (by (try simp only [List.map_toArray, List.map_cons, List.map_nil]); first | done | rfl | (simp only [List.length_drop, List.length_take]; rfl)) ?_
                                with_reducible refine (sat_Wide_Plus.calls t632 t633 t640 t641 t642 t643 _ A75.out).mono ?_
                                rintro e w100 ⟨rfl, hb⟩
                                refine ⟨_, rfl, ?_⟩
                                have n0_ := Aside0.mk (blk_below (g := gb604) (o := .cells #[.int .u64 t602, .int .u64 t603] 24 (0, 0)) (by (with_reducible repeat (first | refine blk_drewN ?_ _ | refine blk_drew ?_ | refine blk_alloc ?_ _)); exact BK604.out) hb)
                                have n1_ := Aside0.mk (blk_below (g := gb618) (o := .cells #[.int .u64 x619000_2, .int .u64 x619001_2] 24 (0, 0)) (by (with_reducible repeat (first | refine blk_drewN ?_ _ | refine blk_drew ?_ | refine blk_alloc ?_ _)); exact BK618.out) hb)
                                have n2_ := Aside0.mk (blk_below (g := gb621) (o := .cells #[.int .u64 t627, .int .u64 t628] 24 (0, 0)) (by (with_reducible repeat (first | refine blk_drewN ?_ _ | refine blk_drew ?_ | refine blk_alloc ?_ _)); exact BK621.out) hb)
                                have n3_ := Aside0.mk (blk_below (g := gb634) (o := .cells #[.int .u64 t632, .int .u64 t633] 24 (0, 0)) (by (with_reducible repeat (first | refine blk_drewN ?_ _ | refine blk_drew ?_ | refine blk_alloc ?_ _)); exact BK634.out) hb)
                                have n4_ := Aside0.mk (blk_below (g := gb644) (o := .cells #[.int .u64 0, .int .u64 0] 24 (0, 0)) (by (with_reducible repeat (first | refine blk_drewN ?_ _ | refine blk_drew ?_ | refine blk_alloc ?_ _)); exact BK644.out) hb)
                                have n5_ := Aside0.mk (below_step (by repeat (first | (with_reducible first | exact HB.out | apply below_alloc | apply pw_below_drewN | apply below_drew1 | refine below_set ?_ GE604.out | refine below_set ?_ GE618.out | refine below_set ?_ GE621.out | refine below_set ?_ GE634.out | refine below_set ?_ GE644.out) | exact HB.out)) hb)
                                clear BK604
                                clear BK618
                                clear BK621
                                clear BK634
                                clear BK644
                                clear HB
                                have BK604 := n0_
                                have BK618 := n1_
                                have BK621 := n2_
                                have BK634 := n3_
                                have BK644 := n4_
                                have HB := n5_
                                clear n0_ n1_ n2_ n3_ n4_ n5_
                                (try clear hb)
                                (try clear hb2)
                                (try clear hk)
                                (try clear hi)
                                refine hK.out _ _ ⟨(blk_cell BK634.out 0).trans rfl, (blk_cell BK634.out 1).trans rfl⟩ (fun hHeld => ?_)
                                clear hK K
                                refine norm_ (a' := ?_) ?_ ?_
                                rotate_left
                                · show Act.put _ (some 86) _ = _
                                  simp only [Act.put, List.setIfInBounds_toArray, List.set_cons_zero, List.set_cons_succ, i64_w, i32_w]
                                  rfl
                                exact norm_ (by simp only [putAll, Act.put, List.setIfInBounds_toArray, List.set_cons_zero, List.set_cons_succ]) (hCont (gb644) _ ⟨hHeld, (by (with_reducible repeat (first | refine blk_drewN ?_ _ | refine blk_drew ?_ | refine blk_alloc ?_ _)); exact BK604.out), (by (with_reducible repeat (first | refine blk_drewN ?_ _ | refine blk_drew ?_ | refine blk_alloc ?_ _)); exact BK618.out), (by (with_reducible repeat (first | refine blk_drewN ?_ _ | refine blk_drew ?_ | refine blk_alloc ?_ _)); exact BK621.out), (by (with_reducible repeat (first | refine blk_drewN ?_ _ | refine blk_drew ?_ | refine blk_alloc ?_ _)); exact BK634.out), (by (with_reducible repeat (first | refine blk_drewN ?_ _ | refine blk_drew ?_ | refine blk_alloc ?_ _)); exact BK644.out), GW644.out, GE644.out, NB604_644.out, NB644_604.out, NB618_644.out, NB644_618.out, NB621_644.out, NB644_621.out, NB634_644.out, NB644_634.out, (by repeat (first | (with_reducible first | exact HB.out | apply below_alloc | apply pw_below_drewN | apply below_drew1 | refine below_set ?_ GE604.out | refine below_set ?_ GE618.out | refine below_set ?_ GE621.out | refine below_set ?_ GE634.out | refine below_set ?_ GE644.out) | exact HB.out))⟩)
                            · skip
                              refine box_step ?hg (N := 20) ?hd (cs := #[.int .u64 0, .int .u64 0]) (t := 24) ?hr ?_; (case hd => rfl); (case hg => rfl); (case hr => first | (go_simp; done) | (go_simp; rfl))
                              intro gb644 hg w98 hbox hb
                              have n0_ := Aside0.mk (blk_below (g := gb604) (o := .cells #[.int .u64 t602, .int .u64 t603] 24 (0, 0)) (by (with_reducible repeat (first | refine blk_drewN ?_ _ | refine blk_drew ?_ | refine blk_alloc ?_ _)); exact BK604.out) hb)
                              have n1_ := Aside0.mk (blk_below (g := gb618) (o := .cells #[.int .u64 x619000_2, .int .u64 x619001_2] 24 (0, 0)) (by (with_reducible repeat (first | refine blk_drewN ?_ _ | refine blk_drew ?_ | refine blk_alloc ?_ _)); exact BK618.out) hb)
                              have n2_ := Aside0.mk (blk_below (g := gb621) (o := .cells #[.int .u64 t627, .int .u64 t628] 24 (0, 0)) (by (with_reducible repeat (first | refine blk_drewN ?_ _ | refine blk_drew ?_ | refine blk_alloc ?_ _)); exact BK621.out) hb)
                              have n3_ := Aside0.mk (blk_below (g := gb634) (o := .cells #[.int .u64 t632, .int .u64 t633] 24 (0, 0)) (by (with_reducible repeat (first | refine blk_drewN ?_ _ | refine blk_drew ?_ | refine blk_alloc ?_ _)); exact BK634.out) hb)
                              have n4_ := Aside0.mk (below_step (by repeat (first | (with_reducible first | exact HB.out | apply below_alloc | apply pw_below_drewN | apply below_drew1 | refine below_set ?_ GE604.out | refine below_set ?_ GE618.out | refine below_set ?_ GE621.out | refine below_set ?_ GE634.out) | exact HB.out)) hb)
                              have n5_ := Aside0.mk (hbox)
                              have n6_ := Aside0.mk ((by rw [hg]; exact (below_size (by repeat (first | (with_reducible first | exact HB.out | apply below_alloc | apply pw_below_drewN | apply below_drew1 | refine below_set ?_ GE604.out | refine below_set ?_ GE618.out | refine below_set ?_ GE621.out | refine below_set ?_ GE634.out) | exact HB.out))) : w.heap.size ≤ gb644))
                              have n7_ := Aside0.mk ((by rw [hg]; exact (below_size (by repeat (first | (with_reducible first | exact HB.out | apply below_alloc | apply pw_below_drewN | apply below_drew1 | refine below_set ?_ GE604.out | refine below_set ?_ GE618.out | refine below_set ?_ GE621.out | refine below_set ?_ GE634.out) | exact HB.out))) : w.heap.size ≤ gb644))
                              have n8_ := Aside0.mk ((by rw [hg]; exact Nat.ne_of_lt (blk_lt (g := gb604) (o := .cells #[.int .u64 t602, .int .u64 t603] 24 (0, 0)) (by (with_reducible repeat (first | refine blk_drewN ?_ _ | refine blk_drew ?_ | refine blk_alloc ?_ _)); exact BK604.out)) : gb604 ≠ gb644))
                              have n9_ := Aside0.mk ((by rw [hg]; exact Nat.ne_of_gt (blk_lt (g := gb604) (o := .cells #[.int .u64 t602, .int .u64 t603] 24 (0, 0)) (by (with_reducible repeat (first | refine blk_drewN ?_ _ | refine blk_drew ?_ | refine blk_alloc ?_ _)); exact BK604.out)) : gb644 ≠ gb604))
                              have n10_ := Aside0.mk ((by rw [hg]; exact Nat.ne_of_lt (blk_lt (g := gb618) (o := .cells #[.int .u64 x619000_2, .int .u64 x619001_2] 24 (0, 0)) (by (with_reducible repeat (first | refine blk_drewN ?_ _ | refine blk_drew ?_ | refine blk_alloc ?_ _)); exact BK618.out)) : gb618 ≠ gb644))
                              have n11_ := Aside0.mk ((by rw [hg]; exact Nat.ne_of_gt (blk_lt (g := gb618) (o := .cells #[.int .u64 x619000_2, .int .u64 x619001_2] 24 (0, 0)) (by (with_reducible repeat (first | refine blk_drewN ?_ _ | refine blk_drew ?_ | refine blk_alloc ?_ _)); exact BK618.out)) : gb644 ≠ gb618))
                              have n12_ := Aside0.mk ((by rw [hg]; exact Nat.ne_of_lt (blk_lt (g := gb621) (o := .cells #[.int .u64 t627, .int .u64 t628] 24 (0, 0)) (by (with_reducible repeat (first | refine blk_drewN ?_ _ | refine blk_drew ?_ | refine blk_alloc ?_ _)); exact BK621.out)) : gb621 ≠ gb644))
                              have n13_ := Aside0.mk ((by rw [hg]; exact Nat.ne_of_gt (blk_lt (g := gb621) (o := .cells #[.int .u64 t627, .int .u64 t628] 24 (0, 0)) (by (with_reducible repeat (first | refine blk_drewN ?_ _ | refine blk_drew ?_ | refine blk_alloc ?_ _)); exact BK621.out)) : gb644 ≠ gb621))
                              have n14_ := Aside0.mk ((by rw [hg]; exact Nat.ne_of_lt (blk_lt (g := gb634) (o := .cells #[.int .u64 t632, .int .u64 t633] 24 (0, 0)) (by (with_reducible repeat (first | refine blk_drewN ?_ _ | refine blk_drew ?_ | refine blk_alloc ?_ _)); exact BK634.out)) : gb634 ≠ gb644))
                              have n15_ := Aside0.mk ((by rw [hg]; exact Nat.ne_of_gt (blk_lt (g := gb634) (o := .cells #[.int .u64 t632, .int .u64 t633] 24 (0, 0)) (by (with_reducible repeat (first | refine blk_drewN ?_ _ | refine blk_drew ?_ | refine blk_alloc ?_ _)); exact BK634.out)) : gb644 ≠ gb634))
                              clear BK604
                              clear BK618
                              clear BK621
                              clear BK634
                              clear HB
                              have BK604 := n0_
                              have BK618 := n1_
                              have BK621 := n2_
                              have BK634 := n3_
                              have HB := n4_
                              have BK644 := n5_
                              have GW644 := n6_
                              have GE644 := n7_
                              have NB604_644 := n8_
                              have NB644_604 := n9_
                              have NB618_644 := n10_
                              have NB644_618 := n11_
                              have NB621_644 := n12_
                              have NB644_621 := n13_
                              have NB634_644 := n14_
                              have NB644_634 := n15_
                              clear n0_ n1_ n2_ n3_ n4_ n5_ n6_ n7_ n8_ n9_ n10_ n11_ n12_ n13_ n14_ n15_
                              clear hb hbox hg
                              refine hK.out _ _ ⟨(blk_cell BK634.out 0).trans rfl, (blk_cell BK634.out 1).trans rfl⟩ (fun hHeld => ?_)
                              clear hK K
                              refine norm_ (a' := ?_) ?_ ?_
                              rotate_left
                              · show Act.put _ (some 20) _ = _
                                simp only [Act.put, List.setIfInBounds_toArray, List.set_cons_zero, List.set_cons_succ, i64_w, i32_w]
                                rfl
                              refine one_ (i := 3) (N := some 85) #[true, true, true, true, false, true, false] rfl rfl (by kernel_rfl) (by decide) (fun K hK => ?_)
                              refine goes_ Try.func17 (by kernel_rfl) rfl #[.int .u64 a5, .int .u64 a0] (by rfl) rfl rfl (by (try simp only [List.map_toArray, List.map_cons, List.map_nil]); first | done | rfl | (simp only [List.length_drop, List.length_take]; rfl)) ?_
                              with_reducible refine (sat_Product.calls a5 a0 t640 t641 _ A74.out).mono ?_
                              rintro e w99 ⟨rfl, hb⟩
                              refine ⟨_, rfl, ?_⟩
                              have n0_ := Aside0.mk (blk_below (g := gb604) (o := .cells #[.int .u64 t602, .int .u64 t603] 24 (0, 0)) (by (with_reducible repeat (first | refine blk_drewN ?_ _ | refine blk_drew ?_ | refine blk_alloc ?_ _)); exact BK604.out) hb)
                              have n1_ := Aside0.mk (blk_below (g := gb618) (o := .cells #[.int .u64 x619000_2, .int .u64 x619001_2] 24 (0, 0)) (by (with_reducible repeat (first | refine blk_drewN ?_ _ | refine blk_drew ?_ | refine blk_alloc ?_ _)); exact BK618.out) hb)
                              have n2_ := Aside0.mk (blk_below (g := gb621) (o := .cells #[.int .u64 t627, .int .u64 t628] 24 (0, 0)) (by (with_reducible repeat (first | refine blk_drewN ?_ _ | refine blk_drew ?_ | refine blk_alloc ?_ _)); exact BK621.out) hb)
                              have n3_ := Aside0.mk (blk_below (g := gb634) (o := .cells #[.int .u64 t632, .int .u64 t633] 24 (0, 0)) (by (with_reducible repeat (first | refine blk_drewN ?_ _ | refine blk_drew ?_ | refine blk_alloc ?_ _)); exact BK634.out) hb)
                              have n4_ := Aside0.mk (blk_below (g := gb644) (o := .cells #[.int .u64 0, .int .u64 0] 24 (0, 0)) (by (with_reducible repeat (first | refine blk_drewN ?_ _ | refine blk_drew ?_ | refine blk_alloc ?_ _)); exact BK644.out) hb)
                              have n5_ := Aside0.mk (below_step (by repeat (first | (with_reducible first | exact HB.out | apply below_alloc | apply pw_below_drewN | apply below_drew1 | refine below_set ?_ GE604.out | refine below_set ?_ GE618.out | refine below_set ?_ GE621.out | refine below_set ?_ GE634.out | refine below_set ?_ GE644.out) | exact HB.out)) hb)
                              clear BK604
                              clear BK618
                              clear BK621
                              clear BK634
                              clear BK644
                              clear HB
                              have BK604 := n0_
                              have BK618 := n1_
                              have BK621 := n2_
                              have BK634 := n3_
                              have BK644 := n4_
                              have HB := n5_
                              clear n0_ n1_ n2_ n3_ n4_ n5_
                              (try clear hb)
                              (try clear hb2)
                              (try clear hk)
                              (try clear hi)
                              refine hK.out _ _ ⟨(blk_cell BK634.out 0).trans rfl, (blk_cell BK634.out 1).trans rfl⟩ (fun hHeld => ?_)
                              clear hK K
                              refine norm_ (a' := ?_) ?_ ?_
                              rotate_left
                              · show Act.put _ (some 85) _ = _
                                simp only [Act.put, List.setIfInBounds_toArray, List.set_cons_zero, List.set_cons_succ, i64_w, i32_w]
                                rfl
                              refine one_ (i := 4) (N := some 86) #[true, true, true, true, true, true, false] rfl rfl (by kernel_rfl) (by decide) (fun K hK => ?_)
                              refine goes_ Try.func19 (by kernel_rfl) rfl #[.agg #[.int .u64 t632, .int .u64 t633], .agg #[.int .u64 t640, .int .u64 t641]] (by rfl) rfl rfl (by (try simp only [List.map_toArray, List.map_cons, List.map_nil]); first | done | rfl | (simp only [List.length_drop, List.length_take]; rfl)) ?_
                              with_reducible refine (sat_Wide_Plus.calls t632 t633 t640 t641 t642 t643 _ A75.out).mono ?_
                              rintro e w100 ⟨rfl, hb⟩
                              refine ⟨_, rfl, ?_⟩
                              have n0_ := Aside0.mk (blk_below (g := gb604) (o := .cells #[.int .u64 t602, .int .u64 t603] 24 (0, 0)) (by (with_reducible repeat (first | refine blk_drewN ?_ _ | refine blk_drew ?_ | refine blk_alloc ?_ _)); exact BK604.out) hb)
                              have n1_ := Aside0.mk (blk_below (g := gb618) (o := .cells #[.int .u64 x619000_2, .int .u64 x619001_2] 24 (0, 0)) (by (with_reducible repeat (first | refine blk_drewN ?_ _ | refine blk_drew ?_ | refine blk_alloc ?_ _)); exact BK618.out) hb)
                              have n2_ := Aside0.mk (blk_below (g := gb621) (o := .cells #[.int .u64 t627, .int .u64 t628] 24 (0, 0)) (by (with_reducible repeat (first | refine blk_drewN ?_ _ | refine blk_drew ?_ | refine blk_alloc ?_ _)); exact BK621.out) hb)
                              have n3_ := Aside0.mk (blk_below (g := gb634) (o := .cells #[.int .u64 t632, .int .u64 t633] 24 (0, 0)) (by (with_reducible repeat (first | refine blk_drewN ?_ _ | refine blk_drew ?_ | refine blk_alloc ?_ _)); exact BK634.out) hb)
                              have n4_ := Aside0.mk (blk_below (g := gb644) (o := .cells #[.int .u64 0, .int .u64 0] 24 (0, 0)) (by (with_reducible repeat (first | refine blk_drewN ?_ _ | refine blk_drew ?_ | refine blk_alloc ?_ _)); exact BK644.out) hb)
                              have n5_ := Aside0.mk (below_step (by repeat (first | (with_reducible first | exact HB.out | apply below_alloc | apply pw_below_drewN | apply below_drew1 | refine below_set ?_ GE604.out | refine below_set ?_ GE618.out | refine below_set ?_ GE621.out | refine below_set ?_ GE634.out | refine below_set ?_ GE644.out) | exact HB.out)) hb)
                              clear BK604
                              clear BK618
                              clear BK621
                              clear BK634
                              clear BK644
                              clear HB
                              have BK604 := n0_
                              have BK618 := n1_
                              have BK621 := n2_
                              have BK634 := n3_
                              have BK644 := n4_
                              have HB := n5_
                              clear n0_ n1_ n2_ n3_ n4_ n5_
                              (try clear hb)
                              (try clear hb2)
                              (try clear hk)
                              (try clear hi)
                              refine hK.out _ _ ⟨(blk_cell BK634.out 0).trans rfl, (blk_cell BK634.out 1).trans rfl⟩ (fun hHeld => ?_)
                              clear hK K
                              refine norm_ (a' := ?_) ?_ ?_
                              rotate_left
                              · show Act.put _ (some 86) _ = _
                                simp only [Act.put, List.setIfInBounds_toArray, List.set_cons_zero, List.set_cons_succ, i64_w, i32_w]
                                rfl
                              exact norm_ (by simp only [putAll, Act.put, List.setIfInBounds_toArray, List.set_cons_zero, List.set_cons_succ]) (hCont (gb644) _ ⟨hHeld, (by (with_reducible repeat (first | refine blk_drewN ?_ _ | refine blk_drew ?_ | refine blk_alloc ?_ _)); exact BK604.out), (by (with_reducible repeat (first | refine blk_drewN ?_ _ | refine blk_drew ?_ | refine blk_alloc ?_ _)); exact BK618.out), (by (with_reducible repeat (first | refine blk_drewN ?_ _ | refine blk_drew ?_ | refine blk_alloc ?_ _)); exact BK621.out), (by (with_reducible repeat (first | refine blk_drewN ?_ _ | refine blk_drew ?_ | refine blk_alloc ?_ _)); exact BK634.out), (by (with_reducible repeat (first | refine blk_drewN ?_ _ | refine blk_drew ?_ | refine blk_alloc ?_ _)); exact BK644.out), GW644.out, GE644.out, NB604_644.out, NB644_604.out, NB618_644.out, NB644_618.out, NB621_644.out, NB644_621.out, NB634_644.out, NB644_634.out, (by repeat (first | (with_reducible first | exact HB.out | apply below_alloc | apply pw_below_drewN | apply below_drew1 | refine below_set ?_ GE604.out | refine below_set ?_ GE618.out | refine below_set ?_ GE621.out | refine below_set ?_ GE634.out | refine below_set ?_ GE644.out) | exact HB.out))⟩)
                          rintro gb644 w101 ⟨hS_, h0_, h1_, h2_, h3_, h4_, h5_, h6_, h7_, h8_, h9_, h10_, h11_, h12_, h13_, h14_, h15_⟩
                          have n0_ : Aside0 (w101.heap[gb604]? = some (.cells #[.int .u64 t602, .int .u64 t603] 24 (0, 0))) := ⟨h0_⟩
                          have n1_ : Aside0 (w101.heap[gb618]? = some (.cells #[.int .u64 x619000_2, .int .u64 x619001_2] 24 (0, 0))) := ⟨h1_⟩
                          have n2_ : Aside0 (w101.heap[gb621]? = some (.cells #[.int .u64 t627, .int .u64 t628] 24 (0, 0))) := ⟨h2_⟩
                          have n3_ : Aside0 (w101.heap[gb634]? = some (.cells #[.int .u64 t632, .int .u64 t633] 24 (0, 0))) := ⟨h3_⟩
                          have n4_ : Aside0 (w101.heap[gb644]? = some (.cells #[.int .u64 0, .int .u64 0] 24 (0, 0))) := ⟨h4_⟩
                          have n5_ : Aside0 (w.heap.size ≤ gb644) := ⟨h5_⟩
                          have n6_ : Aside0 (w.heap.size ≤ gb644) := ⟨h6_⟩
                          have n7_ : Aside0 (gb604 ≠ gb644) := ⟨h7_⟩
                          have n8_ : Aside0 (gb644 ≠ gb604) := ⟨h8_⟩
                          have n9_ : Aside0 (gb618 ≠ gb644) := ⟨h9_⟩
                          have n10_ : Aside0 (gb644 ≠ gb618) := ⟨h10_⟩
                          have n11_ : Aside0 (gb621 ≠ gb644) := ⟨h11_⟩
                          have n12_ : Aside0 (gb644 ≠ gb621) := ⟨h12_⟩
                          have n13_ : Aside0 (gb634 ≠ gb644) := ⟨h13_⟩
                          have n14_ : Aside0 (gb644 ≠ gb634) := ⟨h14_⟩
                          have n15_ : Aside0 (Below w.heap.size w w101) := ⟨h15_⟩
                          clear BK604
                          clear BK618
                          clear BK621
                          clear BK634
                          clear HB
                          clear h0_ h1_ h2_ h3_ h4_ h5_ h6_ h7_ h8_ h9_ h10_ h11_ h12_ h13_ h14_ h15_
                          have BK604 := n0_
                          have BK618 := n1_
                          have BK621 := n2_
                          have BK634 := n3_
                          have BK644 := n4_
                          have GW644 := n5_
                          have GE644 := n6_
                          have NB604_644 := n7_
                          have NB644_604 := n8_
                          have NB618_644 := n9_
                          have NB644_618 := n10_
                          have NB621_644 := n11_
                          have NB644_621 := n12_
                          have NB634_644 := n13_
                          have NB644_634 := n14_
                          have HB := n15_
                          clear n0_ n1_ n2_ n3_ n4_ n5_ n6_ n7_ n8_ n9_ n10_ n11_ n12_ n13_ n14_ n15_
                          have hHeld : w101.cell? ⟨gb634, 0, none⟩ = some (.int .u64 t632) ∧ w101.cell? ⟨gb634, 1, none⟩ = some (.int .u64 t633) := hS_
                          refine norm_ (a' := ?_) ?_ ?_
                          rotate_left
                          · simp only [putAll, Act.put, List.setIfInBounds_toArray, List.set_cons_zero, List.set_cons_succ]
                            rfl
                          refine one_ (i := 6) (N := none) #[true, true, true, true, true, true, true] rfl rfl (by kernel_rfl) (by decide) (fun K hK => ?_)
                          have hs102 : w101.cell? ⟨gb644, 0, none⟩ = some (.int .u64 0) := (blk_cell BK644.out 0).trans rfl
                          have hfs102 := blk_frozen BK644.out 0
                          have hns102_0 := NB604_644.out
                          have hns102_1 := NB618_644.out
                          have hns102_2 := NB621_644.out
                          have hns102_3 := NB634_644.out
                          have hms102_0 := NB644_604.out
                          have hms102_1 := NB644_618.out
                          have hms102_2 := NB644_621.out
                          have hms102_3 := NB644_634.out
                          have hs103 : w101.cell? ⟨gb644, 1, none⟩ = some (.int .u64 0) := (blk_cell BK644.out 1).trans rfl
                          have hfs103 := blk_frozen BK644.out 1
                          have hns103_0 := NB604_644.out
                          have hns103_1 := NB618_644.out
                          have hns103_2 := NB621_644.out
                          have hns103_3 := NB634_644.out
                          have hms103_0 := NB644_604.out
                          have hms103_1 := NB644_618.out
                          have hms103_2 := NB644_621.out
                          have hms103_3 := NB644_634.out
                          refine skip_ (w1 := ?_) (by rfl) rfl ?_ ?_
                          rotate_left
                          · go_simp
                            rfl
                          refine hK.out _ _ ⟨((cell_far (p := ⟨gb644, _, none⟩) NB634_644.out _).trans (((cell_far (p := ⟨gb644, _, none⟩) NB634_644.out _).trans (hHeld.1)))), ((cell_far (p := ⟨gb644, _, none⟩) NB634_644.out _).trans (((cell_far (p := ⟨gb644, _, none⟩) NB634_644.out _).trans (hHeld.2))))⟩ (fun hHeld => ?_)
                          clear hK K
                          refine done_ (by kernel_rfl) ?_
                          have hnb104 := NB644_604.out
                          have hnc104 := NB604_644.out
                          have hnb105 := NB644_618.out
                          have hnc105 := NB618_644.out
                          have hnb106 := NB644_621.out
                          have hnc106 := NB621_644.out
                          have hnb107 := NB644_634.out
                          have hnc107 := NB634_644.out
                          have hcz108_0 : w101.cell? ⟨gb644, 0, none⟩ = some (.int .u64 0) := (blk_cell BK644.out 0).trans rfl
                          have hcz108_1 : w101.cell? ⟨gb644, 1, none⟩ = some (.int .u64 0) := (blk_cell BK644.out 1).trans rfl
                          have hfz108_0 := blk_frozen BK644.out 0
                          have hfz108_1 := blk_frozen BK644.out 1
                          have hnb109 := NB618_604.out
                          have hnc109 := NB604_618.out
                          have hnb110 := NB618_621.out
                          have hnc110 := NB621_618.out
                          have hnb111 := NB618_634.out
                          have hnc111 := NB634_618.out
                          have hcz112_0 : w101.cell? ⟨gb618, 0, none⟩ = some (.int .u64 x619000_2) := (blk_cell BK618.out 0).trans rfl
                          have hcz112_1 : w101.cell? ⟨gb618, 1, none⟩ = some (.int .u64 x619001_2) := (blk_cell BK618.out 1).trans rfl
                          have hfz112_0 := blk_frozen BK618.out 0
                          have hfz112_1 := blk_frozen BK618.out 1
                          try go_wp2_with (first | ((with_reducible refine gate_callee (f := 21) rfl ?_); refine goesL_ (some 89) rfl rfl Try.func21 (by kernel_rfl) rfl #[.agg #[.int .u64 t642, .int .u64 t643], .agg #[.int .u64 x619000_2, .int .u64 x619001_2]] rfl (by (try simp only [List.map_toArray, List.map_cons, List.map_nil]); first | done | rfl | (simp only [List.length_drop, List.length_take]; rfl)) ?_; (with_reducible refine (sat_Wide_Cmp.calls t642 t643 x619000_2 x619001_2 t645 _ A76.out).mono ?_); rintro e w113 ⟨rfl, hb⟩; refine ⟨_, rfl, ?_⟩; have n0_ := Aside0.mk (blk_below (g := gb604) (o := .cells #[.int .u64 t602, .int .u64 t603] 24 (0, 0)) (by (with_reducible repeat (first | refine blk_drewN ?_ _ | refine blk_drew ?_ | refine blk_alloc ?_ _)); refine blk_far ?_ NB604_644.out _; (with_reducible repeat (first | refine blk_drewN ?_ _ | refine blk_drew ?_ | refine blk_alloc ?_ _)); refine blk_far ?_ NB604_644.out _; (with_reducible repeat (first | refine blk_drewN ?_ _ | refine blk_drew ?_ | refine blk_alloc ?_ _)); exact BK604.out) hb); have n1_ := Aside0.mk (blk_below (g := gb618) (o := .cells #[.int .u64 x619000_2, .int .u64 x619001_2] 24 (0, 0)) (by (with_reducible repeat (first | refine blk_drewN ?_ _ | refine blk_drew ?_ | refine blk_alloc ?_ _)); refine blk_far ?_ NB618_644.out _; (with_reducible repeat (first | refine blk_drewN ?_ _ | refine blk_drew ?_ | refine blk_alloc ?_ _)); refine blk_far ?_ NB618_644.out _; (with_reducible repeat (first | refine blk_drewN ?_ _ | refine blk_drew ?_ | refine blk_alloc ?_ _)); exact BK618.out) hb); have n2_ := Aside0.mk (blk_below (g := gb621) (o := .cells #[.int .u64 t627, .int .u64 t628] 24 (0, 0)) (by (with_reducible repeat (first | refine blk_drewN ?_ _ | refine blk_drew ?_ | refine blk_alloc ?_ _)); refine blk_far ?_ NB621_644.out _; (with_reducible repeat (first | refine blk_drewN ?_ _ | refine blk_drew ?_ | refine blk_alloc ?_ _)); refine blk_far ?_ NB621_644.out _; (with_reducible repeat (first | refine blk_drewN ?_ _ | refine blk_drew ?_ | refine blk_alloc ?_ _)); exact BK621.out) hb); have n3_ := Aside0.mk (blk_below (g := gb634) (o := .cells #[.int .u64 t632, .int .u64 t633] 24 (0, 0)) (by (with_reducible repeat (first | refine blk_drewN ?_ _ | refine blk_drew ?_ | refine blk_alloc ?_ _)); refine blk_far ?_ NB634_644.out _; (with_reducible repeat (first | refine blk_drewN ?_ _ | refine blk_drew ?_ | refine blk_alloc ?_ _)); refine blk_far ?_ NB634_644.out _; (with_reducible repeat (first | refine blk_drewN ?_ _ | refine blk_drew ?_ | refine blk_alloc ?_ _)); exact BK634.out) hb); have n4_ := Aside0.mk (blk_below (g := gb644) (o := .cells #[.int .u64 t642, .int .u64 t643] 24 (0, 0)) (by (with_reducible repeat (first | refine blk_drewN ?_ _ | refine blk_drew ?_ | refine blk_alloc ?_ _)); refine blk_put (cs := #[.int .u64 t642, .int .u64 0]) ?_ 1 _ rfl; (with_reducible repeat (first | refine blk_drewN ?_ _ | refine blk_drew ?_ | refine blk_alloc ?_ _)); refine blk_put (cs := #[.int .u64 0, .int .u64 0]) ?_ 0 _ rfl; (with_reducible repeat (first | refine blk_drewN ?_ _ | refine blk_drew ?_ | refine blk_alloc ?_ _)); exact BK644.out) hb); have n5_ := Aside0.mk (below_step (by repeat (first | (with_reducible first | exact HB.out | apply below_alloc | apply pw_below_drewN | apply below_drew1 | refine below_set ?_ GE604.out | refine below_set ?_ GE618.out | refine below_set ?_ GE621.out | refine below_set ?_ GE634.out | refine below_set ?_ GE644.out) | exact HB.out)) hb); clear BK604; clear BK618; clear BK621; clear BK634; clear BK644; clear HB; have BK604 := n0_; have BK618 := n1_; have BK621 := n2_; have BK634 := n3_; have BK644 := n4_; have HB := n5_; clear n0_ n1_ n2_ n3_ n4_ n5_; (try clear hb); (try clear hb2); (try clear hk); (try clear hi)))
                          go_roundg kj53
                          case measure => have := HJ6.out; have := HK2.out; have := HJ53.out; omega
                          case rel => exact ⟨(x15_53), (wrap64 (x18_2 - 1)), (x619000_2), (x619001_2), (t627), (t628), (by first | rfl | (simp; done) | (simp [*]; done)), (by first | rfl | (simp; done) | (simp [*]; done)), H', ⟨by have := HJ6.out; have := HK2.out; have := HJ53.out; omega⟩, ⟨by (with_reducible repeat (first | refine blk_drewN ?_ _ | refine blk_drew ?_ | refine blk_alloc ?_ _)); exact BK604.out⟩, ⟨by (with_reducible repeat (first | refine blk_drewN ?_ _ | refine blk_drew ?_ | refine blk_alloc ?_ _)); exact BK618.out⟩, ⟨by (with_reducible repeat (first | refine blk_drewN ?_ _ | refine blk_drew ?_ | refine blk_alloc ?_ _)); exact BK621.out⟩, ⟨by repeat (first | (with_reducible first | exact HB.out | apply below_alloc | apply pw_below_drewN | apply below_drew1 | refine below_set ?_ GE604.out | refine below_set ?_ GE618.out | refine below_set ?_ GE621.out | refine below_set ?_ GE634.out | refine below_set ?_ GE644.out) | exact HB.out)⟩⟩
                  · rw [if_neg c48] at H
                    exact absurd H (by simp)
                · rw [if_neg c45] at H
                  exact absurd H (by simp)
              · rw [if_neg c44] at H
                exact absurd H (by simp)
            · rw [if_neg c43] at H
              have c43b0 : decide (0 ≤ x18_2) = false := decide_eq_false c43
              clear c43
              replace H := Option.bind_eq_some_iff.mp H
              obtain ⟨⟨t622, t623⟩, A1140, H⟩ := H
              replace H : (if x15_2 = true then (some (t623, t622)) else (some (false, t622))) = some (r1, r2) := H
              have A114 := Aside0.mk A1140
              clear A1140
              by_cases c115 : x15_2 = true
              · subst c115
                have H1 : (some (t623, t622)) = some (r1, r2) := by rw [if_pos rfl] at H; exact H
                clear H
                have H := H1
                clear H1
                simp only [Option.some.injEq, Prod.mk.injEq] at H
                obtain ⟨rfl, rfl⟩ := H
                have hnb116 := NB618_604.out
                have hnc116 := NB604_618.out
                have hnb117 := NB618_621.out
                have hnc117 := NB621_618.out
                have hcz118_0 : wr.cell? ⟨gb618, 0, none⟩ = some (.int .u64 x619000_2) := (blk_cell BK618.out 0).trans rfl
                have hcz118_1 : wr.cell? ⟨gb618, 1, none⟩ = some (.int .u64 x619001_2) := (blk_cell BK618.out 1).trans rfl
                have hfz118_0 := blk_frozen BK618.out 0
                have hfz118_1 := blk_frozen BK618.out 1
                go_wp2_with (first | ((with_reducible refine gate_callee (f := 18) rfl ?_); refine goesL_ (some 94) rfl rfl Try.func18 (by kernel_rfl) rfl #[.agg #[.int .u64 x619000_2, .int .u64 x619001_2]] rfl (by (try simp only [List.map_toArray, List.map_cons, List.map_nil]); first | done | rfl | (simp only [List.length_drop, List.length_take]; rfl)) ?_; (with_reducible refine (sat_Wide_Narrow.calls x619000_2 x619001_2 t622 t623 _ A114.out).mono ?_); rintro e w119 ⟨rfl, hb⟩; refine ⟨_, rfl, ?_⟩; have n0_ := Aside0.mk (blk_below (g := gb604) (o := .cells #[.int .u64 t602, .int .u64 t603] 24 (0, 0)) (by (with_reducible repeat (first | refine blk_drewN ?_ _ | refine blk_drew ?_ | refine blk_alloc ?_ _)); exact BK604.out) hb); have n1_ := Aside0.mk (blk_below (g := gb618) (o := .cells #[.int .u64 x619000_2, .int .u64 x619001_2] 24 (0, 0)) (by (with_reducible repeat (first | refine blk_drewN ?_ _ | refine blk_drew ?_ | refine blk_alloc ?_ _)); exact BK618.out) hb); have n2_ := Aside0.mk (blk_below (g := gb621) (o := .cells #[.int .u64 x622000_2, .int .u64 x622001_2] 24 (0, 0)) (by (with_reducible repeat (first | refine blk_drewN ?_ _ | refine blk_drew ?_ | refine blk_alloc ?_ _)); exact BK621.out) hb); have n3_ := Aside0.mk (below_step (by repeat (first | (with_reducible first | exact HB.out | apply below_alloc | apply pw_below_drewN | apply below_drew1 | refine below_set ?_ GE604.out | refine below_set ?_ GE618.out | refine below_set ?_ GE621.out) | exact HB.out)) hb); clear BK604; clear BK618; clear BK621; clear HB; have BK604 := n0_; have BK618 := n1_; have BK621 := n2_; have HB := n3_; clear n0_ n1_ n2_ n3_; (try clear hb); (try clear hb2); (try clear hk); (try clear hi)))
                go_ret2
                exact ⟨by first | rfl | (simp [errW_none, errW_some] <;> rfl) | (simp [*, errW_none, errW_some] <;> rfl), by repeat (first | (with_reducible first | exact HB.out | apply below_alloc | apply pw_below_drewN | apply below_drew1 | refine below_set ?_ GE604.out | refine below_set ?_ GE618.out | refine below_set ?_ GE621.out) | exact HB.out)⟩
              · replace c115 := Bool.eq_false_iff.mpr c115
                subst c115
                have H1 : (some (false, t622)) = some (r1, r2) := by rw [if_neg (show ¬ (false = true) by decide)] at H; exact H
                clear H
                have H := H1
                clear H1
                simp only [Option.some.injEq, Prod.mk.injEq] at H
                obtain ⟨rfl, rfl⟩ := H
                have hnb120 := NB618_604.out
                have hnc120 := NB604_618.out
                have hnb121 := NB618_621.out
                have hnc121 := NB621_618.out
                have hcz122_0 : wr.cell? ⟨gb618, 0, none⟩ = some (.int .u64 x619000_2) := (blk_cell BK618.out 0).trans rfl
                have hcz122_1 : wr.cell? ⟨gb618, 1, none⟩ = some (.int .u64 x619001_2) := (blk_cell BK618.out 1).trans rfl
                have hfz122_0 := blk_frozen BK618.out 0
                have hfz122_1 := blk_frozen BK618.out 1
                go_wp2_with (first | ((with_reducible refine gate_callee (f := 18) rfl ?_); refine goesL_ (some 94) rfl rfl Try.func18 (by kernel_rfl) rfl #[.agg #[.int .u64 x619000_2, .int .u64 x619001_2]] rfl (by (try simp only [List.map_toArray, List.map_cons, List.map_nil]); first | done | rfl | (simp only [List.length_drop, List.length_take]; rfl)) ?_; (with_reducible refine (sat_Wide_Narrow.calls x619000_2 x619001_2 t622 t623 _ A114.out).mono ?_); rintro e w123 ⟨rfl, hb⟩; refine ⟨_, rfl, ?_⟩; have n0_ := Aside0.mk (blk_below (g := gb604) (o := .cells #[.int .u64 t602, .int .u64 t603] 24 (0, 0)) (by (with_reducible repeat (first | refine blk_drewN ?_ _ | refine blk_drew ?_ | refine blk_alloc ?_ _)); exact BK604.out) hb); have n1_ := Aside0.mk (blk_below (g := gb618) (o := .cells #[.int .u64 x619000_2, .int .u64 x619001_2] 24 (0, 0)) (by (with_reducible repeat (first | refine blk_drewN ?_ _ | refine blk_drew ?_ | refine blk_alloc ?_ _)); exact BK618.out) hb); have n2_ := Aside0.mk (blk_below (g := gb621) (o := .cells #[.int .u64 x622000_2, .int .u64 x622001_2] 24 (0, 0)) (by (with_reducible repeat (first | refine blk_drewN ?_ _ | refine blk_drew ?_ | refine blk_alloc ?_ _)); exact BK621.out) hb); have n3_ := Aside0.mk (below_step (by repeat (first | (with_reducible first | exact HB.out | apply below_alloc | apply pw_below_drewN | apply below_drew1 | refine below_set ?_ GE604.out | refine below_set ?_ GE618.out | refine below_set ?_ GE621.out) | exact HB.out)) hb); clear BK604; clear BK618; clear BK621; clear HB; have BK604 := n0_; have BK618 := n1_; have BK621 := n2_; have HB := n3_; clear n0_ n1_ n2_ n3_; (try clear hb); (try clear hb2); (try clear hk); (try clear hi)))
                go_ret2
                exact ⟨by first | rfl | (simp [errW_none, errW_some] <;> rfl) | (simp [*, errW_none, errW_some] <;> rfl), by repeat (first | (with_reducible first | exact HB.out | apply below_alloc | apply pw_below_drewN | apply below_drew1 | refine below_set ?_ GE604.out | refine below_set ?_ GE618.out | refine below_set ?_ GE621.out) | exact HB.out)⟩

end Go.Proofs.Ythnpgilknoiaaaa.Q
