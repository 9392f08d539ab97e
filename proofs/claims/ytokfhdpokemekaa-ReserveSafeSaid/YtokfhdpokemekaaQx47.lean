/- Written by the session's own program hyb.py: what functions of the program compute; Lean checks it. -/
import Derived.Test.YtokfhdpokemekaaQx0
import Derived.Test.YtokfhdpokemekaaQx2
import Derived.Test.YtokfhdpokemekaaQx18
import Derived.Test.YtokfhdpokemekaaQx20
import Derived.Test.YtokfhdpokemekaaQx38
import Derived.Test.YtokfhdpokemekaaQx39
import Derived.Test.YtokfhdpokemekaaQx40
namespace Go.Proofs.Ytokfhdpokemekaa.Q
open Go.RowKit Go.Proofs.YtokfhdpokemekaaW.PrintWords Go.Proofs.YtokfhdpokemekaaW.PrintLast Go.Proofs.YtokfhdpokemekaaW.PrintMore Go.Proofs.YtokfhdpokemekaaW.PrintShort
attribute [local go_sem] run_Add64 run_Sub64
attribute [local go_sem] max2_int min2_int max_two min_two max_three min_three max_four min_four   -- for this text's walks alone
set_option linter.unusedVariables false
set_option linter.unusedSimpArgs false

attribute [local go_sem high] eqA58
/-! ### turnstilelaw17_ReserveSafe: function 10 -/
def turnstilelaw17_ReserveSafe.j0 : Nat → Bool → Int → Int → Int → Int → Int → Int → Int → Int → Int → Int → Int → Int → Int → Int → Int → Int → Int → Int → Int → Int → Int → Int → Bool → Int → Bool → Int → Int → Int → Option (Bool)
  | 0, _, _, _, _, _, _, _, _, _, _, _, _, _, _, _, _, _, _, _, _, _, _, _, _, _, _, _, _, _ => none
  | k + 1, x38, x716000, x716001, x716002, x716003, x716004, x716005, x716006, x716007, x716008, x716009, x716010, x716011, x716012, x716013, x716014, x716015, x716016, x716017, x716018, x727000, x727001, x727002, x727003, x727004, x727005, x727006, x727007, x727008 => if x38 = true then (some false) else ((policy_Valid.f x716006 x716007 x716008 x716009 x716010).bind fun t727 => (if t727 = true then (if x727005 = true then ((policy_Covers.f x716006 x716007 x716008 x716009 x716010 x716014 x716015 x716016 x727000 x727001 x727002).bind fun t728 => (if t728 = true then (some false) else ((reserve_Within.f x716001 x716002 x716003 x716004 x716005 x716006 x716007 x716008 x716009 x716010 x727000 x727001 x727002 x727006 x727007 x727008).bind fun t729 => (some t729)))) else ((policy_Covers.f x716006 x716007 x716008 x716009 x716010 x716014 x716015 x716016 x727006 x727007 x727008).bind fun t730 => (if t730 = true then ((policy_Covers.f x716006 x716007 x716008 x716009 x716010 x727006 x727007 x727008 x716014 x716015 x716016).bind fun t731 => (if t731 = true then ((policy_Covers.f x716006 x716007 x716008 x716009 x716010 x716014 x716015 x716016 x716011 x716012 x716013).bind fun t732 => (if t732 = true then ((policy_Covers.f x716006 x716007 x716008 x716009 x716010 x727006 x727007 x727008 x727000 x727001 x727002).bind fun t733 => (some t733)) else (some true))) else (some false))) else (some false)))) else (some ((x727000 == 0 && (x727001 == 0 && (x727002 == 0))) && (!x727003 && (x727004 == 18446744073709551615 && (!x727005 && ((x727006 == 0 && (x727007 == 0 && (x727008 == 0)))))))))))
def turnstilelaw17_ReserveSafe.f (k : Nat) (a0_0 : Int) (a0_1 : Int) (a0_2 : Int) (a0_3 : Int) (a0_4 : Int) (a0_5 : Int) (a0_6 : Int) (a0_7 : Int) (a0_8 : Int) (a0_9 : Int) (a0_10 : Int) (a0_11 : Int) (a0_12 : Int) (a0_13 : Int) (a0_14 : Int) (a0_15 : Int) (a0_16 : Int) (a0_17 : Int) (a0_18 : Int) : Option (Bool) := (turnstilelaw17_awake.f k).bind fun t716 => (if t716 = true then ((reserve_Choose.f k a0_1 a0_2 a0_3 a0_4 a0_5 a0_6 a0_7 a0_8 a0_9 a0_10 a0_11 a0_12 a0_13 a0_14 a0_15 a0_16 a0_17 a0_18).bind fun bt717 => (if bt717.2.2.2.2.2.1 = true then (if bt717.2.2.2.1 = true then (turnstilelaw17_ReserveSafe.j0 k (bt717.2.2.2.2.1 != 0) a0_0 a0_1 a0_2 a0_3 a0_4 a0_5 a0_6 a0_7 a0_8 a0_9 a0_10 a0_11 a0_12 a0_13 a0_14 a0_15 a0_16 a0_17 a0_18 bt717.1 bt717.2.1 bt717.2.2.1 bt717.2.2.2.1 bt717.2.2.2.2.1 bt717.2.2.2.2.2.1 bt717.2.2.2.2.2.2.1 bt717.2.2.2.2.2.2.2.1 bt717.2.2.2.2.2.2.2.2) else (turnstilelaw17_ReserveSafe.j0 k true a0_0 a0_1 a0_2 a0_3 a0_4 a0_5 a0_6 a0_7 a0_8 a0_9 a0_10 a0_11 a0_12 a0_13 a0_14 a0_15 a0_16 a0_17 a0_18 bt717.1 bt717.2.1 bt717.2.2.1 bt717.2.2.2.1 bt717.2.2.2.2.1 bt717.2.2.2.2.2.1 bt717.2.2.2.2.2.2.1 bt717.2.2.2.2.2.2.2.1 bt717.2.2.2.2.2.2.2.2)) else (if bt717.2.2.2.1 = true then (turnstilelaw17_ReserveSafe.j0 k (bt717.2.2.2.2.1 != 0) a0_0 a0_1 a0_2 a0_3 a0_4 a0_5 a0_6 a0_7 a0_8 a0_9 a0_10 a0_11 a0_12 a0_13 a0_14 a0_15 a0_16 a0_17 a0_18 bt717.1 bt717.2.1 bt717.2.2.1 bt717.2.2.2.1 bt717.2.2.2.2.1 bt717.2.2.2.2.2.1 bt717.2.2.2.2.2.2.1 bt717.2.2.2.2.2.2.2.1 bt717.2.2.2.2.2.2.2.2) else (turnstilelaw17_ReserveSafe.j0 k false a0_0 a0_1 a0_2 a0_3 a0_4 a0_5 a0_6 a0_7 a0_8 a0_9 a0_10 a0_11 a0_12 a0_13 a0_14 a0_15 a0_16 a0_17 a0_18 bt717.1 bt717.2.1 bt717.2.2.1 bt717.2.2.2.1 bt717.2.2.2.2.1 bt717.2.2.2.2.2.1 bt717.2.2.2.2.2.2.1 bt717.2.2.2.2.2.2.2.1 bt717.2.2.2.2.2.2.2.2)))) else (some false))
theorem turnstilelaw17_ReserveSafe.mono_l : ∀ k, (∀ y0 y1 y2 y3 y4 y5 y6 y7 y8 y9 y10 y11 y12 y13 y14 y15 y16 y17 y18 y19 y20 y21 y22 y23 y24 y25 y26 y27 y28, LeO (turnstilelaw17_ReserveSafe.j0 k y0 y1 y2 y3 y4 y5 y6 y7 y8 y9 y10 y11 y12 y13 y14 y15 y16 y17 y18 y19 y20 y21 y22 y23 y24 y25 y26 y27 y28) (turnstilelaw17_ReserveSafe.j0 (k + 1) y0 y1 y2 y3 y4 y5 y6 y7 y8 y9 y10 y11 y12 y13 y14 y15 y16 y17 y18 y19 y20 y21 y22 y23 y24 y25 y26 y27 y28))
  | 0 => fun _ _ _ _ _ _ _ _ _ _ _ _ _ _ _ _ _ _ _ _ _ _ _ _ _ _ _ _ _ r h => by simp [turnstilelaw17_ReserveSafe.j0] at h
  | k + 1 => by
    have ih0 := turnstilelaw17_ReserveSafe.mono_l k
    · intro y0 y1 y2 y3 y4 y5 y6 y7 y8 y9 y10 y11 y12 y13 y14 y15 y16 y17 y18 y19 y20 y21 y22 y23 y24 y25 y26 y27 y28
      unfold turnstilelaw17_ReserveSafe.j0
      repeat' first
      | (with_reducible exact ih0 _ _ _ _ _ _ _ _ _ _ _ _ _ _ _ _ _ _ _ _ _ _ _ _ _ _ _ _ _)
      | (with_reducible exact reserve_Choose.mono _ _ _ _ _ _ _ _ _ _ _ _ _ _ _ _ _ _ _)
      | (with_reducible exact turnstilelaw17_awake.mono _)
      | (with_reducible exact LeO.refl _)
      | (with_reducible exact LeO.none _)
      | (with_reducible refine LeO.ite ?_ ?_)
      | (with_reducible refine LeO.bind ?_ (fun _ => ?_))
      | exact ih0 _ _ _ _ _ _ _ _ _ _ _ _ _ _ _ _ _ _ _ _ _ _ _ _ _ _ _ _ _
      | exact reserve_Choose.mono _ _ _ _ _ _ _ _ _ _ _ _ _ _ _ _ _ _ _
      | exact turnstilelaw17_awake.mono _
      | exact LeO.none _
      | refine LeO.ite ?_ ?_
      | refine LeO.bind ?_ (fun _ => ?_)
theorem turnstilelaw17_ReserveSafe.mono : ∀ a0 a1 a2 a3 a4 a5 a6 a7 a8 a9 a10 a11 a12 a13 a14 a15 a16 a17 a18 k, LeO (turnstilelaw17_ReserveSafe.f k a0 a1 a2 a3 a4 a5 a6 a7 a8 a9 a10 a11 a12 a13 a14 a15 a16 a17 a18) (turnstilelaw17_ReserveSafe.f (k + 1) a0 a1 a2 a3 a4 a5 a6 a7 a8 a9 a10 a11 a12 a13 a14 a15 a16 a17 a18) := by
  intro a0 a1 a2 a3 a4 a5 a6 a7 a8 a9 a10 a11 a12 a13 a14 a15 a16 a17 a18 k
  have ih0 := turnstilelaw17_ReserveSafe.mono_l k
  unfold turnstilelaw17_ReserveSafe.f
  repeat' first
      | (with_reducible exact ih0 _ _ _ _ _ _ _ _ _ _ _ _ _ _ _ _ _ _ _ _ _ _ _ _ _ _ _ _ _)
      | (with_reducible exact reserve_Choose.mono _ _ _ _ _ _ _ _ _ _ _ _ _ _ _ _ _ _ _)
      | (with_reducible exact turnstilelaw17_awake.mono _)
      | (with_reducible exact LeO.refl _)
      | (with_reducible exact LeO.none _)
      | (with_reducible refine LeO.ite ?_ ?_)
      | (with_reducible refine LeO.bind ?_ (fun _ => ?_))
      | exact ih0 _ _ _ _ _ _ _ _ _ _ _ _ _ _ _ _ _ _ _ _ _ _ _ _ _ _ _ _ _
      | exact reserve_Choose.mono _ _ _ _ _ _ _ _ _ _ _ _ _ _ _ _ _ _ _
      | exact turnstilelaw17_awake.mono _
      | exact LeO.none _
      | refine LeO.ite ?_ ?_
      | refine LeO.bind ?_ (fun _ => ?_)
set_option maxHeartbeats 8000000 in
set_option maxRecDepth 100000 in
theorem turnstilelaw17_ReserveSafe.calls (k : Nat) (a0_0 : Int) (a0_1 : Int) (a0_2 : Int) (a0_3 : Int) (a0_4 : Int) (a0_5 : Int) (a0_6 : Int) (a0_7 : Int) (a0_8 : Int) (a0_9 : Int) (a0_10 : Int) (a0_11 : Int) (a0_12 : Int) (a0_13 : Int) (a0_14 : Int) (a0_15 : Int) (a0_16 : Int) (a0_17 : Int) (a0_18 : Int) (r : Bool) (w : World) (h : turnstilelaw17_ReserveSafe.f k a0_0 a0_1 a0_2 a0_3 a0_4 a0_5 a0_6 a0_7 a0_8 a0_9 a0_10 a0_11 a0_12 a0_13 a0_14 a0_15 a0_16 a0_17 a0_18 = some r) :
    Calls Try.prog 10 #[.agg #[.int .i64 a0_0, .int .u64 a0_1, .int .u64 a0_2, .int .i64 a0_3, .int .i64 a0_4, .int .i64 a0_5, .int .i64 a0_6, .int .u64 a0_7, .int .u64 a0_8, .int .u64 a0_9, .int .u64 a0_10, .int .u64 a0_11, .int .u64 a0_12, .int .u64 a0_13, .int .u64 a0_14, .int .u64 a0_15, .int .u64 a0_16, .int .u64 a0_17, .int .u64 a0_18]] w fun e w' => e = .returned (.bool r) ∧ Below w.heap.size w w' := by
  have hu55 := Try.underlying55
  have hu53 := Try.underlying53
  have hu27 := Try.underlying27
  have hu29 := Try.underlying29
  have hu58 := Try.underlying58
  have HB := Aside0.mk (Below.refl w.heap.size w)
  have H : ((turnstilelaw17_awake.f k).bind fun t716 => (if t716 = true then ((reserve_Choose.f k a0_1 a0_2 a0_3 a0_4 a0_5 a0_6 a0_7 a0_8 a0_9 a0_10 a0_11 a0_12 a0_13 a0_14 a0_15 a0_16 a0_17 a0_18).bind fun bt717 => (if bt717.2.2.2.2.2.1 = true then (if bt717.2.2.2.1 = true then (turnstilelaw17_ReserveSafe.j0 k (bt717.2.2.2.2.1 != 0) a0_0 a0_1 a0_2 a0_3 a0_4 a0_5 a0_6 a0_7 a0_8 a0_9 a0_10 a0_11 a0_12 a0_13 a0_14 a0_15 a0_16 a0_17 a0_18 bt717.1 bt717.2.1 bt717.2.2.1 bt717.2.2.2.1 bt717.2.2.2.2.1 bt717.2.2.2.2.2.1 bt717.2.2.2.2.2.2.1 bt717.2.2.2.2.2.2.2.1 bt717.2.2.2.2.2.2.2.2) else (turnstilelaw17_ReserveSafe.j0 k true a0_0 a0_1 a0_2 a0_3 a0_4 a0_5 a0_6 a0_7 a0_8 a0_9 a0_10 a0_11 a0_12 a0_13 a0_14 a0_15 a0_16 a0_17 a0_18 bt717.1 bt717.2.1 bt717.2.2.1 bt717.2.2.2.1 bt717.2.2.2.2.1 bt717.2.2.2.2.2.1 bt717.2.2.2.2.2.2.1 bt717.2.2.2.2.2.2.2.1 bt717.2.2.2.2.2.2.2.2)) else (if bt717.2.2.2.1 = true then (turnstilelaw17_ReserveSafe.j0 k (bt717.2.2.2.2.1 != 0) a0_0 a0_1 a0_2 a0_3 a0_4 a0_5 a0_6 a0_7 a0_8 a0_9 a0_10 a0_11 a0_12 a0_13 a0_14 a0_15 a0_16 a0_17 a0_18 bt717.1 bt717.2.1 bt717.2.2.1 bt717.2.2.2.1 bt717.2.2.2.2.1 bt717.2.2.2.2.2.1 bt717.2.2.2.2.2.2.1 bt717.2.2.2.2.2.2.2.1 bt717.2.2.2.2.2.2.2.2) else (turnstilelaw17_ReserveSafe.j0 k false a0_0 a0_1 a0_2 a0_3 a0_4 a0_5 a0_6 a0_7 a0_8 a0_9 a0_10 a0_11 a0_12 a0_13 a0_14 a0_15 a0_16 a0_17 a0_18 bt717.1 bt717.2.1 bt717.2.2.1 bt717.2.2.2.1 bt717.2.2.2.2.1 bt717.2.2.2.2.2.1 bt717.2.2.2.2.2.2.1 bt717.2.2.2.2.2.2.2.1 bt717.2.2.2.2.2.2.2.2)))) else (some false))) = some r := h
  clear h
  replace H := Option.bind_eq_some_iff.mp H
  obtain ⟨t716, A20, H⟩ := H
  replace H : (if t716 = true then ((reserve_Choose.f k a0_1 a0_2 a0_3 a0_4 a0_5 a0_6 a0_7 a0_8 a0_9 a0_10 a0_11 a0_12 a0_13 a0_14 a0_15 a0_16 a0_17 a0_18).bind fun bt717 => (if bt717.2.2.2.2.2.1 = true then (if bt717.2.2.2.1 = true then (turnstilelaw17_ReserveSafe.j0 k (bt717.2.2.2.2.1 != 0) a0_0 a0_1 a0_2 a0_3 a0_4 a0_5 a0_6 a0_7 a0_8 a0_9 a0_10 a0_11 a0_12 a0_13 a0_14 a0_15 a0_16 a0_17 a0_18 bt717.1 bt717.2.1 bt717.2.2.1 bt717.2.2.2.1 bt717.2.2.2.2.1 bt717.2.2.2.2.2.1 bt717.2.2.2.2.2.2.1 bt717.2.2.2.2.2.2.2.1 bt717.2.2.2.2.2.2.2.2) else (turnstilelaw17_ReserveSafe.j0 k true a0_0 a0_1 a0_2 a0_3 a0_4 a0_5 a0_6 a0_7 a0_8 a0_9 a0_10 a0_11 a0_12 a0_13 a0_14 a0_15 a0_16 a0_17 a0_18 bt717.1 bt717.2.1 bt717.2.2.1 bt717.2.2.2.1 bt717.2.2.2.2.1 bt717.2.2.2.2.2.1 bt717.2.2.2.2.2.2.1 bt717.2.2.2.2.2.2.2.1 bt717.2.2.2.2.2.2.2.2)) else (if bt717.2.2.2.1 = true then (turnstilelaw17_ReserveSafe.j0 k (bt717.2.2.2.2.1 != 0) a0_0 a0_1 a0_2 a0_3 a0_4 a0_5 a0_6 a0_7 a0_8 a0_9 a0_10 a0_11 a0_12 a0_13 a0_14 a0_15 a0_16 a0_17 a0_18 bt717.1 bt717.2.1 bt717.2.2.1 bt717.2.2.2.1 bt717.2.2.2.2.1 bt717.2.2.2.2.2.1 bt717.2.2.2.2.2.2.1 bt717.2.2.2.2.2.2.2.1 bt717.2.2.2.2.2.2.2.2) else (turnstilelaw17_ReserveSafe.j0 k false a0_0 a0_1 a0_2 a0_3 a0_4 a0_5 a0_6 a0_7 a0_8 a0_9 a0_10 a0_11 a0_12 a0_13 a0_14 a0_15 a0_16 a0_17 a0_18 bt717.1 bt717.2.1 bt717.2.2.1 bt717.2.2.2.1 bt717.2.2.2.2.1 bt717.2.2.2.2.2.1 bt717.2.2.2.2.2.2.1 bt717.2.2.2.2.2.2.2.1 bt717.2.2.2.2.2.2.2.2)))) else (some false)) = some r := H
  have A2 := Aside0.mk A20
  clear A20
  by_cases c3 : t716 = true
  · subst c3
    have H1 : ((reserve_Choose.f k a0_1 a0_2 a0_3 a0_4 a0_5 a0_6 a0_7 a0_8 a0_9 a0_10 a0_11 a0_12 a0_13 a0_14 a0_15 a0_16 a0_17 a0_18).bind fun bt717 => (if bt717.2.2.2.2.2.1 = true then (if bt717.2.2.2.1 = true then (turnstilelaw17_ReserveSafe.j0 k (bt717.2.2.2.2.1 != 0) a0_0 a0_1 a0_2 a0_3 a0_4 a0_5 a0_6 a0_7 a0_8 a0_9 a0_10 a0_11 a0_12 a0_13 a0_14 a0_15 a0_16 a0_17 a0_18 bt717.1 bt717.2.1 bt717.2.2.1 bt717.2.2.2.1 bt717.2.2.2.2.1 bt717.2.2.2.2.2.1 bt717.2.2.2.2.2.2.1 bt717.2.2.2.2.2.2.2.1 bt717.2.2.2.2.2.2.2.2) else (turnstilelaw17_ReserveSafe.j0 k true a0_0 a0_1 a0_2 a0_3 a0_4 a0_5 a0_6 a0_7 a0_8 a0_9 a0_10 a0_11 a0_12 a0_13 a0_14 a0_15 a0_16 a0_17 a0_18 bt717.1 bt717.2.1 bt717.2.2.1 bt717.2.2.2.1 bt717.2.2.2.2.1 bt717.2.2.2.2.2.1 bt717.2.2.2.2.2.2.1 bt717.2.2.2.2.2.2.2.1 bt717.2.2.2.2.2.2.2.2)) else (if bt717.2.2.2.1 = true then (turnstilelaw17_ReserveSafe.j0 k (bt717.2.2.2.2.1 != 0) a0_0 a0_1 a0_2 a0_3 a0_4 a0_5 a0_6 a0_7 a0_8 a0_9 a0_10 a0_11 a0_12 a0_13 a0_14 a0_15 a0_16 a0_17 a0_18 bt717.1 bt717.2.1 bt717.2.2.1 bt717.2.2.2.1 bt717.2.2.2.2.1 bt717.2.2.2.2.2.1 bt717.2.2.2.2.2.2.1 bt717.2.2.2.2.2.2.2.1 bt717.2.2.2.2.2.2.2.2) else (turnstilelaw17_ReserveSafe.j0 k false a0_0 a0_1 a0_2 a0_3 a0_4 a0_5 a0_6 a0_7 a0_8 a0_9 a0_10 a0_11 a0_12 a0_13 a0_14 a0_15 a0_16 a0_17 a0_18 bt717.1 bt717.2.1 bt717.2.2.1 bt717.2.2.2.1 bt717.2.2.2.2.1 bt717.2.2.2.2.2.1 bt717.2.2.2.2.2.2.1 bt717.2.2.2.2.2.2.2.1 bt717.2.2.2.2.2.2.2.2)))) = some r := by rw [if_pos rfl] at H; exact H
    clear H
    have H := H1
    clear H1
    replace H := Option.bind_eq_some_iff.mp H
    obtain ⟨⟨t717, t718, t719, t720, t721, t722, t723, t724, t725⟩, A40, H⟩ := H
    replace H : (if t722 = true then (if t720 = true then (turnstilelaw17_ReserveSafe.j0 k (t721 != 0) a0_0 a0_1 a0_2 a0_3 a0_4 a0_5 a0_6 a0_7 a0_8 a0_9 a0_10 a0_11 a0_12 a0_13 a0_14 a0_15 a0_16 a0_17 a0_18 t717 t718 t719 t720 t721 t722 t723 t724 t725) else (turnstilelaw17_ReserveSafe.j0 k true a0_0 a0_1 a0_2 a0_3 a0_4 a0_5 a0_6 a0_7 a0_8 a0_9 a0_10 a0_11 a0_12 a0_13 a0_14 a0_15 a0_16 a0_17 a0_18 t717 t718 t719 t720 t721 t722 t723 t724 t725)) else (if t720 = true then (turnstilelaw17_ReserveSafe.j0 k (t721 != 0) a0_0 a0_1 a0_2 a0_3 a0_4 a0_5 a0_6 a0_7 a0_8 a0_9 a0_10 a0_11 a0_12 a0_13 a0_14 a0_15 a0_16 a0_17 a0_18 t717 t718 t719 t720 t721 t722 t723 t724 t725) else (turnstilelaw17_ReserveSafe.j0 k false a0_0 a0_1 a0_2 a0_3 a0_4 a0_5 a0_6 a0_7 a0_8 a0_9 a0_10 a0_11 a0_12 a0_13 a0_14 a0_15 a0_16 a0_17 a0_18 t717 t718 t719 t720 t721 t722 t723 t724 t725))) = some r := H
    have A4 := Aside0.mk A40
    clear A40
    have HC5 := Aside0.mk H
    clear H
    go_enter Try.func10, Try.ntmps10
    go_upto_region 5 with (first | ((with_reducible refine gate_dst (N := 1) rfl ?_); refine bx 1 #[.int .i64 a0_0, .int .u64 a0_1, .int .u64 a0_2, .int .i64 a0_3, .int .i64 a0_4, .int .i64 a0_5, .int .i64 a0_6, .int .u64 a0_7, .int .u64 a0_8, .int .u64 a0_9, .int .u64 a0_10, .int .u64 a0_11, .int .u64 a0_12, .int .u64 a0_13, .int .u64 a0_14, .int .u64 a0_15, .int .u64 a0_16, .int .u64 a0_17, .int .u64 a0_18] 55 ?_; intro gb715 hg w6 hbox hb; have n0_ := bs HB hb; have n1_ := Aside0.mk (hbox); have n2_ := sz HB hg; have n3_ := sz HB hg; clear HB; have HB := n0_; have BK715 := n1_; have GW715 := n2_; have GE715 := n3_; clear n0_ n1_ n2_ n3_; clear hb hbox hg) | ((with_reducible refine gate_callee (f := 28) rfl ?_); refine gm (some 7) Try.func28 #[] (turnstilelaw17_awake.calls k  true _ A2.out) ?_; intro w7 hb; have n0_ := bb BK715 hb; have n1_ := bs HB hb; clear BK715; clear HB; have BK715 := n0_; have HB := n1_; clear n0_ n1_; (try clear hb); (try clear hb2); (try clear hk); (try clear hi); have hcz8_0 : w7.cell? ⟨gb715, 0, none⟩ = some (.int .i64 a0_0) := (blk_cell BK715.out 0).trans rfl; have hcz8_1 : w7.cell? ⟨gb715, 1, none⟩ = some (.int .u64 a0_1) := (blk_cell BK715.out 1).trans rfl; have hcz8_2 : w7.cell? ⟨gb715, 2, none⟩ = some (.int .u64 a0_2) := (blk_cell BK715.out 2).trans rfl; have hcz8_3 : w7.cell? ⟨gb715, 3, none⟩ = some (.int .i64 a0_3) := (blk_cell BK715.out 3).trans rfl; have hcz8_4 : w7.cell? ⟨gb715, 4, none⟩ = some (.int .i64 a0_4) := (blk_cell BK715.out 4).trans rfl; have hcz8_5 : w7.cell? ⟨gb715, 5, none⟩ = some (.int .i64 a0_5) := (blk_cell BK715.out 5).trans rfl; have hcz8_6 : w7.cell? ⟨gb715, 6, none⟩ = some (.int .i64 a0_6) := (blk_cell BK715.out 6).trans rfl; have hcz8_7 : w7.cell? ⟨gb715, 7, none⟩ = some (.int .u64 a0_7) := (blk_cell BK715.out 7).trans rfl; have hcz8_8 : w7.cell? ⟨gb715, 8, none⟩ = some (.int .u64 a0_8) := (blk_cell BK715.out 8).trans rfl; have hcz8_9 : w7.cell? ⟨gb715, 9, none⟩ = some (.int .u64 a0_9) := (blk_cell BK715.out 9).trans rfl; have hcz8_10 : w7.cell? ⟨gb715, 10, none⟩ = some (.int .u64 a0_10) := (blk_cell BK715.out 10).trans rfl; have hcz8_11 : w7.cell? ⟨gb715, 11, none⟩ = some (.int .u64 a0_11) := (blk_cell BK715.out 11).trans rfl; have hcz8_12 : w7.cell? ⟨gb715, 12, none⟩ = some (.int .u64 a0_12) := (blk_cell BK715.out 12).trans rfl; have hcz8_13 : w7.cell? ⟨gb715, 13, none⟩ = some (.int .u64 a0_13) := (blk_cell BK715.out 13).trans rfl; have hcz8_14 : w7.cell? ⟨gb715, 14, none⟩ = some (.int .u64 a0_14) := (blk_cell BK715.out 14).trans rfl; have hcz8_15 : w7.cell? ⟨gb715, 15, none⟩ = some (.int .u64 a0_15) := (blk_cell BK715.out 15).trans rfl; have hcz8_16 : w7.cell? ⟨gb715, 16, none⟩ = some (.int .u64 a0_16) := (blk_cell BK715.out 16).trans rfl; have hcz8_17 : w7.cell? ⟨gb715, 17, none⟩ = some (.int .u64 a0_17) := (blk_cell BK715.out 17).trans rfl; have hcz8_18 : w7.cell? ⟨gb715, 18, none⟩ = some (.int .u64 a0_18) := (blk_cell BK715.out 18).trans rfl; have hfz8_0 := blk_frozen BK715.out 0; have hfz8_1 := blk_frozen BK715.out 1; have hfz8_2 := blk_frozen BK715.out 2; have hfz8_3 := blk_frozen BK715.out 3; have hfz8_4 := blk_frozen BK715.out 4; have hfz8_5 := blk_frozen BK715.out 5; have hfz8_6 := blk_frozen BK715.out 6; have hfz8_7 := blk_frozen BK715.out 7; have hfz8_8 := blk_frozen BK715.out 8; have hfz8_9 := blk_frozen BK715.out 9; have hfz8_10 := blk_frozen BK715.out 10; have hfz8_11 := blk_frozen BK715.out 11; have hfz8_12 := blk_frozen BK715.out 12; have hfz8_13 := blk_frozen BK715.out 13; have hfz8_14 := blk_frozen BK715.out 14; have hfz8_15 := blk_frozen BK715.out 15; have hfz8_16 := blk_frozen BK715.out 16; have hfz8_17 := blk_frozen BK715.out 17; have hfz8_18 := blk_frozen BK715.out 18) | ((with_reducible refine gate_callee (f := 30) rfl ?_); refine gm (some 22) Try.func30 #[.agg #[.int .u64 a0_1, .int .u64 a0_2, .int .i64 a0_3, .int .i64 a0_4, .int .i64 a0_5], .agg #[.int .i64 a0_6, .int .u64 a0_7, .int .u64 a0_8, .int .u64 a0_9, .int .u64 a0_10], .agg #[.int .u64 a0_11, .int .u64 a0_12, .int .u64 a0_13], .agg #[.int .u64 a0_14, .int .u64 a0_15, .int .u64 a0_16], .int .u64 a0_17, .int .u64 a0_18] (reserve_Choose.calls k a0_1 a0_2 a0_3 a0_4 a0_5 a0_6 a0_7 a0_8 a0_9 a0_10 a0_11 a0_12 a0_13 a0_14 a0_15 a0_16 a0_17 a0_18 t717 t718 t719 t720 t721 t722 t723 t724 t725 _ A4.out) ?_; intro w9 hb; have n0_ := bb BK715 hb; have n1_ := bs HB hb; clear BK715; clear HB; have BK715 := n0_; have HB := n1_; clear n0_ n1_; (try clear hb); (try clear hb2); (try clear hk); (try clear hi)) | ((with_reducible refine gate_dst (N := 4) rfl ?_); refine bx 4 #[.int .u64 0, .int .u64 0, .int .u64 0, .bool false, .int .u64 0, .bool false, .int .u64 0, .int .u64 0, .int .u64 0] 58 ?_; intro gb726 hg w10 hbox hb; have n0_ := bb BK715 hb; have n1_ := bs HB hb; have n2_ := Aside0.mk (hbox); have n3_ := sz HB hg; have n4_ := sz HB hg; have n5_ := nl BK715 hg; have n6_ := nr BK715 hg; clear BK715; clear HB; have BK715 := n0_; have HB := n1_; have BK726 := n2_; have GW726 := n3_; have GE726 := n4_; have NB715_726 := n5_; have NB726_715 := n6_; clear n0_ n1_ n2_ n3_ n4_ n5_ n6_; clear hb hbox hg; have hnb11 := NB726_715.out; have hnc11 := NB715_726.out; have hcz12_0 : w10.cell? ⟨gb726, 0, none⟩ = some (.int .u64 0) := (blk_cell BK726.out 0).trans rfl; have hcz12_1 : w10.cell? ⟨gb726, 1, none⟩ = some (.int .u64 0) := (blk_cell BK726.out 1).trans rfl; have hcz12_2 : w10.cell? ⟨gb726, 2, none⟩ = some (.int .u64 0) := (blk_cell BK726.out 2).trans rfl; have hcz12_3 : w10.cell? ⟨gb726, 3, none⟩ = some (.bool false) := (blk_cell BK726.out 3).trans rfl; have hcz12_4 : w10.cell? ⟨gb726, 4, none⟩ = some (.int .u64 0) := (blk_cell BK726.out 4).trans rfl; have hcz12_5 : w10.cell? ⟨gb726, 5, none⟩ = some (.bool false) := (blk_cell BK726.out 5).trans rfl; have hcz12_6 : w10.cell? ⟨gb726, 6, none⟩ = some (.int .u64 0) := (blk_cell BK726.out 6).trans rfl; have hcz12_7 : w10.cell? ⟨gb726, 7, none⟩ = some (.int .u64 0) := (blk_cell BK726.out 7).trans rfl; have hcz12_8 : w10.cell? ⟨gb726, 8, none⟩ = some (.int .u64 0) := (blk_cell BK726.out 8).trans rfl; have hfz12_0 := blk_frozen BK726.out 0; have hfz12_1 := blk_frozen BK726.out 1; have hfz12_2 := blk_frozen BK726.out 2; have hfz12_3 := blk_frozen BK726.out 3; have hfz12_4 := blk_frozen BK726.out 4; have hfz12_5 := blk_frozen BK726.out 5; have hfz12_6 := blk_frozen BK726.out 6; have hfz12_7 := blk_frozen BK726.out 7; have hfz12_8 := blk_frozen BK726.out 8))
    (try simp only [Act.put, List.setIfInBounds_toArray, List.set_cons_zero, List.set_cons_succ])
    go_cut [38] (fun v38 wc => ∃ (kq : Nat) (x38_4 : Bool), v38 = .bool x38_4 ∧ Aside0 (turnstilelaw17_ReserveSafe.j0 kq x38_4 a0_0 a0_1 a0_2 a0_3 a0_4 a0_5 a0_6 a0_7 a0_8 a0_9 a0_10 a0_11 a0_12 a0_13 a0_14 a0_15 a0_16 a0_17 a0_18 t717 t718 t719 t720 t721 t722 t723 t724 t725 = some r) ∧ Aside0 (kq ≤ k) ∧ Aside0 (wc.heap[gb715]? = some (.cells #[.int .i64 a0_0, .int .u64 a0_1, .int .u64 a0_2, .int .i64 a0_3, .int .i64 a0_4, .int .i64 a0_5, .int .i64 a0_6, .int .u64 a0_7, .int .u64 a0_8, .int .u64 a0_9, .int .u64 a0_10, .int .u64 a0_11, .int .u64 a0_12, .int .u64 a0_13, .int .u64 a0_14, .int .u64 a0_15, .int .u64 a0_16, .int .u64 a0_17, .int .u64 a0_18] 55 (0, 0))) ∧ Aside0 (wc.heap[gb726]? = some (.cells #[.int .u64 t717, .int .u64 t718, .int .u64 t719, .bool t720, .int .u64 t721, .bool t722, .int .u64 t723, .int .u64 t724, .int .u64 t725] 58 (0, 0))) ∧ Aside0 (Below w.heap.size w wc))
    case first =>
      have H := HC5.out
      clear HC5
      by_cases c13 : t722 = true
      · subst c13
        have H1 : (if t720 = true then (turnstilelaw17_ReserveSafe.j0 k (t721 != 0) a0_0 a0_1 a0_2 a0_3 a0_4 a0_5 a0_6 a0_7 a0_8 a0_9 a0_10 a0_11 a0_12 a0_13 a0_14 a0_15 a0_16 a0_17 a0_18 t717 t718 t719 t720 t721 true t723 t724 t725) else (turnstilelaw17_ReserveSafe.j0 k true a0_0 a0_1 a0_2 a0_3 a0_4 a0_5 a0_6 a0_7 a0_8 a0_9 a0_10 a0_11 a0_12 a0_13 a0_14 a0_15 a0_16 a0_17 a0_18 t717 t718 t719 t720 t721 true t723 t724 t725)) = some r := by rw [if_pos rfl] at H; exact H
        clear H
        have H := H1
        clear H1
        by_cases c14 : t720 = true
        · subst c14
          have H1 : (turnstilelaw17_ReserveSafe.j0 k (t721 != 0) a0_0 a0_1 a0_2 a0_3 a0_4 a0_5 a0_6 a0_7 a0_8 a0_9 a0_10 a0_11 a0_12 a0_13 a0_14 a0_15 a0_16 a0_17 a0_18 t717 t718 t719 true t721 true t723 t724 t725) = some r := by rw [if_pos rfl] at H; exact H
          clear H
          have H := H1
          clear H1
          have H' := Aside0.mk H
          clear H
          have hnb15 := NB726_715.out
          have hnc15 := NB715_726.out
          have hcz16_0 : w10.cell? ⟨gb726, 0, none⟩ = some (.int .u64 0) := (blk_cell BK726.out 0).trans rfl
          have hcz16_1 : w10.cell? ⟨gb726, 1, none⟩ = some (.int .u64 0) := (blk_cell BK726.out 1).trans rfl
          have hcz16_2 : w10.cell? ⟨gb726, 2, none⟩ = some (.int .u64 0) := (blk_cell BK726.out 2).trans rfl
          have hcz16_3 : w10.cell? ⟨gb726, 3, none⟩ = some (.bool false) := (blk_cell BK726.out 3).trans rfl
          have hcz16_4 : w10.cell? ⟨gb726, 4, none⟩ = some (.int .u64 0) := (blk_cell BK726.out 4).trans rfl
          have hcz16_5 : w10.cell? ⟨gb726, 5, none⟩ = some (.bool false) := (blk_cell BK726.out 5).trans rfl
          have hcz16_6 : w10.cell? ⟨gb726, 6, none⟩ = some (.int .u64 0) := (blk_cell BK726.out 6).trans rfl
          have hcz16_7 : w10.cell? ⟨gb726, 7, none⟩ = some (.int .u64 0) := (blk_cell BK726.out 7).trans rfl
          have hcz16_8 : w10.cell? ⟨gb726, 8, none⟩ = some (.int .u64 0) := (blk_cell BK726.out 8).trans rfl
          have hfz16_0 := blk_frozen BK726.out 0
          have hfz16_1 := blk_frozen BK726.out 1
          have hfz16_2 := blk_frozen BK726.out 2
          have hfz16_3 := blk_frozen BK726.out 3
          have hfz16_4 := blk_frozen BK726.out 4
          have hfz16_5 := blk_frozen BK726.out 5
          have hfz16_6 := blk_frozen BK726.out 6
          have hfz16_7 := blk_frozen BK726.out 7
          have hfz16_8 := blk_frozen BK726.out 8
          go_wp2
          go_meet
          case rel => exact ⟨_, ((t721 != 0)), rs, H', ⟨by first | omega | exact Nat.le_refl _⟩, ⟨bk BK715⟩, ⟨by (with_reducible repeat (first | refine blk_drewN ?_ _ | refine blk_drew ?_ | refine blk_alloc ?_ _)); refine blk_put (cs := #[.int .u64 t717, .int .u64 t718, .int .u64 t719, .bool true, .int .u64 t721, .bool true, .int .u64 t723, .int .u64 t724, .int .u64 0]) ?_ 8 _ rfl; (with_reducible repeat (first | refine blk_drewN ?_ _ | refine blk_drew ?_ | refine blk_alloc ?_ _)); refine blk_put (cs := #[.int .u64 t717, .int .u64 t718, .int .u64 t719, .bool true, .int .u64 t721, .bool true, .int .u64 t723, .int .u64 0, .int .u64 0]) ?_ 7 _ rfl; (with_reducible repeat (first | refine blk_drewN ?_ _ | refine blk_drew ?_ | refine blk_alloc ?_ _)); refine blk_put (cs := #[.int .u64 t717, .int .u64 t718, .int .u64 t719, .bool true, .int .u64 t721, .bool true, .int .u64 0, .int .u64 0, .int .u64 0]) ?_ 6 _ rfl; (with_reducible repeat (first | refine blk_drewN ?_ _ | refine blk_drew ?_ | refine blk_alloc ?_ _)); refine blk_put (cs := #[.int .u64 t717, .int .u64 t718, .int .u64 t719, .bool true, .int .u64 t721, .bool false, .int .u64 0, .int .u64 0, .int .u64 0]) ?_ 5 _ rfl; (with_reducible repeat (first | refine blk_drewN ?_ _ | refine blk_drew ?_ | refine blk_alloc ?_ _)); refine blk_put (cs := #[.int .u64 t717, .int .u64 t718, .int .u64 t719, .bool true, .int .u64 0, .bool false, .int .u64 0, .int .u64 0, .int .u64 0]) ?_ 4 _ rfl; (with_reducible repeat (first | refine blk_drewN ?_ _ | refine blk_drew ?_ | refine blk_alloc ?_ _)); refine blk_put (cs := #[.int .u64 t717, .int .u64 t718, .int .u64 t719, .bool false, .int .u64 0, .bool false, .int .u64 0, .int .u64 0, .int .u64 0]) ?_ 3 _ rfl; (with_reducible repeat (first | refine blk_drewN ?_ _ | refine blk_drew ?_ | refine blk_alloc ?_ _)); refine blk_put (cs := #[.int .u64 t717, .int .u64 t718, .int .u64 0, .bool false, .int .u64 0, .bool false, .int .u64 0, .int .u64 0, .int .u64 0]) ?_ 2 _ rfl; (with_reducible repeat (first | refine blk_drewN ?_ _ | refine blk_drew ?_ | refine blk_alloc ?_ _)); refine blk_put (cs := #[.int .u64 t717, .int .u64 0, .int .u64 0, .bool false, .int .u64 0, .bool false, .int .u64 0, .int .u64 0, .int .u64 0]) ?_ 1 _ rfl; (with_reducible repeat (first | refine blk_drewN ?_ _ | refine blk_drew ?_ | refine blk_alloc ?_ _)); refine blk_put (cs := #[.int .u64 0, .int .u64 0, .int .u64 0, .bool false, .int .u64 0, .bool false, .int .u64 0, .int .u64 0, .int .u64 0]) ?_ 0 _ rfl; (with_reducible repeat (first | refine blk_drewN ?_ _ | refine blk_drew ?_ | refine blk_alloc ?_ _)); exact BK726.out⟩, ⟨bw HB⟩⟩
        · replace c14 := Bool.eq_false_iff.mpr c14
          subst c14
          have H1 : (turnstilelaw17_ReserveSafe.j0 k true a0_0 a0_1 a0_2 a0_3 a0_4 a0_5 a0_6 a0_7 a0_8 a0_9 a0_10 a0_11 a0_12 a0_13 a0_14 a0_15 a0_16 a0_17 a0_18 t717 t718 t719 false t721 true t723 t724 t725) = some r := by rw [if_neg (show ¬ (false = true) by decide)] at H; exact H
          clear H
          have H := H1
          clear H1
          have H' := Aside0.mk H
          clear H
          have hnb17 := NB726_715.out
          have hnc17 := NB715_726.out
          have hcz18_0 : w10.cell? ⟨gb726, 0, none⟩ = some (.int .u64 0) := (blk_cell BK726.out 0).trans rfl
          have hcz18_1 : w10.cell? ⟨gb726, 1, none⟩ = some (.int .u64 0) := (blk_cell BK726.out 1).trans rfl
          have hcz18_2 : w10.cell? ⟨gb726, 2, none⟩ = some (.int .u64 0) := (blk_cell BK726.out 2).trans rfl
          have hcz18_3 : w10.cell? ⟨gb726, 3, none⟩ = some (.bool false) := (blk_cell BK726.out 3).trans rfl
          have hcz18_4 : w10.cell? ⟨gb726, 4, none⟩ = some (.int .u64 0) := (blk_cell BK726.out 4).trans rfl
          have hcz18_5 : w10.cell? ⟨gb726, 5, none⟩ = some (.bool false) := (blk_cell BK726.out 5).trans rfl
          have hcz18_6 : w10.cell? ⟨gb726, 6, none⟩ = some (.int .u64 0) := (blk_cell BK726.out 6).trans rfl
          have hcz18_7 : w10.cell? ⟨gb726, 7, none⟩ = some (.int .u64 0) := (blk_cell BK726.out 7).trans rfl
          have hcz18_8 : w10.cell? ⟨gb726, 8, none⟩ = some (.int .u64 0) := (blk_cell BK726.out 8).trans rfl
          have hfz18_0 := blk_frozen BK726.out 0
          have hfz18_1 := blk_frozen BK726.out 1
          have hfz18_2 := blk_frozen BK726.out 2
          have hfz18_3 := blk_frozen BK726.out 3
          have hfz18_4 := blk_frozen BK726.out 4
          have hfz18_5 := blk_frozen BK726.out 5
          have hfz18_6 := blk_frozen BK726.out 6
          have hfz18_7 := blk_frozen BK726.out 7
          have hfz18_8 := blk_frozen BK726.out 8
          go_wp2
          go_meet
          case rel => exact ⟨_, (true), rs, H', ⟨by first | omega | exact Nat.le_refl _⟩, ⟨bk BK715⟩, ⟨by (with_reducible repeat (first | refine blk_drewN ?_ _ | refine blk_drew ?_ | refine blk_alloc ?_ _)); refine blk_put (cs := #[.int .u64 t717, .int .u64 t718, .int .u64 t719, .bool false, .int .u64 t721, .bool true, .int .u64 t723, .int .u64 t724, .int .u64 0]) ?_ 8 _ rfl; (with_reducible repeat (first | refine blk_drewN ?_ _ | refine blk_drew ?_ | refine blk_alloc ?_ _)); refine blk_put (cs := #[.int .u64 t717, .int .u64 t718, .int .u64 t719, .bool false, .int .u64 t721, .bool true, .int .u64 t723, .int .u64 0, .int .u64 0]) ?_ 7 _ rfl; (with_reducible repeat (first | refine blk_drewN ?_ _ | refine blk_drew ?_ | refine blk_alloc ?_ _)); refine blk_put (cs := #[.int .u64 t717, .int .u64 t718, .int .u64 t719, .bool false, .int .u64 t721, .bool true, .int .u64 0, .int .u64 0, .int .u64 0]) ?_ 6 _ rfl; (with_reducible repeat (first | refine blk_drewN ?_ _ | refine blk_drew ?_ | refine blk_alloc ?_ _)); refine blk_put (cs := #[.int .u64 t717, .int .u64 t718, .int .u64 t719, .bool false, .int .u64 t721, .bool false, .int .u64 0, .int .u64 0, .int .u64 0]) ?_ 5 _ rfl; (with_reducible repeat (first | refine blk_drewN ?_ _ | refine blk_drew ?_ | refine blk_alloc ?_ _)); refine blk_put (cs := #[.int .u64 t717, .int .u64 t718, .int .u64 t719, .bool false, .int .u64 0, .bool false, .int .u64 0, .int .u64 0, .int .u64 0]) ?_ 4 _ rfl; (with_reducible repeat (first | refine blk_drewN ?_ _ | refine blk_drew ?_ | refine blk_alloc ?_ _)); refine blk_put (cs := #[.int .u64 t717, .int .u64 t718, .int .u64 t719, .bool false, .int .u64 0, .bool false, .int .u64 0, .int .u64 0, .int .u64 0]) ?_ 3 _ rfl; (with_reducible repeat (first | refine blk_drewN ?_ _ | refine blk_drew ?_ | refine blk_alloc ?_ _)); refine blk_put (cs := #[.int .u64 t717, .int .u64 t718, .int .u64 0, .bool false, .int .u64 0, .bool false, .int .u64 0, .int .u64 0, .int .u64 0]) ?_ 2 _ rfl; (with_reducible repeat (first | refine blk_drewN ?_ _ | refine blk_drew ?_ | refine blk_alloc ?_ _)); refine blk_put (cs := #[.int .u64 t717, .int .u64 0, .int .u64 0, .bool false, .int .u64 0, .bool false, .int .u64 0, .int .u64 0, .int .u64 0]) ?_ 1 _ rfl; (with_reducible repeat (first | refine blk_drewN ?_ _ | refine blk_drew ?_ | refine blk_alloc ?_ _)); refine blk_put (cs := #[.int .u64 0, .int .u64 0, .int .u64 0, .bool false, .int .u64 0, .bool false, .int .u64 0, .int .u64 0, .int .u64 0]) ?_ 0 _ rfl; (with_reducible repeat (first | refine blk_drewN ?_ _ | refine blk_drew ?_ | refine blk_alloc ?_ _)); exact BK726.out⟩, ⟨bw HB⟩⟩
      · replace c13 := Bool.eq_false_iff.mpr c13
        subst c13
        have H1 : (if t720 = true then (turnstilelaw17_ReserveSafe.j0 k (t721 != 0) a0_0 a0_1 a0_2 a0_3 a0_4 a0_5 a0_6 a0_7 a0_8 a0_9 a0_10 a0_11 a0_12 a0_13 a0_14 a0_15 a0_16 a0_17 a0_18 t717 t718 t719 t720 t721 false t723 t724 t725) else (turnstilelaw17_ReserveSafe.j0 k false a0_0 a0_1 a0_2 a0_3 a0_4 a0_5 a0_6 a0_7 a0_8 a0_9 a0_10 a0_11 a0_12 a0_13 a0_14 a0_15 a0_16 a0_17 a0_18 t717 t718 t719 t720 t721 false t723 t724 t725)) = some r := by rw [if_neg (show ¬ (false = true) by decide)] at H; exact H
        clear H
        have H := H1
        clear H1
        by_cases c19 : t720 = true
        · subst c19
          have H1 : (turnstilelaw17_ReserveSafe.j0 k (t721 != 0) a0_0 a0_1 a0_2 a0_3 a0_4 a0_5 a0_6 a0_7 a0_8 a0_9 a0_10 a0_11 a0_12 a0_13 a0_14 a0_15 a0_16 a0_17 a0_18 t717 t718 t719 true t721 false t723 t724 t725) = some r := by rw [if_pos rfl] at H; exact H
          clear H
          have H := H1
          clear H1
          have H' := Aside0.mk H
          clear H
          have hnb20 := NB726_715.out
          have hnc20 := NB715_726.out
          have hcz21_0 : w10.cell? ⟨gb726, 0, none⟩ = some (.int .u64 0) := (blk_cell BK726.out 0).trans rfl
          have hcz21_1 : w10.cell? ⟨gb726, 1, none⟩ = some (.int .u64 0) := (blk_cell BK726.out 1).trans rfl
          have hcz21_2 : w10.cell? ⟨gb726, 2, none⟩ = some (.int .u64 0) := (blk_cell BK726.out 2).trans rfl
          have hcz21_3 : w10.cell? ⟨gb726, 3, none⟩ = some (.bool false) := (blk_cell BK726.out 3).trans rfl
          have hcz21_4 : w10.cell? ⟨gb726, 4, none⟩ = some (.int .u64 0) := (blk_cell BK726.out 4).trans rfl
          have hcz21_5 : w10.cell? ⟨gb726, 5, none⟩ = some (.bool false) := (blk_cell BK726.out 5).trans rfl
          have hcz21_6 : w10.cell? ⟨gb726, 6, none⟩ = some (.int .u64 0) := (blk_cell BK726.out 6).trans rfl
          have hcz21_7 : w10.cell? ⟨gb726, 7, none⟩ = some (.int .u64 0) := (blk_cell BK726.out 7).trans rfl
          have hcz21_8 : w10.cell? ⟨gb726, 8, none⟩ = some (.int .u64 0) := (blk_cell BK726.out 8).trans rfl
          have hfz21_0 := blk_frozen BK726.out 0
          have hfz21_1 := blk_frozen BK726.out 1
          have hfz21_2 := blk_frozen BK726.out 2
          have hfz21_3 := blk_frozen BK726.out 3
          have hfz21_4 := blk_frozen BK726.out 4
          have hfz21_5 := blk_frozen BK726.out 5
          have hfz21_6 := blk_frozen BK726.out 6
          have hfz21_7 := blk_frozen BK726.out 7
          have hfz21_8 := blk_frozen BK726.out 8
          go_wp2
          go_meet
          case rel => exact ⟨_, ((t721 != 0)), rs, H', ⟨by first | omega | exact Nat.le_refl _⟩, ⟨bk BK715⟩, ⟨by (with_reducible repeat (first | refine blk_drewN ?_ _ | refine blk_drew ?_ | refine blk_alloc ?_ _)); refine blk_put (cs := #[.int .u64 t717, .int .u64 t718, .int .u64 t719, .bool true, .int .u64 t721, .bool false, .int .u64 t723, .int .u64 t724, .int .u64 0]) ?_ 8 _ rfl; (with_reducible repeat (first | refine blk_drewN ?_ _ | refine blk_drew ?_ | refine blk_alloc ?_ _)); refine blk_put (cs := #[.int .u64 t717, .int .u64 t718, .int .u64 t719, .bool true, .int .u64 t721, .bool false, .int .u64 t723, .int .u64 0, .int .u64 0]) ?_ 7 _ rfl; (with_reducible repeat (first | refine blk_drewN ?_ _ | refine blk_drew ?_ | refine blk_alloc ?_ _)); refine blk_put (cs := #[.int .u64 t717, .int .u64 t718, .int .u64 t719, .bool true, .int .u64 t721, .bool false, .int .u64 0, .int .u64 0, .int .u64 0]) ?_ 6 _ rfl; (with_reducible repeat (first | refine blk_drewN ?_ _ | refine blk_drew ?_ | refine blk_alloc ?_ _)); refine blk_put (cs := #[.int .u64 t717, .int .u64 t718, .int .u64 t719, .bool true, .int .u64 t721, .bool false, .int .u64 0, .int .u64 0, .int .u64 0]) ?_ 5 _ rfl; (with_reducible repeat (first | refine blk_drewN ?_ _ | refine blk_drew ?_ | refine blk_alloc ?_ _)); refine blk_put (cs := #[.int .u64 t717, .int .u64 t718, .int .u64 t719, .bool true, .int .u64 0, .bool false, .int .u64 0, .int .u64 0, .int .u64 0]) ?_ 4 _ rfl; (with_reducible repeat (first | refine blk_drewN ?_ _ | refine blk_drew ?_ | refine blk_alloc ?_ _)); refine blk_put (cs := #[.int .u64 t717, .int .u64 t718, .int .u64 t719, .bool false, .int .u64 0, .bool false, .int .u64 0, .int .u64 0, .int .u64 0]) ?_ 3 _ rfl; (with_reducible repeat (first | refine blk_drewN ?_ _ | refine blk_drew ?_ | refine blk_alloc ?_ _)); refine blk_put (cs := #[.int .u64 t717, .int .u64 t718, .int .u64 0, .bool false, .int .u64 0, .bool false, .int .u64 0, .int .u64 0, .int .u64 0]) ?_ 2 _ rfl; (with_reducible repeat (first | refine blk_drewN ?_ _ | refine blk_drew ?_ | refine blk_alloc ?_ _)); refine blk_put (cs := #[.int .u64 t717, .int .u64 0, .int .u64 0, .bool false, .int .u64 0, .bool false, .int .u64 0, .int .u64 0, .int .u64 0]) ?_ 1 _ rfl; (with_reducible repeat (first | refine blk_drewN ?_ _ | refine blk_drew ?_ | refine blk_alloc ?_ _)); refine blk_put (cs := #[.int .u64 0, .int .u64 0, .int .u64 0, .bool false, .int .u64 0, .bool false, .int .u64 0, .int .u64 0, .int .u64 0]) ?_ 0 _ rfl; (with_reducible repeat (first | refine blk_drewN ?_ _ | refine blk_drew ?_ | refine blk_alloc ?_ _)); exact BK726.out⟩, ⟨bw HB⟩⟩
        · replace c19 := Bool.eq_false_iff.mpr c19
          subst c19
          have H1 : (turnstilelaw17_ReserveSafe.j0 k false a0_0 a0_1 a0_2 a0_3 a0_4 a0_5 a0_6 a0_7 a0_8 a0_9 a0_10 a0_11 a0_12 a0_13 a0_14 a0_15 a0_16 a0_17 a0_18 t717 t718 t719 false t721 false t723 t724 t725) = some r := by rw [if_neg (show ¬ (false = true) by decide)] at H; exact H
          clear H
          have H := H1
          clear H1
          have H' := Aside0.mk H
          clear H
          have hnb22 := NB726_715.out
          have hnc22 := NB715_726.out
          have hcz23_0 : w10.cell? ⟨gb726, 0, none⟩ = some (.int .u64 0) := (blk_cell BK726.out 0).trans rfl
          have hcz23_1 : w10.cell? ⟨gb726, 1, none⟩ = some (.int .u64 0) := (blk_cell BK726.out 1).trans rfl
          have hcz23_2 : w10.cell? ⟨gb726, 2, none⟩ = some (.int .u64 0) := (blk_cell BK726.out 2).trans rfl
          have hcz23_3 : w10.cell? ⟨gb726, 3, none⟩ = some (.bool false) := (blk_cell BK726.out 3).trans rfl
          have hcz23_4 : w10.cell? ⟨gb726, 4, none⟩ = some (.int .u64 0) := (blk_cell BK726.out 4).trans rfl
          have hcz23_5 : w10.cell? ⟨gb726, 5, none⟩ = some (.bool false) := (blk_cell BK726.out 5).trans rfl
          have hcz23_6 : w10.cell? ⟨gb726, 6, none⟩ = some (.int .u64 0) := (blk_cell BK726.out 6).trans rfl
          have hcz23_7 : w10.cell? ⟨gb726, 7, none⟩ = some (.int .u64 0) := (blk_cell BK726.out 7).trans rfl
          have hcz23_8 : w10.cell? ⟨gb726, 8, none⟩ = some (.int .u64 0) := (blk_cell BK726.out 8).trans rfl
          have hfz23_0 := blk_frozen BK726.out 0
          have hfz23_1 := blk_frozen BK726.out 1
          have hfz23_2 := blk_frozen BK726.out 2
          have hfz23_3 := blk_frozen BK726.out 3
          have hfz23_4 := blk_frozen BK726.out 4
          have hfz23_5 := blk_frozen BK726.out 5
          have hfz23_6 := blk_frozen BK726.out 6
          have hfz23_7 := blk_frozen BK726.out 7
          have hfz23_8 := blk_frozen BK726.out 8
          go_wp2
          go_meet
          case rel => exact ⟨_, (false), rs, H', ⟨by first | omega | exact Nat.le_refl _⟩, ⟨bk BK715⟩, ⟨by (with_reducible repeat (first | refine blk_drewN ?_ _ | refine blk_drew ?_ | refine blk_alloc ?_ _)); refine blk_put (cs := #[.int .u64 t717, .int .u64 t718, .int .u64 t719, .bool false, .int .u64 t721, .bool false, .int .u64 t723, .int .u64 t724, .int .u64 0]) ?_ 8 _ rfl; (with_reducible repeat (first | refine blk_drewN ?_ _ | refine blk_drew ?_ | refine blk_alloc ?_ _)); refine blk_put (cs := #[.int .u64 t717, .int .u64 t718, .int .u64 t719, .bool false, .int .u64 t721, .bool false, .int .u64 t723, .int .u64 0, .int .u64 0]) ?_ 7 _ rfl; (with_reducible repeat (first | refine blk_drewN ?_ _ | refine blk_drew ?_ | refine blk_alloc ?_ _)); refine blk_put (cs := #[.int .u64 t717, .int .u64 t718, .int .u64 t719, .bool false, .int .u64 t721, .bool false, .int .u64 0, .int .u64 0, .int .u64 0]) ?_ 6 _ rfl; (with_reducible repeat (first | refine blk_drewN ?_ _ | refine blk_drew ?_ | refine blk_alloc ?_ _)); refine blk_put (cs := #[.int .u64 t717, .int .u64 t718, .int .u64 t719, .bool false, .int .u64 t721, .bool false, .int .u64 0, .int .u64 0, .int .u64 0]) ?_ 5 _ rfl; (with_reducible repeat (first | refine blk_drewN ?_ _ | refine blk_drew ?_ | refine blk_alloc ?_ _)); refine blk_put (cs := #[.int .u64 t717, .int .u64 t718, .int .u64 t719, .bool false, .int .u64 0, .bool false, .int .u64 0, .int .u64 0, .int .u64 0]) ?_ 4 _ rfl; (with_reducible repeat (first | refine blk_drewN ?_ _ | refine blk_drew ?_ | refine blk_alloc ?_ _)); refine blk_put (cs := #[.int .u64 t717, .int .u64 t718, .int .u64 t719, .bool false, .int .u64 0, .bool false, .int .u64 0, .int .u64 0, .int .u64 0]) ?_ 3 _ rfl; (with_reducible repeat (first | refine blk_drewN ?_ _ | refine blk_drew ?_ | refine blk_alloc ?_ _)); refine blk_put (cs := #[.int .u64 t717, .int .u64 t718, .int .u64 0, .bool false, .int .u64 0, .bool false, .int .u64 0, .int .u64 0, .int .u64 0]) ?_ 2 _ rfl; (with_reducible repeat (first | refine blk_drewN ?_ _ | refine blk_drew ?_ | refine blk_alloc ?_ _)); refine blk_put (cs := #[.int .u64 t717, .int .u64 0, .int .u64 0, .bool false, .int .u64 0, .bool false, .int .u64 0, .int .u64 0, .int .u64 0]) ?_ 1 _ rfl; (with_reducible repeat (first | refine blk_drewN ?_ _ | refine blk_drew ?_ | refine blk_alloc ?_ _)); refine blk_put (cs := #[.int .u64 0, .int .u64 0, .int .u64 0, .bool false, .int .u64 0, .bool false, .int .u64 0, .int .u64 0, .int .u64 0]) ?_ 0 _ rfl; (with_reducible repeat (first | refine blk_drewN ?_ _ | refine blk_drew ?_ | refine blk_alloc ?_ _)); exact BK726.out⟩, ⟨bw HB⟩⟩
    case rest =>
      clear HC5
      try clear c1
      try clear c2
      try clear p2
      try clear c3
      try clear c10
      try clear c11
      try clear c13
      try clear c14
      try clear c15
      try clear c17
      try clear c19
      try clear c20
      try clear c22
      try clear hcz12_0
      try clear hcz12_1
      try clear hcz12_2
      try clear hcz12_3
      try clear hcz12_4
      try clear hcz12_5
      try clear hcz12_6
      try clear hcz12_7
      try clear hcz12_8
      try clear hcz16_0
      try clear hcz16_1
      try clear hcz16_2
      try clear hcz16_3
      try clear hcz16_4
      try clear hcz16_5
      try clear hcz16_6
      try clear hcz16_7
      try clear hcz16_8
      try clear hcz18_0
      try clear hcz18_1
      try clear hcz18_2
      try clear hcz18_3
      try clear hcz18_4
      try clear hcz18_5
      try clear hcz18_6
      try clear hcz18_7
      try clear hcz18_8
      try clear hcz21_0
      try clear hcz21_1
      try clear hcz21_2
      try clear hcz21_3
      try clear hcz21_4
      try clear hcz21_5
      try clear hcz21_6
      try clear hcz21_7
      try clear hcz21_8
      try clear hcz23_0
      try clear hcz23_1
      try clear hcz23_2
      try clear hcz23_3
      try clear hcz23_4
      try clear hcz23_5
      try clear hcz23_6
      try clear hcz23_7
      try clear hcz23_8
      try clear hcz8_0
      try clear hcz8_1
      try clear hcz8_10
      try clear hcz8_11
      try clear hcz8_12
      try clear hcz8_13
      try clear hcz8_14
      try clear hcz8_15
      try clear hcz8_16
      try clear hcz8_17
      try clear hcz8_18
      try clear hcz8_2
      try clear hcz8_3
      try clear hcz8_4
      try clear hcz8_5
      try clear hcz8_6
      try clear hcz8_7
      try clear hcz8_8
      try clear hcz8_9
      try clear hfz12_0
      try clear hfz12_1
      try clear hfz12_2
      try clear hfz12_3
      try clear hfz12_4
      try clear hfz12_5
      try clear hfz12_6
      try clear hfz12_7
      try clear hfz12_8
      try clear hfz16_0
      try clear hfz16_1
      try clear hfz16_2
      try clear hfz16_3
      try clear hfz16_4
      try clear hfz16_5
      try clear hfz16_6
      try clear hfz16_7
      try clear hfz16_8
      try clear hfz18_0
      try clear hfz18_1
      try clear hfz18_2
      try clear hfz18_3
      try clear hfz18_4
      try clear hfz18_5
      try clear hfz18_6
      try clear hfz18_7
      try clear hfz18_8
      try clear hfz21_0
      try clear hfz21_1
      try clear hfz21_2
      try clear hfz21_3
      try clear hfz21_4
      try clear hfz21_5
      try clear hfz21_6
      try clear hfz21_7
      try clear hfz21_8
      try clear hfz23_0
      try clear hfz23_1
      try clear hfz23_2
      try clear hfz23_3
      try clear hfz23_4
      try clear hfz23_5
      try clear hfz23_6
      try clear hfz23_7
      try clear hfz23_8
      try clear hfz8_0
      try clear hfz8_1
      try clear hfz8_10
      try clear hfz8_11
      try clear hfz8_12
      try clear hfz8_13
      try clear hfz8_14
      try clear hfz8_15
      try clear hfz8_16
      try clear hfz8_17
      try clear hfz8_18
      try clear hfz8_2
      try clear hfz8_3
      try clear hfz8_4
      try clear hfz8_5
      try clear hfz8_6
      try clear hfz8_7
      try clear hfz8_8
      try clear hfz8_9
      obtain ⟨kq, x38_4, rfl, HA, HJ4, BK715, BK726, HB⟩ := hcut
      cases kq with
      | zero => exact absurd HA.out (by simp [turnstilelaw17_ReserveSafe.j0])
      | succ kj4 =>
        have H := HA.out
        clear HA
        simp only [turnstilelaw17_ReserveSafe.j0] at H
        by_cases c24 : x38_4 = true
        · subst c24
          have H1 : (some false) = some r := by rw [if_pos rfl] at H; exact H
          clear H
          have H := H1
          clear H1
          obtain rfl := Option.some.inj H
          go_wp2
          go_ret
          exact ⟨re, bw HB⟩
        · replace c24 := Bool.eq_false_iff.mpr c24
          subst c24
          have H1 : ((policy_Valid.f a0_6 a0_7 a0_8 a0_9 a0_10).bind fun t727 => (if t727 = true then (if t722 = true then ((policy_Covers.f a0_6 a0_7 a0_8 a0_9 a0_10 a0_14 a0_15 a0_16 t717 t718 t719).bind fun t728 => (if t728 = true then (some false) else ((reserve_Within.f a0_1 a0_2 a0_3 a0_4 a0_5 a0_6 a0_7 a0_8 a0_9 a0_10 t717 t718 t719 t723 t724 t725).bind fun t729 => (some t729)))) else ((policy_Covers.f a0_6 a0_7 a0_8 a0_9 a0_10 a0_14 a0_15 a0_16 t723 t724 t725).bind fun t730 => (if t730 = true then ((policy_Covers.f a0_6 a0_7 a0_8 a0_9 a0_10 t723 t724 t725 a0_14 a0_15 a0_16).bind fun t731 => (if t731 = true then ((policy_Covers.f a0_6 a0_7 a0_8 a0_9 a0_10 a0_14 a0_15 a0_16 a0_11 a0_12 a0_13).bind fun t732 => (if t732 = true then ((policy_Covers.f a0_6 a0_7 a0_8 a0_9 a0_10 t723 t724 t725 t717 t718 t719).bind fun t733 => (some t733)) else (some true))) else (some false))) else (some false)))) else (some ((t717 == 0 && (t718 == 0 && (t719 == 0))) && (!t720 && (t721 == 18446744073709551615 && (!t722 && ((t723 == 0 && (t724 == 0 && (t725 == 0))))))))))) = some r := by rw [if_neg (show ¬ (false = true) by decide)] at H; exact H
          clear H
          have H := H1
          clear H1
          replace H := Option.bind_eq_some_iff.mp H
          obtain ⟨t727, A250, H⟩ := H
          replace H : (if t727 = true then (if t722 = true then ((policy_Covers.f a0_6 a0_7 a0_8 a0_9 a0_10 a0_14 a0_15 a0_16 t717 t718 t719).bind fun t728 => (if t728 = true then (some false) else ((reserve_Within.f a0_1 a0_2 a0_3 a0_4 a0_5 a0_6 a0_7 a0_8 a0_9 a0_10 t717 t718 t719 t723 t724 t725).bind fun t729 => (some t729)))) else ((policy_Covers.f a0_6 a0_7 a0_8 a0_9 a0_10 a0_14 a0_15 a0_16 t723 t724 t725).bind fun t730 => (if t730 = true then ((policy_Covers.f a0_6 a0_7 a0_8 a0_9 a0_10 t723 t724 t725 a0_14 a0_15 a0_16).bind fun t731 => (if t731 = true then ((policy_Covers.f a0_6 a0_7 a0_8 a0_9 a0_10 a0_14 a0_15 a0_16 a0_11 a0_12 a0_13).bind fun t732 => (if t732 = true then ((policy_Covers.f a0_6 a0_7 a0_8 a0_9 a0_10 t723 t724 t725 t717 t718 t719).bind fun t733 => (some t733)) else (some true))) else (some false))) else (some false)))) else (some ((t717 == 0 && (t718 == 0 && (t719 == 0))) && (!t720 && (t721 == 18446744073709551615 && (!t722 && ((t723 == 0 && (t724 == 0 && (t725 == 0)))))))))) = some r := H
          have A25 := Aside0.mk A250
          clear A250
          by_cases c26 : t727 = true
          · subst c26
            have H1 : (if t722 = true then ((policy_Covers.f a0_6 a0_7 a0_8 a0_9 a0_10 a0_14 a0_15 a0_16 t717 t718 t719).bind fun t728 => (if t728 = true then (some false) else ((reserve_Within.f a0_1 a0_2 a0_3 a0_4 a0_5 a0_6 a0_7 a0_8 a0_9 a0_10 t717 t718 t719 t723 t724 t725).bind fun t729 => (some t729)))) else ((policy_Covers.f a0_6 a0_7 a0_8 a0_9 a0_10 a0_14 a0_15 a0_16 t723 t724 t725).bind fun t730 => (if t730 = true then ((policy_Covers.f a0_6 a0_7 a0_8 a0_9 a0_10 t723 t724 t725 a0_14 a0_15 a0_16).bind fun t731 => (if t731 = true then ((policy_Covers.f a0_6 a0_7 a0_8 a0_9 a0_10 a0_14 a0_15 a0_16 a0_11 a0_12 a0_13).bind fun t732 => (if t732 = true then ((policy_Covers.f a0_6 a0_7 a0_8 a0_9 a0_10 t723 t724 t725 t717 t718 t719).bind fun t733 => (some t733)) else (some true))) else (some false))) else (some false)))) = some r := by rw [if_pos rfl] at H; exact H
            clear H
            have H := H1
            clear H1
            by_cases c27 : t722 = true
            · subst c27
              have H1 : ((policy_Covers.f a0_6 a0_7 a0_8 a0_9 a0_10 a0_14 a0_15 a0_16 t717 t718 t719).bind fun t728 => (if t728 = true then (some false) else ((reserve_Within.f a0_1 a0_2 a0_3 a0_4 a0_5 a0_6 a0_7 a0_8 a0_9 a0_10 t717 t718 t719 t723 t724 t725).bind fun t729 => (some t729)))) = some r := by rw [if_pos rfl] at H; exact H
              clear H
              have H := H1
              clear H1
              replace H := Option.bind_eq_some_iff.mp H
              obtain ⟨t728, A280, H⟩ := H
              replace H : (if t728 = true then (some false) else ((reserve_Within.f a0_1 a0_2 a0_3 a0_4 a0_5 a0_6 a0_7 a0_8 a0_9 a0_10 t717 t718 t719 t723 t724 t725).bind fun t729 => (some t729))) = some r := H
              have A28 := Aside0.mk A280
              clear A280
              by_cases c29 : t728 = true
              · subst c29
                have H1 : (some false) = some r := by rw [if_pos rfl] at H; exact H
                clear H
                have H := H1
                clear H1
                obtain rfl := Option.some.inj H
                have hnb30 := NB715_726.out
                have hnc30 := NB726_715.out
                have hcz31_0 : wc.cell? ⟨gb715, 0, none⟩ = some (.int .i64 a0_0) := (blk_cell BK715.out 0).trans rfl
                have hcz31_1 : wc.cell? ⟨gb715, 1, none⟩ = some (.int .u64 a0_1) := (blk_cell BK715.out 1).trans rfl
                have hcz31_2 : wc.cell? ⟨gb715, 2, none⟩ = some (.int .u64 a0_2) := (blk_cell BK715.out 2).trans rfl
                have hcz31_3 : wc.cell? ⟨gb715, 3, none⟩ = some (.int .i64 a0_3) := (blk_cell BK715.out 3).trans rfl
                have hcz31_4 : wc.cell? ⟨gb715, 4, none⟩ = some (.int .i64 a0_4) := (blk_cell BK715.out 4).trans rfl
                have hcz31_5 : wc.cell? ⟨gb715, 5, none⟩ = some (.int .i64 a0_5) := (blk_cell BK715.out 5).trans rfl
                have hcz31_6 : wc.cell? ⟨gb715, 6, none⟩ = some (.int .i64 a0_6) := (blk_cell BK715.out 6).trans rfl
                have hcz31_7 : wc.cell? ⟨gb715, 7, none⟩ = some (.int .u64 a0_7) := (blk_cell BK715.out 7).trans rfl
                have hcz31_8 : wc.cell? ⟨gb715, 8, none⟩ = some (.int .u64 a0_8) := (blk_cell BK715.out 8).trans rfl
                have hcz31_9 : wc.cell? ⟨gb715, 9, none⟩ = some (.int .u64 a0_9) := (blk_cell BK715.out 9).trans rfl
                have hcz31_10 : wc.cell? ⟨gb715, 10, none⟩ = some (.int .u64 a0_10) := (blk_cell BK715.out 10).trans rfl
                have hcz31_11 : wc.cell? ⟨gb715, 11, none⟩ = some (.int .u64 a0_11) := (blk_cell BK715.out 11).trans rfl
                have hcz31_12 : wc.cell? ⟨gb715, 12, none⟩ = some (.int .u64 a0_12) := (blk_cell BK715.out 12).trans rfl
                have hcz31_13 : wc.cell? ⟨gb715, 13, none⟩ = some (.int .u64 a0_13) := (blk_cell BK715.out 13).trans rfl
                have hcz31_14 : wc.cell? ⟨gb715, 14, none⟩ = some (.int .u64 a0_14) := (blk_cell BK715.out 14).trans rfl
                have hcz31_15 : wc.cell? ⟨gb715, 15, none⟩ = some (.int .u64 a0_15) := (blk_cell BK715.out 15).trans rfl
                have hcz31_16 : wc.cell? ⟨gb715, 16, none⟩ = some (.int .u64 a0_16) := (blk_cell BK715.out 16).trans rfl
                have hcz31_17 : wc.cell? ⟨gb715, 17, none⟩ = some (.int .u64 a0_17) := (blk_cell BK715.out 17).trans rfl
                have hcz31_18 : wc.cell? ⟨gb715, 18, none⟩ = some (.int .u64 a0_18) := (blk_cell BK715.out 18).trans rfl
                have hfz31_0 := blk_frozen BK715.out 0
                have hfz31_1 := blk_frozen BK715.out 1
                have hfz31_2 := blk_frozen BK715.out 2
                have hfz31_3 := blk_frozen BK715.out 3
                have hfz31_4 := blk_frozen BK715.out 4
                have hfz31_5 := blk_frozen BK715.out 5
                have hfz31_6 := blk_frozen BK715.out 6
                have hfz31_7 := blk_frozen BK715.out 7
                have hfz31_8 := blk_frozen BK715.out 8
                have hfz31_9 := blk_frozen BK715.out 9
                have hfz31_10 := blk_frozen BK715.out 10
                have hfz31_11 := blk_frozen BK715.out 11
                have hfz31_12 := blk_frozen BK715.out 12
                have hfz31_13 := blk_frozen BK715.out 13
                have hfz31_14 := blk_frozen BK715.out 14
                have hfz31_15 := blk_frozen BK715.out 15
                have hfz31_16 := blk_frozen BK715.out 16
                have hfz31_17 := blk_frozen BK715.out 17
                have hfz31_18 := blk_frozen BK715.out 18
                go_wp2_with (first | ((with_reducible refine gate_callee (f := 18) rfl ?_); refine gm (some 41) Try.func18 #[.agg #[.int .i64 a0_6, .int .u64 a0_7, .int .u64 a0_8, .int .u64 a0_9, .int .u64 a0_10]] (policy_Valid.calls a0_6 a0_7 a0_8 a0_9 a0_10 true _ A25.out) ?_; intro w32 hb; have n0_ := bb BK715 hb; have n1_ := bb BK726 hb; have n2_ := bs HB hb; clear BK715; clear BK726; clear HB; have BK715 := n0_; have BK726 := n1_; have HB := n2_; clear n0_ n1_ n2_; (try clear hb); (try clear hb2); (try clear hk); (try clear hi); have hcz33_0 : w32.cell? ⟨gb726, 0, none⟩ = some (.int .u64 t717) := (blk_cell BK726.out 0).trans rfl; have hcz33_1 : w32.cell? ⟨gb726, 1, none⟩ = some (.int .u64 t718) := (blk_cell BK726.out 1).trans rfl; have hcz33_2 : w32.cell? ⟨gb726, 2, none⟩ = some (.int .u64 t719) := (blk_cell BK726.out 2).trans rfl; have hcz33_3 : w32.cell? ⟨gb726, 3, none⟩ = some (.bool t720) := (blk_cell BK726.out 3).trans rfl; have hcz33_4 : w32.cell? ⟨gb726, 4, none⟩ = some (.int .u64 t721) := (blk_cell BK726.out 4).trans rfl; have hcz33_5 : w32.cell? ⟨gb726, 5, none⟩ = some (.bool true) := (blk_cell BK726.out 5).trans rfl; have hcz33_6 : w32.cell? ⟨gb726, 6, none⟩ = some (.int .u64 t723) := (blk_cell BK726.out 6).trans rfl; have hcz33_7 : w32.cell? ⟨gb726, 7, none⟩ = some (.int .u64 t724) := (blk_cell BK726.out 7).trans rfl; have hcz33_8 : w32.cell? ⟨gb726, 8, none⟩ = some (.int .u64 t725) := (blk_cell BK726.out 8).trans rfl; have hfz33_0 := blk_frozen BK726.out 0; have hfz33_1 := blk_frozen BK726.out 1; have hfz33_2 := blk_frozen BK726.out 2; have hfz33_3 := blk_frozen BK726.out 3; have hfz33_4 := blk_frozen BK726.out 4; have hfz33_5 := blk_frozen BK726.out 5; have hfz33_6 := blk_frozen BK726.out 6; have hfz33_7 := blk_frozen BK726.out 7; have hfz33_8 := blk_frozen BK726.out 8; have hcz34_0 : w32.cell? ⟨gb715, 0, none⟩ = some (.int .i64 a0_0) := (blk_cell BK715.out 0).trans rfl; have hcz34_1 : w32.cell? ⟨gb715, 1, none⟩ = some (.int .u64 a0_1) := (blk_cell BK715.out 1).trans rfl; have hcz34_2 : w32.cell? ⟨gb715, 2, none⟩ = some (.int .u64 a0_2) := (blk_cell BK715.out 2).trans rfl; have hcz34_3 : w32.cell? ⟨gb715, 3, none⟩ = some (.int .i64 a0_3) := (blk_cell BK715.out 3).trans rfl; have hcz34_4 : w32.cell? ⟨gb715, 4, none⟩ = some (.int .i64 a0_4) := (blk_cell BK715.out 4).trans rfl; have hcz34_5 : w32.cell? ⟨gb715, 5, none⟩ = some (.int .i64 a0_5) := (blk_cell BK715.out 5).trans rfl; have hcz34_6 : w32.cell? ⟨gb715, 6, none⟩ = some (.int .i64 a0_6) := (blk_cell BK715.out 6).trans rfl; have hcz34_7 : w32.cell? ⟨gb715, 7, none⟩ = some (.int .u64 a0_7) := (blk_cell BK715.out 7).trans rfl; have hcz34_8 : w32.cell? ⟨gb715, 8, none⟩ = some (.int .u64 a0_8) := (blk_cell BK715.out 8).trans rfl; have hcz34_9 : w32.cell? ⟨gb715, 9, none⟩ = some (.int .u64 a0_9) := (blk_cell BK715.out 9).trans rfl; have hcz34_10 : w32.cell? ⟨gb715, 10, none⟩ = some (.int .u64 a0_10) := (blk_cell BK715.out 10).trans rfl; have hcz34_11 : w32.cell? ⟨gb715, 11, none⟩ = some (.int .u64 a0_11) := (blk_cell BK715.out 11).trans rfl; have hcz34_12 : w32.cell? ⟨gb715, 12, none⟩ = some (.int .u64 a0_12) := (blk_cell BK715.out 12).trans rfl; have hcz34_13 : w32.cell? ⟨gb715, 13, none⟩ = some (.int .u64 a0_13) := (blk_cell BK715.out 13).trans rfl; have hcz34_14 : w32.cell? ⟨gb715, 14, none⟩ = some (.int .u64 a0_14) := (blk_cell BK715.out 14).trans rfl; have hcz34_15 : w32.cell? ⟨gb715, 15, none⟩ = some (.int .u64 a0_15) := (blk_cell BK715.out 15).trans rfl; have hcz34_16 : w32.cell? ⟨gb715, 16, none⟩ = some (.int .u64 a0_16) := (blk_cell BK715.out 16).trans rfl; have hcz34_17 : w32.cell? ⟨gb715, 17, none⟩ = some (.int .u64 a0_17) := (blk_cell BK715.out 17).trans rfl; have hcz34_18 : w32.cell? ⟨gb715, 18, none⟩ = some (.int .u64 a0_18) := (blk_cell BK715.out 18).trans rfl; have hfz34_0 := blk_frozen BK715.out 0; have hfz34_1 := blk_frozen BK715.out 1; have hfz34_2 := blk_frozen BK715.out 2; have hfz34_3 := blk_frozen BK715.out 3; have hfz34_4 := blk_frozen BK715.out 4; have hfz34_5 := blk_frozen BK715.out 5; have hfz34_6 := blk_frozen BK715.out 6; have hfz34_7 := blk_frozen BK715.out 7; have hfz34_8 := blk_frozen BK715.out 8; have hfz34_9 := blk_frozen BK715.out 9; have hfz34_10 := blk_frozen BK715.out 10; have hfz34_11 := blk_frozen BK715.out 11; have hfz34_12 := blk_frozen BK715.out 12; have hfz34_13 := blk_frozen BK715.out 13; have hfz34_14 := blk_frozen BK715.out 14; have hfz34_15 := blk_frozen BK715.out 15; have hfz34_16 := blk_frozen BK715.out 16; have hfz34_17 := blk_frozen BK715.out 17; have hfz34_18 := blk_frozen BK715.out 18) | ((with_reducible refine gate_callee (f := 27) rfl ?_); refine gm (some 55) Try.func27 #[.agg #[.int .i64 a0_6, .int .u64 a0_7, .int .u64 a0_8, .int .u64 a0_9, .int .u64 a0_10], .agg #[.int .u64 a0_14, .int .u64 a0_15, .int .u64 a0_16], .agg #[.int .u64 t717, .int .u64 t718, .int .u64 t719]] (policy_Covers.calls a0_6 a0_7 a0_8 a0_9 a0_10 a0_14 a0_15 a0_16 t717 t718 t719 true _ A28.out) ?_; intro w35 hb; have n0_ := bb BK715 hb; have n1_ := bb BK726 hb; have n2_ := bs HB hb; clear BK715; clear BK726; clear HB; have BK715 := n0_; have BK726 := n1_; have HB := n2_; clear n0_ n1_ n2_; (try clear hb); (try clear hb2); (try clear hk); (try clear hi)))
                go_ret
                exact ⟨re, bw HB⟩
              · replace c29 := Bool.eq_false_iff.mpr c29
                subst c29
                have H1 : ((reserve_Within.f a0_1 a0_2 a0_3 a0_4 a0_5 a0_6 a0_7 a0_8 a0_9 a0_10 t717 t718 t719 t723 t724 t725).bind fun t729 => (some t729)) = some r := by rw [if_neg (show ¬ (false = true) by decide)] at H; exact H
                clear H
                have H := H1
                clear H1
                replace H := Option.bind_eq_some_iff.mp H
                obtain ⟨t729, A360, H⟩ := H
                replace H : (some t729) = some r := H
                have A36 := Aside0.mk A360
                clear A360
                obtain rfl := Option.some.inj H
                have hnb37 := NB715_726.out
                have hnc37 := NB726_715.out
                have hcz38_0 : wc.cell? ⟨gb715, 0, none⟩ = some (.int .i64 a0_0) := (blk_cell BK715.out 0).trans rfl
                have hcz38_1 : wc.cell? ⟨gb715, 1, none⟩ = some (.int .u64 a0_1) := (blk_cell BK715.out 1).trans rfl
                have hcz38_2 : wc.cell? ⟨gb715, 2, none⟩ = some (.int .u64 a0_2) := (blk_cell BK715.out 2).trans rfl
                have hcz38_3 : wc.cell? ⟨gb715, 3, none⟩ = some (.int .i64 a0_3) := (blk_cell BK715.out 3).trans rfl
                have hcz38_4 : wc.cell? ⟨gb715, 4, none⟩ = some (.int .i64 a0_4) := (blk_cell BK715.out 4).trans rfl
                have hcz38_5 : wc.cell? ⟨gb715, 5, none⟩ = some (.int .i64 a0_5) := (blk_cell BK715.out 5).trans rfl
                have hcz38_6 : wc.cell? ⟨gb715, 6, none⟩ = some (.int .i64 a0_6) := (blk_cell BK715.out 6).trans rfl
                have hcz38_7 : wc.cell? ⟨gb715, 7, none⟩ = some (.int .u64 a0_7) := (blk_cell BK715.out 7).trans rfl
                have hcz38_8 : wc.cell? ⟨gb715, 8, none⟩ = some (.int .u64 a0_8) := (blk_cell BK715.out 8).trans rfl
                have hcz38_9 : wc.cell? ⟨gb715, 9, none⟩ = some (.int .u64 a0_9) := (blk_cell BK715.out 9).trans rfl
                have hcz38_10 : wc.cell? ⟨gb715, 10, none⟩ = some (.int .u64 a0_10) := (blk_cell BK715.out 10).trans rfl
                have hcz38_11 : wc.cell? ⟨gb715, 11, none⟩ = some (.int .u64 a0_11) := (blk_cell BK715.out 11).trans rfl
                have hcz38_12 : wc.cell? ⟨gb715, 12, none⟩ = some (.int .u64 a0_12) := (blk_cell BK715.out 12).trans rfl
                have hcz38_13 : wc.cell? ⟨gb715, 13, none⟩ = some (.int .u64 a0_13) := (blk_cell BK715.out 13).trans rfl
                have hcz38_14 : wc.cell? ⟨gb715, 14, none⟩ = some (.int .u64 a0_14) := (blk_cell BK715.out 14).trans rfl
                have hcz38_15 : wc.cell? ⟨gb715, 15, none⟩ = some (.int .u64 a0_15) := (blk_cell BK715.out 15).trans rfl
                have hcz38_16 : wc.cell? ⟨gb715, 16, none⟩ = some (.int .u64 a0_16) := (blk_cell BK715.out 16).trans rfl
                have hcz38_17 : wc.cell? ⟨gb715, 17, none⟩ = some (.int .u64 a0_17) := (blk_cell BK715.out 17).trans rfl
                have hcz38_18 : wc.cell? ⟨gb715, 18, none⟩ = some (.int .u64 a0_18) := (blk_cell BK715.out 18).trans rfl
                have hfz38_0 := blk_frozen BK715.out 0
                have hfz38_1 := blk_frozen BK715.out 1
                have hfz38_2 := blk_frozen BK715.out 2
                have hfz38_3 := blk_frozen BK715.out 3
                have hfz38_4 := blk_frozen BK715.out 4
                have hfz38_5 := blk_frozen BK715.out 5
                have hfz38_6 := blk_frozen BK715.out 6
                have hfz38_7 := blk_frozen BK715.out 7
                have hfz38_8 := blk_frozen BK715.out 8
                have hfz38_9 := blk_frozen BK715.out 9
                have hfz38_10 := blk_frozen BK715.out 10
                have hfz38_11 := blk_frozen BK715.out 11
                have hfz38_12 := blk_frozen BK715.out 12
                have hfz38_13 := blk_frozen BK715.out 13
                have hfz38_14 := blk_frozen BK715.out 14
                have hfz38_15 := blk_frozen BK715.out 15
                have hfz38_16 := blk_frozen BK715.out 16
                have hfz38_17 := blk_frozen BK715.out 17
                have hfz38_18 := blk_frozen BK715.out 18
                go_wp2_with (first | ((with_reducible refine gate_callee (f := 18) rfl ?_); refine gm (some 41) Try.func18 #[.agg #[.int .i64 a0_6, .int .u64 a0_7, .int .u64 a0_8, .int .u64 a0_9, .int .u64 a0_10]] (policy_Valid.calls a0_6 a0_7 a0_8 a0_9 a0_10 true _ A25.out) ?_; intro w39 hb; have n0_ := bb BK715 hb; have n1_ := bb BK726 hb; have n2_ := bs HB hb; clear BK715; clear BK726; clear HB; have BK715 := n0_; have BK726 := n1_; have HB := n2_; clear n0_ n1_ n2_; (try clear hb); (try clear hb2); (try clear hk); (try clear hi); have hcz40_0 : w39.cell? ⟨gb726, 0, none⟩ = some (.int .u64 t717) := (blk_cell BK726.out 0).trans rfl; have hcz40_1 : w39.cell? ⟨gb726, 1, none⟩ = some (.int .u64 t718) := (blk_cell BK726.out 1).trans rfl; have hcz40_2 : w39.cell? ⟨gb726, 2, none⟩ = some (.int .u64 t719) := (blk_cell BK726.out 2).trans rfl; have hcz40_3 : w39.cell? ⟨gb726, 3, none⟩ = some (.bool t720) := (blk_cell BK726.out 3).trans rfl; have hcz40_4 : w39.cell? ⟨gb726, 4, none⟩ = some (.int .u64 t721) := (blk_cell BK726.out 4).trans rfl; have hcz40_5 : w39.cell? ⟨gb726, 5, none⟩ = some (.bool true) := (blk_cell BK726.out 5).trans rfl; have hcz40_6 : w39.cell? ⟨gb726, 6, none⟩ = some (.int .u64 t723) := (blk_cell BK726.out 6).trans rfl; have hcz40_7 : w39.cell? ⟨gb726, 7, none⟩ = some (.int .u64 t724) := (blk_cell BK726.out 7).trans rfl; have hcz40_8 : w39.cell? ⟨gb726, 8, none⟩ = some (.int .u64 t725) := (blk_cell BK726.out 8).trans rfl; have hfz40_0 := blk_frozen BK726.out 0; have hfz40_1 := blk_frozen BK726.out 1; have hfz40_2 := blk_frozen BK726.out 2; have hfz40_3 := blk_frozen BK726.out 3; have hfz40_4 := blk_frozen BK726.out 4; have hfz40_5 := blk_frozen BK726.out 5; have hfz40_6 := blk_frozen BK726.out 6; have hfz40_7 := blk_frozen BK726.out 7; have hfz40_8 := blk_frozen BK726.out 8; have hcz41_0 : w39.cell? ⟨gb715, 0, none⟩ = some (.int .i64 a0_0) := (blk_cell BK715.out 0).trans rfl; have hcz41_1 : w39.cell? ⟨gb715, 1, none⟩ = some (.int .u64 a0_1) := (blk_cell BK715.out 1).trans rfl; have hcz41_2 : w39.cell? ⟨gb715, 2, none⟩ = some (.int .u64 a0_2) := (blk_cell BK715.out 2).trans rfl; have hcz41_3 : w39.cell? ⟨gb715, 3, none⟩ = some (.int .i64 a0_3) := (blk_cell BK715.out 3).trans rfl; have hcz41_4 : w39.cell? ⟨gb715, 4, none⟩ = some (.int .i64 a0_4) := (blk_cell BK715.out 4).trans rfl; have hcz41_5 : w39.cell? ⟨gb715, 5, none⟩ = some (.int .i64 a0_5) := (blk_cell BK715.out 5).trans rfl; have hcz41_6 : w39.cell? ⟨gb715, 6, none⟩ = some (.int .i64 a0_6) := (blk_cell BK715.out 6).trans rfl; have hcz41_7 : w39.cell? ⟨gb715, 7, none⟩ = some (.int .u64 a0_7) := (blk_cell BK715.out 7).trans rfl; have hcz41_8 : w39.cell? ⟨gb715, 8, none⟩ = some (.int .u64 a0_8) := (blk_cell BK715.out 8).trans rfl; have hcz41_9 : w39.cell? ⟨gb715, 9, none⟩ = some (.int .u64 a0_9) := (blk_cell BK715.out 9).trans rfl; have hcz41_10 : w39.cell? ⟨gb715, 10, none⟩ = some (.int .u64 a0_10) := (blk_cell BK715.out 10).trans rfl; have hcz41_11 : w39.cell? ⟨gb715, 11, none⟩ = some (.int .u64 a0_11) := (blk_cell BK715.out 11).trans rfl; have hcz41_12 : w39.cell? ⟨gb715, 12, none⟩ = some (.int .u64 a0_12) := (blk_cell BK715.out 12).trans rfl; have hcz41_13 : w39.cell? ⟨gb715, 13, none⟩ = some (.int .u64 a0_13) := (blk_cell BK715.out 13).trans rfl; have hcz41_14 : w39.cell? ⟨gb715, 14, none⟩ = some (.int .u64 a0_14) := (blk_cell BK715.out 14).trans rfl; have hcz41_15 : w39.cell? ⟨gb715, 15, none⟩ = some (.int .u64 a0_15) := (blk_cell BK715.out 15).trans rfl; have hcz41_16 : w39.cell? ⟨gb715, 16, none⟩ = some (.int .u64 a0_16) := (blk_cell BK715.out 16).trans rfl; have hcz41_17 : w39.cell? ⟨gb715, 17, none⟩ = some (.int .u64 a0_17) := (blk_cell BK715.out 17).trans rfl; have hcz41_18 : w39.cell? ⟨gb715, 18, none⟩ = some (.int .u64 a0_18) := (blk_cell BK715.out 18).trans rfl; have hfz41_0 := blk_frozen BK715.out 0; have hfz41_1 := blk_frozen BK715.out 1; have hfz41_2 := blk_frozen BK715.out 2; have hfz41_3 := blk_frozen BK715.out 3; have hfz41_4 := blk_frozen BK715.out 4; have hfz41_5 := blk_frozen BK715.out 5; have hfz41_6 := blk_frozen BK715.out 6; have hfz41_7 := blk_frozen BK715.out 7; have hfz41_8 := blk_frozen BK715.out 8; have hfz41_9 := blk_frozen BK715.out 9; have hfz41_10 := blk_frozen BK715.out 10; have hfz41_11 := blk_frozen BK715.out 11; have hfz41_12 := blk_frozen BK715.out 12; have hfz41_13 := blk_frozen BK715.out 13; have hfz41_14 := blk_frozen BK715.out 14; have hfz41_15 := blk_frozen BK715.out 15; have hfz41_16 := blk_frozen BK715.out 16; have hfz41_17 := blk_frozen BK715.out 17; have hfz41_18 := blk_frozen BK715.out 18) | ((with_reducible refine gate_callee (f := 27) rfl ?_); refine gm (some 55) Try.func27 #[.agg #[.int .i64 a0_6, .int .u64 a0_7, .int .u64 a0_8, .int .u64 a0_9, .int .u64 a0_10], .agg #[.int .u64 a0_14, .int .u64 a0_15, .int .u64 a0_16], .agg #[.int .u64 t717, .int .u64 t718, .int .u64 t719]] (policy_Covers.calls a0_6 a0_7 a0_8 a0_9 a0_10 a0_14 a0_15 a0_16 t717 t718 t719 false _ A28.out) ?_; intro w42 hb; have n0_ := bb BK715 hb; have n1_ := bb BK726 hb; have n2_ := bs HB hb; clear BK715; clear BK726; clear HB; have BK715 := n0_; have BK726 := n1_; have HB := n2_; clear n0_ n1_ n2_; (try clear hb); (try clear hb2); (try clear hk); (try clear hi); have hcz43_0 : w42.cell? ⟨gb715, 0, none⟩ = some (.int .i64 a0_0) := (blk_cell BK715.out 0).trans rfl; have hcz43_1 : w42.cell? ⟨gb715, 1, none⟩ = some (.int .u64 a0_1) := (blk_cell BK715.out 1).trans rfl; have hcz43_2 : w42.cell? ⟨gb715, 2, none⟩ = some (.int .u64 a0_2) := (blk_cell BK715.out 2).trans rfl; have hcz43_3 : w42.cell? ⟨gb715, 3, none⟩ = some (.int .i64 a0_3) := (blk_cell BK715.out 3).trans rfl; have hcz43_4 : w42.cell? ⟨gb715, 4, none⟩ = some (.int .i64 a0_4) := (blk_cell BK715.out 4).trans rfl; have hcz43_5 : w42.cell? ⟨gb715, 5, none⟩ = some (.int .i64 a0_5) := (blk_cell BK715.out 5).trans rfl; have hcz43_6 : w42.cell? ⟨gb715, 6, none⟩ = some (.int .i64 a0_6) := (blk_cell BK715.out 6).trans rfl; have hcz43_7 : w42.cell? ⟨gb715, 7, none⟩ = some (.int .u64 a0_7) := (blk_cell BK715.out 7).trans rfl; have hcz43_8 : w42.cell? ⟨gb715, 8, none⟩ = some (.int .u64 a0_8) := (blk_cell BK715.out 8).trans rfl; have hcz43_9 : w42.cell? ⟨gb715, 9, none⟩ = some (.int .u64 a0_9) := (blk_cell BK715.out 9).trans rfl; have hcz43_10 : w42.cell? ⟨gb715, 10, none⟩ = some (.int .u64 a0_10) := (blk_cell BK715.out 10).trans rfl; have hcz43_11 : w42.cell? ⟨gb715, 11, none⟩ = some (.int .u64 a0_11) := (blk_cell BK715.out 11).trans rfl; have hcz43_12 : w42.cell? ⟨gb715, 12, none⟩ = some (.int .u64 a0_12) := (blk_cell BK715.out 12).trans rfl; have hcz43_13 : w42.cell? ⟨gb715, 13, none⟩ = some (.int .u64 a0_13) := (blk_cell BK715.out 13).trans rfl; have hcz43_14 : w42.cell? ⟨gb715, 14, none⟩ = some (.int .u64 a0_14) := (blk_cell BK715.out 14).trans rfl; have hcz43_15 : w42.cell? ⟨gb715, 15, none⟩ = some (.int .u64 a0_15) := (blk_cell BK715.out 15).trans rfl; have hcz43_16 : w42.cell? ⟨gb715, 16, none⟩ = some (.int .u64 a0_16) := (blk_cell BK715.out 16).trans rfl; have hcz43_17 : w42.cell? ⟨gb715, 17, none⟩ = some (.int .u64 a0_17) := (blk_cell BK715.out 17).trans rfl; have hcz43_18 : w42.cell? ⟨gb715, 18, none⟩ = some (.int .u64 a0_18) := (blk_cell BK715.out 18).trans rfl; have hfz43_0 := blk_frozen BK715.out 0; have hfz43_1 := blk_frozen BK715.out 1; have hfz43_2 := blk_frozen BK715.out 2; have hfz43_3 := blk_frozen BK715.out 3; have hfz43_4 := blk_frozen BK715.out 4; have hfz43_5 := blk_frozen BK715.out 5; have hfz43_6 := blk_frozen BK715.out 6; have hfz43_7 := blk_frozen BK715.out 7; have hfz43_8 := blk_frozen BK715.out 8; have hfz43_9 := blk_frozen BK715.out 9; have hfz43_10 := blk_frozen BK715.out 10; have hfz43_11 := blk_frozen BK715.out 11; have hfz43_12 := blk_frozen BK715.out 12; have hfz43_13 := blk_frozen BK715.out 13; have hfz43_14 := blk_frozen BK715.out 14; have hfz43_15 := blk_frozen BK715.out 15; have hfz43_16 := blk_frozen BK715.out 16; have hfz43_17 := blk_frozen BK715.out 17; have hfz43_18 := blk_frozen BK715.out 18; have hcz44_0 : w42.cell? ⟨gb726, 0, none⟩ = some (.int .u64 t717) := (blk_cell BK726.out 0).trans rfl; have hcz44_1 : w42.cell? ⟨gb726, 1, none⟩ = some (.int .u64 t718) := (blk_cell BK726.out 1).trans rfl; have hcz44_2 : w42.cell? ⟨gb726, 2, none⟩ = some (.int .u64 t719) := (blk_cell BK726.out 2).trans rfl; have hcz44_3 : w42.cell? ⟨gb726, 3, none⟩ = some (.bool t720) := (blk_cell BK726.out 3).trans rfl; have hcz44_4 : w42.cell? ⟨gb726, 4, none⟩ = some (.int .u64 t721) := (blk_cell BK726.out 4).trans rfl; have hcz44_5 : w42.cell? ⟨gb726, 5, none⟩ = some (.bool true) := (blk_cell BK726.out 5).trans rfl; have hcz44_6 : w42.cell? ⟨gb726, 6, none⟩ = some (.int .u64 t723) := (blk_cell BK726.out 6).trans rfl; have hcz44_7 : w42.cell? ⟨gb726, 7, none⟩ = some (.int .u64 t724) := (blk_cell BK726.out 7).trans rfl; have hcz44_8 : w42.cell? ⟨gb726, 8, none⟩ = some (.int .u64 t725) := (blk_cell BK726.out 8).trans rfl; have hfz44_0 := blk_frozen BK726.out 0; have hfz44_1 := blk_frozen BK726.out 1; have hfz44_2 := blk_frozen BK726.out 2; have hfz44_3 := blk_frozen BK726.out 3; have hfz44_4 := blk_frozen BK726.out 4; have hfz44_5 := blk_frozen BK726.out 5; have hfz44_6 := blk_frozen BK726.out 6; have hfz44_7 := blk_frozen BK726.out 7; have hfz44_8 := blk_frozen BK726.out 8) | (go_at_call 31; (with_reducible refine (reserve_Within.calls a0_1 a0_2 a0_3 a0_4 a0_5 a0_6 a0_7 a0_8 a0_9 a0_10 t717 t718 t719 t723 t724 t725 t729 _ A36.out).mono ?_); rintro e w45 ⟨rfl, hb⟩; have n0_ := bb BK715 hb; have n1_ := bb BK726 hb; have n2_ := bs HB hb; clear BK715; clear BK726; clear HB; have BK715 := n0_; have BK726 := n1_; have HB := n2_; clear n0_ n1_ n2_; (try clear hb); (try clear hb2); (try clear hk); (try clear hi)))
                go_ret
                exact ⟨re, bw HB⟩
            · replace c27 := Bool.eq_false_iff.mpr c27
              subst c27
              have H1 : ((policy_Covers.f a0_6 a0_7 a0_8 a0_9 a0_10 a0_14 a0_15 a0_16 t723 t724 t725).bind fun t730 => (if t730 = true then ((policy_Covers.f a0_6 a0_7 a0_8 a0_9 a0_10 t723 t724 t725 a0_14 a0_15 a0_16).bind fun t731 => (if t731 = true then ((policy_Covers.f a0_6 a0_7 a0_8 a0_9 a0_10 a0_14 a0_15 a0_16 a0_11 a0_12 a0_13).bind fun t732 => (if t732 = true then ((policy_Covers.f a0_6 a0_7 a0_8 a0_9 a0_10 t723 t724 t725 t717 t718 t719).bind fun t733 => (some t733)) else (some true))) else (some false))) else (some false))) = some r := by rw [if_neg (show ¬ (false = true) by decide)] at H; exact H
              clear H
              have H := H1
              clear H1
              replace H := Option.bind_eq_some_iff.mp H
              obtain ⟨t730, A460, H⟩ := H
              replace H : (if t730 = true then ((policy_Covers.f a0_6 a0_7 a0_8 a0_9 a0_10 t723 t724 t725 a0_14 a0_15 a0_16).bind fun t731 => (if t731 = true then ((policy_Covers.f a0_6 a0_7 a0_8 a0_9 a0_10 a0_14 a0_15 a0_16 a0_11 a0_12 a0_13).bind fun t732 => (if t732 = true then ((policy_Covers.f a0_6 a0_7 a0_8 a0_9 a0_10 t723 t724 t725 t717 t718 t719).bind fun t733 => (some t733)) else (some true))) else (some false))) else (some false)) = some r := H
              have A46 := Aside0.mk A460
              clear A460
              by_cases c47 : t730 = true
              · subst c47
                have H1 : ((policy_Covers.f a0_6 a0_7 a0_8 a0_9 a0_10 t723 t724 t725 a0_14 a0_15 a0_16).bind fun t731 => (if t731 = true then ((policy_Covers.f a0_6 a0_7 a0_8 a0_9 a0_10 a0_14 a0_15 a0_16 a0_11 a0_12 a0_13).bind fun t732 => (if t732 = true then ((policy_Covers.f a0_6 a0_7 a0_8 a0_9 a0_10 t723 t724 t725 t717 t718 t719).bind fun t733 => (some t733)) else (some true))) else (some false))) = some r := by rw [if_pos rfl] at H; exact H
                clear H
                have H := H1
                clear H1
                replace H := Option.bind_eq_some_iff.mp H
                obtain ⟨t731, A480, H⟩ := H
                replace H : (if t731 = true then ((policy_Covers.f a0_6 a0_7 a0_8 a0_9 a0_10 a0_14 a0_15 a0_16 a0_11 a0_12 a0_13).bind fun t732 => (if t732 = true then ((policy_Covers.f a0_6 a0_7 a0_8 a0_9 a0_10 t723 t724 t725 t717 t718 t719).bind fun t733 => (some t733)) else (some true))) else (some false)) = some r := H
                have A48 := Aside0.mk A480
                clear A480
                by_cases c49 : t731 = true
                · subst c49
                  have H1 : ((policy_Covers.f a0_6 a0_7 a0_8 a0_9 a0_10 a0_14 a0_15 a0_16 a0_11 a0_12 a0_13).bind fun t732 => (if t732 = true then ((policy_Covers.f a0_6 a0_7 a0_8 a0_9 a0_10 t723 t724 t725 t717 t718 t719).bind fun t733 => (some t733)) else (some true))) = some r := by rw [if_pos rfl] at H; exact H
                  clear H
                  have H := H1
                  clear H1
                  replace H := Option.bind_eq_some_iff.mp H
                  obtain ⟨t732, A500, H⟩ := H
                  replace H : (if t732 = true then ((policy_Covers.f a0_6 a0_7 a0_8 a0_9 a0_10 t723 t724 t725 t717 t718 t719).bind fun t733 => (some t733)) else (some true)) = some r := H
                  have A50 := Aside0.mk A500
                  clear A500
                  by_cases c51 : t732 = true
                  · subst c51
                    have H1 : ((policy_Covers.f a0_6 a0_7 a0_8 a0_9 a0_10 t723 t724 t725 t717 t718 t719).bind fun t733 => (some t733)) = some r := by rw [if_pos rfl] at H; exact H
                    clear H
                    have H := H1
                    clear H1
                    replace H := Option.bind_eq_some_iff.mp H
                    obtain ⟨t733, A520, H⟩ := H
                    replace H : (some t733) = some r := H
                    have A52 := Aside0.mk A520
                    clear A520
                    obtain rfl := Option.some.inj H
                    have hnb53 := NB715_726.out
                    have hnc53 := NB726_715.out
                    have hcz54_0 : wc.cell? ⟨gb715, 0, none⟩ = some (.int .i64 a0_0) := (blk_cell BK715.out 0).trans rfl
                    have hcz54_1 : wc.cell? ⟨gb715, 1, none⟩ = some (.int .u64 a0_1) := (blk_cell BK715.out 1).trans rfl
                    have hcz54_2 : wc.cell? ⟨gb715, 2, none⟩ = some (.int .u64 a0_2) := (blk_cell BK715.out 2).trans rfl
                    have hcz54_3 : wc.cell? ⟨gb715, 3, none⟩ = some (.int .i64 a0_3) := (blk_cell BK715.out 3).trans rfl
                    have hcz54_4 : wc.cell? ⟨gb715, 4, none⟩ = some (.int .i64 a0_4) := (blk_cell BK715.out 4).trans rfl
                    have hcz54_5 : wc.cell? ⟨gb715, 5, none⟩ = some (.int .i64 a0_5) := (blk_cell BK715.out 5).trans rfl
                    have hcz54_6 : wc.cell? ⟨gb715, 6, none⟩ = some (.int .i64 a0_6) := (blk_cell BK715.out 6).trans rfl
                    have hcz54_7 : wc.cell? ⟨gb715, 7, none⟩ = some (.int .u64 a0_7) := (blk_cell BK715.out 7).trans rfl
                    have hcz54_8 : wc.cell? ⟨gb715, 8, none⟩ = some (.int .u64 a0_8) := (blk_cell BK715.out 8).trans rfl
                    have hcz54_9 : wc.cell? ⟨gb715, 9, none⟩ = some (.int .u64 a0_9) := (blk_cell BK715.out 9).trans rfl
                    have hcz54_10 : wc.cell? ⟨gb715, 10, none⟩ = some (.int .u64 a0_10) := (blk_cell BK715.out 10).trans rfl
                    have hcz54_11 : wc.cell? ⟨gb715, 11, none⟩ = some (.int .u64 a0_11) := (blk_cell BK715.out 11).trans rfl
                    have hcz54_12 : wc.cell? ⟨gb715, 12, none⟩ = some (.int .u64 a0_12) := (blk_cell BK715.out 12).trans rfl
                    have hcz54_13 : wc.cell? ⟨gb715, 13, none⟩ = some (.int .u64 a0_13) := (blk_cell BK715.out 13).trans rfl
                    have hcz54_14 : wc.cell? ⟨gb715, 14, none⟩ = some (.int .u64 a0_14) := (blk_cell BK715.out 14).trans rfl
                    have hcz54_15 : wc.cell? ⟨gb715, 15, none⟩ = some (.int .u64 a0_15) := (blk_cell BK715.out 15).trans rfl
                    have hcz54_16 : wc.cell? ⟨gb715, 16, none⟩ = some (.int .u64 a0_16) := (blk_cell BK715.out 16).trans rfl
                    have hcz54_17 : wc.cell? ⟨gb715, 17, none⟩ = some (.int .u64 a0_17) := (blk_cell BK715.out 17).trans rfl
                    have hcz54_18 : wc.cell? ⟨gb715, 18, none⟩ = some (.int .u64 a0_18) := (blk_cell BK715.out 18).trans rfl
                    have hfz54_0 := blk_frozen BK715.out 0
                    have hfz54_1 := blk_frozen BK715.out 1
                    have hfz54_2 := blk_frozen BK715.out 2
                    have hfz54_3 := blk_frozen BK715.out 3
                    have hfz54_4 := blk_frozen BK715.out 4
                    have hfz54_5 := blk_frozen BK715.out 5
                    have hfz54_6 := blk_frozen BK715.out 6
                    have hfz54_7 := blk_frozen BK715.out 7
                    have hfz54_8 := blk_frozen BK715.out 8
                    have hfz54_9 := blk_frozen BK715.out 9
                    have hfz54_10 := blk_frozen BK715.out 10
                    have hfz54_11 := blk_frozen BK715.out 11
                    have hfz54_12 := blk_frozen BK715.out 12
                    have hfz54_13 := blk_frozen BK715.out 13
                    have hfz54_14 := blk_frozen BK715.out 14
                    have hfz54_15 := blk_frozen BK715.out 15
                    have hfz54_16 := blk_frozen BK715.out 16
                    have hfz54_17 := blk_frozen BK715.out 17
                    have hfz54_18 := blk_frozen BK715.out 18
                    go_wp2_with (first | ((with_reducible refine gate_callee (f := 18) rfl ?_); refine gm (some 41) Try.func18 #[.agg #[.int .i64 a0_6, .int .u64 a0_7, .int .u64 a0_8, .int .u64 a0_9, .int .u64 a0_10]] (policy_Valid.calls a0_6 a0_7 a0_8 a0_9 a0_10 true _ A25.out) ?_; intro w55 hb; have n0_ := bb BK715 hb; have n1_ := bb BK726 hb; have n2_ := bs HB hb; clear BK715; clear BK726; clear HB; have BK715 := n0_; have BK726 := n1_; have HB := n2_; clear n0_ n1_ n2_; (try clear hb); (try clear hb2); (try clear hk); (try clear hi); have hcz56_0 : w55.cell? ⟨gb726, 0, none⟩ = some (.int .u64 t717) := (blk_cell BK726.out 0).trans rfl; have hcz56_1 : w55.cell? ⟨gb726, 1, none⟩ = some (.int .u64 t718) := (blk_cell BK726.out 1).trans rfl; have hcz56_2 : w55.cell? ⟨gb726, 2, none⟩ = some (.int .u64 t719) := (blk_cell BK726.out 2).trans rfl; have hcz56_3 : w55.cell? ⟨gb726, 3, none⟩ = some (.bool t720) := (blk_cell BK726.out 3).trans rfl; have hcz56_4 : w55.cell? ⟨gb726, 4, none⟩ = some (.int .u64 t721) := (blk_cell BK726.out 4).trans rfl; have hcz56_5 : w55.cell? ⟨gb726, 5, none⟩ = some (.bool false) := (blk_cell BK726.out 5).trans rfl; have hcz56_6 : w55.cell? ⟨gb726, 6, none⟩ = some (.int .u64 t723) := (blk_cell BK726.out 6).trans rfl; have hcz56_7 : w55.cell? ⟨gb726, 7, none⟩ = some (.int .u64 t724) := (blk_cell BK726.out 7).trans rfl; have hcz56_8 : w55.cell? ⟨gb726, 8, none⟩ = some (.int .u64 t725) := (blk_cell BK726.out 8).trans rfl; have hfz56_0 := blk_frozen BK726.out 0; have hfz56_1 := blk_frozen BK726.out 1; have hfz56_2 := blk_frozen BK726.out 2; have hfz56_3 := blk_frozen BK726.out 3; have hfz56_4 := blk_frozen BK726.out 4; have hfz56_5 := blk_frozen BK726.out 5; have hfz56_6 := blk_frozen BK726.out 6; have hfz56_7 := blk_frozen BK726.out 7; have hfz56_8 := blk_frozen BK726.out 8; have hcz57_0 : w55.cell? ⟨gb715, 0, none⟩ = some (.int .i64 a0_0) := (blk_cell BK715.out 0).trans rfl; have hcz57_1 : w55.cell? ⟨gb715, 1, none⟩ = some (.int .u64 a0_1) := (blk_cell BK715.out 1).trans rfl; have hcz57_2 : w55.cell? ⟨gb715, 2, none⟩ = some (.int .u64 a0_2) := (blk_cell BK715.out 2).trans rfl; have hcz57_3 : w55.cell? ⟨gb715, 3, none⟩ = some (.int .i64 a0_3) := (blk_cell BK715.out 3).trans rfl; have hcz57_4 : w55.cell? ⟨gb715, 4, none⟩ = some (.int .i64 a0_4) := (blk_cell BK715.out 4).trans rfl; have hcz57_5 : w55.cell? ⟨gb715, 5, none⟩ = some (.int .i64 a0_5) := (blk_cell BK715.out 5).trans rfl; have hcz57_6 : w55.cell? ⟨gb715, 6, none⟩ = some (.int .i64 a0_6) := (blk_cell BK715.out 6).trans rfl; have hcz57_7 : w55.cell? ⟨gb715, 7, none⟩ = some (.int .u64 a0_7) := (blk_cell BK715.out 7).trans rfl; have hcz57_8 : w55.cell? ⟨gb715, 8, none⟩ = some (.int .u64 a0_8) := (blk_cell BK715.out 8).trans rfl; have hcz57_9 : w55.cell? ⟨gb715, 9, none⟩ = some (.int .u64 a0_9) := (blk_cell BK715.out 9).trans rfl; have hcz57_10 : w55.cell? ⟨gb715, 10, none⟩ = some (.int .u64 a0_10) := (blk_cell BK715.out 10).trans rfl; have hcz57_11 : w55.cell? ⟨gb715, 11, none⟩ = some (.int .u64 a0_11) := (blk_cell BK715.out 11).trans rfl; have hcz57_12 : w55.cell? ⟨gb715, 12, none⟩ = some (.int .u64 a0_12) := (blk_cell BK715.out 12).trans rfl; have hcz57_13 : w55.cell? ⟨gb715, 13, none⟩ = some (.int .u64 a0_13) := (blk_cell BK715.out 13).trans rfl; have hcz57_14 : w55.cell? ⟨gb715, 14, none⟩ = some (.int .u64 a0_14) := (blk_cell BK715.out 14).trans rfl; have hcz57_15 : w55.cell? ⟨gb715, 15, none⟩ = some (.int .u64 a0_15) := (blk_cell BK715.out 15).trans rfl; have hcz57_16 : w55.cell? ⟨gb715, 16, none⟩ = some (.int .u64 a0_16) := (blk_cell BK715.out 16).trans rfl; have hcz57_17 : w55.cell? ⟨gb715, 17, none⟩ = some (.int .u64 a0_17) := (blk_cell BK715.out 17).trans rfl; have hcz57_18 : w55.cell? ⟨gb715, 18, none⟩ = some (.int .u64 a0_18) := (blk_cell BK715.out 18).trans rfl; have hfz57_0 := blk_frozen BK715.out 0; have hfz57_1 := blk_frozen BK715.out 1; have hfz57_2 := blk_frozen BK715.out 2; have hfz57_3 := blk_frozen BK715.out 3; have hfz57_4 := blk_frozen BK715.out 4; have hfz57_5 := blk_frozen BK715.out 5; have hfz57_6 := blk_frozen BK715.out 6; have hfz57_7 := blk_frozen BK715.out 7; have hfz57_8 := blk_frozen BK715.out 8; have hfz57_9 := blk_frozen BK715.out 9; have hfz57_10 := blk_frozen BK715.out 10; have hfz57_11 := blk_frozen BK715.out 11; have hfz57_12 := blk_frozen BK715.out 12; have hfz57_13 := blk_frozen BK715.out 13; have hfz57_14 := blk_frozen BK715.out 14; have hfz57_15 := blk_frozen BK715.out 15; have hfz57_16 := blk_frozen BK715.out 16; have hfz57_17 := blk_frozen BK715.out 17; have hfz57_18 := blk_frozen BK715.out 18) | ((with_reducible refine gate_callee (f := 27) rfl ?_); refine gm (some 74) Try.func27 #[.agg #[.int .i64 a0_6, .int .u64 a0_7, .int .u64 a0_8, .int .u64 a0_9, .int .u64 a0_10], .agg #[.int .u64 a0_14, .int .u64 a0_15, .int .u64 a0_16], .agg #[.int .u64 t723, .int .u64 t724, .int .u64 t725]] (policy_Covers.calls a0_6 a0_7 a0_8 a0_9 a0_10 a0_14 a0_15 a0_16 t723 t724 t725 true _ A46.out) ?_; intro w58 hb; have n0_ := bb BK715 hb; have n1_ := bb BK726 hb; have n2_ := bs HB hb; clear BK715; clear BK726; clear HB; have BK715 := n0_; have BK726 := n1_; have HB := n2_; clear n0_ n1_ n2_; (try clear hb); (try clear hb2); (try clear hk); (try clear hi); have hcz59_0 : w58.cell? ⟨gb715, 0, none⟩ = some (.int .i64 a0_0) := (blk_cell BK715.out 0).trans rfl; have hcz59_1 : w58.cell? ⟨gb715, 1, none⟩ = some (.int .u64 a0_1) := (blk_cell BK715.out 1).trans rfl; have hcz59_2 : w58.cell? ⟨gb715, 2, none⟩ = some (.int .u64 a0_2) := (blk_cell BK715.out 2).trans rfl; have hcz59_3 : w58.cell? ⟨gb715, 3, none⟩ = some (.int .i64 a0_3) := (blk_cell BK715.out 3).trans rfl; have hcz59_4 : w58.cell? ⟨gb715, 4, none⟩ = some (.int .i64 a0_4) := (blk_cell BK715.out 4).trans rfl; have hcz59_5 : w58.cell? ⟨gb715, 5, none⟩ = some (.int .i64 a0_5) := (blk_cell BK715.out 5).trans rfl; have hcz59_6 : w58.cell? ⟨gb715, 6, none⟩ = some (.int .i64 a0_6) := (blk_cell BK715.out 6).trans rfl; have hcz59_7 : w58.cell? ⟨gb715, 7, none⟩ = some (.int .u64 a0_7) := (blk_cell BK715.out 7).trans rfl; have hcz59_8 : w58.cell? ⟨gb715, 8, none⟩ = some (.int .u64 a0_8) := (blk_cell BK715.out 8).trans rfl; have hcz59_9 : w58.cell? ⟨gb715, 9, none⟩ = some (.int .u64 a0_9) := (blk_cell BK715.out 9).trans rfl; have hcz59_10 : w58.cell? ⟨gb715, 10, none⟩ = some (.int .u64 a0_10) := (blk_cell BK715.out 10).trans rfl; have hcz59_11 : w58.cell? ⟨gb715, 11, none⟩ = some (.int .u64 a0_11) := (blk_cell BK715.out 11).trans rfl; have hcz59_12 : w58.cell? ⟨gb715, 12, none⟩ = some (.int .u64 a0_12) := (blk_cell BK715.out 12).trans rfl; have hcz59_13 : w58.cell? ⟨gb715, 13, none⟩ = some (.int .u64 a0_13) := (blk_cell BK715.out 13).trans rfl; have hcz59_14 : w58.cell? ⟨gb715, 14, none⟩ = some (.int .u64 a0_14) := (blk_cell BK715.out 14).trans rfl; have hcz59_15 : w58.cell? ⟨gb715, 15, none⟩ = some (.int .u64 a0_15) := (blk_cell BK715.out 15).trans rfl; have hcz59_16 : w58.cell? ⟨gb715, 16, none⟩ = some (.int .u64 a0_16) := (blk_cell BK715.out 16).trans rfl; have hcz59_17 : w58.cell? ⟨gb715, 17, none⟩ = some (.int .u64 a0_17) := (blk_cell BK715.out 17).trans rfl; have hcz59_18 : w58.cell? ⟨gb715, 18, none⟩ = some (.int .u64 a0_18) := (blk_cell BK715.out 18).trans rfl; have hfz59_0 := blk_frozen BK715.out 0; have hfz59_1 := blk_frozen BK715.out 1; have hfz59_2 := blk_frozen BK715.out 2; have hfz59_3 := blk_frozen BK715.out 3; have hfz59_4 := blk_frozen BK715.out 4; have hfz59_5 := blk_frozen BK715.out 5; have hfz59_6 := blk_frozen BK715.out 6; have hfz59_7 := blk_frozen BK715.out 7; have hfz59_8 := blk_frozen BK715.out 8; have hfz59_9 := blk_frozen BK715.out 9; have hfz59_10 := blk_frozen BK715.out 10; have hfz59_11 := blk_frozen BK715.out 11; have hfz59_12 := blk_frozen BK715.out 12; have hfz59_13 := blk_frozen BK715.out 13; have hfz59_14 := blk_frozen BK715.out 14; have hfz59_15 := blk_frozen BK715.out 15; have hfz59_16 := blk_frozen BK715.out 16; have hfz59_17 := blk_frozen BK715.out 17; have hfz59_18 := blk_frozen BK715.out 18; have hcz60_0 : w58.cell? ⟨gb726, 0, none⟩ = some (.int .u64 t717) := (blk_cell BK726.out 0).trans rfl; have hcz60_1 : w58.cell? ⟨gb726, 1, none⟩ = some (.int .u64 t718) := (blk_cell BK726.out 1).trans rfl; have hcz60_2 : w58.cell? ⟨gb726, 2, none⟩ = some (.int .u64 t719) := (blk_cell BK726.out 2).trans rfl; have hcz60_3 : w58.cell? ⟨gb726, 3, none⟩ = some (.bool t720) := (blk_cell BK726.out 3).trans rfl; have hcz60_4 : w58.cell? ⟨gb726, 4, none⟩ = some (.int .u64 t721) := (blk_cell BK726.out 4).trans rfl; have hcz60_5 : w58.cell? ⟨gb726, 5, none⟩ = some (.bool false) := (blk_cell BK726.out 5).trans rfl; have hcz60_6 : w58.cell? ⟨gb726, 6, none⟩ = some (.int .u64 t723) := (blk_cell BK726.out 6).trans rfl; have hcz60_7 : w58.cell? ⟨gb726, 7, none⟩ = some (.int .u64 t724) := (blk_cell BK726.out 7).trans rfl; have hcz60_8 : w58.cell? ⟨gb726, 8, none⟩ = some (.int .u64 t725) := (blk_cell BK726.out 8).trans rfl; have hfz60_0 := blk_frozen BK726.out 0; have hfz60_1 := blk_frozen BK726.out 1; have hfz60_2 := blk_frozen BK726.out 2; have hfz60_3 := blk_frozen BK726.out 3; have hfz60_4 := blk_frozen BK726.out 4; have hfz60_5 := blk_frozen BK726.out 5; have hfz60_6 := blk_frozen BK726.out 6; have hfz60_7 := blk_frozen BK726.out 7; have hfz60_8 := blk_frozen BK726.out 8) | (go_at_call 27; (with_reducible refine (policy_Covers.calls a0_6 a0_7 a0_8 a0_9 a0_10 t723 t724 t725 a0_14 a0_15 a0_16 true _ A48.out).mono ?_); rintro e w61 ⟨rfl, hb⟩; have n0_ := bb BK715 hb; have n1_ := bb BK726 hb; have n2_ := bs HB hb; clear BK715; clear BK726; clear HB; have BK715 := n0_; have BK726 := n1_; have HB := n2_; clear n0_ n1_ n2_; (try clear hb); (try clear hb2); (try clear hk); (try clear hi); have hcz62_0 : w61.cell? ⟨gb715, 0, none⟩ = some (.int .i64 a0_0) := (blk_cell BK715.out 0).trans rfl; have hcz62_1 : w61.cell? ⟨gb715, 1, none⟩ = some (.int .u64 a0_1) := (blk_cell BK715.out 1).trans rfl; have hcz62_2 : w61.cell? ⟨gb715, 2, none⟩ = some (.int .u64 a0_2) := (blk_cell BK715.out 2).trans rfl; have hcz62_3 : w61.cell? ⟨gb715, 3, none⟩ = some (.int .i64 a0_3) := (blk_cell BK715.out 3).trans rfl; have hcz62_4 : w61.cell? ⟨gb715, 4, none⟩ = some (.int .i64 a0_4) := (blk_cell BK715.out 4).trans rfl; have hcz62_5 : w61.cell? ⟨gb715, 5, none⟩ = some (.int .i64 a0_5) := (blk_cell BK715.out 5).trans rfl; have hcz62_6 : w61.cell? ⟨gb715, 6, none⟩ = some (.int .i64 a0_6) := (blk_cell BK715.out 6).trans rfl; have hcz62_7 : w61.cell? ⟨gb715, 7, none⟩ = some (.int .u64 a0_7) := (blk_cell BK715.out 7).trans rfl; have hcz62_8 : w61.cell? ⟨gb715, 8, none⟩ = some (.int .u64 a0_8) := (blk_cell BK715.out 8).trans rfl; have hcz62_9 : w61.cell? ⟨gb715, 9, none⟩ = some (.int .u64 a0_9) := (blk_cell BK715.out 9).trans rfl; have hcz62_10 : w61.cell? ⟨gb715, 10, none⟩ = some (.int .u64 a0_10) := (blk_cell BK715.out 10).trans rfl; have hcz62_11 : w61.cell? ⟨gb715, 11, none⟩ = some (.int .u64 a0_11) := (blk_cell BK715.out 11).trans rfl; have hcz62_12 : w61.cell? ⟨gb715, 12, none⟩ = some (.int .u64 a0_12) := (blk_cell BK715.out 12).trans rfl; have hcz62_13 : w61.cell? ⟨gb715, 13, none⟩ = some (.int .u64 a0_13) := (blk_cell BK715.out 13).trans rfl; have hcz62_14 : w61.cell? ⟨gb715, 14, none⟩ = some (.int .u64 a0_14) := (blk_cell BK715.out 14).trans rfl; have hcz62_15 : w61.cell? ⟨gb715, 15, none⟩ = some (.int .u64 a0_15) := (blk_cell BK715.out 15).trans rfl; have hcz62_16 : w61.cell? ⟨gb715, 16, none⟩ = some (.int .u64 a0_16) := (blk_cell BK715.out 16).trans rfl; have hcz62_17 : w61.cell? ⟨gb715, 17, none⟩ = some (.int .u64 a0_17) := (blk_cell BK715.out 17).trans rfl; have hcz62_18 : w61.cell? ⟨gb715, 18, none⟩ = some (.int .u64 a0_18) := (blk_cell BK715.out 18).trans rfl; have hfz62_0 := blk_frozen BK715.out 0; have hfz62_1 := blk_frozen BK715.out 1; have hfz62_2 := blk_frozen BK715.out 2; have hfz62_3 := blk_frozen BK715.out 3; have hfz62_4 := blk_frozen BK715.out 4; have hfz62_5 := blk_frozen BK715.out 5; have hfz62_6 := blk_frozen BK715.out 6; have hfz62_7 := blk_frozen BK715.out 7; have hfz62_8 := blk_frozen BK715.out 8; have hfz62_9 := blk_frozen BK715.out 9; have hfz62_10 := blk_frozen BK715.out 10; have hfz62_11 := blk_frozen BK715.out 11; have hfz62_12 := blk_frozen BK715.out 12; have hfz62_13 := blk_frozen BK715.out 13; have hfz62_14 := blk_frozen BK715.out 14; have hfz62_15 := blk_frozen BK715.out 15; have hfz62_16 := blk_frozen BK715.out 16; have hfz62_17 := blk_frozen BK715.out 17; have hfz62_18 := blk_frozen BK715.out 18) | (go_at_call 27; (with_reducible refine (policy_Covers.calls a0_6 a0_7 a0_8 a0_9 a0_10 a0_14 a0_15 a0_16 a0_11 a0_12 a0_13 true _ A50.out).mono ?_); rintro e w63 ⟨rfl, hb⟩; have n0_ := bb BK715 hb; have n1_ := bb BK726 hb; have n2_ := bs HB hb; clear BK715; clear BK726; clear HB; have BK715 := n0_; have BK726 := n1_; have HB := n2_; clear n0_ n1_ n2_; (try clear hb); (try clear hb2); (try clear hk); (try clear hi); have hcz64_0 : w63.cell? ⟨gb715, 0, none⟩ = some (.int .i64 a0_0) := (blk_cell BK715.out 0).trans rfl; have hcz64_1 : w63.cell? ⟨gb715, 1, none⟩ = some (.int .u64 a0_1) := (blk_cell BK715.out 1).trans rfl; have hcz64_2 : w63.cell? ⟨gb715, 2, none⟩ = some (.int .u64 a0_2) := (blk_cell BK715.out 2).trans rfl; have hcz64_3 : w63.cell? ⟨gb715, 3, none⟩ = some (.int .i64 a0_3) := (blk_cell BK715.out 3).trans rfl; have hcz64_4 : w63.cell? ⟨gb715, 4, none⟩ = some (.int .i64 a0_4) := (blk_cell BK715.out 4).trans rfl; have hcz64_5 : w63.cell? ⟨gb715, 5, none⟩ = some (.int .i64 a0_5) := (blk_cell BK715.out 5).trans rfl; have hcz64_6 : w63.cell? ⟨gb715, 6, none⟩ = some (.int .i64 a0_6) := (blk_cell BK715.out 6).trans rfl; have hcz64_7 : w63.cell? ⟨gb715, 7, none⟩ = some (.int .u64 a0_7) := (blk_cell BK715.out 7).trans rfl; have hcz64_8 : w63.cell? ⟨gb715, 8, none⟩ = some (.int .u64 a0_8) := (blk_cell BK715.out 8).trans rfl; have hcz64_9 : w63.cell? ⟨gb715, 9, none⟩ = some (.int .u64 a0_9) := (blk_cell BK715.out 9).trans rfl; have hcz64_10 : w63.cell? ⟨gb715, 10, none⟩ = some (.int .u64 a0_10) := (blk_cell BK715.out 10).trans rfl; have hcz64_11 : w63.cell? ⟨gb715, 11, none⟩ = some (.int .u64 a0_11) := (blk_cell BK715.out 11).trans rfl; have hcz64_12 : w63.cell? ⟨gb715, 12, none⟩ = some (.int .u64 a0_12) := (blk_cell BK715.out 12).trans rfl; have hcz64_13 : w63.cell? ⟨gb715, 13, none⟩ = some (.int .u64 a0_13) := (blk_cell BK715.out 13).trans rfl; have hcz64_14 : w63.cell? ⟨gb715, 14, none⟩ = some (.int .u64 a0_14) := (blk_cell BK715.out 14).trans rfl; have hcz64_15 : w63.cell? ⟨gb715, 15, none⟩ = some (.int .u64 a0_15) := (blk_cell BK715.out 15).trans rfl; have hcz64_16 : w63.cell? ⟨gb715, 16, none⟩ = some (.int .u64 a0_16) := (blk_cell BK715.out 16).trans rfl; have hcz64_17 : w63.cell? ⟨gb715, 17, none⟩ = some (.int .u64 a0_17) := (blk_cell BK715.out 17).trans rfl; have hcz64_18 : w63.cell? ⟨gb715, 18, none⟩ = some (.int .u64 a0_18) := (blk_cell BK715.out 18).trans rfl; have hfz64_0 := blk_frozen BK715.out 0; have hfz64_1 := blk_frozen BK715.out 1; have hfz64_2 := blk_frozen BK715.out 2; have hfz64_3 := blk_frozen BK715.out 3; have hfz64_4 := blk_frozen BK715.out 4; have hfz64_5 := blk_frozen BK715.out 5; have hfz64_6 := blk_frozen BK715.out 6; have hfz64_7 := blk_frozen BK715.out 7; have hfz64_8 := blk_frozen BK715.out 8; have hfz64_9 := blk_frozen BK715.out 9; have hfz64_10 := blk_frozen BK715.out 10; have hfz64_11 := blk_frozen BK715.out 11; have hfz64_12 := blk_frozen BK715.out 12; have hfz64_13 := blk_frozen BK715.out 13; have hfz64_14 := blk_frozen BK715.out 14; have hfz64_15 := blk_frozen BK715.out 15; have hfz64_16 := blk_frozen BK715.out 16; have hfz64_17 := blk_frozen BK715.out 17; have hfz64_18 := blk_frozen BK715.out 18; have hcz65_0 : w63.cell? ⟨gb726, 0, none⟩ = some (.int .u64 t717) := (blk_cell BK726.out 0).trans rfl; have hcz65_1 : w63.cell? ⟨gb726, 1, none⟩ = some (.int .u64 t718) := (blk_cell BK726.out 1).trans rfl; have hcz65_2 : w63.cell? ⟨gb726, 2, none⟩ = some (.int .u64 t719) := (blk_cell BK726.out 2).trans rfl; have hcz65_3 : w63.cell? ⟨gb726, 3, none⟩ = some (.bool t720) := (blk_cell BK726.out 3).trans rfl; have hcz65_4 : w63.cell? ⟨gb726, 4, none⟩ = some (.int .u64 t721) := (blk_cell BK726.out 4).trans rfl; have hcz65_5 : w63.cell? ⟨gb726, 5, none⟩ = some (.bool false) := (blk_cell BK726.out 5).trans rfl; have hcz65_6 : w63.cell? ⟨gb726, 6, none⟩ = some (.int .u64 t723) := (blk_cell BK726.out 6).trans rfl; have hcz65_7 : w63.cell? ⟨gb726, 7, none⟩ = some (.int .u64 t724) := (blk_cell BK726.out 7).trans rfl; have hcz65_8 : w63.cell? ⟨gb726, 8, none⟩ = some (.int .u64 t725) := (blk_cell BK726.out 8).trans rfl; have hfz65_0 := blk_frozen BK726.out 0; have hfz65_1 := blk_frozen BK726.out 1; have hfz65_2 := blk_frozen BK726.out 2; have hfz65_3 := blk_frozen BK726.out 3; have hfz65_4 := blk_frozen BK726.out 4; have hfz65_5 := blk_frozen BK726.out 5; have hfz65_6 := blk_frozen BK726.out 6; have hfz65_7 := blk_frozen BK726.out 7; have hfz65_8 := blk_frozen BK726.out 8) | (go_at_call 27; (with_reducible refine (policy_Covers.calls a0_6 a0_7 a0_8 a0_9 a0_10 t723 t724 t725 t717 t718 t719 t733 _ A52.out).mono ?_); rintro e w66 ⟨rfl, hb⟩; have n0_ := bb BK715 hb; have n1_ := bb BK726 hb; have n2_ := bs HB hb; clear BK715; clear BK726; clear HB; have BK715 := n0_; have BK726 := n1_; have HB := n2_; clear n0_ n1_ n2_; (try clear hb); (try clear hb2); (try clear hk); (try clear hi)))
                    go_ret
                    exact ⟨re, bw HB⟩
                  · replace c51 := Bool.eq_false_iff.mpr c51
                    subst c51
                    have H1 : (some true) = some r := by rw [if_neg (show ¬ (false = true) by decide)] at H; exact H
                    clear H
                    have H := H1
                    clear H1
                    obtain rfl := Option.some.inj H
                    have hnb67 := NB715_726.out
                    have hnc67 := NB726_715.out
                    have hcz68_0 : wc.cell? ⟨gb715, 0, none⟩ = some (.int .i64 a0_0) := (blk_cell BK715.out 0).trans rfl
                    have hcz68_1 : wc.cell? ⟨gb715, 1, none⟩ = some (.int .u64 a0_1) := (blk_cell BK715.out 1).trans rfl
                    have hcz68_2 : wc.cell? ⟨gb715, 2, none⟩ = some (.int .u64 a0_2) := (blk_cell BK715.out 2).trans rfl
                    have hcz68_3 : wc.cell? ⟨gb715, 3, none⟩ = some (.int .i64 a0_3) := (blk_cell BK715.out 3).trans rfl
                    have hcz68_4 : wc.cell? ⟨gb715, 4, none⟩ = some (.int .i64 a0_4) := (blk_cell BK715.out 4).trans rfl
                    have hcz68_5 : wc.cell? ⟨gb715, 5, none⟩ = some (.int .i64 a0_5) := (blk_cell BK715.out 5).trans rfl
                    have hcz68_6 : wc.cell? ⟨gb715, 6, none⟩ = some (.int .i64 a0_6) := (blk_cell BK715.out 6).trans rfl
                    have hcz68_7 : wc.cell? ⟨gb715, 7, none⟩ = some (.int .u64 a0_7) := (blk_cell BK715.out 7).trans rfl
                    have hcz68_8 : wc.cell? ⟨gb715, 8, none⟩ = some (.int .u64 a0_8) := (blk_cell BK715.out 8).trans rfl
                    have hcz68_9 : wc.cell? ⟨gb715, 9, none⟩ = some (.int .u64 a0_9) := (blk_cell BK715.out 9).trans rfl
                    have hcz68_10 : wc.cell? ⟨gb715, 10, none⟩ = some (.int .u64 a0_10) := (blk_cell BK715.out 10).trans rfl
                    have hcz68_11 : wc.cell? ⟨gb715, 11, none⟩ = some (.int .u64 a0_11) := (blk_cell BK715.out 11).trans rfl
                    have hcz68_12 : wc.cell? ⟨gb715, 12, none⟩ = some (.int .u64 a0_12) := (blk_cell BK715.out 12).trans rfl
                    have hcz68_13 : wc.cell? ⟨gb715, 13, none⟩ = some (.int .u64 a0_13) := (blk_cell BK715.out 13).trans rfl
                    have hcz68_14 : wc.cell? ⟨gb715, 14, none⟩ = some (.int .u64 a0_14) := (blk_cell BK715.out 14).trans rfl
                    have hcz68_15 : wc.cell? ⟨gb715, 15, none⟩ = some (.int .u64 a0_15) := (blk_cell BK715.out 15).trans rfl
                    have hcz68_16 : wc.cell? ⟨gb715, 16, none⟩ = some (.int .u64 a0_16) := (blk_cell BK715.out 16).trans rfl
                    have hcz68_17 : wc.cell? ⟨gb715, 17, none⟩ = some (.int .u64 a0_17) := (blk_cell BK715.out 17).trans rfl
                    have hcz68_18 : wc.cell? ⟨gb715, 18, none⟩ = some (.int .u64 a0_18) := (blk_cell BK715.out 18).trans rfl
                    have hfz68_0 := blk_frozen BK715.out 0
                    have hfz68_1 := blk_frozen BK715.out 1
                    have hfz68_2 := blk_frozen BK715.out 2
                    have hfz68_3 := blk_frozen BK715.out 3
                    have hfz68_4 := blk_frozen BK715.out 4
                    have hfz68_5 := blk_frozen BK715.out 5
                    have hfz68_6 := blk_frozen BK715.out 6
                    have hfz68_7 := blk_frozen BK715.out 7
                    have hfz68_8 := blk_frozen BK715.out 8
                    have hfz68_9 := blk_frozen BK715.out 9
                    have hfz68_10 := blk_frozen BK715.out 10
                    have hfz68_11 := blk_frozen BK715.out 11
                    have hfz68_12 := blk_frozen BK715.out 12
                    have hfz68_13 := blk_frozen BK715.out 13
                    have hfz68_14 := blk_frozen BK715.out 14
                    have hfz68_15 := blk_frozen BK715.out 15
                    have hfz68_16 := blk_frozen BK715.out 16
                    have hfz68_17 := blk_frozen BK715.out 17
                    have hfz68_18 := blk_frozen BK715.out 18
                    go_wp2_with (first | ((with_reducible refine gate_callee (f := 18) rfl ?_); refine gm (some 41) Try.func18 #[.agg #[.int .i64 a0_6, .int .u64 a0_7, .int .u64 a0_8, .int .u64 a0_9, .int .u64 a0_10]] (policy_Valid.calls a0_6 a0_7 a0_8 a0_9 a0_10 true _ A25.out) ?_; intro w69 hb; have n0_ := bb BK715 hb; have n1_ := bb BK726 hb; have n2_ := bs HB hb; clear BK715; clear BK726; clear HB; have BK715 := n0_; have BK726 := n1_; have HB := n2_; clear n0_ n1_ n2_; (try clear hb); (try clear hb2); (try clear hk); (try clear hi); have hcz70_0 : w69.cell? ⟨gb726, 0, none⟩ = some (.int .u64 t717) := (blk_cell BK726.out 0).trans rfl; have hcz70_1 : w69.cell? ⟨gb726, 1, none⟩ = some (.int .u64 t718) := (blk_cell BK726.out 1).trans rfl; have hcz70_2 : w69.cell? ⟨gb726, 2, none⟩ = some (.int .u64 t719) := (blk_cell BK726.out 2).trans rfl; have hcz70_3 : w69.cell? ⟨gb726, 3, none⟩ = some (.bool t720) := (blk_cell BK726.out 3).trans rfl; have hcz70_4 : w69.cell? ⟨gb726, 4, none⟩ = some (.int .u64 t721) := (blk_cell BK726.out 4).trans rfl; have hcz70_5 : w69.cell? ⟨gb726, 5, none⟩ = some (.bool false) := (blk_cell BK726.out 5).trans rfl; have hcz70_6 : w69.cell? ⟨gb726, 6, none⟩ = some (.int .u64 t723) := (blk_cell BK726.out 6).trans rfl; have hcz70_7 : w69.cell? ⟨gb726, 7, none⟩ = some (.int .u64 t724) := (blk_cell BK726.out 7).trans rfl; have hcz70_8 : w69.cell? ⟨gb726, 8, none⟩ = some (.int .u64 t725) := (blk_cell BK726.out 8).trans rfl; have hfz70_0 := blk_frozen BK726.out 0; have hfz70_1 := blk_frozen BK726.out 1; have hfz70_2 := blk_frozen BK726.out 2; have hfz70_3 := blk_frozen BK726.out 3; have hfz70_4 := blk_frozen BK726.out 4; have hfz70_5 := blk_frozen BK726.out 5; have hfz70_6 := blk_frozen BK726.out 6; have hfz70_7 := blk_frozen BK726.out 7; have hfz70_8 := blk_frozen BK726.out 8; have hcz71_0 : w69.cell? ⟨gb715, 0, none⟩ = some (.int .i64 a0_0) := (blk_cell BK715.out 0).trans rfl; have hcz71_1 : w69.cell? ⟨gb715, 1, none⟩ = some (.int .u64 a0_1) := (blk_cell BK715.out 1).trans rfl; have hcz71_2 : w69.cell? ⟨gb715, 2, none⟩ = some (.int .u64 a0_2) := (blk_cell BK715.out 2).trans rfl; have hcz71_3 : w69.cell? ⟨gb715, 3, none⟩ = some (.int .i64 a0_3) := (blk_cell BK715.out 3).trans rfl; have hcz71_4 : w69.cell? ⟨gb715, 4, none⟩ = some (.int .i64 a0_4) := (blk_cell BK715.out 4).trans rfl; have hcz71_5 : w69.cell? ⟨gb715, 5, none⟩ = some (.int .i64 a0_5) := (blk_cell BK715.out 5).trans rfl; have hcz71_6 : w69.cell? ⟨gb715, 6, none⟩ = some (.int .i64 a0_6) := (blk_cell BK715.out 6).trans rfl; have hcz71_7 : w69.cell? ⟨gb715, 7, none⟩ = some (.int .u64 a0_7) := (blk_cell BK715.out 7).trans rfl; have hcz71_8 : w69.cell? ⟨gb715, 8, none⟩ = some (.int .u64 a0_8) := (blk_cell BK715.out 8).trans rfl; have hcz71_9 : w69.cell? ⟨gb715, 9, none⟩ = some (.int .u64 a0_9) := (blk_cell BK715.out 9).trans rfl; have hcz71_10 : w69.cell? ⟨gb715, 10, none⟩ = some (.int .u64 a0_10) := (blk_cell BK715.out 10).trans rfl; have hcz71_11 : w69.cell? ⟨gb715, 11, none⟩ = some (.int .u64 a0_11) := (blk_cell BK715.out 11).trans rfl; have hcz71_12 : w69.cell? ⟨gb715, 12, none⟩ = some (.int .u64 a0_12) := (blk_cell BK715.out 12).trans rfl; have hcz71_13 : w69.cell? ⟨gb715, 13, none⟩ = some (.int .u64 a0_13) := (blk_cell BK715.out 13).trans rfl; have hcz71_14 : w69.cell? ⟨gb715, 14, none⟩ = some (.int .u64 a0_14) := (blk_cell BK715.out 14).trans rfl; have hcz71_15 : w69.cell? ⟨gb715, 15, none⟩ = some (.int .u64 a0_15) := (blk_cell BK715.out 15).trans rfl; have hcz71_16 : w69.cell? ⟨gb715, 16, none⟩ = some (.int .u64 a0_16) := (blk_cell BK715.out 16).trans rfl; have hcz71_17 : w69.cell? ⟨gb715, 17, none⟩ = some (.int .u64 a0_17) := (blk_cell BK715.out 17).trans rfl; have hcz71_18 : w69.cell? ⟨gb715, 18, none⟩ = some (.int .u64 a0_18) := (blk_cell BK715.out 18).trans rfl; have hfz71_0 := blk_frozen BK715.out 0; have hfz71_1 := blk_frozen BK715.out 1; have hfz71_2 := blk_frozen BK715.out 2; have hfz71_3 := blk_frozen BK715.out 3; have hfz71_4 := blk_frozen BK715.out 4; have hfz71_5 := blk_frozen BK715.out 5; have hfz71_6 := blk_frozen BK715.out 6; have hfz71_7 := blk_frozen BK715.out 7; have hfz71_8 := blk_frozen BK715.out 8; have hfz71_9 := blk_frozen BK715.out 9; have hfz71_10 := blk_frozen BK715.out 10; have hfz71_11 := blk_frozen BK715.out 11; have hfz71_12 := blk_frozen BK715.out 12; have hfz71_13 := blk_frozen BK715.out 13; have hfz71_14 := blk_frozen BK715.out 14; have hfz71_15 := blk_frozen BK715.out 15; have hfz71_16 := blk_frozen BK715.out 16; have hfz71_17 := blk_frozen BK715.out 17; have hfz71_18 := blk_frozen BK715.out 18) | ((with_reducible refine gate_callee (f := 27) rfl ?_); refine gm (some 74) Try.func27 #[.agg #[.int .i64 a0_6, .int .u64 a0_7, .int .u64 a0_8, .int .u64 a0_9, .int .u64 a0_10], .agg #[.int .u64 a0_14, .int .u64 a0_15, .int .u64 a0_16], .agg #[.int .u64 t723, .int .u64 t724, .int .u64 t725]] (policy_Covers.calls a0_6 a0_7 a0_8 a0_9 a0_10 a0_14 a0_15 a0_16 t723 t724 t725 true _ A46.out) ?_; intro w72 hb; have n0_ := bb BK715 hb; have n1_ := bb BK726 hb; have n2_ := bs HB hb; clear BK715; clear BK726; clear HB; have BK715 := n0_; have BK726 := n1_; have HB := n2_; clear n0_ n1_ n2_; (try clear hb); (try clear hb2); (try clear hk); (try clear hi); have hcz73_0 : w72.cell? ⟨gb715, 0, none⟩ = some (.int .i64 a0_0) := (blk_cell BK715.out 0).trans rfl; have hcz73_1 : w72.cell? ⟨gb715, 1, none⟩ = some (.int .u64 a0_1) := (blk_cell BK715.out 1).trans rfl; have hcz73_2 : w72.cell? ⟨gb715, 2, none⟩ = some (.int .u64 a0_2) := (blk_cell BK715.out 2).trans rfl; have hcz73_3 : w72.cell? ⟨gb715, 3, none⟩ = some (.int .i64 a0_3) := (blk_cell BK715.out 3).trans rfl; have hcz73_4 : w72.cell? ⟨gb715, 4, none⟩ = some (.int .i64 a0_4) := (blk_cell BK715.out 4).trans rfl; have hcz73_5 : w72.cell? ⟨gb715, 5, none⟩ = some (.int .i64 a0_5) := (blk_cell BK715.out 5).trans rfl; have hcz73_6 : w72.cell? ⟨gb715, 6, none⟩ = some (.int .i64 a0_6) := (blk_cell BK715.out 6).trans rfl; have hcz73_7 : w72.cell? ⟨gb715, 7, none⟩ = some (.int .u64 a0_7) := (blk_cell BK715.out 7).trans rfl; have hcz73_8 : w72.cell? ⟨gb715, 8, none⟩ = some (.int .u64 a0_8) := (blk_cell BK715.out 8).trans rfl; have hcz73_9 : w72.cell? ⟨gb715, 9, none⟩ = some (.int .u64 a0_9) := (blk_cell BK715.out 9).trans rfl; have hcz73_10 : w72.cell? ⟨gb715, 10, none⟩ = some (.int .u64 a0_10) := (blk_cell BK715.out 10).trans rfl; have hcz73_11 : w72.cell? ⟨gb715, 11, none⟩ = some (.int .u64 a0_11) := (blk_cell BK715.out 11).trans rfl; have hcz73_12 : w72.cell? ⟨gb715, 12, none⟩ = some (.int .u64 a0_12) := (blk_cell BK715.out 12).trans rfl; have hcz73_13 : w72.cell? ⟨gb715, 13, none⟩ = some (.int .u64 a0_13) := (blk_cell BK715.out 13).trans rfl; have hcz73_14 : w72.cell? ⟨gb715, 14, none⟩ = some (.int .u64 a0_14) := (blk_cell BK715.out 14).trans rfl; have hcz73_15 : w72.cell? ⟨gb715, 15, none⟩ = some (.int .u64 a0_15) := (blk_cell BK715.out 15).trans rfl; have hcz73_16 : w72.cell? ⟨gb715, 16, none⟩ = some (.int .u64 a0_16) := (blk_cell BK715.out 16).trans rfl; have hcz73_17 : w72.cell? ⟨gb715, 17, none⟩ = some (.int .u64 a0_17) := (blk_cell BK715.out 17).trans rfl; have hcz73_18 : w72.cell? ⟨gb715, 18, none⟩ = some (.int .u64 a0_18) := (blk_cell BK715.out 18).trans rfl; have hfz73_0 := blk_frozen BK715.out 0; have hfz73_1 := blk_frozen BK715.out 1; have hfz73_2 := blk_frozen BK715.out 2; have hfz73_3 := blk_frozen BK715.out 3; have hfz73_4 := blk_frozen BK715.out 4; have hfz73_5 := blk_frozen BK715.out 5; have hfz73_6 := blk_frozen BK715.out 6; have hfz73_7 := blk_frozen BK715.out 7; have hfz73_8 := blk_frozen BK715.out 8; have hfz73_9 := blk_frozen BK715.out 9; have hfz73_10 := blk_frozen BK715.out 10; have hfz73_11 := blk_frozen BK715.out 11; have hfz73_12 := blk_frozen BK715.out 12; have hfz73_13 := blk_frozen BK715.out 13; have hfz73_14 := blk_frozen BK715.out 14; have hfz73_15 := blk_frozen BK715.out 15; have hfz73_16 := blk_frozen BK715.out 16; have hfz73_17 := blk_frozen BK715.out 17; have hfz73_18 := blk_frozen BK715.out 18; have hcz74_0 : w72.cell? ⟨gb726, 0, none⟩ = some (.int .u64 t717) := (blk_cell BK726.out 0).trans rfl; have hcz74_1 : w72.cell? ⟨gb726, 1, none⟩ = some (.int .u64 t718) := (blk_cell BK726.out 1).trans rfl; have hcz74_2 : w72.cell? ⟨gb726, 2, none⟩ = some (.int .u64 t719) := (blk_cell BK726.out 2).trans rfl; have hcz74_3 : w72.cell? ⟨gb726, 3, none⟩ = some (.bool t720) := (blk_cell BK726.out 3).trans rfl; have hcz74_4 : w72.cell? ⟨gb726, 4, none⟩ = some (.int .u64 t721) := (blk_cell BK726.out 4).trans rfl; have hcz74_5 : w72.cell? ⟨gb726, 5, none⟩ = some (.bool false) := (blk_cell BK726.out 5).trans rfl; have hcz74_6 : w72.cell? ⟨gb726, 6, none⟩ = some (.int .u64 t723) := (blk_cell BK726.out 6).trans rfl; have hcz74_7 : w72.cell? ⟨gb726, 7, none⟩ = some (.int .u64 t724) := (blk_cell BK726.out 7).trans rfl; have hcz74_8 : w72.cell? ⟨gb726, 8, none⟩ = some (.int .u64 t725) := (blk_cell BK726.out 8).trans rfl; have hfz74_0 := blk_frozen BK726.out 0; have hfz74_1 := blk_frozen BK726.out 1; have hfz74_2 := blk_frozen BK726.out 2; have hfz74_3 := blk_frozen BK726.out 3; have hfz74_4 := blk_frozen BK726.out 4; have hfz74_5 := blk_frozen BK726.out 5; have hfz74_6 := blk_frozen BK726.out 6; have hfz74_7 := blk_frozen BK726.out 7; have hfz74_8 := blk_frozen BK726.out 8) | (go_at_call 27; (with_reducible refine (policy_Covers.calls a0_6 a0_7 a0_8 a0_9 a0_10 t723 t724 t725 a0_14 a0_15 a0_16 true _ A48.out).mono ?_); rintro e w75 ⟨rfl, hb⟩; have n0_ := bb BK715 hb; have n1_ := bb BK726 hb; have n2_ := bs HB hb; clear BK715; clear BK726; clear HB; have BK715 := n0_; have BK726 := n1_; have HB := n2_; clear n0_ n1_ n2_; (try clear hb); (try clear hb2); (try clear hk); (try clear hi); have hcz76_0 : w75.cell? ⟨gb715, 0, none⟩ = some (.int .i64 a0_0) := (blk_cell BK715.out 0).trans rfl; have hcz76_1 : w75.cell? ⟨gb715, 1, none⟩ = some (.int .u64 a0_1) := (blk_cell BK715.out 1).trans rfl; have hcz76_2 : w75.cell? ⟨gb715, 2, none⟩ = some (.int .u64 a0_2) := (blk_cell BK715.out 2).trans rfl; have hcz76_3 : w75.cell? ⟨gb715, 3, none⟩ = some (.int .i64 a0_3) := (blk_cell BK715.out 3).trans rfl; have hcz76_4 : w75.cell? ⟨gb715, 4, none⟩ = some (.int .i64 a0_4) := (blk_cell BK715.out 4).trans rfl; have hcz76_5 : w75.cell? ⟨gb715, 5, none⟩ = some (.int .i64 a0_5) := (blk_cell BK715.out 5).trans rfl; have hcz76_6 : w75.cell? ⟨gb715, 6, none⟩ = some (.int .i64 a0_6) := (blk_cell BK715.out 6).trans rfl; have hcz76_7 : w75.cell? ⟨gb715, 7, none⟩ = some (.int .u64 a0_7) := (blk_cell BK715.out 7).trans rfl; have hcz76_8 : w75.cell? ⟨gb715, 8, none⟩ = some (.int .u64 a0_8) := (blk_cell BK715.out 8).trans rfl; have hcz76_9 : w75.cell? ⟨gb715, 9, none⟩ = some (.int .u64 a0_9) := (blk_cell BK715.out 9).trans rfl; have hcz76_10 : w75.cell? ⟨gb715, 10, none⟩ = some (.int .u64 a0_10) := (blk_cell BK715.out 10).trans rfl; have hcz76_11 : w75.cell? ⟨gb715, 11, none⟩ = some (.int .u64 a0_11) := (blk_cell BK715.out 11).trans rfl; have hcz76_12 : w75.cell? ⟨gb715, 12, none⟩ = some (.int .u64 a0_12) := (blk_cell BK715.out 12).trans rfl; have hcz76_13 : w75.cell? ⟨gb715, 13, none⟩ = some (.int .u64 a0_13) := (blk_cell BK715.out 13).trans rfl; have hcz76_14 : w75.cell? ⟨gb715, 14, none⟩ = some (.int .u64 a0_14) := (blk_cell BK715.out 14).trans rfl; have hcz76_15 : w75.cell? ⟨gb715, 15, none⟩ = some (.int .u64 a0_15) := (blk_cell BK715.out 15).trans rfl; have hcz76_16 : w75.cell? ⟨gb715, 16, none⟩ = some (.int .u64 a0_16) := (blk_cell BK715.out 16).trans rfl; have hcz76_17 : w75.cell? ⟨gb715, 17, none⟩ = some (.int .u64 a0_17) := (blk_cell BK715.out 17).trans rfl; have hcz76_18 : w75.cell? ⟨gb715, 18, none⟩ = some (.int .u64 a0_18) := (blk_cell BK715.out 18).trans rfl; have hfz76_0 := blk_frozen BK715.out 0; have hfz76_1 := blk_frozen BK715.out 1; have hfz76_2 := blk_frozen BK715.out 2; have hfz76_3 := blk_frozen BK715.out 3; have hfz76_4 := blk_frozen BK715.out 4; have hfz76_5 := blk_frozen BK715.out 5; have hfz76_6 := blk_frozen BK715.out 6; have hfz76_7 := blk_frozen BK715.out 7; have hfz76_8 := blk_frozen BK715.out 8; have hfz76_9 := blk_frozen BK715.out 9; have hfz76_10 := blk_frozen BK715.out 10; have hfz76_11 := blk_frozen BK715.out 11; have hfz76_12 := blk_frozen BK715.out 12; have hfz76_13 := blk_frozen BK715.out 13; have hfz76_14 := blk_frozen BK715.out 14; have hfz76_15 := blk_frozen BK715.out 15; have hfz76_16 := blk_frozen BK715.out 16; have hfz76_17 := blk_frozen BK715.out 17; have hfz76_18 := blk_frozen BK715.out 18) | (go_at_call 27; (with_reducible refine (policy_Covers.calls a0_6 a0_7 a0_8 a0_9 a0_10 a0_14 a0_15 a0_16 a0_11 a0_12 a0_13 false _ A50.out).mono ?_); rintro e w77 ⟨rfl, hb⟩; have n0_ := bb BK715 hb; have n1_ := bb BK726 hb; have n2_ := bs HB hb; clear BK715; clear BK726; clear HB; have BK715 := n0_; have BK726 := n1_; have HB := n2_; clear n0_ n1_ n2_; (try clear hb); (try clear hb2); (try clear hk); (try clear hi)))
                    go_ret
                    exact ⟨re, bw HB⟩
                · replace c49 := Bool.eq_false_iff.mpr c49
                  subst c49
                  have H1 : (some false) = some r := by rw [if_neg (show ¬ (false = true) by decide)] at H; exact H
                  clear H
                  have H := H1
                  clear H1
                  obtain rfl := Option.some.inj H
                  have hnb78 := NB715_726.out
                  have hnc78 := NB726_715.out
                  have hcz79_0 : wc.cell? ⟨gb715, 0, none⟩ = some (.int .i64 a0_0) := (blk_cell BK715.out 0).trans rfl
                  have hcz79_1 : wc.cell? ⟨gb715, 1, none⟩ = some (.int .u64 a0_1) := (blk_cell BK715.out 1).trans rfl
                  have hcz79_2 : wc.cell? ⟨gb715, 2, none⟩ = some (.int .u64 a0_2) := (blk_cell BK715.out 2).trans rfl
                  have hcz79_3 : wc.cell? ⟨gb715, 3, none⟩ = some (.int .i64 a0_3) := (blk_cell BK715.out 3).trans rfl
                  have hcz79_4 : wc.cell? ⟨gb715, 4, none⟩ = some (.int .i64 a0_4) := (blk_cell BK715.out 4).trans rfl
                  have hcz79_5 : wc.cell? ⟨gb715, 5, none⟩ = some (.int .i64 a0_5) := (blk_cell BK715.out 5).trans rfl
                  have hcz79_6 : wc.cell? ⟨gb715, 6, none⟩ = some (.int .i64 a0_6) := (blk_cell BK715.out 6).trans rfl
                  have hcz79_7 : wc.cell? ⟨gb715, 7, none⟩ = some (.int .u64 a0_7) := (blk_cell BK715.out 7).trans rfl
                  have hcz79_8 : wc.cell? ⟨gb715, 8, none⟩ = some (.int .u64 a0_8) := (blk_cell BK715.out 8).trans rfl
                  have hcz79_9 : wc.cell? ⟨gb715, 9, none⟩ = some (.int .u64 a0_9) := (blk_cell BK715.out 9).trans rfl
                  have hcz79_10 : wc.cell? ⟨gb715, 10, none⟩ = some (.int .u64 a0_10) := (blk_cell BK715.out 10).trans rfl
                  have hcz79_11 : wc.cell? ⟨gb715, 11, none⟩ = some (.int .u64 a0_11) := (blk_cell BK715.out 11).trans rfl
                  have hcz79_12 : wc.cell? ⟨gb715, 12, none⟩ = some (.int .u64 a0_12) := (blk_cell BK715.out 12).trans rfl
                  have hcz79_13 : wc.cell? ⟨gb715, 13, none⟩ = some (.int .u64 a0_13) := (blk_cell BK715.out 13).trans rfl
                  have hcz79_14 : wc.cell? ⟨gb715, 14, none⟩ = some (.int .u64 a0_14) := (blk_cell BK715.out 14).trans rfl
                  have hcz79_15 : wc.cell? ⟨gb715, 15, none⟩ = some (.int .u64 a0_15) := (blk_cell BK715.out 15).trans rfl
                  have hcz79_16 : wc.cell? ⟨gb715, 16, none⟩ = some (.int .u64 a0_16) := (blk_cell BK715.out 16).trans rfl
                  have hcz79_17 : wc.cell? ⟨gb715, 17, none⟩ = some (.int .u64 a0_17) := (blk_cell BK715.out 17).trans rfl
                  have hcz79_18 : wc.cell? ⟨gb715, 18, none⟩ = some (.int .u64 a0_18) := (blk_cell BK715.out 18).trans rfl
                  have hfz79_0 := blk_frozen BK715.out 0
                  have hfz79_1 := blk_frozen BK715.out 1
                  have hfz79_2 := blk_frozen BK715.out 2
                  have hfz79_3 := blk_frozen BK715.out 3
                  have hfz79_4 := blk_frozen BK715.out 4
                  have hfz79_5 := blk_frozen BK715.out 5
                  have hfz79_6 := blk_frozen BK715.out 6
                  have hfz79_7 := blk_frozen BK715.out 7
                  have hfz79_8 := blk_frozen BK715.out 8
                  have hfz79_9 := blk_frozen BK715.out 9
                  have hfz79_10 := blk_frozen BK715.out 10
                  have hfz79_11 := blk_frozen BK715.out 11
                  have hfz79_12 := blk_frozen BK715.out 12
                  have hfz79_13 := blk_frozen BK715.out 13
                  have hfz79_14 := blk_frozen BK715.out 14
                  have hfz79_15 := blk_frozen BK715.out 15
                  have hfz79_16 := blk_frozen BK715.out 16
                  have hfz79_17 := blk_frozen BK715.out 17
                  have hfz79_18 := blk_frozen BK715.out 18
                  go_wp2_with (first | ((with_reducible refine gate_callee (f := 18) rfl ?_); refine gm (some 41) Try.func18 #[.agg #[.int .i64 a0_6, .int .u64 a0_7, .int .u64 a0_8, .int .u64 a0_9, .int .u64 a0_10]] (policy_Valid.calls a0_6 a0_7 a0_8 a0_9 a0_10 true _ A25.out) ?_; intro w80 hb; have n0_ := bb BK715 hb; have n1_ := bb BK726 hb; have n2_ := bs HB hb; clear BK715; clear BK726; clear HB; have BK715 := n0_; have BK726 := n1_; have HB := n2_; clear n0_ n1_ n2_; (try clear hb); (try clear hb2); (try clear hk); (try clear hi); have hcz81_0 : w80.cell? ⟨gb726, 0, none⟩ = some (.int .u64 t717) := (blk_cell BK726.out 0).trans rfl; have hcz81_1 : w80.cell? ⟨gb726, 1, none⟩ = some (.int .u64 t718) := (blk_cell BK726.out 1).trans rfl; have hcz81_2 : w80.cell? ⟨gb726, 2, none⟩ = some (.int .u64 t719) := (blk_cell BK726.out 2).trans rfl; have hcz81_3 : w80.cell? ⟨gb726, 3, none⟩ = some (.bool t720) := (blk_cell BK726.out 3).trans rfl; have hcz81_4 : w80.cell? ⟨gb726, 4, none⟩ = some (.int .u64 t721) := (blk_cell BK726.out 4).trans rfl; have hcz81_5 : w80.cell? ⟨gb726, 5, none⟩ = some (.bool false) := (blk_cell BK726.out 5).trans rfl; have hcz81_6 : w80.cell? ⟨gb726, 6, none⟩ = some (.int .u64 t723) := (blk_cell BK726.out 6).trans rfl; have hcz81_7 : w80.cell? ⟨gb726, 7, none⟩ = some (.int .u64 t724) := (blk_cell BK726.out 7).trans rfl; have hcz81_8 : w80.cell? ⟨gb726, 8, none⟩ = some (.int .u64 t725) := (blk_cell BK726.out 8).trans rfl; have hfz81_0 := blk_frozen BK726.out 0; have hfz81_1 := blk_frozen BK726.out 1; have hfz81_2 := blk_frozen BK726.out 2; have hfz81_3 := blk_frozen BK726.out 3; have hfz81_4 := blk_frozen BK726.out 4; have hfz81_5 := blk_frozen BK726.out 5; have hfz81_6 := blk_frozen BK726.out 6; have hfz81_7 := blk_frozen BK726.out 7; have hfz81_8 := blk_frozen BK726.out 8; have hcz82_0 : w80.cell? ⟨gb715, 0, none⟩ = some (.int .i64 a0_0) := (blk_cell BK715.out 0).trans rfl; have hcz82_1 : w80.cell? ⟨gb715, 1, none⟩ = some (.int .u64 a0_1) := (blk_cell BK715.out 1).trans rfl; have hcz82_2 : w80.cell? ⟨gb715, 2, none⟩ = some (.int .u64 a0_2) := (blk_cell BK715.out 2).trans rfl; have hcz82_3 : w80.cell? ⟨gb715, 3, none⟩ = some (.int .i64 a0_3) := (blk_cell BK715.out 3).trans rfl; have hcz82_4 : w80.cell? ⟨gb715, 4, none⟩ = some (.int .i64 a0_4) := (blk_cell BK715.out 4).trans rfl; have hcz82_5 : w80.cell? ⟨gb715, 5, none⟩ = some (.int .i64 a0_5) := (blk_cell BK715.out 5).trans rfl; have hcz82_6 : w80.cell? ⟨gb715, 6, none⟩ = some (.int .i64 a0_6) := (blk_cell BK715.out 6).trans rfl; have hcz82_7 : w80.cell? ⟨gb715, 7, none⟩ = some (.int .u64 a0_7) := (blk_cell BK715.out 7).trans rfl; have hcz82_8 : w80.cell? ⟨gb715, 8, none⟩ = some (.int .u64 a0_8) := (blk_cell BK715.out 8).trans rfl; have hcz82_9 : w80.cell? ⟨gb715, 9, none⟩ = some (.int .u64 a0_9) := (blk_cell BK715.out 9).trans rfl; have hcz82_10 : w80.cell? ⟨gb715, 10, none⟩ = some (.int .u64 a0_10) := (blk_cell BK715.out 10).trans rfl; have hcz82_11 : w80.cell? ⟨gb715, 11, none⟩ = some (.int .u64 a0_11) := (blk_cell BK715.out 11).trans rfl; have hcz82_12 : w80.cell? ⟨gb715, 12, none⟩ = some (.int .u64 a0_12) := (blk_cell BK715.out 12).trans rfl; have hcz82_13 : w80.cell? ⟨gb715, 13, none⟩ = some (.int .u64 a0_13) := (blk_cell BK715.out 13).trans rfl; have hcz82_14 : w80.cell? ⟨gb715, 14, none⟩ = some (.int .u64 a0_14) := (blk_cell BK715.out 14).trans rfl; have hcz82_15 : w80.cell? ⟨gb715, 15, none⟩ = some (.int .u64 a0_15) := (blk_cell BK715.out 15).trans rfl; have hcz82_16 : w80.cell? ⟨gb715, 16, none⟩ = some (.int .u64 a0_16) := (blk_cell BK715.out 16).trans rfl; have hcz82_17 : w80.cell? ⟨gb715, 17, none⟩ = some (.int .u64 a0_17) := (blk_cell BK715.out 17).trans rfl; have hcz82_18 : w80.cell? ⟨gb715, 18, none⟩ = some (.int .u64 a0_18) := (blk_cell BK715.out 18).trans rfl; have hfz82_0 := blk_frozen BK715.out 0; have hfz82_1 := blk_frozen BK715.out 1; have hfz82_2 := blk_frozen BK715.out 2; have hfz82_3 := blk_frozen BK715.out 3; have hfz82_4 := blk_frozen BK715.out 4; have hfz82_5 := blk_frozen BK715.out 5; have hfz82_6 := blk_frozen BK715.out 6; have hfz82_7 := blk_frozen BK715.out 7; have hfz82_8 := blk_frozen BK715.out 8; have hfz82_9 := blk_frozen BK715.out 9; have hfz82_10 := blk_frozen BK715.out 10; have hfz82_11 := blk_frozen BK715.out 11; have hfz82_12 := blk_frozen BK715.out 12; have hfz82_13 := blk_frozen BK715.out 13; have hfz82_14 := blk_frozen BK715.out 14; have hfz82_15 := blk_frozen BK715.out 15; have hfz82_16 := blk_frozen BK715.out 16; have hfz82_17 := blk_frozen BK715.out 17; have hfz82_18 := blk_frozen BK715.out 18) | ((with_reducible refine gate_callee (f := 27) rfl ?_); refine gm (some 74) Try.func27 #[.agg #[.int .i64 a0_6, .int .u64 a0_7, .int .u64 a0_8, .int .u64 a0_9, .int .u64 a0_10], .agg #[.int .u64 a0_14, .int .u64 a0_15, .int .u64 a0_16], .agg #[.int .u64 t723, .int .u64 t724, .int .u64 t725]] (policy_Covers.calls a0_6 a0_7 a0_8 a0_9 a0_10 a0_14 a0_15 a0_16 t723 t724 t725 true _ A46.out) ?_; intro w83 hb; have n0_ := bb BK715 hb; have n1_ := bb BK726 hb; have n2_ := bs HB hb; clear BK715; clear BK726; clear HB; have BK715 := n0_; have BK726 := n1_; have HB := n2_; clear n0_ n1_ n2_; (try clear hb); (try clear hb2); (try clear hk); (try clear hi); have hcz84_0 : w83.cell? ⟨gb715, 0, none⟩ = some (.int .i64 a0_0) := (blk_cell BK715.out 0).trans rfl; have hcz84_1 : w83.cell? ⟨gb715, 1, none⟩ = some (.int .u64 a0_1) := (blk_cell BK715.out 1).trans rfl; have hcz84_2 : w83.cell? ⟨gb715, 2, none⟩ = some (.int .u64 a0_2) := (blk_cell BK715.out 2).trans rfl; have hcz84_3 : w83.cell? ⟨gb715, 3, none⟩ = some (.int .i64 a0_3) := (blk_cell BK715.out 3).trans rfl; have hcz84_4 : w83.cell? ⟨gb715, 4, none⟩ = some (.int .i64 a0_4) := (blk_cell BK715.out 4).trans rfl; have hcz84_5 : w83.cell? ⟨gb715, 5, none⟩ = some (.int .i64 a0_5) := (blk_cell BK715.out 5).trans rfl; have hcz84_6 : w83.cell? ⟨gb715, 6, none⟩ = some (.int .i64 a0_6) := (blk_cell BK715.out 6).trans rfl; have hcz84_7 : w83.cell? ⟨gb715, 7, none⟩ = some (.int .u64 a0_7) := (blk_cell BK715.out 7).trans rfl; have hcz84_8 : w83.cell? ⟨gb715, 8, none⟩ = some (.int .u64 a0_8) := (blk_cell BK715.out 8).trans rfl; have hcz84_9 : w83.cell? ⟨gb715, 9, none⟩ = some (.int .u64 a0_9) := (blk_cell BK715.out 9).trans rfl; have hcz84_10 : w83.cell? ⟨gb715, 10, none⟩ = some (.int .u64 a0_10) := (blk_cell BK715.out 10).trans rfl; have hcz84_11 : w83.cell? ⟨gb715, 11, none⟩ = some (.int .u64 a0_11) := (blk_cell BK715.out 11).trans rfl; have hcz84_12 : w83.cell? ⟨gb715, 12, none⟩ = some (.int .u64 a0_12) := (blk_cell BK715.out 12).trans rfl; have hcz84_13 : w83.cell? ⟨gb715, 13, none⟩ = some (.int .u64 a0_13) := (blk_cell BK715.out 13).trans rfl; have hcz84_14 : w83.cell? ⟨gb715, 14, none⟩ = some (.int .u64 a0_14) := (blk_cell BK715.out 14).trans rfl; have hcz84_15 : w83.cell? ⟨gb715, 15, none⟩ = some (.int .u64 a0_15) := (blk_cell BK715.out 15).trans rfl; have hcz84_16 : w83.cell? ⟨gb715, 16, none⟩ = some (.int .u64 a0_16) := (blk_cell BK715.out 16).trans rfl; have hcz84_17 : w83.cell? ⟨gb715, 17, none⟩ = some (.int .u64 a0_17) := (blk_cell BK715.out 17).trans rfl; have hcz84_18 : w83.cell? ⟨gb715, 18, none⟩ = some (.int .u64 a0_18) := (blk_cell BK715.out 18).trans rfl; have hfz84_0 := blk_frozen BK715.out 0; have hfz84_1 := blk_frozen BK715.out 1; have hfz84_2 := blk_frozen BK715.out 2; have hfz84_3 := blk_frozen BK715.out 3; have hfz84_4 := blk_frozen BK715.out 4; have hfz84_5 := blk_frozen BK715.out 5; have hfz84_6 := blk_frozen BK715.out 6; have hfz84_7 := blk_frozen BK715.out 7; have hfz84_8 := blk_frozen BK715.out 8; have hfz84_9 := blk_frozen BK715.out 9; have hfz84_10 := blk_frozen BK715.out 10; have hfz84_11 := blk_frozen BK715.out 11; have hfz84_12 := blk_frozen BK715.out 12; have hfz84_13 := blk_frozen BK715.out 13; have hfz84_14 := blk_frozen BK715.out 14; have hfz84_15 := blk_frozen BK715.out 15; have hfz84_16 := blk_frozen BK715.out 16; have hfz84_17 := blk_frozen BK715.out 17; have hfz84_18 := blk_frozen BK715.out 18; have hcz85_0 : w83.cell? ⟨gb726, 0, none⟩ = some (.int .u64 t717) := (blk_cell BK726.out 0).trans rfl; have hcz85_1 : w83.cell? ⟨gb726, 1, none⟩ = some (.int .u64 t718) := (blk_cell BK726.out 1).trans rfl; have hcz85_2 : w83.cell? ⟨gb726, 2, none⟩ = some (.int .u64 t719) := (blk_cell BK726.out 2).trans rfl; have hcz85_3 : w83.cell? ⟨gb726, 3, none⟩ = some (.bool t720) := (blk_cell BK726.out 3).trans rfl; have hcz85_4 : w83.cell? ⟨gb726, 4, none⟩ = some (.int .u64 t721) := (blk_cell BK726.out 4).trans rfl; have hcz85_5 : w83.cell? ⟨gb726, 5, none⟩ = some (.bool false) := (blk_cell BK726.out 5).trans rfl; have hcz85_6 : w83.cell? ⟨gb726, 6, none⟩ = some (.int .u64 t723) := (blk_cell BK726.out 6).trans rfl; have hcz85_7 : w83.cell? ⟨gb726, 7, none⟩ = some (.int .u64 t724) := (blk_cell BK726.out 7).trans rfl; have hcz85_8 : w83.cell? ⟨gb726, 8, none⟩ = some (.int .u64 t725) := (blk_cell BK726.out 8).trans rfl; have hfz85_0 := blk_frozen BK726.out 0; have hfz85_1 := blk_frozen BK726.out 1; have hfz85_2 := blk_frozen BK726.out 2; have hfz85_3 := blk_frozen BK726.out 3; have hfz85_4 := blk_frozen BK726.out 4; have hfz85_5 := blk_frozen BK726.out 5; have hfz85_6 := blk_frozen BK726.out 6; have hfz85_7 := blk_frozen BK726.out 7; have hfz85_8 := blk_frozen BK726.out 8) | (go_at_call 27; (with_reducible refine (policy_Covers.calls a0_6 a0_7 a0_8 a0_9 a0_10 t723 t724 t725 a0_14 a0_15 a0_16 false _ A48.out).mono ?_); rintro e w86 ⟨rfl, hb⟩; have n0_ := bb BK715 hb; have n1_ := bb BK726 hb; have n2_ := bs HB hb; clear BK715; clear BK726; clear HB; have BK715 := n0_; have BK726 := n1_; have HB := n2_; clear n0_ n1_ n2_; (try clear hb); (try clear hb2); (try clear hk); (try clear hi)))
                  go_ret
                  exact ⟨re, bw HB⟩
              · replace c47 := Bool.eq_false_iff.mpr c47
                subst c47
                have H1 : (some false) = some r := by rw [if_neg (show ¬ (false = true) by decide)] at H; exact H
                clear H
                have H := H1
                clear H1
                obtain rfl := Option.some.inj H
                have hnb87 := NB715_726.out
                have hnc87 := NB726_715.out
                have hcz88_0 : wc.cell? ⟨gb715, 0, none⟩ = some (.int .i64 a0_0) := (blk_cell BK715.out 0).trans rfl
                have hcz88_1 : wc.cell? ⟨gb715, 1, none⟩ = some (.int .u64 a0_1) := (blk_cell BK715.out 1).trans rfl
                have hcz88_2 : wc.cell? ⟨gb715, 2, none⟩ = some (.int .u64 a0_2) := (blk_cell BK715.out 2).trans rfl
                have hcz88_3 : wc.cell? ⟨gb715, 3, none⟩ = some (.int .i64 a0_3) := (blk_cell BK715.out 3).trans rfl
                have hcz88_4 : wc.cell? ⟨gb715, 4, none⟩ = some (.int .i64 a0_4) := (blk_cell BK715.out 4).trans rfl
                have hcz88_5 : wc.cell? ⟨gb715, 5, none⟩ = some (.int .i64 a0_5) := (blk_cell BK715.out 5).trans rfl
                have hcz88_6 : wc.cell? ⟨gb715, 6, none⟩ = some (.int .i64 a0_6) := (blk_cell BK715.out 6).trans rfl
                have hcz88_7 : wc.cell? ⟨gb715, 7, none⟩ = some (.int .u64 a0_7) := (blk_cell BK715.out 7).trans rfl
                have hcz88_8 : wc.cell? ⟨gb715, 8, none⟩ = some (.int .u64 a0_8) := (blk_cell BK715.out 8).trans rfl
                have hcz88_9 : wc.cell? ⟨gb715, 9, none⟩ = some (.int .u64 a0_9) := (blk_cell BK715.out 9).trans rfl
                have hcz88_10 : wc.cell? ⟨gb715, 10, none⟩ = some (.int .u64 a0_10) := (blk_cell BK715.out 10).trans rfl
                have hcz88_11 : wc.cell? ⟨gb715, 11, none⟩ = some (.int .u64 a0_11) := (blk_cell BK715.out 11).trans rfl
                have hcz88_12 : wc.cell? ⟨gb715, 12, none⟩ = some (.int .u64 a0_12) := (blk_cell BK715.out 12).trans rfl
                have hcz88_13 : wc.cell? ⟨gb715, 13, none⟩ = some (.int .u64 a0_13) := (blk_cell BK715.out 13).trans rfl
                have hcz88_14 : wc.cell? ⟨gb715, 14, none⟩ = some (.int .u64 a0_14) := (blk_cell BK715.out 14).trans rfl
                have hcz88_15 : wc.cell? ⟨gb715, 15, none⟩ = some (.int .u64 a0_15) := (blk_cell BK715.out 15).trans rfl
                have hcz88_16 : wc.cell? ⟨gb715, 16, none⟩ = some (.int .u64 a0_16) := (blk_cell BK715.out 16).trans rfl
                have hcz88_17 : wc.cell? ⟨gb715, 17, none⟩ = some (.int .u64 a0_17) := (blk_cell BK715.out 17).trans rfl
                have hcz88_18 : wc.cell? ⟨gb715, 18, none⟩ = some (.int .u64 a0_18) := (blk_cell BK715.out 18).trans rfl
                have hfz88_0 := blk_frozen BK715.out 0
                have hfz88_1 := blk_frozen BK715.out 1
                have hfz88_2 := blk_frozen BK715.out 2
                have hfz88_3 := blk_frozen BK715.out 3
                have hfz88_4 := blk_frozen BK715.out 4
                have hfz88_5 := blk_frozen BK715.out 5
                have hfz88_6 := blk_frozen BK715.out 6
                have hfz88_7 := blk_frozen BK715.out 7
                have hfz88_8 := blk_frozen BK715.out 8
                have hfz88_9 := blk_frozen BK715.out 9
                have hfz88_10 := blk_frozen BK715.out 10
                have hfz88_11 := blk_frozen BK715.out 11
                have hfz88_12 := blk_frozen BK715.out 12
                have hfz88_13 := blk_frozen BK715.out 13
                have hfz88_14 := blk_frozen BK715.out 14
                have hfz88_15 := blk_frozen BK715.out 15
                have hfz88_16 := blk_frozen BK715.out 16
                have hfz88_17 := blk_frozen BK715.out 17
                have hfz88_18 := blk_frozen BK715.out 18
                go_wp2_with (first | ((with_reducible refine gate_callee (f := 18) rfl ?_); refine gm (some 41) Try.func18 #[.agg #[.int .i64 a0_6, .int .u64 a0_7, .int .u64 a0_8, .int .u64 a0_9, .int .u64 a0_10]] (policy_Valid.calls a0_6 a0_7 a0_8 a0_9 a0_10 true _ A25.out) ?_; intro w89 hb; have n0_ := bb BK715 hb; have n1_ := bb BK726 hb; have n2_ := bs HB hb; clear BK715; clear BK726; clear HB; have BK715 := n0_; have BK726 := n1_; have HB := n2_; clear n0_ n1_ n2_; (try clear hb); (try clear hb2); (try clear hk); (try clear hi); have hcz90_0 : w89.cell? ⟨gb726, 0, none⟩ = some (.int .u64 t717) := (blk_cell BK726.out 0).trans rfl; have hcz90_1 : w89.cell? ⟨gb726, 1, none⟩ = some (.int .u64 t718) := (blk_cell BK726.out 1).trans rfl; have hcz90_2 : w89.cell? ⟨gb726, 2, none⟩ = some (.int .u64 t719) := (blk_cell BK726.out 2).trans rfl; have hcz90_3 : w89.cell? ⟨gb726, 3, none⟩ = some (.bool t720) := (blk_cell BK726.out 3).trans rfl; have hcz90_4 : w89.cell? ⟨gb726, 4, none⟩ = some (.int .u64 t721) := (blk_cell BK726.out 4).trans rfl; have hcz90_5 : w89.cell? ⟨gb726, 5, none⟩ = some (.bool false) := (blk_cell BK726.out 5).trans rfl; have hcz90_6 : w89.cell? ⟨gb726, 6, none⟩ = some (.int .u64 t723) := (blk_cell BK726.out 6).trans rfl; have hcz90_7 : w89.cell? ⟨gb726, 7, none⟩ = some (.int .u64 t724) := (blk_cell BK726.out 7).trans rfl; have hcz90_8 : w89.cell? ⟨gb726, 8, none⟩ = some (.int .u64 t725) := (blk_cell BK726.out 8).trans rfl; have hfz90_0 := blk_frozen BK726.out 0; have hfz90_1 := blk_frozen BK726.out 1; have hfz90_2 := blk_frozen BK726.out 2; have hfz90_3 := blk_frozen BK726.out 3; have hfz90_4 := blk_frozen BK726.out 4; have hfz90_5 := blk_frozen BK726.out 5; have hfz90_6 := blk_frozen BK726.out 6; have hfz90_7 := blk_frozen BK726.out 7; have hfz90_8 := blk_frozen BK726.out 8; have hcz91_0 : w89.cell? ⟨gb715, 0, none⟩ = some (.int .i64 a0_0) := (blk_cell BK715.out 0).trans rfl; have hcz91_1 : w89.cell? ⟨gb715, 1, none⟩ = some (.int .u64 a0_1) := (blk_cell BK715.out 1).trans rfl; have hcz91_2 : w89.cell? ⟨gb715, 2, none⟩ = some (.int .u64 a0_2) := (blk_cell BK715.out 2).trans rfl; have hcz91_3 : w89.cell? ⟨gb715, 3, none⟩ = some (.int .i64 a0_3) := (blk_cell BK715.out 3).trans rfl; have hcz91_4 : w89.cell? ⟨gb715, 4, none⟩ = some (.int .i64 a0_4) := (blk_cell BK715.out 4).trans rfl; have hcz91_5 : w89.cell? ⟨gb715, 5, none⟩ = some (.int .i64 a0_5) := (blk_cell BK715.out 5).trans rfl; have hcz91_6 : w89.cell? ⟨gb715, 6, none⟩ = some (.int .i64 a0_6) := (blk_cell BK715.out 6).trans rfl; have hcz91_7 : w89.cell? ⟨gb715, 7, none⟩ = some (.int .u64 a0_7) := (blk_cell BK715.out 7).trans rfl; have hcz91_8 : w89.cell? ⟨gb715, 8, none⟩ = some (.int .u64 a0_8) := (blk_cell BK715.out 8).trans rfl; have hcz91_9 : w89.cell? ⟨gb715, 9, none⟩ = some (.int .u64 a0_9) := (blk_cell BK715.out 9).trans rfl; have hcz91_10 : w89.cell? ⟨gb715, 10, none⟩ = some (.int .u64 a0_10) := (blk_cell BK715.out 10).trans rfl; have hcz91_11 : w89.cell? ⟨gb715, 11, none⟩ = some (.int .u64 a0_11) := (blk_cell BK715.out 11).trans rfl; have hcz91_12 : w89.cell? ⟨gb715, 12, none⟩ = some (.int .u64 a0_12) := (blk_cell BK715.out 12).trans rfl; have hcz91_13 : w89.cell? ⟨gb715, 13, none⟩ = some (.int .u64 a0_13) := (blk_cell BK715.out 13).trans rfl; have hcz91_14 : w89.cell? ⟨gb715, 14, none⟩ = some (.int .u64 a0_14) := (blk_cell BK715.out 14).trans rfl; have hcz91_15 : w89.cell? ⟨gb715, 15, none⟩ = some (.int .u64 a0_15) := (blk_cell BK715.out 15).trans rfl; have hcz91_16 : w89.cell? ⟨gb715, 16, none⟩ = some (.int .u64 a0_16) := (blk_cell BK715.out 16).trans rfl; have hcz91_17 : w89.cell? ⟨gb715, 17, none⟩ = some (.int .u64 a0_17) := (blk_cell BK715.out 17).trans rfl; have hcz91_18 : w89.cell? ⟨gb715, 18, none⟩ = some (.int .u64 a0_18) := (blk_cell BK715.out 18).trans rfl; have hfz91_0 := blk_frozen BK715.out 0; have hfz91_1 := blk_frozen BK715.out 1; have hfz91_2 := blk_frozen BK715.out 2; have hfz91_3 := blk_frozen BK715.out 3; have hfz91_4 := blk_frozen BK715.out 4; have hfz91_5 := blk_frozen BK715.out 5; have hfz91_6 := blk_frozen BK715.out 6; have hfz91_7 := blk_frozen BK715.out 7; have hfz91_8 := blk_frozen BK715.out 8; have hfz91_9 := blk_frozen BK715.out 9; have hfz91_10 := blk_frozen BK715.out 10; have hfz91_11 := blk_frozen BK715.out 11; have hfz91_12 := blk_frozen BK715.out 12; have hfz91_13 := blk_frozen BK715.out 13; have hfz91_14 := blk_frozen BK715.out 14; have hfz91_15 := blk_frozen BK715.out 15; have hfz91_16 := blk_frozen BK715.out 16; have hfz91_17 := blk_frozen BK715.out 17; have hfz91_18 := blk_frozen BK715.out 18) | ((with_reducible refine gate_callee (f := 27) rfl ?_); refine gm (some 74) Try.func27 #[.agg #[.int .i64 a0_6, .int .u64 a0_7, .int .u64 a0_8, .int .u64 a0_9, .int .u64 a0_10], .agg #[.int .u64 a0_14, .int .u64 a0_15, .int .u64 a0_16], .agg #[.int .u64 t723, .int .u64 t724, .int .u64 t725]] (policy_Covers.calls a0_6 a0_7 a0_8 a0_9 a0_10 a0_14 a0_15 a0_16 t723 t724 t725 false _ A46.out) ?_; intro w92 hb; have n0_ := bb BK715 hb; have n1_ := bb BK726 hb; have n2_ := bs HB hb; clear BK715; clear BK726; clear HB; have BK715 := n0_; have BK726 := n1_; have HB := n2_; clear n0_ n1_ n2_; (try clear hb); (try clear hb2); (try clear hk); (try clear hi)))
                go_ret
                exact ⟨re, bw HB⟩
          · replace c26 := Bool.eq_false_iff.mpr c26
            subst c26
            have H1 : (some ((t717 == 0 && (t718 == 0 && (t719 == 0))) && (!t720 && (t721 == 18446744073709551615 && (!t722 && ((t723 == 0 && (t724 == 0 && (t725 == 0))))))))) = some r := by rw [if_neg (show ¬ (false = true) by decide)] at H; exact H
            clear H
            have H := H1
            clear H1
            obtain rfl := Option.some.inj H
            have hnb93 := NB715_726.out
            have hnc93 := NB726_715.out
            have hcz94_0 : wc.cell? ⟨gb715, 0, none⟩ = some (.int .i64 a0_0) := (blk_cell BK715.out 0).trans rfl
            have hcz94_1 : wc.cell? ⟨gb715, 1, none⟩ = some (.int .u64 a0_1) := (blk_cell BK715.out 1).trans rfl
            have hcz94_2 : wc.cell? ⟨gb715, 2, none⟩ = some (.int .u64 a0_2) := (blk_cell BK715.out 2).trans rfl
            have hcz94_3 : wc.cell? ⟨gb715, 3, none⟩ = some (.int .i64 a0_3) := (blk_cell BK715.out 3).trans rfl
            have hcz94_4 : wc.cell? ⟨gb715, 4, none⟩ = some (.int .i64 a0_4) := (blk_cell BK715.out 4).trans rfl
            have hcz94_5 : wc.cell? ⟨gb715, 5, none⟩ = some (.int .i64 a0_5) := (blk_cell BK715.out 5).trans rfl
            have hcz94_6 : wc.cell? ⟨gb715, 6, none⟩ = some (.int .i64 a0_6) := (blk_cell BK715.out 6).trans rfl
            have hcz94_7 : wc.cell? ⟨gb715, 7, none⟩ = some (.int .u64 a0_7) := (blk_cell BK715.out 7).trans rfl
            have hcz94_8 : wc.cell? ⟨gb715, 8, none⟩ = some (.int .u64 a0_8) := (blk_cell BK715.out 8).trans rfl
            have hcz94_9 : wc.cell? ⟨gb715, 9, none⟩ = some (.int .u64 a0_9) := (blk_cell BK715.out 9).trans rfl
            have hcz94_10 : wc.cell? ⟨gb715, 10, none⟩ = some (.int .u64 a0_10) := (blk_cell BK715.out 10).trans rfl
            have hcz94_11 : wc.cell? ⟨gb715, 11, none⟩ = some (.int .u64 a0_11) := (blk_cell BK715.out 11).trans rfl
            have hcz94_12 : wc.cell? ⟨gb715, 12, none⟩ = some (.int .u64 a0_12) := (blk_cell BK715.out 12).trans rfl
            have hcz94_13 : wc.cell? ⟨gb715, 13, none⟩ = some (.int .u64 a0_13) := (blk_cell BK715.out 13).trans rfl
            have hcz94_14 : wc.cell? ⟨gb715, 14, none⟩ = some (.int .u64 a0_14) := (blk_cell BK715.out 14).trans rfl
            have hcz94_15 : wc.cell? ⟨gb715, 15, none⟩ = some (.int .u64 a0_15) := (blk_cell BK715.out 15).trans rfl
            have hcz94_16 : wc.cell? ⟨gb715, 16, none⟩ = some (.int .u64 a0_16) := (blk_cell BK715.out 16).trans rfl
            have hcz94_17 : wc.cell? ⟨gb715, 17, none⟩ = some (.int .u64 a0_17) := (blk_cell BK715.out 17).trans rfl
            have hcz94_18 : wc.cell? ⟨gb715, 18, none⟩ = some (.int .u64 a0_18) := (blk_cell BK715.out 18).trans rfl
            have hfz94_0 := blk_frozen BK715.out 0
            have hfz94_1 := blk_frozen BK715.out 1
            have hfz94_2 := blk_frozen BK715.out 2
            have hfz94_3 := blk_frozen BK715.out 3
            have hfz94_4 := blk_frozen BK715.out 4
            have hfz94_5 := blk_frozen BK715.out 5
            have hfz94_6 := blk_frozen BK715.out 6
            have hfz94_7 := blk_frozen BK715.out 7
            have hfz94_8 := blk_frozen BK715.out 8
            have hfz94_9 := blk_frozen BK715.out 9
            have hfz94_10 := blk_frozen BK715.out 10
            have hfz94_11 := blk_frozen BK715.out 11
            have hfz94_12 := blk_frozen BK715.out 12
            have hfz94_13 := blk_frozen BK715.out 13
            have hfz94_14 := blk_frozen BK715.out 14
            have hfz94_15 := blk_frozen BK715.out 15
            have hfz94_16 := blk_frozen BK715.out 16
            have hfz94_17 := blk_frozen BK715.out 17
            have hfz94_18 := blk_frozen BK715.out 18
            go_wp2_with (first | ((with_reducible refine gate_callee (f := 18) rfl ?_); refine gm (some 41) Try.func18 #[.agg #[.int .i64 a0_6, .int .u64 a0_7, .int .u64 a0_8, .int .u64 a0_9, .int .u64 a0_10]] (policy_Valid.calls a0_6 a0_7 a0_8 a0_9 a0_10 false _ A25.out) ?_; intro w95 hb; have n0_ := bb BK715 hb; have n1_ := bb BK726 hb; have n2_ := bs HB hb; clear BK715; clear BK726; clear HB; have BK715 := n0_; have BK726 := n1_; have HB := n2_; clear n0_ n1_ n2_; (try clear hb); (try clear hb2); (try clear hk); (try clear hi); have hcz96_0 : w95.cell? ⟨gb726, 0, none⟩ = some (.int .u64 t717) := (blk_cell BK726.out 0).trans rfl; have hcz96_1 : w95.cell? ⟨gb726, 1, none⟩ = some (.int .u64 t718) := (blk_cell BK726.out 1).trans rfl; have hcz96_2 : w95.cell? ⟨gb726, 2, none⟩ = some (.int .u64 t719) := (blk_cell BK726.out 2).trans rfl; have hcz96_3 : w95.cell? ⟨gb726, 3, none⟩ = some (.bool t720) := (blk_cell BK726.out 3).trans rfl; have hcz96_4 : w95.cell? ⟨gb726, 4, none⟩ = some (.int .u64 t721) := (blk_cell BK726.out 4).trans rfl; have hcz96_5 : w95.cell? ⟨gb726, 5, none⟩ = some (.bool t722) := (blk_cell BK726.out 5).trans rfl; have hcz96_6 : w95.cell? ⟨gb726, 6, none⟩ = some (.int .u64 t723) := (blk_cell BK726.out 6).trans rfl; have hcz96_7 : w95.cell? ⟨gb726, 7, none⟩ = some (.int .u64 t724) := (blk_cell BK726.out 7).trans rfl; have hcz96_8 : w95.cell? ⟨gb726, 8, none⟩ = some (.int .u64 t725) := (blk_cell BK726.out 8).trans rfl; have hfz96_0 := blk_frozen BK726.out 0; have hfz96_1 := blk_frozen BK726.out 1; have hfz96_2 := blk_frozen BK726.out 2; have hfz96_3 := blk_frozen BK726.out 3; have hfz96_4 := blk_frozen BK726.out 4; have hfz96_5 := blk_frozen BK726.out 5; have hfz96_6 := blk_frozen BK726.out 6; have hfz96_7 := blk_frozen BK726.out 7; have hfz96_8 := blk_frozen BK726.out 8))
            go_ret
            exact ⟨re, bw HB⟩
  · replace c3 := Bool.eq_false_iff.mpr c3
    subst c3
    have H1 : (some false) = some r := by rw [if_neg (show ¬ (false = true) by decide)] at H; exact H
    clear H
    have H := H1
    clear H1
    obtain rfl := Option.some.inj H
    go_enter Try.func10, Try.ntmps10
    go_wp2_with (first | ((with_reducible refine gate_dst (N := 1) rfl ?_); refine bx 1 #[.int .i64 a0_0, .int .u64 a0_1, .int .u64 a0_2, .int .i64 a0_3, .int .i64 a0_4, .int .i64 a0_5, .int .i64 a0_6, .int .u64 a0_7, .int .u64 a0_8, .int .u64 a0_9, .int .u64 a0_10, .int .u64 a0_11, .int .u64 a0_12, .int .u64 a0_13, .int .u64 a0_14, .int .u64 a0_15, .int .u64 a0_16, .int .u64 a0_17, .int .u64 a0_18] 55 ?_; intro gb715 hg w97 hbox hb; have n0_ := bs HB hb; have n1_ := Aside0.mk (hbox); have n2_ := sz HB hg; have n3_ := sz HB hg; clear HB; have HB := n0_; have BK715 := n1_; have GW715 := n2_; have GE715 := n3_; clear n0_ n1_ n2_ n3_; clear hb hbox hg) | ((with_reducible refine gate_callee (f := 28) rfl ?_); refine gm (some 7) Try.func28 #[] (turnstilelaw17_awake.calls k  false _ A2.out) ?_; intro w98 hb; have n0_ := bb BK715 hb; have n1_ := bs HB hb; clear BK715; clear HB; have BK715 := n0_; have HB := n1_; clear n0_ n1_; (try clear hb); (try clear hb2); (try clear hk); (try clear hi)))
    go_ret
    exact ⟨re, bw HB⟩


end Go.Proofs.Ytokfhdpokemekaa.Q
