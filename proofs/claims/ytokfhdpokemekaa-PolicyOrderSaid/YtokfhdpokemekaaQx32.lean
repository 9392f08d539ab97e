/- Written by the session's own program hyb.py: what functions of the program compute; Lean checks it. -/
import Derived.Test.YtokfhdpokemekaaQx0
import Derived.Test.YtokfhdpokemekaaQx1
import Derived.Test.YtokfhdpokemekaaQx15
import Derived.Test.YtokfhdpokemekaaQx17
import Derived.Test.YtokfhdpokemekaaQx18
import Derived.Test.YtokfhdpokemekaaQx19
namespace Go.Proofs.Ytokfhdpokemekaa.Q
open Go.RowKit Go.Proofs.YtokfhdpokemekaaW.PrintWords Go.Proofs.YtokfhdpokemekaaW.PrintLast Go.Proofs.YtokfhdpokemekaaW.PrintMore Go.Proofs.YtokfhdpokemekaaW.PrintShort
attribute [local go_sem] run_Add64 run_Sub64
attribute [local go_sem] max2_int min2_int max_two min_two max_three min_three max_four min_four   -- for this text's walks alone
set_option linter.unusedVariables false
set_option linter.unusedSimpArgs false

attribute [local go_sem high] eqA29
/-! ### turnstilelaw06_PolicyOrder: function 6 -/
def turnstilelaw06_PolicyOrder.j0 : Nat → Bool → Bool → Bool → Int → Int → Int → Int → Int → Int → Int → Int → Int → Int → Int → Int → Int → Int → Int → Int → Int → Int → Int → Int → Int → Option (Bool)
  | 0, _, _, _, _, _, _, _, _, _, _, _, _, _, _, _, _, _, _, _, _, _, _, _, _ => none
  | k + 1, x6, x7, x104, x481000, x481001, x481002, x481003, x481004, x481005, x481006, x481007, x481008, x481009, x481010, x481011, x481012, x484000, x484001, x484002, x484003, x484004, x495000, x495001, x495002 => if x104 = true then (some false) else ((policy_Max.f x484000 x484001 x484002 x484003 x484004 x481005 x481006 x481007 x481005 x481006 x481007).bind fun bt502 => ((policy_Max.f x484000 x484001 x484002 x484003 x484004 x481008 x481009 x481010 x481008 x481009 x481010).bind fun bt506 => (if (x495000 == bt502.1 && (x495001 == bt502.2.1 && (x495002 == bt502.2.2))) = true then (if x6 = true then (some (x7 == (bt502.1 == bt506.1 && (bt502.2.1 == bt506.2.1 && (bt502.2.2 == bt506.2.2))))) else (some (false == (bt502.1 == bt506.1 && (bt502.2.1 == bt506.2.1 && (bt502.2.2 == bt506.2.2)))))) else (if (x495000 == bt506.1 && (x495001 == bt506.2.1 && (x495002 == bt506.2.2))) = true then (if x6 = true then (some (x7 == (bt502.1 == bt506.1 && (bt502.2.1 == bt506.2.1 && (bt502.2.2 == bt506.2.2))))) else (some (false == (bt502.1 == bt506.1 && (bt502.2.1 == bt506.2.1 && (bt502.2.2 == bt506.2.2)))))) else (some false)))))
def turnstilelaw06_PolicyOrder.f (k : Nat) (a0_0 : Int) (a0_1 : Int) (a0_2 : Int) (a0_3 : Int) (a0_4 : Int) (a0_5 : Int) (a0_6 : Int) (a0_7 : Int) (a0_8 : Int) (a0_9 : Int) (a0_10 : Int) (a0_11 : Int) (a0_12 : Int) (a1_0 : Int) (a1_1 : Int) (a1_2 : Int) : Option (Bool) := (turnstilelaw06_awake.f k).bind fun t482 => (if t482 = true then ((policy_Valid.f a0_0 a0_1 a0_2 a0_3 a0_4).bind fun t484 => (if t484 = true then ((policy_Covers.f a0_0 a0_1 a0_2 a0_3 a0_4 a0_5 a0_6 a0_7 a0_8 a0_9 a0_10).bind fun t487 => ((policy_Covers.f a0_0 a0_1 a0_2 a0_3 a0_4 a0_8 a0_9 a0_10 a0_5 a0_6 a0_7).bind fun t488 => ((policy_Covers.f a0_0 a0_1 a0_2 a0_3 a0_4 a0_8 a0_9 a0_10 a1_0 a1_1 a1_2).bind fun t489 => ((policy_Covers.f a0_0 a0_1 a0_2 a0_3 a0_4 a0_5 a0_6 a0_7 a1_0 a1_1 a1_2).bind fun t490 => ((policy_Max.f a0_0 a0_1 a0_2 a0_3 a0_4 a0_5 a0_6 a0_7 a0_8 a0_9 a0_10).bind fun bt491 => ((policy_Covers.f a0_0 a0_1 a0_2 a0_3 a0_4 a0_5 a0_6 a0_7 a0_5 a0_6 a0_7).bind fun t495 => (if t495 = true then (if t487 = true then (if t489 = true then (if t490 = true then ((policy_Covers.f a0_0 a0_1 a0_2 a0_3 a0_4 bt491.1 bt491.2.1 bt491.2.2 a0_5 a0_6 a0_7).bind fun t496 => (if t496 = true then ((policy_Covers.f a0_0 a0_1 a0_2 a0_3 a0_4 bt491.1 bt491.2.1 bt491.2.2 a0_8 a0_9 a0_10).bind fun t497 => (turnstilelaw06_PolicyOrder.j0 k t487 t488 (!t497) a0_0 a0_1 a0_2 a0_3 a0_4 a0_5 a0_6 a0_7 a0_8 a0_9 a0_10 a0_11 a0_12 a0_0 a0_1 a0_2 a0_3 a0_4 bt491.1 bt491.2.1 bt491.2.2)) else (turnstilelaw06_PolicyOrder.j0 k t487 t488 true a0_0 a0_1 a0_2 a0_3 a0_4 a0_5 a0_6 a0_7 a0_8 a0_9 a0_10 a0_11 a0_12 a0_0 a0_1 a0_2 a0_3 a0_4 bt491.1 bt491.2.1 bt491.2.2))) else (turnstilelaw06_PolicyOrder.j0 k t487 t488 true a0_0 a0_1 a0_2 a0_3 a0_4 a0_5 a0_6 a0_7 a0_8 a0_9 a0_10 a0_11 a0_12 a0_0 a0_1 a0_2 a0_3 a0_4 bt491.1 bt491.2.1 bt491.2.2)) else ((policy_Covers.f a0_0 a0_1 a0_2 a0_3 a0_4 bt491.1 bt491.2.1 bt491.2.2 a0_5 a0_6 a0_7).bind fun t498 => (if t498 = true then ((policy_Covers.f a0_0 a0_1 a0_2 a0_3 a0_4 bt491.1 bt491.2.1 bt491.2.2 a0_8 a0_9 a0_10).bind fun t499 => (turnstilelaw06_PolicyOrder.j0 k t487 t488 (!t499) a0_0 a0_1 a0_2 a0_3 a0_4 a0_5 a0_6 a0_7 a0_8 a0_9 a0_10 a0_11 a0_12 a0_0 a0_1 a0_2 a0_3 a0_4 bt491.1 bt491.2.1 bt491.2.2)) else (turnstilelaw06_PolicyOrder.j0 k t487 t488 true a0_0 a0_1 a0_2 a0_3 a0_4 a0_5 a0_6 a0_7 a0_8 a0_9 a0_10 a0_11 a0_12 a0_0 a0_1 a0_2 a0_3 a0_4 bt491.1 bt491.2.1 bt491.2.2)))) else (if t488 = true then ((policy_Covers.f a0_0 a0_1 a0_2 a0_3 a0_4 bt491.1 bt491.2.1 bt491.2.2 a0_5 a0_6 a0_7).bind fun t500 => (if t500 = true then ((policy_Covers.f a0_0 a0_1 a0_2 a0_3 a0_4 bt491.1 bt491.2.1 bt491.2.2 a0_8 a0_9 a0_10).bind fun t501 => (turnstilelaw06_PolicyOrder.j0 k t487 t488 (!t501) a0_0 a0_1 a0_2 a0_3 a0_4 a0_5 a0_6 a0_7 a0_8 a0_9 a0_10 a0_11 a0_12 a0_0 a0_1 a0_2 a0_3 a0_4 bt491.1 bt491.2.1 bt491.2.2)) else (turnstilelaw06_PolicyOrder.j0 k t487 t488 true a0_0 a0_1 a0_2 a0_3 a0_4 a0_5 a0_6 a0_7 a0_8 a0_9 a0_10 a0_11 a0_12 a0_0 a0_1 a0_2 a0_3 a0_4 bt491.1 bt491.2.1 bt491.2.2))) else (turnstilelaw06_PolicyOrder.j0 k t487 t488 true a0_0 a0_1 a0_2 a0_3 a0_4 a0_5 a0_6 a0_7 a0_8 a0_9 a0_10 a0_11 a0_12 a0_0 a0_1 a0_2 a0_3 a0_4 bt491.1 bt491.2.1 bt491.2.2))) else (turnstilelaw06_PolicyOrder.j0 k t487 t488 true a0_0 a0_1 a0_2 a0_3 a0_4 a0_5 a0_6 a0_7 a0_8 a0_9 a0_10 a0_11 a0_12 a0_0 a0_1 a0_2 a0_3 a0_4 bt491.1 bt491.2.1 bt491.2.2)))))))) else ((policy_Covers.f a0_0 a0_1 a0_2 a0_3 a0_4 a0_5 a0_6 a0_7 a0_5 a0_6 a0_7).bind fun t485 => (if t485 = true then (some false) else ((policy_Covers.f a0_0 a0_1 a0_2 a0_3 a0_4 a0_5 a0_6 a0_7 a0_8 a0_9 a0_10).bind fun t486 => (some (!t486))))))) else (some false))
theorem turnstilelaw06_PolicyOrder.mono_l : ∀ k, (∀ y0 y1 y2 y3 y4 y5 y6 y7 y8 y9 y10 y11 y12 y13 y14 y15 y16 y17 y18 y19 y20 y21 y22 y23, LeO (turnstilelaw06_PolicyOrder.j0 k y0 y1 y2 y3 y4 y5 y6 y7 y8 y9 y10 y11 y12 y13 y14 y15 y16 y17 y18 y19 y20 y21 y22 y23) (turnstilelaw06_PolicyOrder.j0 (k + 1) y0 y1 y2 y3 y4 y5 y6 y7 y8 y9 y10 y11 y12 y13 y14 y15 y16 y17 y18 y19 y20 y21 y22 y23))
  | 0 => fun _ _ _ _ _ _ _ _ _ _ _ _ _ _ _ _ _ _ _ _ _ _ _ _ r h => by simp [turnstilelaw06_PolicyOrder.j0] at h
  | k + 1 => by
    have ih0 := turnstilelaw06_PolicyOrder.mono_l k
    · intro y0 y1 y2 y3 y4 y5 y6 y7 y8 y9 y10 y11 y12 y13 y14 y15 y16 y17 y18 y19 y20 y21 y22 y23
      unfold turnstilelaw06_PolicyOrder.j0
      repeat' first
      | (with_reducible exact ih0 _ _ _ _ _ _ _ _ _ _ _ _ _ _ _ _ _ _ _ _ _ _ _ _)
      | (with_reducible exact turnstilelaw06_awake.mono _)
      | (with_reducible exact LeO.refl _)
      | (with_reducible exact LeO.none _)
      | (with_reducible refine LeO.ite ?_ ?_)
      | (with_reducible refine LeO.bind ?_ (fun _ => ?_))
      | exact ih0 _ _ _ _ _ _ _ _ _ _ _ _ _ _ _ _ _ _ _ _ _ _ _ _
      | exact turnstilelaw06_awake.mono _
      | exact LeO.none _
      | refine LeO.ite ?_ ?_
      | refine LeO.bind ?_ (fun _ => ?_)
theorem turnstilelaw06_PolicyOrder.mono : ∀ a0 a1 a2 a3 a4 a5 a6 a7 a8 a9 a10 a11 a12 a13 a14 a15 k, LeO (turnstilelaw06_PolicyOrder.f k a0 a1 a2 a3 a4 a5 a6 a7 a8 a9 a10 a11 a12 a13 a14 a15) (turnstilelaw06_PolicyOrder.f (k + 1) a0 a1 a2 a3 a4 a5 a6 a7 a8 a9 a10 a11 a12 a13 a14 a15) := by
  intro a0 a1 a2 a3 a4 a5 a6 a7 a8 a9 a10 a11 a12 a13 a14 a15 k
  have ih0 := turnstilelaw06_PolicyOrder.mono_l k
  unfold turnstilelaw06_PolicyOrder.f
  repeat' first
      | (with_reducible exact ih0 _ _ _ _ _ _ _ _ _ _ _ _ _ _ _ _ _ _ _ _ _ _ _ _)
      | (with_reducible exact turnstilelaw06_awake.mono _)
      | (with_reducible exact LeO.refl _)
      | (with_reducible exact LeO.none _)
      | (with_reducible refine LeO.ite ?_ ?_)
      | (with_reducible refine LeO.bind ?_ (fun _ => ?_))
      | exact ih0 _ _ _ _ _ _ _ _ _ _ _ _ _ _ _ _ _ _ _ _ _ _ _ _
      | exact turnstilelaw06_awake.mono _
      | exact LeO.none _
      | refine LeO.ite ?_ ?_
      | refine LeO.bind ?_ (fun _ => ?_)
set_option maxHeartbeats 8000000 in
set_option maxRecDepth 100000 in
theorem turnstilelaw06_PolicyOrder.calls (k : Nat) (a0_0 : Int) (a0_1 : Int) (a0_2 : Int) (a0_3 : Int) (a0_4 : Int) (a0_5 : Int) (a0_6 : Int) (a0_7 : Int) (a0_8 : Int) (a0_9 : Int) (a0_10 : Int) (a0_11 : Int) (a0_12 : Int) (a1_0 : Int) (a1_1 : Int) (a1_2 : Int) (r : Bool) (w : World) (h : turnstilelaw06_PolicyOrder.f k a0_0 a0_1 a0_2 a0_3 a0_4 a0_5 a0_6 a0_7 a0_8 a0_9 a0_10 a0_11 a0_12 a1_0 a1_1 a1_2 = some r) :
    Calls Try.prog 6 #[.agg #[.int .i64 a0_0, .int .u64 a0_1, .int .u64 a0_2, .int .u64 a0_3, .int .u64 a0_4, .int .u64 a0_5, .int .u64 a0_6, .int .u64 a0_7, .int .u64 a0_8, .int .u64 a0_9, .int .u64 a0_10, .int .u64 a0_11, .int .u64 a0_12], .agg #[.int .u64 a1_0, .int .u64 a1_1, .int .u64 a1_2]] w fun e w' => e = .returned (.bool r) ∧ Below w.heap.size w w' := by
  have hu31 := Try.underlying31
  have hu29 := Try.underlying29
  have hu27 := Try.underlying27
  have HB := Aside0.mk (Below.refl w.heap.size w)
  have H : ((turnstilelaw06_awake.f k).bind fun t482 => (if t482 = true then ((policy_Valid.f a0_0 a0_1 a0_2 a0_3 a0_4).bind fun t484 => (if t484 = true then ((policy_Covers.f a0_0 a0_1 a0_2 a0_3 a0_4 a0_5 a0_6 a0_7 a0_8 a0_9 a0_10).bind fun t487 => ((policy_Covers.f a0_0 a0_1 a0_2 a0_3 a0_4 a0_8 a0_9 a0_10 a0_5 a0_6 a0_7).bind fun t488 => ((policy_Covers.f a0_0 a0_1 a0_2 a0_3 a0_4 a0_8 a0_9 a0_10 a1_0 a1_1 a1_2).bind fun t489 => ((policy_Covers.f a0_0 a0_1 a0_2 a0_3 a0_4 a0_5 a0_6 a0_7 a1_0 a1_1 a1_2).bind fun t490 => ((policy_Max.f a0_0 a0_1 a0_2 a0_3 a0_4 a0_5 a0_6 a0_7 a0_8 a0_9 a0_10).bind fun bt491 => ((policy_Covers.f a0_0 a0_1 a0_2 a0_3 a0_4 a0_5 a0_6 a0_7 a0_5 a0_6 a0_7).bind fun t495 => (if t495 = true then (if t487 = true then (if t489 = true then (if t490 = true then ((policy_Covers.f a0_0 a0_1 a0_2 a0_3 a0_4 bt491.1 bt491.2.1 bt491.2.2 a0_5 a0_6 a0_7).bind fun t496 => (if t496 = true then ((policy_Covers.f a0_0 a0_1 a0_2 a0_3 a0_4 bt491.1 bt491.2.1 bt491.2.2 a0_8 a0_9 a0_10).bind fun t497 => (turnstilelaw06_PolicyOrder.j0 k t487 t488 (!t497) a0_0 a0_1 a0_2 a0_3 a0_4 a0_5 a0_6 a0_7 a0_8 a0_9 a0_10 a0_11 a0_12 a0_0 a0_1 a0_2 a0_3 a0_4 bt491.1 bt491.2.1 bt491.2.2)) else (turnstilelaw06_PolicyOrder.j0 k t487 t488 true a0_0 a0_1 a0_2 a0_3 a0_4 a0_5 a0_6 a0_7 a0_8 a0_9 a0_10 a0_11 a0_12 a0_0 a0_1 a0_2 a0_3 a0_4 bt491.1 bt491.2.1 bt491.2.2))) else (turnstilelaw06_PolicyOrder.j0 k t487 t488 true a0_0 a0_1 a0_2 a0_3 a0_4 a0_5 a0_6 a0_7 a0_8 a0_9 a0_10 a0_11 a0_12 a0_0 a0_1 a0_2 a0_3 a0_4 bt491.1 bt491.2.1 bt491.2.2)) else ((policy_Covers.f a0_0 a0_1 a0_2 a0_3 a0_4 bt491.1 bt491.2.1 bt491.2.2 a0_5 a0_6 a0_7).bind fun t498 => (if t498 = true then ((policy_Covers.f a0_0 a0_1 a0_2 a0_3 a0_4 bt491.1 bt491.2.1 bt491.2.2 a0_8 a0_9 a0_10).bind fun t499 => (turnstilelaw06_PolicyOrder.j0 k t487 t488 (!t499) a0_0 a0_1 a0_2 a0_3 a0_4 a0_5 a0_6 a0_7 a0_8 a0_9 a0_10 a0_11 a0_12 a0_0 a0_1 a0_2 a0_3 a0_4 bt491.1 bt491.2.1 bt491.2.2)) else (turnstilelaw06_PolicyOrder.j0 k t487 t488 true a0_0 a0_1 a0_2 a0_3 a0_4 a0_5 a0_6 a0_7 a0_8 a0_9 a0_10 a0_11 a0_12 a0_0 a0_1 a0_2 a0_3 a0_4 bt491.1 bt491.2.1 bt491.2.2)))) else (if t488 = true then ((policy_Covers.f a0_0 a0_1 a0_2 a0_3 a0_4 bt491.1 bt491.2.1 bt491.2.2 a0_5 a0_6 a0_7).bind fun t500 => (if t500 = true then ((policy_Covers.f a0_0 a0_1 a0_2 a0_3 a0_4 bt491.1 bt491.2.1 bt491.2.2 a0_8 a0_9 a0_10).bind fun t501 => (turnstilelaw06_PolicyOrder.j0 k t487 t488 (!t501) a0_0 a0_1 a0_2 a0_3 a0_4 a0_5 a0_6 a0_7 a0_8 a0_9 a0_10 a0_11 a0_12 a0_0 a0_1 a0_2 a0_3 a0_4 bt491.1 bt491.2.1 bt491.2.2)) else (turnstilelaw06_PolicyOrder.j0 k t487 t488 true a0_0 a0_1 a0_2 a0_3 a0_4 a0_5 a0_6 a0_7 a0_8 a0_9 a0_10 a0_11 a0_12 a0_0 a0_1 a0_2 a0_3 a0_4 bt491.1 bt491.2.1 bt491.2.2))) else (turnstilelaw06_PolicyOrder.j0 k t487 t488 true a0_0 a0_1 a0_2 a0_3 a0_4 a0_5 a0_6 a0_7 a0_8 a0_9 a0_10 a0_11 a0_12 a0_0 a0_1 a0_2 a0_3 a0_4 bt491.1 bt491.2.1 bt491.2.2))) else (turnstilelaw06_PolicyOrder.j0 k t487 t488 true a0_0 a0_1 a0_2 a0_3 a0_4 a0_5 a0_6 a0_7 a0_8 a0_9 a0_10 a0_11 a0_12 a0_0 a0_1 a0_2 a0_3 a0_4 bt491.1 bt491.2.1 bt491.2.2)))))))) else ((policy_Covers.f a0_0 a0_1 a0_2 a0_3 a0_4 a0_5 a0_6 a0_7 a0_5 a0_6 a0_7).bind fun t485 => (if t485 = true then (some false) else ((policy_Covers.f a0_0 a0_1 a0_2 a0_3 a0_4 a0_5 a0_6 a0_7 a0_8 a0_9 a0_10).bind fun t486 => (some (!t486))))))) else (some false))) = some r := h
  clear h
  replace H := Option.bind_eq_some_iff.mp H
  obtain ⟨t482, A30, H⟩ := H
  replace H : (if t482 = true then ((policy_Valid.f a0_0 a0_1 a0_2 a0_3 a0_4).bind fun t484 => (if t484 = true then ((policy_Covers.f a0_0 a0_1 a0_2 a0_3 a0_4 a0_5 a0_6 a0_7 a0_8 a0_9 a0_10).bind fun t487 => ((policy_Covers.f a0_0 a0_1 a0_2 a0_3 a0_4 a0_8 a0_9 a0_10 a0_5 a0_6 a0_7).bind fun t488 => ((policy_Covers.f a0_0 a0_1 a0_2 a0_3 a0_4 a0_8 a0_9 a0_10 a1_0 a1_1 a1_2).bind fun t489 => ((policy_Covers.f a0_0 a0_1 a0_2 a0_3 a0_4 a0_5 a0_6 a0_7 a1_0 a1_1 a1_2).bind fun t490 => ((policy_Max.f a0_0 a0_1 a0_2 a0_3 a0_4 a0_5 a0_6 a0_7 a0_8 a0_9 a0_10).bind fun bt491 => ((policy_Covers.f a0_0 a0_1 a0_2 a0_3 a0_4 a0_5 a0_6 a0_7 a0_5 a0_6 a0_7).bind fun t495 => (if t495 = true then (if t487 = true then (if t489 = true then (if t490 = true then ((policy_Covers.f a0_0 a0_1 a0_2 a0_3 a0_4 bt491.1 bt491.2.1 bt491.2.2 a0_5 a0_6 a0_7).bind fun t496 => (if t496 = true then ((policy_Covers.f a0_0 a0_1 a0_2 a0_3 a0_4 bt491.1 bt491.2.1 bt491.2.2 a0_8 a0_9 a0_10).bind fun t497 => (turnstilelaw06_PolicyOrder.j0 k t487 t488 (!t497) a0_0 a0_1 a0_2 a0_3 a0_4 a0_5 a0_6 a0_7 a0_8 a0_9 a0_10 a0_11 a0_12 a0_0 a0_1 a0_2 a0_3 a0_4 bt491.1 bt491.2.1 bt491.2.2)) else (turnstilelaw06_PolicyOrder.j0 k t487 t488 true a0_0 a0_1 a0_2 a0_3 a0_4 a0_5 a0_6 a0_7 a0_8 a0_9 a0_10 a0_11 a0_12 a0_0 a0_1 a0_2 a0_3 a0_4 bt491.1 bt491.2.1 bt491.2.2))) else (turnstilelaw06_PolicyOrder.j0 k t487 t488 true a0_0 a0_1 a0_2 a0_3 a0_4 a0_5 a0_6 a0_7 a0_8 a0_9 a0_10 a0_11 a0_12 a0_0 a0_1 a0_2 a0_3 a0_4 bt491.1 bt491.2.1 bt491.2.2)) else ((policy_Covers.f a0_0 a0_1 a0_2 a0_3 a0_4 bt491.1 bt491.2.1 bt491.2.2 a0_5 a0_6 a0_7).bind fun t498 => (if t498 = true then ((policy_Covers.f a0_0 a0_1 a0_2 a0_3 a0_4 bt491.1 bt491.2.1 bt491.2.2 a0_8 a0_9 a0_10).bind fun t499 => (turnstilelaw06_PolicyOrder.j0 k t487 t488 (!t499) a0_0 a0_1 a0_2 a0_3 a0_4 a0_5 a0_6 a0_7 a0_8 a0_9 a0_10 a0_11 a0_12 a0_0 a0_1 a0_2 a0_3 a0_4 bt491.1 bt491.2.1 bt491.2.2)) else (turnstilelaw06_PolicyOrder.j0 k t487 t488 true a0_0 a0_1 a0_2 a0_3 a0_4 a0_5 a0_6 a0_7 a0_8 a0_9 a0_10 a0_11 a0_12 a0_0 a0_1 a0_2 a0_3 a0_4 bt491.1 bt491.2.1 bt491.2.2)))) else (if t488 = true then ((policy_Covers.f a0_0 a0_1 a0_2 a0_3 a0_4 bt491.1 bt491.2.1 bt491.2.2 a0_5 a0_6 a0_7).bind fun t500 => (if t500 = true then ((policy_Covers.f a0_0 a0_1 a0_2 a0_3 a0_4 bt491.1 bt491.2.1 bt491.2.2 a0_8 a0_9 a0_10).bind fun t501 => (turnstilelaw06_PolicyOrder.j0 k t487 t488 (!t501) a0_0 a0_1 a0_2 a0_3 a0_4 a0_5 a0_6 a0_7 a0_8 a0_9 a0_10 a0_11 a0_12 a0_0 a0_1 a0_2 a0_3 a0_4 bt491.1 bt491.2.1 bt491.2.2)) else (turnstilelaw06_PolicyOrder.j0 k t487 t488 true a0_0 a0_1 a0_2 a0_3 a0_4 a0_5 a0_6 a0_7 a0_8 a0_9 a0_10 a0_11 a0_12 a0_0 a0_1 a0_2 a0_3 a0_4 bt491.1 bt491.2.1 bt491.2.2))) else (turnstilelaw06_PolicyOrder.j0 k t487 t488 true a0_0 a0_1 a0_2 a0_3 a0_4 a0_5 a0_6 a0_7 a0_8 a0_9 a0_10 a0_11 a0_12 a0_0 a0_1 a0_2 a0_3 a0_4 bt491.1 bt491.2.1 bt491.2.2))) else (turnstilelaw06_PolicyOrder.j0 k t487 t488 true a0_0 a0_1 a0_2 a0_3 a0_4 a0_5 a0_6 a0_7 a0_8 a0_9 a0_10 a0_11 a0_12 a0_0 a0_1 a0_2 a0_3 a0_4 bt491.1 bt491.2.1 bt491.2.2)))))))) else ((policy_Covers.f a0_0 a0_1 a0_2 a0_3 a0_4 a0_5 a0_6 a0_7 a0_5 a0_6 a0_7).bind fun t485 => (if t485 = true then (some false) else ((policy_Covers.f a0_0 a0_1 a0_2 a0_3 a0_4 a0_5 a0_6 a0_7 a0_8 a0_9 a0_10).bind fun t486 => (some (!t486))))))) else (some false)) = some r := H
  have A3 := Aside0.mk A30
  clear A30
  by_cases c4 : t482 = true
  · subst c4
    have H1 : ((policy_Valid.f a0_0 a0_1 a0_2 a0_3 a0_4).bind fun t484 => (if t484 = true then ((policy_Covers.f a0_0 a0_1 a0_2 a0_3 a0_4 a0_5 a0_6 a0_7 a0_8 a0_9 a0_10).bind fun t487 => ((policy_Covers.f a0_0 a0_1 a0_2 a0_3 a0_4 a0_8 a0_9 a0_10 a0_5 a0_6 a0_7).bind fun t488 => ((policy_Covers.f a0_0 a0_1 a0_2 a0_3 a0_4 a0_8 a0_9 a0_10 a1_0 a1_1 a1_2).bind fun t489 => ((policy_Covers.f a0_0 a0_1 a0_2 a0_3 a0_4 a0_5 a0_6 a0_7 a1_0 a1_1 a1_2).bind fun t490 => ((policy_Max.f a0_0 a0_1 a0_2 a0_3 a0_4 a0_5 a0_6 a0_7 a0_8 a0_9 a0_10).bind fun bt491 => ((policy_Covers.f a0_0 a0_1 a0_2 a0_3 a0_4 a0_5 a0_6 a0_7 a0_5 a0_6 a0_7).bind fun t495 => (if t495 = true then (if t487 = true then (if t489 = true then (if t490 = true then ((policy_Covers.f a0_0 a0_1 a0_2 a0_3 a0_4 bt491.1 bt491.2.1 bt491.2.2 a0_5 a0_6 a0_7).bind fun t496 => (if t496 = true then ((policy_Covers.f a0_0 a0_1 a0_2 a0_3 a0_4 bt491.1 bt491.2.1 bt491.2.2 a0_8 a0_9 a0_10).bind fun t497 => (turnstilelaw06_PolicyOrder.j0 k t487 t488 (!t497) a0_0 a0_1 a0_2 a0_3 a0_4 a0_5 a0_6 a0_7 a0_8 a0_9 a0_10 a0_11 a0_12 a0_0 a0_1 a0_2 a0_3 a0_4 bt491.1 bt491.2.1 bt491.2.2)) else (turnstilelaw06_PolicyOrder.j0 k t487 t488 true a0_0 a0_1 a0_2 a0_3 a0_4 a0_5 a0_6 a0_7 a0_8 a0_9 a0_10 a0_11 a0_12 a0_0 a0_1 a0_2 a0_3 a0_4 bt491.1 bt491.2.1 bt491.2.2))) else (turnstilelaw06_PolicyOrder.j0 k t487 t488 true a0_0 a0_1 a0_2 a0_3 a0_4 a0_5 a0_6 a0_7 a0_8 a0_9 a0_10 a0_11 a0_12 a0_0 a0_1 a0_2 a0_3 a0_4 bt491.1 bt491.2.1 bt491.2.2)) else ((policy_Covers.f a0_0 a0_1 a0_2 a0_3 a0_4 bt491.1 bt491.2.1 bt491.2.2 a0_5 a0_6 a0_7).bind fun t498 => (if t498 = true then ((policy_Covers.f a0_0 a0_1 a0_2 a0_3 a0_4 bt491.1 bt491.2.1 bt491.2.2 a0_8 a0_9 a0_10).bind fun t499 => (turnstilelaw06_PolicyOrder.j0 k t487 t488 (!t499) a0_0 a0_1 a0_2 a0_3 a0_4 a0_5 a0_6 a0_7 a0_8 a0_9 a0_10 a0_11 a0_12 a0_0 a0_1 a0_2 a0_3 a0_4 bt491.1 bt491.2.1 bt491.2.2)) else (turnstilelaw06_PolicyOrder.j0 k t487 t488 true a0_0 a0_1 a0_2 a0_3 a0_4 a0_5 a0_6 a0_7 a0_8 a0_9 a0_10 a0_11 a0_12 a0_0 a0_1 a0_2 a0_3 a0_4 bt491.1 bt491.2.1 bt491.2.2)))) else (if t488 = true then ((policy_Covers.f a0_0 a0_1 a0_2 a0_3 a0_4 bt491.1 bt491.2.1 bt491.2.2 a0_5 a0_6 a0_7).bind fun t500 => (if t500 = true then ((policy_Covers.f a0_0 a0_1 a0_2 a0_3 a0_4 bt491.1 bt491.2.1 bt491.2.2 a0_8 a0_9 a0_10).bind fun t501 => (turnstilelaw06_PolicyOrder.j0 k t487 t488 (!t501) a0_0 a0_1 a0_2 a0_3 a0_4 a0_5 a0_6 a0_7 a0_8 a0_9 a0_10 a0_11 a0_12 a0_0 a0_1 a0_2 a0_3 a0_4 bt491.1 bt491.2.1 bt491.2.2)) else (turnstilelaw06_PolicyOrder.j0 k t487 t488 true a0_0 a0_1 a0_2 a0_3 a0_4 a0_5 a0_6 a0_7 a0_8 a0_9 a0_10 a0_11 a0_12 a0_0 a0_1 a0_2 a0_3 a0_4 bt491.1 bt491.2.1 bt491.2.2))) else (turnstilelaw06_PolicyOrder.j0 k t487 t488 true a0_0 a0_1 a0_2 a0_3 a0_4 a0_5 a0_6 a0_7 a0_8 a0_9 a0_10 a0_11 a0_12 a0_0 a0_1 a0_2 a0_3 a0_4 bt491.1 bt491.2.1 bt491.2.2))) else (turnstilelaw06_PolicyOrder.j0 k t487 t488 true a0_0 a0_1 a0_2 a0_3 a0_4 a0_5 a0_6 a0_7 a0_8 a0_9 a0_10 a0_11 a0_12 a0_0 a0_1 a0_2 a0_3 a0_4 bt491.1 bt491.2.1 bt491.2.2)))))))) else ((policy_Covers.f a0_0 a0_1 a0_2 a0_3 a0_4 a0_5 a0_6 a0_7 a0_5 a0_6 a0_7).bind fun t485 => (if t485 = true then (some false) else ((policy_Covers.f a0_0 a0_1 a0_2 a0_3 a0_4 a0_5 a0_6 a0_7 a0_8 a0_9 a0_10).bind fun t486 => (some (!t486))))))) = some r := by rw [if_pos rfl] at H; exact H
    clear H
    have H := H1
    clear H1
    replace H := Option.bind_eq_some_iff.mp H
    obtain ⟨t484, A50, H⟩ := H
    replace H : (if t484 = true then ((policy_Covers.f a0_0 a0_1 a0_2 a0_3 a0_4 a0_5 a0_6 a0_7 a0_8 a0_9 a0_10).bind fun t487 => ((policy_Covers.f a0_0 a0_1 a0_2 a0_3 a0_4 a0_8 a0_9 a0_10 a0_5 a0_6 a0_7).bind fun t488 => ((policy_Covers.f a0_0 a0_1 a0_2 a0_3 a0_4 a0_8 a0_9 a0_10 a1_0 a1_1 a1_2).bind fun t489 => ((policy_Covers.f a0_0 a0_1 a0_2 a0_3 a0_4 a0_5 a0_6 a0_7 a1_0 a1_1 a1_2).bind fun t490 => ((policy_Max.f a0_0 a0_1 a0_2 a0_3 a0_4 a0_5 a0_6 a0_7 a0_8 a0_9 a0_10).bind fun bt491 => ((policy_Covers.f a0_0 a0_1 a0_2 a0_3 a0_4 a0_5 a0_6 a0_7 a0_5 a0_6 a0_7).bind fun t495 => (if t495 = true then (if t487 = true then (if t489 = true then (if t490 = true then ((policy_Covers.f a0_0 a0_1 a0_2 a0_3 a0_4 bt491.1 bt491.2.1 bt491.2.2 a0_5 a0_6 a0_7).bind fun t496 => (if t496 = true then ((policy_Covers.f a0_0 a0_1 a0_2 a0_3 a0_4 bt491.1 bt491.2.1 bt491.2.2 a0_8 a0_9 a0_10).bind fun t497 => (turnstilelaw06_PolicyOrder.j0 k t487 t488 (!t497) a0_0 a0_1 a0_2 a0_3 a0_4 a0_5 a0_6 a0_7 a0_8 a0_9 a0_10 a0_11 a0_12 a0_0 a0_1 a0_2 a0_3 a0_4 bt491.1 bt491.2.1 bt491.2.2)) else (turnstilelaw06_PolicyOrder.j0 k t487 t488 true a0_0 a0_1 a0_2 a0_3 a0_4 a0_5 a0_6 a0_7 a0_8 a0_9 a0_10 a0_11 a0_12 a0_0 a0_1 a0_2 a0_3 a0_4 bt491.1 bt491.2.1 bt491.2.2))) else (turnstilelaw06_PolicyOrder.j0 k t487 t488 true a0_0 a0_1 a0_2 a0_3 a0_4 a0_5 a0_6 a0_7 a0_8 a0_9 a0_10 a0_11 a0_12 a0_0 a0_1 a0_2 a0_3 a0_4 bt491.1 bt491.2.1 bt491.2.2)) else ((policy_Covers.f a0_0 a0_1 a0_2 a0_3 a0_4 bt491.1 bt491.2.1 bt491.2.2 a0_5 a0_6 a0_7).bind fun t498 => (if t498 = true then ((policy_Covers.f a0_0 a0_1 a0_2 a0_3 a0_4 bt491.1 bt491.2.1 bt491.2.2 a0_8 a0_9 a0_10).bind fun t499 => (turnstilelaw06_PolicyOrder.j0 k t487 t488 (!t499) a0_0 a0_1 a0_2 a0_3 a0_4 a0_5 a0_6 a0_7 a0_8 a0_9 a0_10 a0_11 a0_12 a0_0 a0_1 a0_2 a0_3 a0_4 bt491.1 bt491.2.1 bt491.2.2)) else (turnstilelaw06_PolicyOrder.j0 k t487 t488 true a0_0 a0_1 a0_2 a0_3 a0_4 a0_5 a0_6 a0_7 a0_8 a0_9 a0_10 a0_11 a0_12 a0_0 a0_1 a0_2 a0_3 a0_4 bt491.1 bt491.2.1 bt491.2.2)))) else (if t488 = true then ((policy_Covers.f a0_0 a0_1 a0_2 a0_3 a0_4 bt491.1 bt491.2.1 bt491.2.2 a0_5 a0_6 a0_7).bind fun t500 => (if t500 = true then ((policy_Covers.f a0_0 a0_1 a0_2 a0_3 a0_4 bt491.1 bt491.2.1 bt491.2.2 a0_8 a0_9 a0_10).bind fun t501 => (turnstilelaw06_PolicyOrder.j0 k t487 t488 (!t501) a0_0 a0_1 a0_2 a0_3 a0_4 a0_5 a0_6 a0_7 a0_8 a0_9 a0_10 a0_11 a0_12 a0_0 a0_1 a0_2 a0_3 a0_4 bt491.1 bt491.2.1 bt491.2.2)) else (turnstilelaw06_PolicyOrder.j0 k t487 t488 true a0_0 a0_1 a0_2 a0_3 a0_4 a0_5 a0_6 a0_7 a0_8 a0_9 a0_10 a0_11 a0_12 a0_0 a0_1 a0_2 a0_3 a0_4 bt491.1 bt491.2.1 bt491.2.2))) else (turnstilelaw06_PolicyOrder.j0 k t487 t488 true a0_0 a0_1 a0_2 a0_3 a0_4 a0_5 a0_6 a0_7 a0_8 a0_9 a0_10 a0_11 a0_12 a0_0 a0_1 a0_2 a0_3 a0_4 bt491.1 bt491.2.1 bt491.2.2))) else (turnstilelaw06_PolicyOrder.j0 k t487 t488 true a0_0 a0_1 a0_2 a0_3 a0_4 a0_5 a0_6 a0_7 a0_8 a0_9 a0_10 a0_11 a0_12 a0_0 a0_1 a0_2 a0_3 a0_4 bt491.1 bt491.2.1 bt491.2.2)))))))) else ((policy_Covers.f a0_0 a0_1 a0_2 a0_3 a0_4 a0_5 a0_6 a0_7 a0_5 a0_6 a0_7).bind fun t485 => (if t485 = true then (some false) else ((policy_Covers.f a0_0 a0_1 a0_2 a0_3 a0_4 a0_5 a0_6 a0_7 a0_8 a0_9 a0_10).bind fun t486 => (some (!t486)))))) = some r := H
    have A5 := Aside0.mk A50
    clear A50
    by_cases c6 : t484 = true
    · subst c6
      have H1 : ((policy_Covers.f a0_0 a0_1 a0_2 a0_3 a0_4 a0_5 a0_6 a0_7 a0_8 a0_9 a0_10).bind fun t487 => ((policy_Covers.f a0_0 a0_1 a0_2 a0_3 a0_4 a0_8 a0_9 a0_10 a0_5 a0_6 a0_7).bind fun t488 => ((policy_Covers.f a0_0 a0_1 a0_2 a0_3 a0_4 a0_8 a0_9 a0_10 a1_0 a1_1 a1_2).bind fun t489 => ((policy_Covers.f a0_0 a0_1 a0_2 a0_3 a0_4 a0_5 a0_6 a0_7 a1_0 a1_1 a1_2).bind fun t490 => ((policy_Max.f a0_0 a0_1 a0_2 a0_3 a0_4 a0_5 a0_6 a0_7 a0_8 a0_9 a0_10).bind fun bt491 => ((policy_Covers.f a0_0 a0_1 a0_2 a0_3 a0_4 a0_5 a0_6 a0_7 a0_5 a0_6 a0_7).bind fun t495 => (if t495 = true then (if t487 = true then (if t489 = true then (if t490 = true then ((policy_Covers.f a0_0 a0_1 a0_2 a0_3 a0_4 bt491.1 bt491.2.1 bt491.2.2 a0_5 a0_6 a0_7).bind fun t496 => (if t496 = true then ((policy_Covers.f a0_0 a0_1 a0_2 a0_3 a0_4 bt491.1 bt491.2.1 bt491.2.2 a0_8 a0_9 a0_10).bind fun t497 => (turnstilelaw06_PolicyOrder.j0 k t487 t488 (!t497) a0_0 a0_1 a0_2 a0_3 a0_4 a0_5 a0_6 a0_7 a0_8 a0_9 a0_10 a0_11 a0_12 a0_0 a0_1 a0_2 a0_3 a0_4 bt491.1 bt491.2.1 bt491.2.2)) else (turnstilelaw06_PolicyOrder.j0 k t487 t488 true a0_0 a0_1 a0_2 a0_3 a0_4 a0_5 a0_6 a0_7 a0_8 a0_9 a0_10 a0_11 a0_12 a0_0 a0_1 a0_2 a0_3 a0_4 bt491.1 bt491.2.1 bt491.2.2))) else (turnstilelaw06_PolicyOrder.j0 k t487 t488 true a0_0 a0_1 a0_2 a0_3 a0_4 a0_5 a0_6 a0_7 a0_8 a0_9 a0_10 a0_11 a0_12 a0_0 a0_1 a0_2 a0_3 a0_4 bt491.1 bt491.2.1 bt491.2.2)) else ((policy_Covers.f a0_0 a0_1 a0_2 a0_3 a0_4 bt491.1 bt491.2.1 bt491.2.2 a0_5 a0_6 a0_7).bind fun t498 => (if t498 = true then ((policy_Covers.f a0_0 a0_1 a0_2 a0_3 a0_4 bt491.1 bt491.2.1 bt491.2.2 a0_8 a0_9 a0_10).bind fun t499 => (turnstilelaw06_PolicyOrder.j0 k t487 t488 (!t499) a0_0 a0_1 a0_2 a0_3 a0_4 a0_5 a0_6 a0_7 a0_8 a0_9 a0_10 a0_11 a0_12 a0_0 a0_1 a0_2 a0_3 a0_4 bt491.1 bt491.2.1 bt491.2.2)) else (turnstilelaw06_PolicyOrder.j0 k t487 t488 true a0_0 a0_1 a0_2 a0_3 a0_4 a0_5 a0_6 a0_7 a0_8 a0_9 a0_10 a0_11 a0_12 a0_0 a0_1 a0_2 a0_3 a0_4 bt491.1 bt491.2.1 bt491.2.2)))) else (if t488 = true then ((policy_Covers.f a0_0 a0_1 a0_2 a0_3 a0_4 bt491.1 bt491.2.1 bt491.2.2 a0_5 a0_6 a0_7).bind fun t500 => (if t500 = true then ((policy_Covers.f a0_0 a0_1 a0_2 a0_3 a0_4 bt491.1 bt491.2.1 bt491.2.2 a0_8 a0_9 a0_10).bind fun t501 => (turnstilelaw06_PolicyOrder.j0 k t487 t488 (!t501) a0_0 a0_1 a0_2 a0_3 a0_4 a0_5 a0_6 a0_7 a0_8 a0_9 a0_10 a0_11 a0_12 a0_0 a0_1 a0_2 a0_3 a0_4 bt491.1 bt491.2.1 bt491.2.2)) else (turnstilelaw06_PolicyOrder.j0 k t487 t488 true a0_0 a0_1 a0_2 a0_3 a0_4 a0_5 a0_6 a0_7 a0_8 a0_9 a0_10 a0_11 a0_12 a0_0 a0_1 a0_2 a0_3 a0_4 bt491.1 bt491.2.1 bt491.2.2))) else (turnstilelaw06_PolicyOrder.j0 k t487 t488 true a0_0 a0_1 a0_2 a0_3 a0_4 a0_5 a0_6 a0_7 a0_8 a0_9 a0_10 a0_11 a0_12 a0_0 a0_1 a0_2 a0_3 a0_4 bt491.1 bt491.2.1 bt491.2.2))) else (turnstilelaw06_PolicyOrder.j0 k t487 t488 true a0_0 a0_1 a0_2 a0_3 a0_4 a0_5 a0_6 a0_7 a0_8 a0_9 a0_10 a0_11 a0_12 a0_0 a0_1 a0_2 a0_3 a0_4 bt491.1 bt491.2.1 bt491.2.2)))))))) = some r := by rw [if_pos rfl] at H; exact H
      clear H
      have H := H1
      clear H1
      replace H := Option.bind_eq_some_iff.mp H
      obtain ⟨t487, A70, H⟩ := H
      replace H : ((policy_Covers.f a0_0 a0_1 a0_2 a0_3 a0_4 a0_8 a0_9 a0_10 a0_5 a0_6 a0_7).bind fun t488 => ((policy_Covers.f a0_0 a0_1 a0_2 a0_3 a0_4 a0_8 a0_9 a0_10 a1_0 a1_1 a1_2).bind fun t489 => ((policy_Covers.f a0_0 a0_1 a0_2 a0_3 a0_4 a0_5 a0_6 a0_7 a1_0 a1_1 a1_2).bind fun t490 => ((policy_Max.f a0_0 a0_1 a0_2 a0_3 a0_4 a0_5 a0_6 a0_7 a0_8 a0_9 a0_10).bind fun bt491 => ((policy_Covers.f a0_0 a0_1 a0_2 a0_3 a0_4 a0_5 a0_6 a0_7 a0_5 a0_6 a0_7).bind fun t495 => (if t495 = true then (if t487 = true then (if t489 = true then (if t490 = true then ((policy_Covers.f a0_0 a0_1 a0_2 a0_3 a0_4 bt491.1 bt491.2.1 bt491.2.2 a0_5 a0_6 a0_7).bind fun t496 => (if t496 = true then ((policy_Covers.f a0_0 a0_1 a0_2 a0_3 a0_4 bt491.1 bt491.2.1 bt491.2.2 a0_8 a0_9 a0_10).bind fun t497 => (turnstilelaw06_PolicyOrder.j0 k t487 t488 (!t497) a0_0 a0_1 a0_2 a0_3 a0_4 a0_5 a0_6 a0_7 a0_8 a0_9 a0_10 a0_11 a0_12 a0_0 a0_1 a0_2 a0_3 a0_4 bt491.1 bt491.2.1 bt491.2.2)) else (turnstilelaw06_PolicyOrder.j0 k t487 t488 true a0_0 a0_1 a0_2 a0_3 a0_4 a0_5 a0_6 a0_7 a0_8 a0_9 a0_10 a0_11 a0_12 a0_0 a0_1 a0_2 a0_3 a0_4 bt491.1 bt491.2.1 bt491.2.2))) else (turnstilelaw06_PolicyOrder.j0 k t487 t488 true a0_0 a0_1 a0_2 a0_3 a0_4 a0_5 a0_6 a0_7 a0_8 a0_9 a0_10 a0_11 a0_12 a0_0 a0_1 a0_2 a0_3 a0_4 bt491.1 bt491.2.1 bt491.2.2)) else ((policy_Covers.f a0_0 a0_1 a0_2 a0_3 a0_4 bt491.1 bt491.2.1 bt491.2.2 a0_5 a0_6 a0_7).bind fun t498 => (if t498 = true then ((policy_Covers.f a0_0 a0_1 a0_2 a0_3 a0_4 bt491.1 bt491.2.1 bt491.2.2 a0_8 a0_9 a0_10).bind fun t499 => (turnstilelaw06_PolicyOrder.j0 k t487 t488 (!t499) a0_0 a0_1 a0_2 a0_3 a0_4 a0_5 a0_6 a0_7 a0_8 a0_9 a0_10 a0_11 a0_12 a0_0 a0_1 a0_2 a0_3 a0_4 bt491.1 bt491.2.1 bt491.2.2)) else (turnstilelaw06_PolicyOrder.j0 k t487 t488 true a0_0 a0_1 a0_2 a0_3 a0_4 a0_5 a0_6 a0_7 a0_8 a0_9 a0_10 a0_11 a0_12 a0_0 a0_1 a0_2 a0_3 a0_4 bt491.1 bt491.2.1 bt491.2.2)))) else (if t488 = true then ((policy_Covers.f a0_0 a0_1 a0_2 a0_3 a0_4 bt491.1 bt491.2.1 bt491.2.2 a0_5 a0_6 a0_7).bind fun t500 => (if t500 = true then ((policy_Covers.f a0_0 a0_1 a0_2 a0_3 a0_4 bt491.1 bt491.2.1 bt491.2.2 a0_8 a0_9 a0_10).bind fun t501 => (turnstilelaw06_PolicyOrder.j0 k t487 t488 (!t501) a0_0 a0_1 a0_2 a0_3 a0_4 a0_5 a0_6 a0_7 a0_8 a0_9 a0_10 a0_11 a0_12 a0_0 a0_1 a0_2 a0_3 a0_4 bt491.1 bt491.2.1 bt491.2.2)) else (turnstilelaw06_PolicyOrder.j0 k t487 t488 true a0_0 a0_1 a0_2 a0_3 a0_4 a0_5 a0_6 a0_7 a0_8 a0_9 a0_10 a0_11 a0_12 a0_0 a0_1 a0_2 a0_3 a0_4 bt491.1 bt491.2.1 bt491.2.2))) else (turnstilelaw06_PolicyOrder.j0 k t487 t488 true a0_0 a0_1 a0_2 a0_3 a0_4 a0_5 a0_6 a0_7 a0_8 a0_9 a0_10 a0_11 a0_12 a0_0 a0_1 a0_2 a0_3 a0_4 bt491.1 bt491.2.1 bt491.2.2))) else (turnstilelaw06_PolicyOrder.j0 k t487 t488 true a0_0 a0_1 a0_2 a0_3 a0_4 a0_5 a0_6 a0_7 a0_8 a0_9 a0_10 a0_11 a0_12 a0_0 a0_1 a0_2 a0_3 a0_4 bt491.1 bt491.2.1 bt491.2.2))))))) = some r := H
      have A7 := Aside0.mk A70
      clear A70
      replace H := Option.bind_eq_some_iff.mp H
      obtain ⟨t488, A80, H⟩ := H
      replace H : ((policy_Covers.f a0_0 a0_1 a0_2 a0_3 a0_4 a0_8 a0_9 a0_10 a1_0 a1_1 a1_2).bind fun t489 => ((policy_Covers.f a0_0 a0_1 a0_2 a0_3 a0_4 a0_5 a0_6 a0_7 a1_0 a1_1 a1_2).bind fun t490 => ((policy_Max.f a0_0 a0_1 a0_2 a0_3 a0_4 a0_5 a0_6 a0_7 a0_8 a0_9 a0_10).bind fun bt491 => ((policy_Covers.f a0_0 a0_1 a0_2 a0_3 a0_4 a0_5 a0_6 a0_7 a0_5 a0_6 a0_7).bind fun t495 => (if t495 = true then (if t487 = true then (if t489 = true then (if t490 = true then ((policy_Covers.f a0_0 a0_1 a0_2 a0_3 a0_4 bt491.1 bt491.2.1 bt491.2.2 a0_5 a0_6 a0_7).bind fun t496 => (if t496 = true then ((policy_Covers.f a0_0 a0_1 a0_2 a0_3 a0_4 bt491.1 bt491.2.1 bt491.2.2 a0_8 a0_9 a0_10).bind fun t497 => (turnstilelaw06_PolicyOrder.j0 k t487 t488 (!t497) a0_0 a0_1 a0_2 a0_3 a0_4 a0_5 a0_6 a0_7 a0_8 a0_9 a0_10 a0_11 a0_12 a0_0 a0_1 a0_2 a0_3 a0_4 bt491.1 bt491.2.1 bt491.2.2)) else (turnstilelaw06_PolicyOrder.j0 k t487 t488 true a0_0 a0_1 a0_2 a0_3 a0_4 a0_5 a0_6 a0_7 a0_8 a0_9 a0_10 a0_11 a0_12 a0_0 a0_1 a0_2 a0_3 a0_4 bt491.1 bt491.2.1 bt491.2.2))) else (turnstilelaw06_PolicyOrder.j0 k t487 t488 true a0_0 a0_1 a0_2 a0_3 a0_4 a0_5 a0_6 a0_7 a0_8 a0_9 a0_10 a0_11 a0_12 a0_0 a0_1 a0_2 a0_3 a0_4 bt491.1 bt491.2.1 bt491.2.2)) else ((policy_Covers.f a0_0 a0_1 a0_2 a0_3 a0_4 bt491.1 bt491.2.1 bt491.2.2 a0_5 a0_6 a0_7).bind fun t498 => (if t498 = true then ((policy_Covers.f a0_0 a0_1 a0_2 a0_3 a0_4 bt491.1 bt491.2.1 bt491.2.2 a0_8 a0_9 a0_10).bind fun t499 => (turnstilelaw06_PolicyOrder.j0 k t487 t488 (!t499) a0_0 a0_1 a0_2 a0_3 a0_4 a0_5 a0_6 a0_7 a0_8 a0_9 a0_10 a0_11 a0_12 a0_0 a0_1 a0_2 a0_3 a0_4 bt491.1 bt491.2.1 bt491.2.2)) else (turnstilelaw06_PolicyOrder.j0 k t487 t488 true a0_0 a0_1 a0_2 a0_3 a0_4 a0_5 a0_6 a0_7 a0_8 a0_9 a0_10 a0_11 a0_12 a0_0 a0_1 a0_2 a0_3 a0_4 bt491.1 bt491.2.1 bt491.2.2)))) else (if t488 = true then ((policy_Covers.f a0_0 a0_1 a0_2 a0_3 a0_4 bt491.1 bt491.2.1 bt491.2.2 a0_5 a0_6 a0_7).bind fun t500 => (if t500 = true then ((policy_Covers.f a0_0 a0_1 a0_2 a0_3 a0_4 bt491.1 bt491.2.1 bt491.2.2 a0_8 a0_9 a0_10).bind fun t501 => (turnstilelaw06_PolicyOrder.j0 k t487 t488 (!t501) a0_0 a0_1 a0_2 a0_3 a0_4 a0_5 a0_6 a0_7 a0_8 a0_9 a0_10 a0_11 a0_12 a0_0 a0_1 a0_2 a0_3 a0_4 bt491.1 bt491.2.1 bt491.2.2)) else (turnstilelaw06_PolicyOrder.j0 k t487 t488 true a0_0 a0_1 a0_2 a0_3 a0_4 a0_5 a0_6 a0_7 a0_8 a0_9 a0_10 a0_11 a0_12 a0_0 a0_1 a0_2 a0_3 a0_4 bt491.1 bt491.2.1 bt491.2.2))) else (turnstilelaw06_PolicyOrder.j0 k t487 t488 true a0_0 a0_1 a0_2 a0_3 a0_4 a0_5 a0_6 a0_7 a0_8 a0_9 a0_10 a0_11 a0_12 a0_0 a0_1 a0_2 a0_3 a0_4 bt491.1 bt491.2.1 bt491.2.2))) else (turnstilelaw06_PolicyOrder.j0 k t487 t488 true a0_0 a0_1 a0_2 a0_3 a0_4 a0_5 a0_6 a0_7 a0_8 a0_9 a0_10 a0_11 a0_12 a0_0 a0_1 a0_2 a0_3 a0_4 bt491.1 bt491.2.1 bt491.2.2)))))) = some r := H
      have A8 := Aside0.mk A80
      clear A80
      replace H := Option.bind_eq_some_iff.mp H
      obtain ⟨t489, A90, H⟩ := H
      replace H : ((policy_Covers.f a0_0 a0_1 a0_2 a0_3 a0_4 a0_5 a0_6 a0_7 a1_0 a1_1 a1_2).bind fun t490 => ((policy_Max.f a0_0 a0_1 a0_2 a0_3 a0_4 a0_5 a0_6 a0_7 a0_8 a0_9 a0_10).bind fun bt491 => ((policy_Covers.f a0_0 a0_1 a0_2 a0_3 a0_4 a0_5 a0_6 a0_7 a0_5 a0_6 a0_7).bind fun t495 => (if t495 = true then (if t487 = true then (if t489 = true then (if t490 = true then ((policy_Covers.f a0_0 a0_1 a0_2 a0_3 a0_4 bt491.1 bt491.2.1 bt491.2.2 a0_5 a0_6 a0_7).bind fun t496 => (if t496 = true then ((policy_Covers.f a0_0 a0_1 a0_2 a0_3 a0_4 bt491.1 bt491.2.1 bt491.2.2 a0_8 a0_9 a0_10).bind fun t497 => (turnstilelaw06_PolicyOrder.j0 k t487 t488 (!t497) a0_0 a0_1 a0_2 a0_3 a0_4 a0_5 a0_6 a0_7 a0_8 a0_9 a0_10 a0_11 a0_12 a0_0 a0_1 a0_2 a0_3 a0_4 bt491.1 bt491.2.1 bt491.2.2)) else (turnstilelaw06_PolicyOrder.j0 k t487 t488 true a0_0 a0_1 a0_2 a0_3 a0_4 a0_5 a0_6 a0_7 a0_8 a0_9 a0_10 a0_11 a0_12 a0_0 a0_1 a0_2 a0_3 a0_4 bt491.1 bt491.2.1 bt491.2.2))) else (turnstilelaw06_PolicyOrder.j0 k t487 t488 true a0_0 a0_1 a0_2 a0_3 a0_4 a0_5 a0_6 a0_7 a0_8 a0_9 a0_10 a0_11 a0_12 a0_0 a0_1 a0_2 a0_3 a0_4 bt491.1 bt491.2.1 bt491.2.2)) else ((policy_Covers.f a0_0 a0_1 a0_2 a0_3 a0_4 bt491.1 bt491.2.1 bt491.2.2 a0_5 a0_6 a0_7).bind fun t498 => (if t498 = true then ((policy_Covers.f a0_0 a0_1 a0_2 a0_3 a0_4 bt491.1 bt491.2.1 bt491.2.2 a0_8 a0_9 a0_10).bind fun t499 => (turnstilelaw06_PolicyOrder.j0 k t487 t488 (!t499) a0_0 a0_1 a0_2 a0_3 a0_4 a0_5 a0_6 a0_7 a0_8 a0_9 a0_10 a0_11 a0_12 a0_0 a0_1 a0_2 a0_3 a0_4 bt491.1 bt491.2.1 bt491.2.2)) else (turnstilelaw06_PolicyOrder.j0 k t487 t488 true a0_0 a0_1 a0_2 a0_3 a0_4 a0_5 a0_6 a0_7 a0_8 a0_9 a0_10 a0_11 a0_12 a0_0 a0_1 a0_2 a0_3 a0_4 bt491.1 bt491.2.1 bt491.2.2)))) else (if t488 = true then ((policy_Covers.f a0_0 a0_1 a0_2 a0_3 a0_4 bt491.1 bt491.2.1 bt491.2.2 a0_5 a0_6 a0_7).bind fun t500 => (if t500 = true then ((policy_Covers.f a0_0 a0_1 a0_2 a0_3 a0_4 bt491.1 bt491.2.1 bt491.2.2 a0_8 a0_9 a0_10).bind fun t501 => (turnstilelaw06_PolicyOrder.j0 k t487 t488 (!t501) a0_0 a0_1 a0_2 a0_3 a0_4 a0_5 a0_6 a0_7 a0_8 a0_9 a0_10 a0_11 a0_12 a0_0 a0_1 a0_2 a0_3 a0_4 bt491.1 bt491.2.1 bt491.2.2)) else (turnstilelaw06_PolicyOrder.j0 k t487 t488 true a0_0 a0_1 a0_2 a0_3 a0_4 a0_5 a0_6 a0_7 a0_8 a0_9 a0_10 a0_11 a0_12 a0_0 a0_1 a0_2 a0_3 a0_4 bt491.1 bt491.2.1 bt491.2.2))) else (turnstilelaw06_PolicyOrder.j0 k t487 t488 true a0_0 a0_1 a0_2 a0_3 a0_4 a0_5 a0_6 a0_7 a0_8 a0_9 a0_10 a0_11 a0_12 a0_0 a0_1 a0_2 a0_3 a0_4 bt491.1 bt491.2.1 bt491.2.2))) else (turnstilelaw06_PolicyOrder.j0 k t487 t488 true a0_0 a0_1 a0_2 a0_3 a0_4 a0_5 a0_6 a0_7 a0_8 a0_9 a0_10 a0_11 a0_12 a0_0 a0_1 a0_2 a0_3 a0_4 bt491.1 bt491.2.1 bt491.2.2))))) = some r := H
      have A9 := Aside0.mk A90
      clear A90
      replace H := Option.bind_eq_some_iff.mp H
      obtain ⟨t490, A100, H⟩ := H
      replace H : ((policy_Max.f a0_0 a0_1 a0_2 a0_3 a0_4 a0_5 a0_6 a0_7 a0_8 a0_9 a0_10).bind fun bt491 => ((policy_Covers.f a0_0 a0_1 a0_2 a0_3 a0_4 a0_5 a0_6 a0_7 a0_5 a0_6 a0_7).bind fun t495 => (if t495 = true then (if t487 = true then (if t489 = true then (if t490 = true then ((policy_Covers.f a0_0 a0_1 a0_2 a0_3 a0_4 bt491.1 bt491.2.1 bt491.2.2 a0_5 a0_6 a0_7).bind fun t496 => (if t496 = true then ((policy_Covers.f a0_0 a0_1 a0_2 a0_3 a0_4 bt491.1 bt491.2.1 bt491.2.2 a0_8 a0_9 a0_10).bind fun t497 => (turnstilelaw06_PolicyOrder.j0 k t487 t488 (!t497) a0_0 a0_1 a0_2 a0_3 a0_4 a0_5 a0_6 a0_7 a0_8 a0_9 a0_10 a0_11 a0_12 a0_0 a0_1 a0_2 a0_3 a0_4 bt491.1 bt491.2.1 bt491.2.2)) else (turnstilelaw06_PolicyOrder.j0 k t487 t488 true a0_0 a0_1 a0_2 a0_3 a0_4 a0_5 a0_6 a0_7 a0_8 a0_9 a0_10 a0_11 a0_12 a0_0 a0_1 a0_2 a0_3 a0_4 bt491.1 bt491.2.1 bt491.2.2))) else (turnstilelaw06_PolicyOrder.j0 k t487 t488 true a0_0 a0_1 a0_2 a0_3 a0_4 a0_5 a0_6 a0_7 a0_8 a0_9 a0_10 a0_11 a0_12 a0_0 a0_1 a0_2 a0_3 a0_4 bt491.1 bt491.2.1 bt491.2.2)) else ((policy_Covers.f a0_0 a0_1 a0_2 a0_3 a0_4 bt491.1 bt491.2.1 bt491.2.2 a0_5 a0_6 a0_7).bind fun t498 => (if t498 = true then ((policy_Covers.f a0_0 a0_1 a0_2 a0_3 a0_4 bt491.1 bt491.2.1 bt491.2.2 a0_8 a0_9 a0_10).bind fun t499 => (turnstilelaw06_PolicyOrder.j0 k t487 t488 (!t499) a0_0 a0_1 a0_2 a0_3 a0_4 a0_5 a0_6 a0_7 a0_8 a0_9 a0_10 a0_11 a0_12 a0_0 a0_1 a0_2 a0_3 a0_4 bt491.1 bt491.2.1 bt491.2.2)) else (turnstilelaw06_PolicyOrder.j0 k t487 t488 true a0_0 a0_1 a0_2 a0_3 a0_4 a0_5 a0_6 a0_7 a0_8 a0_9 a0_10 a0_11 a0_12 a0_0 a0_1 a0_2 a0_3 a0_4 bt491.1 bt491.2.1 bt491.2.2)))) else (if t488 = true then ((policy_Covers.f a0_0 a0_1 a0_2 a0_3 a0_4 bt491.1 bt491.2.1 bt491.2.2 a0_5 a0_6 a0_7).bind fun t500 => (if t500 = true then ((policy_Covers.f a0_0 a0_1 a0_2 a0_3 a0_4 bt491.1 bt491.2.1 bt491.2.2 a0_8 a0_9 a0_10).bind fun t501 => (turnstilelaw06_PolicyOrder.j0 k t487 t488 (!t501) a0_0 a0_1 a0_2 a0_3 a0_4 a0_5 a0_6 a0_7 a0_8 a0_9 a0_10 a0_11 a0_12 a0_0 a0_1 a0_2 a0_3 a0_4 bt491.1 bt491.2.1 bt491.2.2)) else (turnstilelaw06_PolicyOrder.j0 k t487 t488 true a0_0 a0_1 a0_2 a0_3 a0_4 a0_5 a0_6 a0_7 a0_8 a0_9 a0_10 a0_11 a0_12 a0_0 a0_1 a0_2 a0_3 a0_4 bt491.1 bt491.2.1 bt491.2.2))) else (turnstilelaw06_PolicyOrder.j0 k t487 t488 true a0_0 a0_1 a0_2 a0_3 a0_4 a0_5 a0_6 a0_7 a0_8 a0_9 a0_10 a0_11 a0_12 a0_0 a0_1 a0_2 a0_3 a0_4 bt491.1 bt491.2.1 bt491.2.2))) else (turnstilelaw06_PolicyOrder.j0 k t487 t488 true a0_0 a0_1 a0_2 a0_3 a0_4 a0_5 a0_6 a0_7 a0_8 a0_9 a0_10 a0_11 a0_12 a0_0 a0_1 a0_2 a0_3 a0_4 bt491.1 bt491.2.1 bt491.2.2)))) = some r := H
      have A10 := Aside0.mk A100
      clear A100
      replace H := Option.bind_eq_some_iff.mp H
      obtain ⟨⟨t491, t492, t493⟩, A110, H⟩ := H
      replace H : ((policy_Covers.f a0_0 a0_1 a0_2 a0_3 a0_4 a0_5 a0_6 a0_7 a0_5 a0_6 a0_7).bind fun t495 => (if t495 = true then (if t487 = true then (if t489 = true then (if t490 = true then ((policy_Covers.f a0_0 a0_1 a0_2 a0_3 a0_4 t491 t492 t493 a0_5 a0_6 a0_7).bind fun t496 => (if t496 = true then ((policy_Covers.f a0_0 a0_1 a0_2 a0_3 a0_4 t491 t492 t493 a0_8 a0_9 a0_10).bind fun t497 => (turnstilelaw06_PolicyOrder.j0 k t487 t488 (!t497) a0_0 a0_1 a0_2 a0_3 a0_4 a0_5 a0_6 a0_7 a0_8 a0_9 a0_10 a0_11 a0_12 a0_0 a0_1 a0_2 a0_3 a0_4 t491 t492 t493)) else (turnstilelaw06_PolicyOrder.j0 k t487 t488 true a0_0 a0_1 a0_2 a0_3 a0_4 a0_5 a0_6 a0_7 a0_8 a0_9 a0_10 a0_11 a0_12 a0_0 a0_1 a0_2 a0_3 a0_4 t491 t492 t493))) else (turnstilelaw06_PolicyOrder.j0 k t487 t488 true a0_0 a0_1 a0_2 a0_3 a0_4 a0_5 a0_6 a0_7 a0_8 a0_9 a0_10 a0_11 a0_12 a0_0 a0_1 a0_2 a0_3 a0_4 t491 t492 t493)) else ((policy_Covers.f a0_0 a0_1 a0_2 a0_3 a0_4 t491 t492 t493 a0_5 a0_6 a0_7).bind fun t498 => (if t498 = true then ((policy_Covers.f a0_0 a0_1 a0_2 a0_3 a0_4 t491 t492 t493 a0_8 a0_9 a0_10).bind fun t499 => (turnstilelaw06_PolicyOrder.j0 k t487 t488 (!t499) a0_0 a0_1 a0_2 a0_3 a0_4 a0_5 a0_6 a0_7 a0_8 a0_9 a0_10 a0_11 a0_12 a0_0 a0_1 a0_2 a0_3 a0_4 t491 t492 t493)) else (turnstilelaw06_PolicyOrder.j0 k t487 t488 true a0_0 a0_1 a0_2 a0_3 a0_4 a0_5 a0_6 a0_7 a0_8 a0_9 a0_10 a0_11 a0_12 a0_0 a0_1 a0_2 a0_3 a0_4 t491 t492 t493)))) else (if t488 = true then ((policy_Covers.f a0_0 a0_1 a0_2 a0_3 a0_4 t491 t492 t493 a0_5 a0_6 a0_7).bind fun t500 => (if t500 = true then ((policy_Covers.f a0_0 a0_1 a0_2 a0_3 a0_4 t491 t492 t493 a0_8 a0_9 a0_10).bind fun t501 => (turnstilelaw06_PolicyOrder.j0 k t487 t488 (!t501) a0_0 a0_1 a0_2 a0_3 a0_4 a0_5 a0_6 a0_7 a0_8 a0_9 a0_10 a0_11 a0_12 a0_0 a0_1 a0_2 a0_3 a0_4 t491 t492 t493)) else (turnstilelaw06_PolicyOrder.j0 k t487 t488 true a0_0 a0_1 a0_2 a0_3 a0_4 a0_5 a0_6 a0_7 a0_8 a0_9 a0_10 a0_11 a0_12 a0_0 a0_1 a0_2 a0_3 a0_4 t491 t492 t493))) else (turnstilelaw06_PolicyOrder.j0 k t487 t488 true a0_0 a0_1 a0_2 a0_3 a0_4 a0_5 a0_6 a0_7 a0_8 a0_9 a0_10 a0_11 a0_12 a0_0 a0_1 a0_2 a0_3 a0_4 t491 t492 t493))) else (turnstilelaw06_PolicyOrder.j0 k t487 t488 true a0_0 a0_1 a0_2 a0_3 a0_4 a0_5 a0_6 a0_7 a0_8 a0_9 a0_10 a0_11 a0_12 a0_0 a0_1 a0_2 a0_3 a0_4 t491 t492 t493))) = some r := H
      have A11 := Aside0.mk A110
      clear A110
      have HC12 := Aside0.mk H
      clear H
      go_enter Try.func6, Try.ntmps6
      go_upto_region 11 with (first | ((with_reducible refine gate_dst (N := 2) rfl ?_); refine bx 2 #[.int .i64 a0_0, .int .u64 a0_1, .int .u64 a0_2, .int .u64 a0_3, .int .u64 a0_4, .int .u64 a0_5, .int .u64 a0_6, .int .u64 a0_7, .int .u64 a0_8, .int .u64 a0_9, .int .u64 a0_10, .int .u64 a0_11, .int .u64 a0_12] 31 ?_; intro gb480 hg w13 hbox hb; have n0_ := bs HB hb; have n1_ := Aside0.mk (hbox); have n2_ := sz HB hg; have n3_ := sz HB hg; clear HB; have HB := n0_; have BK480 := n1_; have GW480 := n2_; have GE480 := n3_; clear n0_ n1_ n2_ n3_; clear hb hbox hg) | ((with_reducible refine gate_dst (N := 3) rfl ?_); refine bx 3 #[.int .u64 a1_0, .int .u64 a1_1, .int .u64 a1_2] 29 ?_; intro gb481 hg w14 hbox hb; have n0_ := bb BK480 hb; have n1_ := bs HB hb; have n2_ := Aside0.mk (hbox); have n3_ := sz HB hg; have n4_ := sz HB hg; have n5_ := nl BK480 hg; have n6_ := nr BK480 hg; clear BK480; clear HB; have BK480 := n0_; have HB := n1_; have BK481 := n2_; have GW481 := n3_; have GE481 := n4_; have NB480_481 := n5_; have NB481_480 := n6_; clear n0_ n1_ n2_ n3_ n4_ n5_ n6_; clear hb hbox hg) | ((with_reducible refine gate_callee (f := 14) rfl ?_); refine gm (some 13) Try.func14 #[] (turnstilelaw06_awake.calls k  true _ A3.out) ?_; intro w15 hb; have n0_ := bb BK480 hb; have n1_ := bb BK481 hb; have n2_ := bs HB hb; clear BK480; clear BK481; clear HB; have BK480 := n0_; have BK481 := n1_; have HB := n2_; clear n0_ n1_ n2_; (try clear hb); (try clear hb2); (try clear hk); (try clear hi); have hnb16 := NB480_481.out; have hnc16 := NB481_480.out; have hcz17_0 : w15.cell? ⟨gb480, 0, none⟩ = some (.int .i64 a0_0) := (blk_cell BK480.out 0).trans rfl; have hcz17_1 : w15.cell? ⟨gb480, 1, none⟩ = some (.int .u64 a0_1) := (blk_cell BK480.out 1).trans rfl; have hcz17_2 : w15.cell? ⟨gb480, 2, none⟩ = some (.int .u64 a0_2) := (blk_cell BK480.out 2).trans rfl; have hcz17_3 : w15.cell? ⟨gb480, 3, none⟩ = some (.int .u64 a0_3) := (blk_cell BK480.out 3).trans rfl; have hcz17_4 : w15.cell? ⟨gb480, 4, none⟩ = some (.int .u64 a0_4) := (blk_cell BK480.out 4).trans rfl; have hcz17_5 : w15.cell? ⟨gb480, 5, none⟩ = some (.int .u64 a0_5) := (blk_cell BK480.out 5).trans rfl; have hcz17_6 : w15.cell? ⟨gb480, 6, none⟩ = some (.int .u64 a0_6) := (blk_cell BK480.out 6).trans rfl; have hcz17_7 : w15.cell? ⟨gb480, 7, none⟩ = some (.int .u64 a0_7) := (blk_cell BK480.out 7).trans rfl; have hcz17_8 : w15.cell? ⟨gb480, 8, none⟩ = some (.int .u64 a0_8) := (blk_cell BK480.out 8).trans rfl; have hcz17_9 : w15.cell? ⟨gb480, 9, none⟩ = some (.int .u64 a0_9) := (blk_cell BK480.out 9).trans rfl; have hcz17_10 : w15.cell? ⟨gb480, 10, none⟩ = some (.int .u64 a0_10) := (blk_cell BK480.out 10).trans rfl; have hcz17_11 : w15.cell? ⟨gb480, 11, none⟩ = some (.int .u64 a0_11) := (blk_cell BK480.out 11).trans rfl; have hcz17_12 : w15.cell? ⟨gb480, 12, none⟩ = some (.int .u64 a0_12) := (blk_cell BK480.out 12).trans rfl; have hfz17_0 := blk_frozen BK480.out 0; have hfz17_1 := blk_frozen BK480.out 1; have hfz17_2 := blk_frozen BK480.out 2; have hfz17_3 := blk_frozen BK480.out 3; have hfz17_4 := blk_frozen BK480.out 4; have hfz17_5 := blk_frozen BK480.out 5; have hfz17_6 := blk_frozen BK480.out 6; have hfz17_7 := blk_frozen BK480.out 7; have hfz17_8 := blk_frozen BK480.out 8; have hfz17_9 := blk_frozen BK480.out 9; have hfz17_10 := blk_frozen BK480.out 10; have hfz17_11 := blk_frozen BK480.out 11; have hfz17_12 := blk_frozen BK480.out 12) | ((with_reducible refine gate_dst (N := 5) rfl ?_); refine bx 5 #[.int .i64 0, .int .u64 0, .int .u64 0, .int .u64 0, .int .u64 0] 27 ?_; intro gb483 hg w18 hbox hb; have n0_ := bb BK480 hb; have n1_ := bb BK481 hb; have n2_ := bs HB hb; have n3_ := Aside0.mk (hbox); have n4_ := sz HB hg; have n5_ := sz HB hg; have n6_ := nl BK480 hg; have n7_ := nr BK480 hg; have n8_ := nl BK481 hg; have n9_ := nr BK481 hg; clear BK480; clear BK481; clear HB; have BK480 := n0_; have BK481 := n1_; have HB := n2_; have BK483 := n3_; have GW483 := n4_; have GE483 := n5_; have NB480_483 := n6_; have NB483_480 := n7_; have NB481_483 := n8_; have NB483_481 := n9_; clear n0_ n1_ n2_ n3_ n4_ n5_ n6_ n7_ n8_ n9_; clear hb hbox hg; have hnb19 := NB483_480.out; have hnc19 := NB480_483.out; have hnb20 := NB483_481.out; have hnc20 := NB481_483.out; obtain ⟨hcz21_0, hcz21_1, hcz21_2, hcz21_3, hcz21_4, hfz21_0, hfz21_1, hfz21_2, hfz21_3, hfz21_4⟩ := bc5 BK483) | ((with_reducible refine gate_callee (f := 18) rfl ?_); refine gm (some 18) Try.func18 #[.agg #[.int .i64 a0_0, .int .u64 a0_1, .int .u64 a0_2, .int .u64 a0_3, .int .u64 a0_4]] (policy_Valid.calls a0_0 a0_1 a0_2 a0_3 a0_4 true _ A5.out) ?_; intro w22 hb; have n0_ := bb BK480 hb; have n1_ := bb BK481 hb; have n2_ := bbp (.cells #[.int .i64 a0_0, .int .u64 a0_1, .int .u64 a0_2, .int .u64 a0_3, .int .u64 a0_4] 27 (0, 0)) BK483 hb; have n3_ := bs HB hb; clear BK480; clear BK481; clear BK483; clear HB; have BK480 := n0_; have BK481 := n1_; have BK483 := n2_; have HB := n3_; clear n0_ n1_ n2_ n3_; (try clear hb); (try clear hb2); (try clear hk); (try clear hi); obtain ⟨hcz23_0, hcz23_1, hcz23_2, hcz23_3, hcz23_4, hfz23_0, hfz23_1, hfz23_2, hfz23_3, hfz23_4⟩ := bc5 BK483; have hcz24_0 : w22.cell? ⟨gb480, 0, none⟩ = some (.int .i64 a0_0) := (blk_cell BK480.out 0).trans rfl; have hcz24_1 : w22.cell? ⟨gb480, 1, none⟩ = some (.int .u64 a0_1) := (blk_cell BK480.out 1).trans rfl; have hcz24_2 : w22.cell? ⟨gb480, 2, none⟩ = some (.int .u64 a0_2) := (blk_cell BK480.out 2).trans rfl; have hcz24_3 : w22.cell? ⟨gb480, 3, none⟩ = some (.int .u64 a0_3) := (blk_cell BK480.out 3).trans rfl; have hcz24_4 : w22.cell? ⟨gb480, 4, none⟩ = some (.int .u64 a0_4) := (blk_cell BK480.out 4).trans rfl; have hcz24_5 : w22.cell? ⟨gb480, 5, none⟩ = some (.int .u64 a0_5) := (blk_cell BK480.out 5).trans rfl; have hcz24_6 : w22.cell? ⟨gb480, 6, none⟩ = some (.int .u64 a0_6) := (blk_cell BK480.out 6).trans rfl; have hcz24_7 : w22.cell? ⟨gb480, 7, none⟩ = some (.int .u64 a0_7) := (blk_cell BK480.out 7).trans rfl; have hcz24_8 : w22.cell? ⟨gb480, 8, none⟩ = some (.int .u64 a0_8) := (blk_cell BK480.out 8).trans rfl; have hcz24_9 : w22.cell? ⟨gb480, 9, none⟩ = some (.int .u64 a0_9) := (blk_cell BK480.out 9).trans rfl; have hcz24_10 : w22.cell? ⟨gb480, 10, none⟩ = some (.int .u64 a0_10) := (blk_cell BK480.out 10).trans rfl; have hcz24_11 : w22.cell? ⟨gb480, 11, none⟩ = some (.int .u64 a0_11) := (blk_cell BK480.out 11).trans rfl; have hcz24_12 : w22.cell? ⟨gb480, 12, none⟩ = some (.int .u64 a0_12) := (blk_cell BK480.out 12).trans rfl; have hfz24_0 := blk_frozen BK480.out 0; have hfz24_1 := blk_frozen BK480.out 1; have hfz24_2 := blk_frozen BK480.out 2; have hfz24_3 := blk_frozen BK480.out 3; have hfz24_4 := blk_frozen BK480.out 4; have hfz24_5 := blk_frozen BK480.out 5; have hfz24_6 := blk_frozen BK480.out 6; have hfz24_7 := blk_frozen BK480.out 7; have hfz24_8 := blk_frozen BK480.out 8; have hfz24_9 := blk_frozen BK480.out 9; have hfz24_10 := blk_frozen BK480.out 10; have hfz24_11 := blk_frozen BK480.out 11; have hfz24_12 := blk_frozen BK480.out 12) | ((with_reducible refine gate_callee (f := 27) rfl ?_); refine gm (some 41) Try.func27 #[.agg #[.int .i64 a0_0, .int .u64 a0_1, .int .u64 a0_2, .int .u64 a0_3, .int .u64 a0_4], .agg #[.int .u64 a0_5, .int .u64 a0_6, .int .u64 a0_7], .agg #[.int .u64 a0_8, .int .u64 a0_9, .int .u64 a0_10]] (policy_Covers.calls a0_0 a0_1 a0_2 a0_3 a0_4 a0_5 a0_6 a0_7 a0_8 a0_9 a0_10 t487 _ A7.out) ?_; intro w25 hb; have n0_ := bb BK480 hb; have n1_ := bb BK481 hb; have n2_ := bb BK483 hb; have n3_ := bs HB hb; clear BK480; clear BK481; clear BK483; clear HB; have BK480 := n0_; have BK481 := n1_; have BK483 := n2_; have HB := n3_; clear n0_ n1_ n2_ n3_; (try clear hb); (try clear hb2); (try clear hk); (try clear hi); obtain ⟨hcz26_0, hcz26_1, hcz26_2, hcz26_3, hcz26_4, hfz26_0, hfz26_1, hfz26_2, hfz26_3, hfz26_4⟩ := bc5 BK483; have hcz27_0 : w25.cell? ⟨gb480, 0, none⟩ = some (.int .i64 a0_0) := (blk_cell BK480.out 0).trans rfl; have hcz27_1 : w25.cell? ⟨gb480, 1, none⟩ = some (.int .u64 a0_1) := (blk_cell BK480.out 1).trans rfl; have hcz27_2 : w25.cell? ⟨gb480, 2, none⟩ = some (.int .u64 a0_2) := (blk_cell BK480.out 2).trans rfl; have hcz27_3 : w25.cell? ⟨gb480, 3, none⟩ = some (.int .u64 a0_3) := (blk_cell BK480.out 3).trans rfl; have hcz27_4 : w25.cell? ⟨gb480, 4, none⟩ = some (.int .u64 a0_4) := (blk_cell BK480.out 4).trans rfl; have hcz27_5 : w25.cell? ⟨gb480, 5, none⟩ = some (.int .u64 a0_5) := (blk_cell BK480.out 5).trans rfl; have hcz27_6 : w25.cell? ⟨gb480, 6, none⟩ = some (.int .u64 a0_6) := (blk_cell BK480.out 6).trans rfl; have hcz27_7 : w25.cell? ⟨gb480, 7, none⟩ = some (.int .u64 a0_7) := (blk_cell BK480.out 7).trans rfl; have hcz27_8 : w25.cell? ⟨gb480, 8, none⟩ = some (.int .u64 a0_8) := (blk_cell BK480.out 8).trans rfl; have hcz27_9 : w25.cell? ⟨gb480, 9, none⟩ = some (.int .u64 a0_9) := (blk_cell BK480.out 9).trans rfl; have hcz27_10 : w25.cell? ⟨gb480, 10, none⟩ = some (.int .u64 a0_10) := (blk_cell BK480.out 10).trans rfl; have hcz27_11 : w25.cell? ⟨gb480, 11, none⟩ = some (.int .u64 a0_11) := (blk_cell BK480.out 11).trans rfl; have hcz27_12 : w25.cell? ⟨gb480, 12, none⟩ = some (.int .u64 a0_12) := (blk_cell BK480.out 12).trans rfl; have hfz27_0 := blk_frozen BK480.out 0; have hfz27_1 := blk_frozen BK480.out 1; have hfz27_2 := blk_frozen BK480.out 2; have hfz27_3 := blk_frozen BK480.out 3; have hfz27_4 := blk_frozen BK480.out 4; have hfz27_5 := blk_frozen BK480.out 5; have hfz27_6 := blk_frozen BK480.out 6; have hfz27_7 := blk_frozen BK480.out 7; have hfz27_8 := blk_frozen BK480.out 8; have hfz27_9 := blk_frozen BK480.out 9; have hfz27_10 := blk_frozen BK480.out 10; have hfz27_11 := blk_frozen BK480.out 11; have hfz27_12 := blk_frozen BK480.out 12) | ((with_reducible refine gate_callee (f := 27) rfl ?_); refine gm (some 47) Try.func27 #[.agg #[.int .i64 a0_0, .int .u64 a0_1, .int .u64 a0_2, .int .u64 a0_3, .int .u64 a0_4], .agg #[.int .u64 a0_8, .int .u64 a0_9, .int .u64 a0_10], .agg #[.int .u64 a0_5, .int .u64 a0_6, .int .u64 a0_7]] (policy_Covers.calls a0_0 a0_1 a0_2 a0_3 a0_4 a0_8 a0_9 a0_10 a0_5 a0_6 a0_7 t488 _ A8.out) ?_; intro w28 hb; have n0_ := bb BK480 hb; have n1_ := bb BK481 hb; have n2_ := bb BK483 hb; have n3_ := bs HB hb; clear BK480; clear BK481; clear BK483; clear HB; have BK480 := n0_; have BK481 := n1_; have BK483 := n2_; have HB := n3_; clear n0_ n1_ n2_ n3_; (try clear hb); (try clear hb2); (try clear hk); (try clear hi); obtain ⟨hcz29_0, hcz29_1, hcz29_2, hcz29_3, hcz29_4, hfz29_0, hfz29_1, hfz29_2, hfz29_3, hfz29_4⟩ := bc5 BK483; have hcz30_0 : w28.cell? ⟨gb480, 0, none⟩ = some (.int .i64 a0_0) := (blk_cell BK480.out 0).trans rfl; have hcz30_1 : w28.cell? ⟨gb480, 1, none⟩ = some (.int .u64 a0_1) := (blk_cell BK480.out 1).trans rfl; have hcz30_2 : w28.cell? ⟨gb480, 2, none⟩ = some (.int .u64 a0_2) := (blk_cell BK480.out 2).trans rfl; have hcz30_3 : w28.cell? ⟨gb480, 3, none⟩ = some (.int .u64 a0_3) := (blk_cell BK480.out 3).trans rfl; have hcz30_4 : w28.cell? ⟨gb480, 4, none⟩ = some (.int .u64 a0_4) := (blk_cell BK480.out 4).trans rfl; have hcz30_5 : w28.cell? ⟨gb480, 5, none⟩ = some (.int .u64 a0_5) := (blk_cell BK480.out 5).trans rfl; have hcz30_6 : w28.cell? ⟨gb480, 6, none⟩ = some (.int .u64 a0_6) := (blk_cell BK480.out 6).trans rfl; have hcz30_7 : w28.cell? ⟨gb480, 7, none⟩ = some (.int .u64 a0_7) := (blk_cell BK480.out 7).trans rfl; have hcz30_8 : w28.cell? ⟨gb480, 8, none⟩ = some (.int .u64 a0_8) := (blk_cell BK480.out 8).trans rfl; have hcz30_9 : w28.cell? ⟨gb480, 9, none⟩ = some (.int .u64 a0_9) := (blk_cell BK480.out 9).trans rfl; have hcz30_10 : w28.cell? ⟨gb480, 10, none⟩ = some (.int .u64 a0_10) := (blk_cell BK480.out 10).trans rfl; have hcz30_11 : w28.cell? ⟨gb480, 11, none⟩ = some (.int .u64 a0_11) := (blk_cell BK480.out 11).trans rfl; have hcz30_12 : w28.cell? ⟨gb480, 12, none⟩ = some (.int .u64 a0_12) := (blk_cell BK480.out 12).trans rfl; have hfz30_0 := blk_frozen BK480.out 0; have hfz30_1 := blk_frozen BK480.out 1; have hfz30_2 := blk_frozen BK480.out 2; have hfz30_3 := blk_frozen BK480.out 3; have hfz30_4 := blk_frozen BK480.out 4; have hfz30_5 := blk_frozen BK480.out 5; have hfz30_6 := blk_frozen BK480.out 6; have hfz30_7 := blk_frozen BK480.out 7; have hfz30_8 := blk_frozen BK480.out 8; have hfz30_9 := blk_frozen BK480.out 9; have hfz30_10 := blk_frozen BK480.out 10; have hfz30_11 := blk_frozen BK480.out 11; have hfz30_12 := blk_frozen BK480.out 12; obtain ⟨hcz31_0, hcz31_1, hcz31_2, hfz31_0, hfz31_1, hfz31_2⟩ := bc3 BK481) | ((with_reducible refine gate_callee (f := 27) rfl ?_); refine gm (some 52) Try.func27 #[.agg #[.int .i64 a0_0, .int .u64 a0_1, .int .u64 a0_2, .int .u64 a0_3, .int .u64 a0_4], .agg #[.int .u64 a0_8, .int .u64 a0_9, .int .u64 a0_10], .agg #[.int .u64 a1_0, .int .u64 a1_1, .int .u64 a1_2]] (policy_Covers.calls a0_0 a0_1 a0_2 a0_3 a0_4 a0_8 a0_9 a0_10 a1_0 a1_1 a1_2 t489 _ A9.out) ?_; intro w32 hb; have n0_ := bb BK480 hb; have n1_ := bb BK481 hb; have n2_ := bb BK483 hb; have n3_ := bs HB hb; clear BK480; clear BK481; clear BK483; clear HB; have BK480 := n0_; have BK481 := n1_; have BK483 := n2_; have HB := n3_; clear n0_ n1_ n2_ n3_; (try clear hb); (try clear hb2); (try clear hk); (try clear hi); obtain ⟨hcz33_0, hcz33_1, hcz33_2, hcz33_3, hcz33_4, hfz33_0, hfz33_1, hfz33_2, hfz33_3, hfz33_4⟩ := bc5 BK483; have hcz34_0 : w32.cell? ⟨gb480, 0, none⟩ = some (.int .i64 a0_0) := (blk_cell BK480.out 0).trans rfl; have hcz34_1 : w32.cell? ⟨gb480, 1, none⟩ = some (.int .u64 a0_1) := (blk_cell BK480.out 1).trans rfl; have hcz34_2 : w32.cell? ⟨gb480, 2, none⟩ = some (.int .u64 a0_2) := (blk_cell BK480.out 2).trans rfl; have hcz34_3 : w32.cell? ⟨gb480, 3, none⟩ = some (.int .u64 a0_3) := (blk_cell BK480.out 3).trans rfl; have hcz34_4 : w32.cell? ⟨gb480, 4, none⟩ = some (.int .u64 a0_4) := (blk_cell BK480.out 4).trans rfl; have hcz34_5 : w32.cell? ⟨gb480, 5, none⟩ = some (.int .u64 a0_5) := (blk_cell BK480.out 5).trans rfl; have hcz34_6 : w32.cell? ⟨gb480, 6, none⟩ = some (.int .u64 a0_6) := (blk_cell BK480.out 6).trans rfl; have hcz34_7 : w32.cell? ⟨gb480, 7, none⟩ = some (.int .u64 a0_7) := (blk_cell BK480.out 7).trans rfl; have hcz34_8 : w32.cell? ⟨gb480, 8, none⟩ = some (.int .u64 a0_8) := (blk_cell BK480.out 8).trans rfl; have hcz34_9 : w32.cell? ⟨gb480, 9, none⟩ = some (.int .u64 a0_9) := (blk_cell BK480.out 9).trans rfl; have hcz34_10 : w32.cell? ⟨gb480, 10, none⟩ = some (.int .u64 a0_10) := (blk_cell BK480.out 10).trans rfl; have hcz34_11 : w32.cell? ⟨gb480, 11, none⟩ = some (.int .u64 a0_11) := (blk_cell BK480.out 11).trans rfl; have hcz34_12 : w32.cell? ⟨gb480, 12, none⟩ = some (.int .u64 a0_12) := (blk_cell BK480.out 12).trans rfl; have hfz34_0 := blk_frozen BK480.out 0; have hfz34_1 := blk_frozen BK480.out 1; have hfz34_2 := blk_frozen BK480.out 2; have hfz34_3 := blk_frozen BK480.out 3; have hfz34_4 := blk_frozen BK480.out 4; have hfz34_5 := blk_frozen BK480.out 5; have hfz34_6 := blk_frozen BK480.out 6; have hfz34_7 := blk_frozen BK480.out 7; have hfz34_8 := blk_frozen BK480.out 8; have hfz34_9 := blk_frozen BK480.out 9; have hfz34_10 := blk_frozen BK480.out 10; have hfz34_11 := blk_frozen BK480.out 11; have hfz34_12 := blk_frozen BK480.out 12; obtain ⟨hcz35_0, hcz35_1, hcz35_2, hfz35_0, hfz35_1, hfz35_2⟩ := bc3 BK481) | ((with_reducible refine gate_callee (f := 27) rfl ?_); refine gm (some 57) Try.func27 #[.agg #[.int .i64 a0_0, .int .u64 a0_1, .int .u64 a0_2, .int .u64 a0_3, .int .u64 a0_4], .agg #[.int .u64 a0_5, .int .u64 a0_6, .int .u64 a0_7], .agg #[.int .u64 a1_0, .int .u64 a1_1, .int .u64 a1_2]] (policy_Covers.calls a0_0 a0_1 a0_2 a0_3 a0_4 a0_5 a0_6 a0_7 a1_0 a1_1 a1_2 t490 _ A10.out) ?_; intro w36 hb; have n0_ := bb BK480 hb; have n1_ := bb BK481 hb; have n2_ := bb BK483 hb; have n3_ := bs HB hb; clear BK480; clear BK481; clear BK483; clear HB; have BK480 := n0_; have BK481 := n1_; have BK483 := n2_; have HB := n3_; clear n0_ n1_ n2_ n3_; (try clear hb); (try clear hb2); (try clear hk); (try clear hi); obtain ⟨hcz37_0, hcz37_1, hcz37_2, hcz37_3, hcz37_4, hfz37_0, hfz37_1, hfz37_2, hfz37_3, hfz37_4⟩ := bc5 BK483; have hcz38_0 : w36.cell? ⟨gb480, 0, none⟩ = some (.int .i64 a0_0) := (blk_cell BK480.out 0).trans rfl; have hcz38_1 : w36.cell? ⟨gb480, 1, none⟩ = some (.int .u64 a0_1) := (blk_cell BK480.out 1).trans rfl; have hcz38_2 : w36.cell? ⟨gb480, 2, none⟩ = some (.int .u64 a0_2) := (blk_cell BK480.out 2).trans rfl; have hcz38_3 : w36.cell? ⟨gb480, 3, none⟩ = some (.int .u64 a0_3) := (blk_cell BK480.out 3).trans rfl; have hcz38_4 : w36.cell? ⟨gb480, 4, none⟩ = some (.int .u64 a0_4) := (blk_cell BK480.out 4).trans rfl; have hcz38_5 : w36.cell? ⟨gb480, 5, none⟩ = some (.int .u64 a0_5) := (blk_cell BK480.out 5).trans rfl; have hcz38_6 : w36.cell? ⟨gb480, 6, none⟩ = some (.int .u64 a0_6) := (blk_cell BK480.out 6).trans rfl; have hcz38_7 : w36.cell? ⟨gb480, 7, none⟩ = some (.int .u64 a0_7) := (blk_cell BK480.out 7).trans rfl; have hcz38_8 : w36.cell? ⟨gb480, 8, none⟩ = some (.int .u64 a0_8) := (blk_cell BK480.out 8).trans rfl; have hcz38_9 : w36.cell? ⟨gb480, 9, none⟩ = some (.int .u64 a0_9) := (blk_cell BK480.out 9).trans rfl; have hcz38_10 : w36.cell? ⟨gb480, 10, none⟩ = some (.int .u64 a0_10) := (blk_cell BK480.out 10).trans rfl; have hcz38_11 : w36.cell? ⟨gb480, 11, none⟩ = some (.int .u64 a0_11) := (blk_cell BK480.out 11).trans rfl; have hcz38_12 : w36.cell? ⟨gb480, 12, none⟩ = some (.int .u64 a0_12) := (blk_cell BK480.out 12).trans rfl; have hfz38_0 := blk_frozen BK480.out 0; have hfz38_1 := blk_frozen BK480.out 1; have hfz38_2 := blk_frozen BK480.out 2; have hfz38_3 := blk_frozen BK480.out 3; have hfz38_4 := blk_frozen BK480.out 4; have hfz38_5 := blk_frozen BK480.out 5; have hfz38_6 := blk_frozen BK480.out 6; have hfz38_7 := blk_frozen BK480.out 7; have hfz38_8 := blk_frozen BK480.out 8; have hfz38_9 := blk_frozen BK480.out 9; have hfz38_10 := blk_frozen BK480.out 10; have hfz38_11 := blk_frozen BK480.out 11; have hfz38_12 := blk_frozen BK480.out 12) | ((with_reducible refine gate_callee (f := 26) rfl ?_); refine gm (some 63) Try.func26 #[.agg #[.int .i64 a0_0, .int .u64 a0_1, .int .u64 a0_2, .int .u64 a0_3, .int .u64 a0_4], .agg #[.int .u64 a0_5, .int .u64 a0_6, .int .u64 a0_7], .agg #[.int .u64 a0_8, .int .u64 a0_9, .int .u64 a0_10]] (policy_Max.calls a0_0 a0_1 a0_2 a0_3 a0_4 a0_5 a0_6 a0_7 a0_8 a0_9 a0_10 t491 t492 t493 _ A11.out) ?_; intro w39 hb; have n0_ := bb BK480 hb; have n1_ := bb BK481 hb; have n2_ := bb BK483 hb; have n3_ := bs HB hb; clear BK480; clear BK481; clear BK483; clear HB; have BK480 := n0_; have BK481 := n1_; have BK483 := n2_; have HB := n3_; clear n0_ n1_ n2_ n3_; (try clear hb); (try clear hb2); (try clear hk); (try clear hi)) | ((with_reducible refine gate_dst (N := 10) rfl ?_); refine bx 10 #[.int .u64 0, .int .u64 0, .int .u64 0] 29 ?_; intro gb494 hg w40 hbox hb; have n0_ := bb BK480 hb; have n1_ := bb BK481 hb; have n2_ := bb BK483 hb; have n3_ := bs HB hb; have n4_ := Aside0.mk (hbox); have n5_ := sz HB hg; have n6_ := sz HB hg; have n7_ := nl BK480 hg; have n8_ := nr BK480 hg; have n9_ := nl BK481 hg; have n10_ := nr BK481 hg; have n11_ := nl BK483 hg; have n12_ := nr BK483 hg; clear BK480; clear BK481; clear BK483; clear HB; have BK480 := n0_; have BK481 := n1_; have BK483 := n2_; have HB := n3_; have BK494 := n4_; have GW494 := n5_; have GE494 := n6_; have NB480_494 := n7_; have NB494_480 := n8_; have NB481_494 := n9_; have NB494_481 := n10_; have NB483_494 := n11_; have NB494_483 := n12_; clear n0_ n1_ n2_ n3_ n4_ n5_ n6_ n7_ n8_ n9_ n10_ n11_ n12_; clear hb hbox hg; have hnb41 := NB494_480.out; have hnc41 := NB480_494.out; have hnb42 := NB494_481.out; have hnc42 := NB481_494.out; have hnb43 := NB494_483.out; have hnc43 := NB483_494.out; obtain ⟨hcz44_0, hcz44_1, hcz44_2, hfz44_0, hfz44_1, hfz44_2⟩ := bc3 BK494))
      (try simp only [Act.put, List.setIfInBounds_toArray, List.set_cons_zero, List.set_cons_succ])
      go_cut [104] (fun v104 wc => ∃ (kq : Nat) (x104_11 : Bool), v104 = .bool x104_11 ∧ Aside0 (turnstilelaw06_PolicyOrder.j0 kq t487 t488 x104_11 a0_0 a0_1 a0_2 a0_3 a0_4 a0_5 a0_6 a0_7 a0_8 a0_9 a0_10 a0_11 a0_12 a0_0 a0_1 a0_2 a0_3 a0_4 t491 t492 t493 = some r) ∧ Aside0 (kq ≤ k) ∧ Aside0 (wc.heap[gb480]? = some (.cells #[.int .i64 a0_0, .int .u64 a0_1, .int .u64 a0_2, .int .u64 a0_3, .int .u64 a0_4, .int .u64 a0_5, .int .u64 a0_6, .int .u64 a0_7, .int .u64 a0_8, .int .u64 a0_9, .int .u64 a0_10, .int .u64 a0_11, .int .u64 a0_12] 31 (0, 0))) ∧ Aside0 (wc.heap[gb481]? = some (.cells #[.int .u64 a1_0, .int .u64 a1_1, .int .u64 a1_2] 29 (0, 0))) ∧ Aside0 (wc.heap[gb483]? = some (.cells #[.int .i64 a0_0, .int .u64 a0_1, .int .u64 a0_2, .int .u64 a0_3, .int .u64 a0_4] 27 (0, 0))) ∧ Aside0 (wc.heap[gb494]? = some (.cells #[.int .u64 t491, .int .u64 t492, .int .u64 t493] 29 (0, 0))) ∧ Aside0 (Below w.heap.size w wc))
      case first =>
        have H := HC12.out
        clear HC12
        replace H := Option.bind_eq_some_iff.mp H
        obtain ⟨t495, A450, H⟩ := H
        replace H : (if t495 = true then (if t487 = true then (if t489 = true then (if t490 = true then ((policy_Covers.f a0_0 a0_1 a0_2 a0_3 a0_4 t491 t492 t493 a0_5 a0_6 a0_7).bind fun t496 => (if t496 = true then ((policy_Covers.f a0_0 a0_1 a0_2 a0_3 a0_4 t491 t492 t493 a0_8 a0_9 a0_10).bind fun t497 => (turnstilelaw06_PolicyOrder.j0 k t487 t488 (!t497) a0_0 a0_1 a0_2 a0_3 a0_4 a0_5 a0_6 a0_7 a0_8 a0_9 a0_10 a0_11 a0_12 a0_0 a0_1 a0_2 a0_3 a0_4 t491 t492 t493)) else (turnstilelaw06_PolicyOrder.j0 k t487 t488 true a0_0 a0_1 a0_2 a0_3 a0_4 a0_5 a0_6 a0_7 a0_8 a0_9 a0_10 a0_11 a0_12 a0_0 a0_1 a0_2 a0_3 a0_4 t491 t492 t493))) else (turnstilelaw06_PolicyOrder.j0 k t487 t488 true a0_0 a0_1 a0_2 a0_3 a0_4 a0_5 a0_6 a0_7 a0_8 a0_9 a0_10 a0_11 a0_12 a0_0 a0_1 a0_2 a0_3 a0_4 t491 t492 t493)) else ((policy_Covers.f a0_0 a0_1 a0_2 a0_3 a0_4 t491 t492 t493 a0_5 a0_6 a0_7).bind fun t498 => (if t498 = true then ((policy_Covers.f a0_0 a0_1 a0_2 a0_3 a0_4 t491 t492 t493 a0_8 a0_9 a0_10).bind fun t499 => (turnstilelaw06_PolicyOrder.j0 k t487 t488 (!t499) a0_0 a0_1 a0_2 a0_3 a0_4 a0_5 a0_6 a0_7 a0_8 a0_9 a0_10 a0_11 a0_12 a0_0 a0_1 a0_2 a0_3 a0_4 t491 t492 t493)) else (turnstilelaw06_PolicyOrder.j0 k t487 t488 true a0_0 a0_1 a0_2 a0_3 a0_4 a0_5 a0_6 a0_7 a0_8 a0_9 a0_10 a0_11 a0_12 a0_0 a0_1 a0_2 a0_3 a0_4 t491 t492 t493)))) else (if t488 = true then ((policy_Covers.f a0_0 a0_1 a0_2 a0_3 a0_4 t491 t492 t493 a0_5 a0_6 a0_7).bind fun t500 => (if t500 = true then ((policy_Covers.f a0_0 a0_1 a0_2 a0_3 a0_4 t491 t492 t493 a0_8 a0_9 a0_10).bind fun t501 => (turnstilelaw06_PolicyOrder.j0 k t487 t488 (!t501) a0_0 a0_1 a0_2 a0_3 a0_4 a0_5 a0_6 a0_7 a0_8 a0_9 a0_10 a0_11 a0_12 a0_0 a0_1 a0_2 a0_3 a0_4 t491 t492 t493)) else (turnstilelaw06_PolicyOrder.j0 k t487 t488 true a0_0 a0_1 a0_2 a0_3 a0_4 a0_5 a0_6 a0_7 a0_8 a0_9 a0_10 a0_11 a0_12 a0_0 a0_1 a0_2 a0_3 a0_4 t491 t492 t493))) else (turnstilelaw06_PolicyOrder.j0 k t487 t488 true a0_0 a0_1 a0_2 a0_3 a0_4 a0_5 a0_6 a0_7 a0_8 a0_9 a0_10 a0_11 a0_12 a0_0 a0_1 a0_2 a0_3 a0_4 t491 t492 t493))) else (turnstilelaw06_PolicyOrder.j0 k t487 t488 true a0_0 a0_1 a0_2 a0_3 a0_4 a0_5 a0_6 a0_7 a0_8 a0_9 a0_10 a0_11 a0_12 a0_0 a0_1 a0_2 a0_3 a0_4 t491 t492 t493)) = some r := H
        have A45 := Aside0.mk A450
        clear A450
        by_cases c46 : t495 = true
        · subst c46
          have H1 : (if t487 = true then (if t489 = true then (if t490 = true then ((policy_Covers.f a0_0 a0_1 a0_2 a0_3 a0_4 t491 t492 t493 a0_5 a0_6 a0_7).bind fun t496 => (if t496 = true then ((policy_Covers.f a0_0 a0_1 a0_2 a0_3 a0_4 t491 t492 t493 a0_8 a0_9 a0_10).bind fun t497 => (turnstilelaw06_PolicyOrder.j0 k t487 t488 (!t497) a0_0 a0_1 a0_2 a0_3 a0_4 a0_5 a0_6 a0_7 a0_8 a0_9 a0_10 a0_11 a0_12 a0_0 a0_1 a0_2 a0_3 a0_4 t491 t492 t493)) else (turnstilelaw06_PolicyOrder.j0 k t487 t488 true a0_0 a0_1 a0_2 a0_3 a0_4 a0_5 a0_6 a0_7 a0_8 a0_9 a0_10 a0_11 a0_12 a0_0 a0_1 a0_2 a0_3 a0_4 t491 t492 t493))) else (turnstilelaw06_PolicyOrder.j0 k t487 t488 true a0_0 a0_1 a0_2 a0_3 a0_4 a0_5 a0_6 a0_7 a0_8 a0_9 a0_10 a0_11 a0_12 a0_0 a0_1 a0_2 a0_3 a0_4 t491 t492 t493)) else ((policy_Covers.f a0_0 a0_1 a0_2 a0_3 a0_4 t491 t492 t493 a0_5 a0_6 a0_7).bind fun t498 => (if t498 = true then ((policy_Covers.f a0_0 a0_1 a0_2 a0_3 a0_4 t491 t492 t493 a0_8 a0_9 a0_10).bind fun t499 => (turnstilelaw06_PolicyOrder.j0 k t487 t488 (!t499) a0_0 a0_1 a0_2 a0_3 a0_4 a0_5 a0_6 a0_7 a0_8 a0_9 a0_10 a0_11 a0_12 a0_0 a0_1 a0_2 a0_3 a0_4 t491 t492 t493)) else (turnstilelaw06_PolicyOrder.j0 k t487 t488 true a0_0 a0_1 a0_2 a0_3 a0_4 a0_5 a0_6 a0_7 a0_8 a0_9 a0_10 a0_11 a0_12 a0_0 a0_1 a0_2 a0_3 a0_4 t491 t492 t493)))) else (if t488 = true then ((policy_Covers.f a0_0 a0_1 a0_2 a0_3 a0_4 t491 t492 t493 a0_5 a0_6 a0_7).bind fun t500 => (if t500 = true then ((policy_Covers.f a0_0 a0_1 a0_2 a0_3 a0_4 t491 t492 t493 a0_8 a0_9 a0_10).bind fun t501 => (turnstilelaw06_PolicyOrder.j0 k t487 t488 (!t501) a0_0 a0_1 a0_2 a0_3 a0_4 a0_5 a0_6 a0_7 a0_8 a0_9 a0_10 a0_11 a0_12 a0_0 a0_1 a0_2 a0_3 a0_4 t491 t492 t493)) else (turnstilelaw06_PolicyOrder.j0 k t487 t488 true a0_0 a0_1 a0_2 a0_3 a0_4 a0_5 a0_6 a0_7 a0_8 a0_9 a0_10 a0_11 a0_12 a0_0 a0_1 a0_2 a0_3 a0_4 t491 t492 t493))) else (turnstilelaw06_PolicyOrder.j0 k t487 t488 true a0_0 a0_1 a0_2 a0_3 a0_4 a0_5 a0_6 a0_7 a0_8 a0_9 a0_10 a0_11 a0_12 a0_0 a0_1 a0_2 a0_3 a0_4 t491 t492 t493))) = some r := by rw [if_pos rfl] at H; exact H
          clear H
          have H := H1
          clear H1
          by_cases c47 : t487 = true
          · subst c47
            have H1 : (if t489 = true then (if t490 = true then ((policy_Covers.f a0_0 a0_1 a0_2 a0_3 a0_4 t491 t492 t493 a0_5 a0_6 a0_7).bind fun t496 => (if t496 = true then ((policy_Covers.f a0_0 a0_1 a0_2 a0_3 a0_4 t491 t492 t493 a0_8 a0_9 a0_10).bind fun t497 => (turnstilelaw06_PolicyOrder.j0 k true t488 (!t497) a0_0 a0_1 a0_2 a0_3 a0_4 a0_5 a0_6 a0_7 a0_8 a0_9 a0_10 a0_11 a0_12 a0_0 a0_1 a0_2 a0_3 a0_4 t491 t492 t493)) else (turnstilelaw06_PolicyOrder.j0 k true t488 true a0_0 a0_1 a0_2 a0_3 a0_4 a0_5 a0_6 a0_7 a0_8 a0_9 a0_10 a0_11 a0_12 a0_0 a0_1 a0_2 a0_3 a0_4 t491 t492 t493))) else (turnstilelaw06_PolicyOrder.j0 k true t488 true a0_0 a0_1 a0_2 a0_3 a0_4 a0_5 a0_6 a0_7 a0_8 a0_9 a0_10 a0_11 a0_12 a0_0 a0_1 a0_2 a0_3 a0_4 t491 t492 t493)) else ((policy_Covers.f a0_0 a0_1 a0_2 a0_3 a0_4 t491 t492 t493 a0_5 a0_6 a0_7).bind fun t498 => (if t498 = true then ((policy_Covers.f a0_0 a0_1 a0_2 a0_3 a0_4 t491 t492 t493 a0_8 a0_9 a0_10).bind fun t499 => (turnstilelaw06_PolicyOrder.j0 k true t488 (!t499) a0_0 a0_1 a0_2 a0_3 a0_4 a0_5 a0_6 a0_7 a0_8 a0_9 a0_10 a0_11 a0_12 a0_0 a0_1 a0_2 a0_3 a0_4 t491 t492 t493)) else (turnstilelaw06_PolicyOrder.j0 k true t488 true a0_0 a0_1 a0_2 a0_3 a0_4 a0_5 a0_6 a0_7 a0_8 a0_9 a0_10 a0_11 a0_12 a0_0 a0_1 a0_2 a0_3 a0_4 t491 t492 t493)))) = some r := by rw [if_pos rfl] at H; exact H
            clear H
            have H := H1
            clear H1
            by_cases c48 : t489 = true
            · subst c48
              have H1 : (if t490 = true then ((policy_Covers.f a0_0 a0_1 a0_2 a0_3 a0_4 t491 t492 t493 a0_5 a0_6 a0_7).bind fun t496 => (if t496 = true then ((policy_Covers.f a0_0 a0_1 a0_2 a0_3 a0_4 t491 t492 t493 a0_8 a0_9 a0_10).bind fun t497 => (turnstilelaw06_PolicyOrder.j0 k true t488 (!t497) a0_0 a0_1 a0_2 a0_3 a0_4 a0_5 a0_6 a0_7 a0_8 a0_9 a0_10 a0_11 a0_12 a0_0 a0_1 a0_2 a0_3 a0_4 t491 t492 t493)) else (turnstilelaw06_PolicyOrder.j0 k true t488 true a0_0 a0_1 a0_2 a0_3 a0_4 a0_5 a0_6 a0_7 a0_8 a0_9 a0_10 a0_11 a0_12 a0_0 a0_1 a0_2 a0_3 a0_4 t491 t492 t493))) else (turnstilelaw06_PolicyOrder.j0 k true t488 true a0_0 a0_1 a0_2 a0_3 a0_4 a0_5 a0_6 a0_7 a0_8 a0_9 a0_10 a0_11 a0_12 a0_0 a0_1 a0_2 a0_3 a0_4 t491 t492 t493)) = some r := by rw [if_pos rfl] at H; exact H
              clear H
              have H := H1
              clear H1
              by_cases c49 : t490 = true
              · subst c49
                have H1 : ((policy_Covers.f a0_0 a0_1 a0_2 a0_3 a0_4 t491 t492 t493 a0_5 a0_6 a0_7).bind fun t496 => (if t496 = true then ((policy_Covers.f a0_0 a0_1 a0_2 a0_3 a0_4 t491 t492 t493 a0_8 a0_9 a0_10).bind fun t497 => (turnstilelaw06_PolicyOrder.j0 k true t488 (!t497) a0_0 a0_1 a0_2 a0_3 a0_4 a0_5 a0_6 a0_7 a0_8 a0_9 a0_10 a0_11 a0_12 a0_0 a0_1 a0_2 a0_3 a0_4 t491 t492 t493)) else (turnstilelaw06_PolicyOrder.j0 k true t488 true a0_0 a0_1 a0_2 a0_3 a0_4 a0_5 a0_6 a0_7 a0_8 a0_9 a0_10 a0_11 a0_12 a0_0 a0_1 a0_2 a0_3 a0_4 t491 t492 t493))) = some r := by rw [if_pos rfl] at H; exact H
                clear H
                have H := H1
                clear H1
                replace H := Option.bind_eq_some_iff.mp H
                obtain ⟨t496, A500, H⟩ := H
                replace H : (if t496 = true then ((policy_Covers.f a0_0 a0_1 a0_2 a0_3 a0_4 t491 t492 t493 a0_8 a0_9 a0_10).bind fun t497 => (turnstilelaw06_PolicyOrder.j0 k true t488 (!t497) a0_0 a0_1 a0_2 a0_3 a0_4 a0_5 a0_6 a0_7 a0_8 a0_9 a0_10 a0_11 a0_12 a0_0 a0_1 a0_2 a0_3 a0_4 t491 t492 t493)) else (turnstilelaw06_PolicyOrder.j0 k true t488 true a0_0 a0_1 a0_2 a0_3 a0_4 a0_5 a0_6 a0_7 a0_8 a0_9 a0_10 a0_11 a0_12 a0_0 a0_1 a0_2 a0_3 a0_4 t491 t492 t493)) = some r := H
                have A50 := Aside0.mk A500
                clear A500
                by_cases c51 : t496 = true
                · subst c51
                  have H1 : ((policy_Covers.f a0_0 a0_1 a0_2 a0_3 a0_4 t491 t492 t493 a0_8 a0_9 a0_10).bind fun t497 => (turnstilelaw06_PolicyOrder.j0 k true t488 (!t497) a0_0 a0_1 a0_2 a0_3 a0_4 a0_5 a0_6 a0_7 a0_8 a0_9 a0_10 a0_11 a0_12 a0_0 a0_1 a0_2 a0_3 a0_4 t491 t492 t493)) = some r := by rw [if_pos rfl] at H; exact H
                  clear H
                  have H := H1
                  clear H1
                  replace H := Option.bind_eq_some_iff.mp H
                  obtain ⟨t497, A520, H⟩ := H
                  replace H : (turnstilelaw06_PolicyOrder.j0 k true t488 (!t497) a0_0 a0_1 a0_2 a0_3 a0_4 a0_5 a0_6 a0_7 a0_8 a0_9 a0_10 a0_11 a0_12 a0_0 a0_1 a0_2 a0_3 a0_4 t491 t492 t493) = some r := H
                  have A52 := Aside0.mk A520
                  clear A520
                  have H' := Aside0.mk H
                  clear H
                  have hnb53 := NB483_480.out
                  have hnc53 := NB480_483.out
                  have hnb54 := NB483_481.out
                  have hnc54 := NB481_483.out
                  have hnb55 := NB483_494.out
                  have hnc55 := NB494_483.out
                  obtain ⟨hcz56_0, hcz56_1, hcz56_2, hcz56_3, hcz56_4, hfz56_0, hfz56_1, hfz56_2, hfz56_3, hfz56_4⟩ := bc5 BK483
                  have hnb57 := NB480_481.out
                  have hnc57 := NB481_480.out
                  have hnb58 := NB480_494.out
                  have hnc58 := NB494_480.out
                  have hcz59_0 : w40.cell? ⟨gb480, 0, none⟩ = some (.int .i64 a0_0) := (blk_cell BK480.out 0).trans rfl
                  have hcz59_1 : w40.cell? ⟨gb480, 1, none⟩ = some (.int .u64 a0_1) := (blk_cell BK480.out 1).trans rfl
                  have hcz59_2 : w40.cell? ⟨gb480, 2, none⟩ = some (.int .u64 a0_2) := (blk_cell BK480.out 2).trans rfl
                  have hcz59_3 : w40.cell? ⟨gb480, 3, none⟩ = some (.int .u64 a0_3) := (blk_cell BK480.out 3).trans rfl
                  have hcz59_4 : w40.cell? ⟨gb480, 4, none⟩ = some (.int .u64 a0_4) := (blk_cell BK480.out 4).trans rfl
                  have hcz59_5 : w40.cell? ⟨gb480, 5, none⟩ = some (.int .u64 a0_5) := (blk_cell BK480.out 5).trans rfl
                  have hcz59_6 : w40.cell? ⟨gb480, 6, none⟩ = some (.int .u64 a0_6) := (blk_cell BK480.out 6).trans rfl
                  have hcz59_7 : w40.cell? ⟨gb480, 7, none⟩ = some (.int .u64 a0_7) := (blk_cell BK480.out 7).trans rfl
                  have hcz59_8 : w40.cell? ⟨gb480, 8, none⟩ = some (.int .u64 a0_8) := (blk_cell BK480.out 8).trans rfl
                  have hcz59_9 : w40.cell? ⟨gb480, 9, none⟩ = some (.int .u64 a0_9) := (blk_cell BK480.out 9).trans rfl
                  have hcz59_10 : w40.cell? ⟨gb480, 10, none⟩ = some (.int .u64 a0_10) := (blk_cell BK480.out 10).trans rfl
                  have hcz59_11 : w40.cell? ⟨gb480, 11, none⟩ = some (.int .u64 a0_11) := (blk_cell BK480.out 11).trans rfl
                  have hcz59_12 : w40.cell? ⟨gb480, 12, none⟩ = some (.int .u64 a0_12) := (blk_cell BK480.out 12).trans rfl
                  have hfz59_0 := blk_frozen BK480.out 0
                  have hfz59_1 := blk_frozen BK480.out 1
                  have hfz59_2 := blk_frozen BK480.out 2
                  have hfz59_3 := blk_frozen BK480.out 3
                  have hfz59_4 := blk_frozen BK480.out 4
                  have hfz59_5 := blk_frozen BK480.out 5
                  have hfz59_6 := blk_frozen BK480.out 6
                  have hfz59_7 := blk_frozen BK480.out 7
                  have hfz59_8 := blk_frozen BK480.out 8
                  have hfz59_9 := blk_frozen BK480.out 9
                  have hfz59_10 := blk_frozen BK480.out 10
                  have hfz59_11 := blk_frozen BK480.out 11
                  have hfz59_12 := blk_frozen BK480.out 12
                  go_wp2_with (first | ((with_reducible refine gate_callee (f := 27) rfl ?_); refine gm (some 69) Try.func27 #[.agg #[.int .i64 a0_0, .int .u64 a0_1, .int .u64 a0_2, .int .u64 a0_3, .int .u64 a0_4], .agg #[.int .u64 a0_5, .int .u64 a0_6, .int .u64 a0_7], .agg #[.int .u64 a0_5, .int .u64 a0_6, .int .u64 a0_7]] (policy_Covers.calls a0_0 a0_1 a0_2 a0_3 a0_4 a0_5 a0_6 a0_7 a0_5 a0_6 a0_7 true _ A45.out) ?_; intro w60 hb; have n0_ := bb BK480 hb; have n1_ := bb BK481 hb; have n2_ := bb BK483 hb; have n3_ := bbp (.cells #[.int .u64 t491, .int .u64 t492, .int .u64 t493] 29 (0, 0)) BK494 hb; have n4_ := bs HB hb; clear BK480; clear BK481; clear BK483; clear BK494; clear HB; have BK480 := n0_; have BK481 := n1_; have BK483 := n2_; have BK494 := n3_; have HB := n4_; clear n0_ n1_ n2_ n3_ n4_; (try clear hb); (try clear hb2); (try clear hk); (try clear hi); obtain ⟨hcz61_0, hcz61_1, hcz61_2, hcz61_3, hcz61_4, hfz61_0, hfz61_1, hfz61_2, hfz61_3, hfz61_4⟩ := bc5 BK483; have hnb62 := NB494_481.out; have hnc62 := NB481_494.out; obtain ⟨hcz63_0, hcz63_1, hcz63_2, hfz63_0, hfz63_1, hfz63_2⟩ := bc3 BK494; have hcz64_0 : w60.cell? ⟨gb480, 0, none⟩ = some (.int .i64 a0_0) := (blk_cell BK480.out 0).trans rfl; have hcz64_1 : w60.cell? ⟨gb480, 1, none⟩ = some (.int .u64 a0_1) := (blk_cell BK480.out 1).trans rfl; have hcz64_2 : w60.cell? ⟨gb480, 2, none⟩ = some (.int .u64 a0_2) := (blk_cell BK480.out 2).trans rfl; have hcz64_3 : w60.cell? ⟨gb480, 3, none⟩ = some (.int .u64 a0_3) := (blk_cell BK480.out 3).trans rfl; have hcz64_4 : w60.cell? ⟨gb480, 4, none⟩ = some (.int .u64 a0_4) := (blk_cell BK480.out 4).trans rfl; have hcz64_5 : w60.cell? ⟨gb480, 5, none⟩ = some (.int .u64 a0_5) := (blk_cell BK480.out 5).trans rfl; have hcz64_6 : w60.cell? ⟨gb480, 6, none⟩ = some (.int .u64 a0_6) := (blk_cell BK480.out 6).trans rfl; have hcz64_7 : w60.cell? ⟨gb480, 7, none⟩ = some (.int .u64 a0_7) := (blk_cell BK480.out 7).trans rfl; have hcz64_8 : w60.cell? ⟨gb480, 8, none⟩ = some (.int .u64 a0_8) := (blk_cell BK480.out 8).trans rfl; have hcz64_9 : w60.cell? ⟨gb480, 9, none⟩ = some (.int .u64 a0_9) := (blk_cell BK480.out 9).trans rfl; have hcz64_10 : w60.cell? ⟨gb480, 10, none⟩ = some (.int .u64 a0_10) := (blk_cell BK480.out 10).trans rfl; have hcz64_11 : w60.cell? ⟨gb480, 11, none⟩ = some (.int .u64 a0_11) := (blk_cell BK480.out 11).trans rfl; have hcz64_12 : w60.cell? ⟨gb480, 12, none⟩ = some (.int .u64 a0_12) := (blk_cell BK480.out 12).trans rfl; have hfz64_0 := blk_frozen BK480.out 0; have hfz64_1 := blk_frozen BK480.out 1; have hfz64_2 := blk_frozen BK480.out 2; have hfz64_3 := blk_frozen BK480.out 3; have hfz64_4 := blk_frozen BK480.out 4; have hfz64_5 := blk_frozen BK480.out 5; have hfz64_6 := blk_frozen BK480.out 6; have hfz64_7 := blk_frozen BK480.out 7; have hfz64_8 := blk_frozen BK480.out 8; have hfz64_9 := blk_frozen BK480.out 9; have hfz64_10 := blk_frozen BK480.out 10; have hfz64_11 := blk_frozen BK480.out 11; have hfz64_12 := blk_frozen BK480.out 12) | (go_at_call 27; (with_reducible refine (policy_Covers.calls a0_0 a0_1 a0_2 a0_3 a0_4 t491 t492 t493 a0_5 a0_6 a0_7 true _ A50.out).mono ?_); rintro e w65 ⟨rfl, hb⟩; have n0_ := bb BK480 hb; have n1_ := bb BK481 hb; have n2_ := bb BK483 hb; have n3_ := bb BK494 hb; have n4_ := bs HB hb; clear BK480; clear BK481; clear BK483; clear BK494; clear HB; have BK480 := n0_; have BK481 := n1_; have BK483 := n2_; have BK494 := n3_; have HB := n4_; clear n0_ n1_ n2_ n3_ n4_; (try clear hb); (try clear hb2); (try clear hk); (try clear hi); obtain ⟨hcz66_0, hcz66_1, hcz66_2, hcz66_3, hcz66_4, hfz66_0, hfz66_1, hfz66_2, hfz66_3, hfz66_4⟩ := bc5 BK483; obtain ⟨hcz67_0, hcz67_1, hcz67_2, hfz67_0, hfz67_1, hfz67_2⟩ := bc3 BK494; have hcz68_0 : w65.cell? ⟨gb480, 0, none⟩ = some (.int .i64 a0_0) := (blk_cell BK480.out 0).trans rfl; have hcz68_1 : w65.cell? ⟨gb480, 1, none⟩ = some (.int .u64 a0_1) := (blk_cell BK480.out 1).trans rfl; have hcz68_2 : w65.cell? ⟨gb480, 2, none⟩ = some (.int .u64 a0_2) := (blk_cell BK480.out 2).trans rfl; have hcz68_3 : w65.cell? ⟨gb480, 3, none⟩ = some (.int .u64 a0_3) := (blk_cell BK480.out 3).trans rfl; have hcz68_4 : w65.cell? ⟨gb480, 4, none⟩ = some (.int .u64 a0_4) := (blk_cell BK480.out 4).trans rfl; have hcz68_5 : w65.cell? ⟨gb480, 5, none⟩ = some (.int .u64 a0_5) := (blk_cell BK480.out 5).trans rfl; have hcz68_6 : w65.cell? ⟨gb480, 6, none⟩ = some (.int .u64 a0_6) := (blk_cell BK480.out 6).trans rfl; have hcz68_7 : w65.cell? ⟨gb480, 7, none⟩ = some (.int .u64 a0_7) := (blk_cell BK480.out 7).trans rfl; have hcz68_8 : w65.cell? ⟨gb480, 8, none⟩ = some (.int .u64 a0_8) := (blk_cell BK480.out 8).trans rfl; have hcz68_9 : w65.cell? ⟨gb480, 9, none⟩ = some (.int .u64 a0_9) := (blk_cell BK480.out 9).trans rfl; have hcz68_10 : w65.cell? ⟨gb480, 10, none⟩ = some (.int .u64 a0_10) := (blk_cell BK480.out 10).trans rfl; have hcz68_11 : w65.cell? ⟨gb480, 11, none⟩ = some (.int .u64 a0_11) := (blk_cell BK480.out 11).trans rfl; have hcz68_12 : w65.cell? ⟨gb480, 12, none⟩ = some (.int .u64 a0_12) := (blk_cell BK480.out 12).trans rfl; have hfz68_0 := blk_frozen BK480.out 0; have hfz68_1 := blk_frozen BK480.out 1; have hfz68_2 := blk_frozen BK480.out 2; have hfz68_3 := blk_frozen BK480.out 3; have hfz68_4 := blk_frozen BK480.out 4; have hfz68_5 := blk_frozen BK480.out 5; have hfz68_6 := blk_frozen BK480.out 6; have hfz68_7 := blk_frozen BK480.out 7; have hfz68_8 := blk_frozen BK480.out 8; have hfz68_9 := blk_frozen BK480.out 9; have hfz68_10 := blk_frozen BK480.out 10; have hfz68_11 := blk_frozen BK480.out 11; have hfz68_12 := blk_frozen BK480.out 12) | (go_at_call 27; (with_reducible refine (policy_Covers.calls a0_0 a0_1 a0_2 a0_3 a0_4 t491 t492 t493 a0_8 a0_9 a0_10 t497 _ A52.out).mono ?_); rintro e w69 ⟨rfl, hb⟩; have n0_ := bb BK480 hb; have n1_ := bb BK481 hb; have n2_ := bb BK483 hb; have n3_ := bb BK494 hb; have n4_ := bs HB hb; clear BK480; clear BK481; clear BK483; clear BK494; clear HB; have BK480 := n0_; have BK481 := n1_; have BK483 := n2_; have BK494 := n3_; have HB := n4_; clear n0_ n1_ n2_ n3_ n4_; (try clear hb); (try clear hb2); (try clear hk); (try clear hi)))
                  go_meet
                  case rel => exact ⟨_, (!t497), rs, H', ⟨by first | omega | exact Nat.le_refl _⟩, ⟨bk BK480⟩, ⟨bk BK481⟩, ⟨bk BK483⟩, ⟨bk BK494⟩, ⟨bw HB⟩⟩
                · replace c51 := Bool.eq_false_iff.mpr c51
                  subst c51
                  have H1 : (turnstilelaw06_PolicyOrder.j0 k true t488 true a0_0 a0_1 a0_2 a0_3 a0_4 a0_5 a0_6 a0_7 a0_8 a0_9 a0_10 a0_11 a0_12 a0_0 a0_1 a0_2 a0_3 a0_4 t491 t492 t493) = some r := by rw [if_neg (show ¬ (false = true) by decide)] at H; exact H
                  clear H
                  have H := H1
                  clear H1
                  have H' := Aside0.mk H
                  clear H
                  have hnb70 := NB483_480.out
                  have hnc70 := NB480_483.out
                  have hnb71 := NB483_481.out
                  have hnc71 := NB481_483.out
                  have hnb72 := NB483_494.out
                  have hnc72 := NB494_483.out
                  obtain ⟨hcz73_0, hcz73_1, hcz73_2, hcz73_3, hcz73_4, hfz73_0, hfz73_1, hfz73_2, hfz73_3, hfz73_4⟩ := bc5 BK483
                  have hnb74 := NB480_481.out
                  have hnc74 := NB481_480.out
                  have hnb75 := NB480_494.out
                  have hnc75 := NB494_480.out
                  have hcz76_0 : w40.cell? ⟨gb480, 0, none⟩ = some (.int .i64 a0_0) := (blk_cell BK480.out 0).trans rfl
                  have hcz76_1 : w40.cell? ⟨gb480, 1, none⟩ = some (.int .u64 a0_1) := (blk_cell BK480.out 1).trans rfl
                  have hcz76_2 : w40.cell? ⟨gb480, 2, none⟩ = some (.int .u64 a0_2) := (blk_cell BK480.out 2).trans rfl
                  have hcz76_3 : w40.cell? ⟨gb480, 3, none⟩ = some (.int .u64 a0_3) := (blk_cell BK480.out 3).trans rfl
                  have hcz76_4 : w40.cell? ⟨gb480, 4, none⟩ = some (.int .u64 a0_4) := (blk_cell BK480.out 4).trans rfl
                  have hcz76_5 : w40.cell? ⟨gb480, 5, none⟩ = some (.int .u64 a0_5) := (blk_cell BK480.out 5).trans rfl
                  have hcz76_6 : w40.cell? ⟨gb480, 6, none⟩ = some (.int .u64 a0_6) := (blk_cell BK480.out 6).trans rfl
                  have hcz76_7 : w40.cell? ⟨gb480, 7, none⟩ = some (.int .u64 a0_7) := (blk_cell BK480.out 7).trans rfl
                  have hcz76_8 : w40.cell? ⟨gb480, 8, none⟩ = some (.int .u64 a0_8) := (blk_cell BK480.out 8).trans rfl
                  have hcz76_9 : w40.cell? ⟨gb480, 9, none⟩ = some (.int .u64 a0_9) := (blk_cell BK480.out 9).trans rfl
                  have hcz76_10 : w40.cell? ⟨gb480, 10, none⟩ = some (.int .u64 a0_10) := (blk_cell BK480.out 10).trans rfl
                  have hcz76_11 : w40.cell? ⟨gb480, 11, none⟩ = some (.int .u64 a0_11) := (blk_cell BK480.out 11).trans rfl
                  have hcz76_12 : w40.cell? ⟨gb480, 12, none⟩ = some (.int .u64 a0_12) := (blk_cell BK480.out 12).trans rfl
                  have hfz76_0 := blk_frozen BK480.out 0
                  have hfz76_1 := blk_frozen BK480.out 1
                  have hfz76_2 := blk_frozen BK480.out 2
                  have hfz76_3 := blk_frozen BK480.out 3
                  have hfz76_4 := blk_frozen BK480.out 4
                  have hfz76_5 := blk_frozen BK480.out 5
                  have hfz76_6 := blk_frozen BK480.out 6
                  have hfz76_7 := blk_frozen BK480.out 7
                  have hfz76_8 := blk_frozen BK480.out 8
                  have hfz76_9 := blk_frozen BK480.out 9
                  have hfz76_10 := blk_frozen BK480.out 10
                  have hfz76_11 := blk_frozen BK480.out 11
                  have hfz76_12 := blk_frozen BK480.out 12
                  go_wp2_with (first | ((with_reducible refine gate_callee (f := 27) rfl ?_); refine gm (some 69) Try.func27 #[.agg #[.int .i64 a0_0, .int .u64 a0_1, .int .u64 a0_2, .int .u64 a0_3, .int .u64 a0_4], .agg #[.int .u64 a0_5, .int .u64 a0_6, .int .u64 a0_7], .agg #[.int .u64 a0_5, .int .u64 a0_6, .int .u64 a0_7]] (policy_Covers.calls a0_0 a0_1 a0_2 a0_3 a0_4 a0_5 a0_6 a0_7 a0_5 a0_6 a0_7 true _ A45.out) ?_; intro w77 hb; have n0_ := bb BK480 hb; have n1_ := bb BK481 hb; have n2_ := bb BK483 hb; have n3_ := bbp (.cells #[.int .u64 t491, .int .u64 t492, .int .u64 t493] 29 (0, 0)) BK494 hb; have n4_ := bs HB hb; clear BK480; clear BK481; clear BK483; clear BK494; clear HB; have BK480 := n0_; have BK481 := n1_; have BK483 := n2_; have BK494 := n3_; have HB := n4_; clear n0_ n1_ n2_ n3_ n4_; (try clear hb); (try clear hb2); (try clear hk); (try clear hi); obtain ⟨hcz78_0, hcz78_1, hcz78_2, hcz78_3, hcz78_4, hfz78_0, hfz78_1, hfz78_2, hfz78_3, hfz78_4⟩ := bc5 BK483; have hnb79 := NB494_481.out; have hnc79 := NB481_494.out; obtain ⟨hcz80_0, hcz80_1, hcz80_2, hfz80_0, hfz80_1, hfz80_2⟩ := bc3 BK494; have hcz81_0 : w77.cell? ⟨gb480, 0, none⟩ = some (.int .i64 a0_0) := (blk_cell BK480.out 0).trans rfl; have hcz81_1 : w77.cell? ⟨gb480, 1, none⟩ = some (.int .u64 a0_1) := (blk_cell BK480.out 1).trans rfl; have hcz81_2 : w77.cell? ⟨gb480, 2, none⟩ = some (.int .u64 a0_2) := (blk_cell BK480.out 2).trans rfl; have hcz81_3 : w77.cell? ⟨gb480, 3, none⟩ = some (.int .u64 a0_3) := (blk_cell BK480.out 3).trans rfl; have hcz81_4 : w77.cell? ⟨gb480, 4, none⟩ = some (.int .u64 a0_4) := (blk_cell BK480.out 4).trans rfl; have hcz81_5 : w77.cell? ⟨gb480, 5, none⟩ = some (.int .u64 a0_5) := (blk_cell BK480.out 5).trans rfl; have hcz81_6 : w77.cell? ⟨gb480, 6, none⟩ = some (.int .u64 a0_6) := (blk_cell BK480.out 6).trans rfl; have hcz81_7 : w77.cell? ⟨gb480, 7, none⟩ = some (.int .u64 a0_7) := (blk_cell BK480.out 7).trans rfl; have hcz81_8 : w77.cell? ⟨gb480, 8, none⟩ = some (.int .u64 a0_8) := (blk_cell BK480.out 8).trans rfl; have hcz81_9 : w77.cell? ⟨gb480, 9, none⟩ = some (.int .u64 a0_9) := (blk_cell BK480.out 9).trans rfl; have hcz81_10 : w77.cell? ⟨gb480, 10, none⟩ = some (.int .u64 a0_10) := (blk_cell BK480.out 10).trans rfl; have hcz81_11 : w77.cell? ⟨gb480, 11, none⟩ = some (.int .u64 a0_11) := (blk_cell BK480.out 11).trans rfl; have hcz81_12 : w77.cell? ⟨gb480, 12, none⟩ = some (.int .u64 a0_12) := (blk_cell BK480.out 12).trans rfl; have hfz81_0 := blk_frozen BK480.out 0; have hfz81_1 := blk_frozen BK480.out 1; have hfz81_2 := blk_frozen BK480.out 2; have hfz81_3 := blk_frozen BK480.out 3; have hfz81_4 := blk_frozen BK480.out 4; have hfz81_5 := blk_frozen BK480.out 5; have hfz81_6 := blk_frozen BK480.out 6; have hfz81_7 := blk_frozen BK480.out 7; have hfz81_8 := blk_frozen BK480.out 8; have hfz81_9 := blk_frozen BK480.out 9; have hfz81_10 := blk_frozen BK480.out 10; have hfz81_11 := blk_frozen BK480.out 11; have hfz81_12 := blk_frozen BK480.out 12) | (go_at_call 27; (with_reducible refine (policy_Covers.calls a0_0 a0_1 a0_2 a0_3 a0_4 t491 t492 t493 a0_5 a0_6 a0_7 false _ A50.out).mono ?_); rintro e w82 ⟨rfl, hb⟩; have n0_ := bb BK480 hb; have n1_ := bb BK481 hb; have n2_ := bb BK483 hb; have n3_ := bb BK494 hb; have n4_ := bs HB hb; clear BK480; clear BK481; clear BK483; clear BK494; clear HB; have BK480 := n0_; have BK481 := n1_; have BK483 := n2_; have BK494 := n3_; have HB := n4_; clear n0_ n1_ n2_ n3_ n4_; (try clear hb); (try clear hb2); (try clear hk); (try clear hi)))
                  go_meet
                  case rel => exact ⟨_, (true), rs, H', ⟨by first | omega | exact Nat.le_refl _⟩, ⟨bk BK480⟩, ⟨bk BK481⟩, ⟨bk BK483⟩, ⟨bk BK494⟩, ⟨bw HB⟩⟩
              · replace c49 := Bool.eq_false_iff.mpr c49
                subst c49
                have H1 : (turnstilelaw06_PolicyOrder.j0 k true t488 true a0_0 a0_1 a0_2 a0_3 a0_4 a0_5 a0_6 a0_7 a0_8 a0_9 a0_10 a0_11 a0_12 a0_0 a0_1 a0_2 a0_3 a0_4 t491 t492 t493) = some r := by rw [if_neg (show ¬ (false = true) by decide)] at H; exact H
                clear H
                have H := H1
                clear H1
                have H' := Aside0.mk H
                clear H
                have hnb83 := NB483_480.out
                have hnc83 := NB480_483.out
                have hnb84 := NB483_481.out
                have hnc84 := NB481_483.out
                have hnb85 := NB483_494.out
                have hnc85 := NB494_483.out
                obtain ⟨hcz86_0, hcz86_1, hcz86_2, hcz86_3, hcz86_4, hfz86_0, hfz86_1, hfz86_2, hfz86_3, hfz86_4⟩ := bc5 BK483
                have hnb87 := NB480_481.out
                have hnc87 := NB481_480.out
                have hnb88 := NB480_494.out
                have hnc88 := NB494_480.out
                have hcz89_0 : w40.cell? ⟨gb480, 0, none⟩ = some (.int .i64 a0_0) := (blk_cell BK480.out 0).trans rfl
                have hcz89_1 : w40.cell? ⟨gb480, 1, none⟩ = some (.int .u64 a0_1) := (blk_cell BK480.out 1).trans rfl
                have hcz89_2 : w40.cell? ⟨gb480, 2, none⟩ = some (.int .u64 a0_2) := (blk_cell BK480.out 2).trans rfl
                have hcz89_3 : w40.cell? ⟨gb480, 3, none⟩ = some (.int .u64 a0_3) := (blk_cell BK480.out 3).trans rfl
                have hcz89_4 : w40.cell? ⟨gb480, 4, none⟩ = some (.int .u64 a0_4) := (blk_cell BK480.out 4).trans rfl
                have hcz89_5 : w40.cell? ⟨gb480, 5, none⟩ = some (.int .u64 a0_5) := (blk_cell BK480.out 5).trans rfl
                have hcz89_6 : w40.cell? ⟨gb480, 6, none⟩ = some (.int .u64 a0_6) := (blk_cell BK480.out 6).trans rfl
                have hcz89_7 : w40.cell? ⟨gb480, 7, none⟩ = some (.int .u64 a0_7) := (blk_cell BK480.out 7).trans rfl
                have hcz89_8 : w40.cell? ⟨gb480, 8, none⟩ = some (.int .u64 a0_8) := (blk_cell BK480.out 8).trans rfl
                have hcz89_9 : w40.cell? ⟨gb480, 9, none⟩ = some (.int .u64 a0_9) := (blk_cell BK480.out 9).trans rfl
                have hcz89_10 : w40.cell? ⟨gb480, 10, none⟩ = some (.int .u64 a0_10) := (blk_cell BK480.out 10).trans rfl
                have hcz89_11 : w40.cell? ⟨gb480, 11, none⟩ = some (.int .u64 a0_11) := (blk_cell BK480.out 11).trans rfl
                have hcz89_12 : w40.cell? ⟨gb480, 12, none⟩ = some (.int .u64 a0_12) := (blk_cell BK480.out 12).trans rfl
                have hfz89_0 := blk_frozen BK480.out 0
                have hfz89_1 := blk_frozen BK480.out 1
                have hfz89_2 := blk_frozen BK480.out 2
                have hfz89_3 := blk_frozen BK480.out 3
                have hfz89_4 := blk_frozen BK480.out 4
                have hfz89_5 := blk_frozen BK480.out 5
                have hfz89_6 := blk_frozen BK480.out 6
                have hfz89_7 := blk_frozen BK480.out 7
                have hfz89_8 := blk_frozen BK480.out 8
                have hfz89_9 := blk_frozen BK480.out 9
                have hfz89_10 := blk_frozen BK480.out 10
                have hfz89_11 := blk_frozen BK480.out 11
                have hfz89_12 := blk_frozen BK480.out 12
                go_wp2_with (first | ((with_reducible refine gate_callee (f := 27) rfl ?_); refine gm (some 69) Try.func27 #[.agg #[.int .i64 a0_0, .int .u64 a0_1, .int .u64 a0_2, .int .u64 a0_3, .int .u64 a0_4], .agg #[.int .u64 a0_5, .int .u64 a0_6, .int .u64 a0_7], .agg #[.int .u64 a0_5, .int .u64 a0_6, .int .u64 a0_7]] (policy_Covers.calls a0_0 a0_1 a0_2 a0_3 a0_4 a0_5 a0_6 a0_7 a0_5 a0_6 a0_7 true _ A45.out) ?_; intro w90 hb; have n0_ := bb BK480 hb; have n1_ := bb BK481 hb; have n2_ := bb BK483 hb; have n3_ := bbp (.cells #[.int .u64 t491, .int .u64 t492, .int .u64 t493] 29 (0, 0)) BK494 hb; have n4_ := bs HB hb; clear BK480; clear BK481; clear BK483; clear BK494; clear HB; have BK480 := n0_; have BK481 := n1_; have BK483 := n2_; have BK494 := n3_; have HB := n4_; clear n0_ n1_ n2_ n3_ n4_; (try clear hb); (try clear hb2); (try clear hk); (try clear hi)))
                go_meet
                case rel => exact ⟨_, (true), rs, H', ⟨by first | omega | exact Nat.le_refl _⟩, ⟨bk BK480⟩, ⟨bk BK481⟩, ⟨bk BK483⟩, ⟨bk BK494⟩, ⟨bw HB⟩⟩
            · replace c48 := Bool.eq_false_iff.mpr c48
              subst c48
              have H1 : ((policy_Covers.f a0_0 a0_1 a0_2 a0_3 a0_4 t491 t492 t493 a0_5 a0_6 a0_7).bind fun t498 => (if t498 = true then ((policy_Covers.f a0_0 a0_1 a0_2 a0_3 a0_4 t491 t492 t493 a0_8 a0_9 a0_10).bind fun t499 => (turnstilelaw06_PolicyOrder.j0 k true t488 (!t499) a0_0 a0_1 a0_2 a0_3 a0_4 a0_5 a0_6 a0_7 a0_8 a0_9 a0_10 a0_11 a0_12 a0_0 a0_1 a0_2 a0_3 a0_4 t491 t492 t493)) else (turnstilelaw06_PolicyOrder.j0 k true t488 true a0_0 a0_1 a0_2 a0_3 a0_4 a0_5 a0_6 a0_7 a0_8 a0_9 a0_10 a0_11 a0_12 a0_0 a0_1 a0_2 a0_3 a0_4 t491 t492 t493))) = some r := by rw [if_neg (show ¬ (false = true) by decide)] at H; exact H
              clear H
              have H := H1
              clear H1
              replace H := Option.bind_eq_some_iff.mp H
              obtain ⟨t498, A910, H⟩ := H
              replace H : (if t498 = true then ((policy_Covers.f a0_0 a0_1 a0_2 a0_3 a0_4 t491 t492 t493 a0_8 a0_9 a0_10).bind fun t499 => (turnstilelaw06_PolicyOrder.j0 k true t488 (!t499) a0_0 a0_1 a0_2 a0_3 a0_4 a0_5 a0_6 a0_7 a0_8 a0_9 a0_10 a0_11 a0_12 a0_0 a0_1 a0_2 a0_3 a0_4 t491 t492 t493)) else (turnstilelaw06_PolicyOrder.j0 k true t488 true a0_0 a0_1 a0_2 a0_3 a0_4 a0_5 a0_6 a0_7 a0_8 a0_9 a0_10 a0_11 a0_12 a0_0 a0_1 a0_2 a0_3 a0_4 t491 t492 t493)) = some r := H
              have A91 := Aside0.mk A910
              clear A910
              by_cases c92 : t498 = true
              · subst c92
                have H1 : ((policy_Covers.f a0_0 a0_1 a0_2 a0_3 a0_4 t491 t492 t493 a0_8 a0_9 a0_10).bind fun t499 => (turnstilelaw06_PolicyOrder.j0 k true t488 (!t499) a0_0 a0_1 a0_2 a0_3 a0_4 a0_5 a0_6 a0_7 a0_8 a0_9 a0_10 a0_11 a0_12 a0_0 a0_1 a0_2 a0_3 a0_4 t491 t492 t493)) = some r := by rw [if_pos rfl] at H; exact H
                clear H
                have H := H1
                clear H1
                replace H := Option.bind_eq_some_iff.mp H
                obtain ⟨t499, A930, H⟩ := H
                replace H : (turnstilelaw06_PolicyOrder.j0 k true t488 (!t499) a0_0 a0_1 a0_2 a0_3 a0_4 a0_5 a0_6 a0_7 a0_8 a0_9 a0_10 a0_11 a0_12 a0_0 a0_1 a0_2 a0_3 a0_4 t491 t492 t493) = some r := H
                have A93 := Aside0.mk A930
                clear A930
                have H' := Aside0.mk H
                clear H
                have hnb94 := NB483_480.out
                have hnc94 := NB480_483.out
                have hnb95 := NB483_481.out
                have hnc95 := NB481_483.out
                have hnb96 := NB483_494.out
                have hnc96 := NB494_483.out
                obtain ⟨hcz97_0, hcz97_1, hcz97_2, hcz97_3, hcz97_4, hfz97_0, hfz97_1, hfz97_2, hfz97_3, hfz97_4⟩ := bc5 BK483
                have hnb98 := NB480_481.out
                have hnc98 := NB481_480.out
                have hnb99 := NB480_494.out
                have hnc99 := NB494_480.out
                have hcz100_0 : w40.cell? ⟨gb480, 0, none⟩ = some (.int .i64 a0_0) := (blk_cell BK480.out 0).trans rfl
                have hcz100_1 : w40.cell? ⟨gb480, 1, none⟩ = some (.int .u64 a0_1) := (blk_cell BK480.out 1).trans rfl
                have hcz100_2 : w40.cell? ⟨gb480, 2, none⟩ = some (.int .u64 a0_2) := (blk_cell BK480.out 2).trans rfl
                have hcz100_3 : w40.cell? ⟨gb480, 3, none⟩ = some (.int .u64 a0_3) := (blk_cell BK480.out 3).trans rfl
                have hcz100_4 : w40.cell? ⟨gb480, 4, none⟩ = some (.int .u64 a0_4) := (blk_cell BK480.out 4).trans rfl
                have hcz100_5 : w40.cell? ⟨gb480, 5, none⟩ = some (.int .u64 a0_5) := (blk_cell BK480.out 5).trans rfl
                have hcz100_6 : w40.cell? ⟨gb480, 6, none⟩ = some (.int .u64 a0_6) := (blk_cell BK480.out 6).trans rfl
                have hcz100_7 : w40.cell? ⟨gb480, 7, none⟩ = some (.int .u64 a0_7) := (blk_cell BK480.out 7).trans rfl
                have hcz100_8 : w40.cell? ⟨gb480, 8, none⟩ = some (.int .u64 a0_8) := (blk_cell BK480.out 8).trans rfl
                have hcz100_9 : w40.cell? ⟨gb480, 9, none⟩ = some (.int .u64 a0_9) := (blk_cell BK480.out 9).trans rfl
                have hcz100_10 : w40.cell? ⟨gb480, 10, none⟩ = some (.int .u64 a0_10) := (blk_cell BK480.out 10).trans rfl
                have hcz100_11 : w40.cell? ⟨gb480, 11, none⟩ = some (.int .u64 a0_11) := (blk_cell BK480.out 11).trans rfl
                have hcz100_12 : w40.cell? ⟨gb480, 12, none⟩ = some (.int .u64 a0_12) := (blk_cell BK480.out 12).trans rfl
                have hfz100_0 := blk_frozen BK480.out 0
                have hfz100_1 := blk_frozen BK480.out 1
                have hfz100_2 := blk_frozen BK480.out 2
                have hfz100_3 := blk_frozen BK480.out 3
                have hfz100_4 := blk_frozen BK480.out 4
                have hfz100_5 := blk_frozen BK480.out 5
                have hfz100_6 := blk_frozen BK480.out 6
                have hfz100_7 := blk_frozen BK480.out 7
                have hfz100_8 := blk_frozen BK480.out 8
                have hfz100_9 := blk_frozen BK480.out 9
                have hfz100_10 := blk_frozen BK480.out 10
                have hfz100_11 := blk_frozen BK480.out 11
                have hfz100_12 := blk_frozen BK480.out 12
                go_wp2_with (first | ((with_reducible refine gate_callee (f := 27) rfl ?_); refine gm (some 69) Try.func27 #[.agg #[.int .i64 a0_0, .int .u64 a0_1, .int .u64 a0_2, .int .u64 a0_3, .int .u64 a0_4], .agg #[.int .u64 a0_5, .int .u64 a0_6, .int .u64 a0_7], .agg #[.int .u64 a0_5, .int .u64 a0_6, .int .u64 a0_7]] (policy_Covers.calls a0_0 a0_1 a0_2 a0_3 a0_4 a0_5 a0_6 a0_7 a0_5 a0_6 a0_7 true _ A45.out) ?_; intro w101 hb; have n0_ := bb BK480 hb; have n1_ := bb BK481 hb; have n2_ := bb BK483 hb; have n3_ := bbp (.cells #[.int .u64 t491, .int .u64 t492, .int .u64 t493] 29 (0, 0)) BK494 hb; have n4_ := bs HB hb; clear BK480; clear BK481; clear BK483; clear BK494; clear HB; have BK480 := n0_; have BK481 := n1_; have BK483 := n2_; have BK494 := n3_; have HB := n4_; clear n0_ n1_ n2_ n3_ n4_; (try clear hb); (try clear hb2); (try clear hk); (try clear hi); obtain ⟨hcz102_0, hcz102_1, hcz102_2, hcz102_3, hcz102_4, hfz102_0, hfz102_1, hfz102_2, hfz102_3, hfz102_4⟩ := bc5 BK483; have hnb103 := NB494_481.out; have hnc103 := NB481_494.out; obtain ⟨hcz104_0, hcz104_1, hcz104_2, hfz104_0, hfz104_1, hfz104_2⟩ := bc3 BK494; have hcz105_0 : w101.cell? ⟨gb480, 0, none⟩ = some (.int .i64 a0_0) := (blk_cell BK480.out 0).trans rfl; have hcz105_1 : w101.cell? ⟨gb480, 1, none⟩ = some (.int .u64 a0_1) := (blk_cell BK480.out 1).trans rfl; have hcz105_2 : w101.cell? ⟨gb480, 2, none⟩ = some (.int .u64 a0_2) := (blk_cell BK480.out 2).trans rfl; have hcz105_3 : w101.cell? ⟨gb480, 3, none⟩ = some (.int .u64 a0_3) := (blk_cell BK480.out 3).trans rfl; have hcz105_4 : w101.cell? ⟨gb480, 4, none⟩ = some (.int .u64 a0_4) := (blk_cell BK480.out 4).trans rfl; have hcz105_5 : w101.cell? ⟨gb480, 5, none⟩ = some (.int .u64 a0_5) := (blk_cell BK480.out 5).trans rfl; have hcz105_6 : w101.cell? ⟨gb480, 6, none⟩ = some (.int .u64 a0_6) := (blk_cell BK480.out 6).trans rfl; have hcz105_7 : w101.cell? ⟨gb480, 7, none⟩ = some (.int .u64 a0_7) := (blk_cell BK480.out 7).trans rfl; have hcz105_8 : w101.cell? ⟨gb480, 8, none⟩ = some (.int .u64 a0_8) := (blk_cell BK480.out 8).trans rfl; have hcz105_9 : w101.cell? ⟨gb480, 9, none⟩ = some (.int .u64 a0_9) := (blk_cell BK480.out 9).trans rfl; have hcz105_10 : w101.cell? ⟨gb480, 10, none⟩ = some (.int .u64 a0_10) := (blk_cell BK480.out 10).trans rfl; have hcz105_11 : w101.cell? ⟨gb480, 11, none⟩ = some (.int .u64 a0_11) := (blk_cell BK480.out 11).trans rfl; have hcz105_12 : w101.cell? ⟨gb480, 12, none⟩ = some (.int .u64 a0_12) := (blk_cell BK480.out 12).trans rfl; have hfz105_0 := blk_frozen BK480.out 0; have hfz105_1 := blk_frozen BK480.out 1; have hfz105_2 := blk_frozen BK480.out 2; have hfz105_3 := blk_frozen BK480.out 3; have hfz105_4 := blk_frozen BK480.out 4; have hfz105_5 := blk_frozen BK480.out 5; have hfz105_6 := blk_frozen BK480.out 6; have hfz105_7 := blk_frozen BK480.out 7; have hfz105_8 := blk_frozen BK480.out 8; have hfz105_9 := blk_frozen BK480.out 9; have hfz105_10 := blk_frozen BK480.out 10; have hfz105_11 := blk_frozen BK480.out 11; have hfz105_12 := blk_frozen BK480.out 12) | (go_at_call 27; (with_reducible refine (policy_Covers.calls a0_0 a0_1 a0_2 a0_3 a0_4 t491 t492 t493 a0_5 a0_6 a0_7 true _ A91.out).mono ?_); rintro e w106 ⟨rfl, hb⟩; have n0_ := bb BK480 hb; have n1_ := bb BK481 hb; have n2_ := bb BK483 hb; have n3_ := bb BK494 hb; have n4_ := bs HB hb; clear BK480; clear BK481; clear BK483; clear BK494; clear HB; have BK480 := n0_; have BK481 := n1_; have BK483 := n2_; have BK494 := n3_; have HB := n4_; clear n0_ n1_ n2_ n3_ n4_; (try clear hb); (try clear hb2); (try clear hk); (try clear hi); obtain ⟨hcz107_0, hcz107_1, hcz107_2, hcz107_3, hcz107_4, hfz107_0, hfz107_1, hfz107_2, hfz107_3, hfz107_4⟩ := bc5 BK483; obtain ⟨hcz108_0, hcz108_1, hcz108_2, hfz108_0, hfz108_1, hfz108_2⟩ := bc3 BK494; have hcz109_0 : w106.cell? ⟨gb480, 0, none⟩ = some (.int .i64 a0_0) := (blk_cell BK480.out 0).trans rfl; have hcz109_1 : w106.cell? ⟨gb480, 1, none⟩ = some (.int .u64 a0_1) := (blk_cell BK480.out 1).trans rfl; have hcz109_2 : w106.cell? ⟨gb480, 2, none⟩ = some (.int .u64 a0_2) := (blk_cell BK480.out 2).trans rfl; have hcz109_3 : w106.cell? ⟨gb480, 3, none⟩ = some (.int .u64 a0_3) := (blk_cell BK480.out 3).trans rfl; have hcz109_4 : w106.cell? ⟨gb480, 4, none⟩ = some (.int .u64 a0_4) := (blk_cell BK480.out 4).trans rfl; have hcz109_5 : w106.cell? ⟨gb480, 5, none⟩ = some (.int .u64 a0_5) := (blk_cell BK480.out 5).trans rfl; have hcz109_6 : w106.cell? ⟨gb480, 6, none⟩ = some (.int .u64 a0_6) := (blk_cell BK480.out 6).trans rfl; have hcz109_7 : w106.cell? ⟨gb480, 7, none⟩ = some (.int .u64 a0_7) := (blk_cell BK480.out 7).trans rfl; have hcz109_8 : w106.cell? ⟨gb480, 8, none⟩ = some (.int .u64 a0_8) := (blk_cell BK480.out 8).trans rfl; have hcz109_9 : w106.cell? ⟨gb480, 9, none⟩ = some (.int .u64 a0_9) := (blk_cell BK480.out 9).trans rfl; have hcz109_10 : w106.cell? ⟨gb480, 10, none⟩ = some (.int .u64 a0_10) := (blk_cell BK480.out 10).trans rfl; have hcz109_11 : w106.cell? ⟨gb480, 11, none⟩ = some (.int .u64 a0_11) := (blk_cell BK480.out 11).trans rfl; have hcz109_12 : w106.cell? ⟨gb480, 12, none⟩ = some (.int .u64 a0_12) := (blk_cell BK480.out 12).trans rfl; have hfz109_0 := blk_frozen BK480.out 0; have hfz109_1 := blk_frozen BK480.out 1; have hfz109_2 := blk_frozen BK480.out 2; have hfz109_3 := blk_frozen BK480.out 3; have hfz109_4 := blk_frozen BK480.out 4; have hfz109_5 := blk_frozen BK480.out 5; have hfz109_6 := blk_frozen BK480.out 6; have hfz109_7 := blk_frozen BK480.out 7; have hfz109_8 := blk_frozen BK480.out 8; have hfz109_9 := blk_frozen BK480.out 9; have hfz109_10 := blk_frozen BK480.out 10; have hfz109_11 := blk_frozen BK480.out 11; have hfz109_12 := blk_frozen BK480.out 12) | (go_at_call 27; (with_reducible refine (policy_Covers.calls a0_0 a0_1 a0_2 a0_3 a0_4 t491 t492 t493 a0_8 a0_9 a0_10 t499 _ A93.out).mono ?_); rintro e w110 ⟨rfl, hb⟩; have n0_ := bb BK480 hb; have n1_ := bb BK481 hb; have n2_ := bb BK483 hb; have n3_ := bb BK494 hb; have n4_ := bs HB hb; clear BK480; clear BK481; clear BK483; clear BK494; clear HB; have BK480 := n0_; have BK481 := n1_; have BK483 := n2_; have BK494 := n3_; have HB := n4_; clear n0_ n1_ n2_ n3_ n4_; (try clear hb); (try clear hb2); (try clear hk); (try clear hi)))
                go_meet
                case rel => exact ⟨_, (!t499), rs, H', ⟨by first | omega | exact Nat.le_refl _⟩, ⟨bk BK480⟩, ⟨bk BK481⟩, ⟨bk BK483⟩, ⟨bk BK494⟩, ⟨bw HB⟩⟩
              · replace c92 := Bool.eq_false_iff.mpr c92
                subst c92
                have H1 : (turnstilelaw06_PolicyOrder.j0 k true t488 true a0_0 a0_1 a0_2 a0_3 a0_4 a0_5 a0_6 a0_7 a0_8 a0_9 a0_10 a0_11 a0_12 a0_0 a0_1 a0_2 a0_3 a0_4 t491 t492 t493) = some r := by rw [if_neg (show ¬ (false = true) by decide)] at H; exact H
                clear H
                have H := H1
                clear H1
                have H' := Aside0.mk H
                clear H
                have hnb111 := NB483_480.out
                have hnc111 := NB480_483.out
                have hnb112 := NB483_481.out
                have hnc112 := NB481_483.out
                have hnb113 := NB483_494.out
                have hnc113 := NB494_483.out
                obtain ⟨hcz114_0, hcz114_1, hcz114_2, hcz114_3, hcz114_4, hfz114_0, hfz114_1, hfz114_2, hfz114_3, hfz114_4⟩ := bc5 BK483
                have hnb115 := NB480_481.out
                have hnc115 := NB481_480.out
                have hnb116 := NB480_494.out
                have hnc116 := NB494_480.out
                have hcz117_0 : w40.cell? ⟨gb480, 0, none⟩ = some (.int .i64 a0_0) := (blk_cell BK480.out 0).trans rfl
                have hcz117_1 : w40.cell? ⟨gb480, 1, none⟩ = some (.int .u64 a0_1) := (blk_cell BK480.out 1).trans rfl
                have hcz117_2 : w40.cell? ⟨gb480, 2, none⟩ = some (.int .u64 a0_2) := (blk_cell BK480.out 2).trans rfl
                have hcz117_3 : w40.cell? ⟨gb480, 3, none⟩ = some (.int .u64 a0_3) := (blk_cell BK480.out 3).trans rfl
                have hcz117_4 : w40.cell? ⟨gb480, 4, none⟩ = some (.int .u64 a0_4) := (blk_cell BK480.out 4).trans rfl
                have hcz117_5 : w40.cell? ⟨gb480, 5, none⟩ = some (.int .u64 a0_5) := (blk_cell BK480.out 5).trans rfl
                have hcz117_6 : w40.cell? ⟨gb480, 6, none⟩ = some (.int .u64 a0_6) := (blk_cell BK480.out 6).trans rfl
                have hcz117_7 : w40.cell? ⟨gb480, 7, none⟩ = some (.int .u64 a0_7) := (blk_cell BK480.out 7).trans rfl
                have hcz117_8 : w40.cell? ⟨gb480, 8, none⟩ = some (.int .u64 a0_8) := (blk_cell BK480.out 8).trans rfl
                have hcz117_9 : w40.cell? ⟨gb480, 9, none⟩ = some (.int .u64 a0_9) := (blk_cell BK480.out 9).trans rfl
                have hcz117_10 : w40.cell? ⟨gb480, 10, none⟩ = some (.int .u64 a0_10) := (blk_cell BK480.out 10).trans rfl
                have hcz117_11 : w40.cell? ⟨gb480, 11, none⟩ = some (.int .u64 a0_11) := (blk_cell BK480.out 11).trans rfl
                have hcz117_12 : w40.cell? ⟨gb480, 12, none⟩ = some (.int .u64 a0_12) := (blk_cell BK480.out 12).trans rfl
                have hfz117_0 := blk_frozen BK480.out 0
                have hfz117_1 := blk_frozen BK480.out 1
                have hfz117_2 := blk_frozen BK480.out 2
                have hfz117_3 := blk_frozen BK480.out 3
                have hfz117_4 := blk_frozen BK480.out 4
                have hfz117_5 := blk_frozen BK480.out 5
                have hfz117_6 := blk_frozen BK480.out 6
                have hfz117_7 := blk_frozen BK480.out 7
                have hfz117_8 := blk_frozen BK480.out 8
                have hfz117_9 := blk_frozen BK480.out 9
                have hfz117_10 := blk_frozen BK480.out 10
                have hfz117_11 := blk_frozen BK480.out 11
                have hfz117_12 := blk_frozen BK480.out 12
                go_wp2_with (first | ((with_reducible refine gate_callee (f := 27) rfl ?_); refine gm (some 69) Try.func27 #[.agg #[.int .i64 a0_0, .int .u64 a0_1, .int .u64 a0_2, .int .u64 a0_3, .int .u64 a0_4], .agg #[.int .u64 a0_5, .int .u64 a0_6, .int .u64 a0_7], .agg #[.int .u64 a0_5, .int .u64 a0_6, .int .u64 a0_7]] (policy_Covers.calls a0_0 a0_1 a0_2 a0_3 a0_4 a0_5 a0_6 a0_7 a0_5 a0_6 a0_7 true _ A45.out) ?_; intro w118 hb; have n0_ := bb BK480 hb; have n1_ := bb BK481 hb; have n2_ := bb BK483 hb; have n3_ := bbp (.cells #[.int .u64 t491, .int .u64 t492, .int .u64 t493] 29 (0, 0)) BK494 hb; have n4_ := bs HB hb; clear BK480; clear BK481; clear BK483; clear BK494; clear HB; have BK480 := n0_; have BK481 := n1_; have BK483 := n2_; have BK494 := n3_; have HB := n4_; clear n0_ n1_ n2_ n3_ n4_; (try clear hb); (try clear hb2); (try clear hk); (try clear hi); obtain ⟨hcz119_0, hcz119_1, hcz119_2, hcz119_3, hcz119_4, hfz119_0, hfz119_1, hfz119_2, hfz119_3, hfz119_4⟩ := bc5 BK483; have hnb120 := NB494_481.out; have hnc120 := NB481_494.out; obtain ⟨hcz121_0, hcz121_1, hcz121_2, hfz121_0, hfz121_1, hfz121_2⟩ := bc3 BK494; have hcz122_0 : w118.cell? ⟨gb480, 0, none⟩ = some (.int .i64 a0_0) := (blk_cell BK480.out 0).trans rfl; have hcz122_1 : w118.cell? ⟨gb480, 1, none⟩ = some (.int .u64 a0_1) := (blk_cell BK480.out 1).trans rfl; have hcz122_2 : w118.cell? ⟨gb480, 2, none⟩ = some (.int .u64 a0_2) := (blk_cell BK480.out 2).trans rfl; have hcz122_3 : w118.cell? ⟨gb480, 3, none⟩ = some (.int .u64 a0_3) := (blk_cell BK480.out 3).trans rfl; have hcz122_4 : w118.cell? ⟨gb480, 4, none⟩ = some (.int .u64 a0_4) := (blk_cell BK480.out 4).trans rfl; have hcz122_5 : w118.cell? ⟨gb480, 5, none⟩ = some (.int .u64 a0_5) := (blk_cell BK480.out 5).trans rfl; have hcz122_6 : w118.cell? ⟨gb480, 6, none⟩ = some (.int .u64 a0_6) := (blk_cell BK480.out 6).trans rfl; have hcz122_7 : w118.cell? ⟨gb480, 7, none⟩ = some (.int .u64 a0_7) := (blk_cell BK480.out 7).trans rfl; have hcz122_8 : w118.cell? ⟨gb480, 8, none⟩ = some (.int .u64 a0_8) := (blk_cell BK480.out 8).trans rfl; have hcz122_9 : w118.cell? ⟨gb480, 9, none⟩ = some (.int .u64 a0_9) := (blk_cell BK480.out 9).trans rfl; have hcz122_10 : w118.cell? ⟨gb480, 10, none⟩ = some (.int .u64 a0_10) := (blk_cell BK480.out 10).trans rfl; have hcz122_11 : w118.cell? ⟨gb480, 11, none⟩ = some (.int .u64 a0_11) := (blk_cell BK480.out 11).trans rfl; have hcz122_12 : w118.cell? ⟨gb480, 12, none⟩ = some (.int .u64 a0_12) := (blk_cell BK480.out 12).trans rfl; have hfz122_0 := blk_frozen BK480.out 0; have hfz122_1 := blk_frozen BK480.out 1; have hfz122_2 := blk_frozen BK480.out 2; have hfz122_3 := blk_frozen BK480.out 3; have hfz122_4 := blk_frozen BK480.out 4; have hfz122_5 := blk_frozen BK480.out 5; have hfz122_6 := blk_frozen BK480.out 6; have hfz122_7 := blk_frozen BK480.out 7; have hfz122_8 := blk_frozen BK480.out 8; have hfz122_9 := blk_frozen BK480.out 9; have hfz122_10 := blk_frozen BK480.out 10; have hfz122_11 := blk_frozen BK480.out 11; have hfz122_12 := blk_frozen BK480.out 12) | (go_at_call 27; (with_reducible refine (policy_Covers.calls a0_0 a0_1 a0_2 a0_3 a0_4 t491 t492 t493 a0_5 a0_6 a0_7 false _ A91.out).mono ?_); rintro e w123 ⟨rfl, hb⟩; have n0_ := bb BK480 hb; have n1_ := bb BK481 hb; have n2_ := bb BK483 hb; have n3_ := bb BK494 hb; have n4_ := bs HB hb; clear BK480; clear BK481; clear BK483; clear BK494; clear HB; have BK480 := n0_; have BK481 := n1_; have BK483 := n2_; have BK494 := n3_; have HB := n4_; clear n0_ n1_ n2_ n3_ n4_; (try clear hb); (try clear hb2); (try clear hk); (try clear hi)))
                go_meet
                case rel => exact ⟨_, (true), rs, H', ⟨by first | omega | exact Nat.le_refl _⟩, ⟨bk BK480⟩, ⟨bk BK481⟩, ⟨bk BK483⟩, ⟨bk BK494⟩, ⟨bw HB⟩⟩
          · replace c47 := Bool.eq_false_iff.mpr c47
            subst c47
            have H1 : (if t488 = true then ((policy_Covers.f a0_0 a0_1 a0_2 a0_3 a0_4 t491 t492 t493 a0_5 a0_6 a0_7).bind fun t500 => (if t500 = true then ((policy_Covers.f a0_0 a0_1 a0_2 a0_3 a0_4 t491 t492 t493 a0_8 a0_9 a0_10).bind fun t501 => (turnstilelaw06_PolicyOrder.j0 k false t488 (!t501) a0_0 a0_1 a0_2 a0_3 a0_4 a0_5 a0_6 a0_7 a0_8 a0_9 a0_10 a0_11 a0_12 a0_0 a0_1 a0_2 a0_3 a0_4 t491 t492 t493)) else (turnstilelaw06_PolicyOrder.j0 k false t488 true a0_0 a0_1 a0_2 a0_3 a0_4 a0_5 a0_6 a0_7 a0_8 a0_9 a0_10 a0_11 a0_12 a0_0 a0_1 a0_2 a0_3 a0_4 t491 t492 t493))) else (turnstilelaw06_PolicyOrder.j0 k false t488 true a0_0 a0_1 a0_2 a0_3 a0_4 a0_5 a0_6 a0_7 a0_8 a0_9 a0_10 a0_11 a0_12 a0_0 a0_1 a0_2 a0_3 a0_4 t491 t492 t493)) = some r := by rw [if_neg (show ¬ (false = true) by decide)] at H; exact H
            clear H
            have H := H1
            clear H1
            by_cases c124 : t488 = true
            · subst c124
              have H1 : ((policy_Covers.f a0_0 a0_1 a0_2 a0_3 a0_4 t491 t492 t493 a0_5 a0_6 a0_7).bind fun t500 => (if t500 = true then ((policy_Covers.f a0_0 a0_1 a0_2 a0_3 a0_4 t491 t492 t493 a0_8 a0_9 a0_10).bind fun t501 => (turnstilelaw06_PolicyOrder.j0 k false true (!t501) a0_0 a0_1 a0_2 a0_3 a0_4 a0_5 a0_6 a0_7 a0_8 a0_9 a0_10 a0_11 a0_12 a0_0 a0_1 a0_2 a0_3 a0_4 t491 t492 t493)) else (turnstilelaw06_PolicyOrder.j0 k false true true a0_0 a0_1 a0_2 a0_3 a0_4 a0_5 a0_6 a0_7 a0_8 a0_9 a0_10 a0_11 a0_12 a0_0 a0_1 a0_2 a0_3 a0_4 t491 t492 t493))) = some r := by rw [if_pos rfl] at H; exact H
              clear H
              have H := H1
              clear H1
              replace H := Option.bind_eq_some_iff.mp H
              obtain ⟨t500, A1250, H⟩ := H
              replace H : (if t500 = true then ((policy_Covers.f a0_0 a0_1 a0_2 a0_3 a0_4 t491 t492 t493 a0_8 a0_9 a0_10).bind fun t501 => (turnstilelaw06_PolicyOrder.j0 k false true (!t501) a0_0 a0_1 a0_2 a0_3 a0_4 a0_5 a0_6 a0_7 a0_8 a0_9 a0_10 a0_11 a0_12 a0_0 a0_1 a0_2 a0_3 a0_4 t491 t492 t493)) else (turnstilelaw06_PolicyOrder.j0 k false true true a0_0 a0_1 a0_2 a0_3 a0_4 a0_5 a0_6 a0_7 a0_8 a0_9 a0_10 a0_11 a0_12 a0_0 a0_1 a0_2 a0_3 a0_4 t491 t492 t493)) = some r := H
              have A125 := Aside0.mk A1250
              clear A1250
              by_cases c126 : t500 = true
              · subst c126
                have H1 : ((policy_Covers.f a0_0 a0_1 a0_2 a0_3 a0_4 t491 t492 t493 a0_8 a0_9 a0_10).bind fun t501 => (turnstilelaw06_PolicyOrder.j0 k false true (!t501) a0_0 a0_1 a0_2 a0_3 a0_4 a0_5 a0_6 a0_7 a0_8 a0_9 a0_10 a0_11 a0_12 a0_0 a0_1 a0_2 a0_3 a0_4 t491 t492 t493)) = some r := by rw [if_pos rfl] at H; exact H
                clear H
                have H := H1
                clear H1
                replace H := Option.bind_eq_some_iff.mp H
                obtain ⟨t501, A1270, H⟩ := H
                replace H : (turnstilelaw06_PolicyOrder.j0 k false true (!t501) a0_0 a0_1 a0_2 a0_3 a0_4 a0_5 a0_6 a0_7 a0_8 a0_9 a0_10 a0_11 a0_12 a0_0 a0_1 a0_2 a0_3 a0_4 t491 t492 t493) = some r := H
                have A127 := Aside0.mk A1270
                clear A1270
                have H' := Aside0.mk H
                clear H
                have hnb128 := NB483_480.out
                have hnc128 := NB480_483.out
                have hnb129 := NB483_481.out
                have hnc129 := NB481_483.out
                have hnb130 := NB483_494.out
                have hnc130 := NB494_483.out
                obtain ⟨hcz131_0, hcz131_1, hcz131_2, hcz131_3, hcz131_4, hfz131_0, hfz131_1, hfz131_2, hfz131_3, hfz131_4⟩ := bc5 BK483
                have hnb132 := NB480_481.out
                have hnc132 := NB481_480.out
                have hnb133 := NB480_494.out
                have hnc133 := NB494_480.out
                have hcz134_0 : w40.cell? ⟨gb480, 0, none⟩ = some (.int .i64 a0_0) := (blk_cell BK480.out 0).trans rfl
                have hcz134_1 : w40.cell? ⟨gb480, 1, none⟩ = some (.int .u64 a0_1) := (blk_cell BK480.out 1).trans rfl
                have hcz134_2 : w40.cell? ⟨gb480, 2, none⟩ = some (.int .u64 a0_2) := (blk_cell BK480.out 2).trans rfl
                have hcz134_3 : w40.cell? ⟨gb480, 3, none⟩ = some (.int .u64 a0_3) := (blk_cell BK480.out 3).trans rfl
                have hcz134_4 : w40.cell? ⟨gb480, 4, none⟩ = some (.int .u64 a0_4) := (blk_cell BK480.out 4).trans rfl
                have hcz134_5 : w40.cell? ⟨gb480, 5, none⟩ = some (.int .u64 a0_5) := (blk_cell BK480.out 5).trans rfl
                have hcz134_6 : w40.cell? ⟨gb480, 6, none⟩ = some (.int .u64 a0_6) := (blk_cell BK480.out 6).trans rfl
                have hcz134_7 : w40.cell? ⟨gb480, 7, none⟩ = some (.int .u64 a0_7) := (blk_cell BK480.out 7).trans rfl
                have hcz134_8 : w40.cell? ⟨gb480, 8, none⟩ = some (.int .u64 a0_8) := (blk_cell BK480.out 8).trans rfl
                have hcz134_9 : w40.cell? ⟨gb480, 9, none⟩ = some (.int .u64 a0_9) := (blk_cell BK480.out 9).trans rfl
                have hcz134_10 : w40.cell? ⟨gb480, 10, none⟩ = some (.int .u64 a0_10) := (blk_cell BK480.out 10).trans rfl
                have hcz134_11 : w40.cell? ⟨gb480, 11, none⟩ = some (.int .u64 a0_11) := (blk_cell BK480.out 11).trans rfl
                have hcz134_12 : w40.cell? ⟨gb480, 12, none⟩ = some (.int .u64 a0_12) := (blk_cell BK480.out 12).trans rfl
                have hfz134_0 := blk_frozen BK480.out 0
                have hfz134_1 := blk_frozen BK480.out 1
                have hfz134_2 := blk_frozen BK480.out 2
                have hfz134_3 := blk_frozen BK480.out 3
                have hfz134_4 := blk_frozen BK480.out 4
                have hfz134_5 := blk_frozen BK480.out 5
                have hfz134_6 := blk_frozen BK480.out 6
                have hfz134_7 := blk_frozen BK480.out 7
                have hfz134_8 := blk_frozen BK480.out 8
                have hfz134_9 := blk_frozen BK480.out 9
                have hfz134_10 := blk_frozen BK480.out 10
                have hfz134_11 := blk_frozen BK480.out 11
                have hfz134_12 := blk_frozen BK480.out 12
                go_wp2_with (first | ((with_reducible refine gate_callee (f := 27) rfl ?_); refine gm (some 69) Try.func27 #[.agg #[.int .i64 a0_0, .int .u64 a0_1, .int .u64 a0_2, .int .u64 a0_3, .int .u64 a0_4], .agg #[.int .u64 a0_5, .int .u64 a0_6, .int .u64 a0_7], .agg #[.int .u64 a0_5, .int .u64 a0_6, .int .u64 a0_7]] (policy_Covers.calls a0_0 a0_1 a0_2 a0_3 a0_4 a0_5 a0_6 a0_7 a0_5 a0_6 a0_7 true _ A45.out) ?_; intro w135 hb; have n0_ := bb BK480 hb; have n1_ := bb BK481 hb; have n2_ := bb BK483 hb; have n3_ := bbp (.cells #[.int .u64 t491, .int .u64 t492, .int .u64 t493] 29 (0, 0)) BK494 hb; have n4_ := bs HB hb; clear BK480; clear BK481; clear BK483; clear BK494; clear HB; have BK480 := n0_; have BK481 := n1_; have BK483 := n2_; have BK494 := n3_; have HB := n4_; clear n0_ n1_ n2_ n3_ n4_; (try clear hb); (try clear hb2); (try clear hk); (try clear hi); obtain ⟨hcz136_0, hcz136_1, hcz136_2, hcz136_3, hcz136_4, hfz136_0, hfz136_1, hfz136_2, hfz136_3, hfz136_4⟩ := bc5 BK483; have hnb137 := NB494_481.out; have hnc137 := NB481_494.out; obtain ⟨hcz138_0, hcz138_1, hcz138_2, hfz138_0, hfz138_1, hfz138_2⟩ := bc3 BK494; have hcz139_0 : w135.cell? ⟨gb480, 0, none⟩ = some (.int .i64 a0_0) := (blk_cell BK480.out 0).trans rfl; have hcz139_1 : w135.cell? ⟨gb480, 1, none⟩ = some (.int .u64 a0_1) := (blk_cell BK480.out 1).trans rfl; have hcz139_2 : w135.cell? ⟨gb480, 2, none⟩ = some (.int .u64 a0_2) := (blk_cell BK480.out 2).trans rfl; have hcz139_3 : w135.cell? ⟨gb480, 3, none⟩ = some (.int .u64 a0_3) := (blk_cell BK480.out 3).trans rfl; have hcz139_4 : w135.cell? ⟨gb480, 4, none⟩ = some (.int .u64 a0_4) := (blk_cell BK480.out 4).trans rfl; have hcz139_5 : w135.cell? ⟨gb480, 5, none⟩ = some (.int .u64 a0_5) := (blk_cell BK480.out 5).trans rfl; have hcz139_6 : w135.cell? ⟨gb480, 6, none⟩ = some (.int .u64 a0_6) := (blk_cell BK480.out 6).trans rfl; have hcz139_7 : w135.cell? ⟨gb480, 7, none⟩ = some (.int .u64 a0_7) := (blk_cell BK480.out 7).trans rfl; have hcz139_8 : w135.cell? ⟨gb480, 8, none⟩ = some (.int .u64 a0_8) := (blk_cell BK480.out 8).trans rfl; have hcz139_9 : w135.cell? ⟨gb480, 9, none⟩ = some (.int .u64 a0_9) := (blk_cell BK480.out 9).trans rfl; have hcz139_10 : w135.cell? ⟨gb480, 10, none⟩ = some (.int .u64 a0_10) := (blk_cell BK480.out 10).trans rfl; have hcz139_11 : w135.cell? ⟨gb480, 11, none⟩ = some (.int .u64 a0_11) := (blk_cell BK480.out 11).trans rfl; have hcz139_12 : w135.cell? ⟨gb480, 12, none⟩ = some (.int .u64 a0_12) := (blk_cell BK480.out 12).trans rfl; have hfz139_0 := blk_frozen BK480.out 0; have hfz139_1 := blk_frozen BK480.out 1; have hfz139_2 := blk_frozen BK480.out 2; have hfz139_3 := blk_frozen BK480.out 3; have hfz139_4 := blk_frozen BK480.out 4; have hfz139_5 := blk_frozen BK480.out 5; have hfz139_6 := blk_frozen BK480.out 6; have hfz139_7 := blk_frozen BK480.out 7; have hfz139_8 := blk_frozen BK480.out 8; have hfz139_9 := blk_frozen BK480.out 9; have hfz139_10 := blk_frozen BK480.out 10; have hfz139_11 := blk_frozen BK480.out 11; have hfz139_12 := blk_frozen BK480.out 12) | (go_at_call 27; (with_reducible refine (policy_Covers.calls a0_0 a0_1 a0_2 a0_3 a0_4 t491 t492 t493 a0_5 a0_6 a0_7 true _ A125.out).mono ?_); rintro e w140 ⟨rfl, hb⟩; have n0_ := bb BK480 hb; have n1_ := bb BK481 hb; have n2_ := bb BK483 hb; have n3_ := bb BK494 hb; have n4_ := bs HB hb; clear BK480; clear BK481; clear BK483; clear BK494; clear HB; have BK480 := n0_; have BK481 := n1_; have BK483 := n2_; have BK494 := n3_; have HB := n4_; clear n0_ n1_ n2_ n3_ n4_; (try clear hb); (try clear hb2); (try clear hk); (try clear hi); obtain ⟨hcz141_0, hcz141_1, hcz141_2, hcz141_3, hcz141_4, hfz141_0, hfz141_1, hfz141_2, hfz141_3, hfz141_4⟩ := bc5 BK483; obtain ⟨hcz142_0, hcz142_1, hcz142_2, hfz142_0, hfz142_1, hfz142_2⟩ := bc3 BK494; have hcz143_0 : w140.cell? ⟨gb480, 0, none⟩ = some (.int .i64 a0_0) := (blk_cell BK480.out 0).trans rfl; have hcz143_1 : w140.cell? ⟨gb480, 1, none⟩ = some (.int .u64 a0_1) := (blk_cell BK480.out 1).trans rfl; have hcz143_2 : w140.cell? ⟨gb480, 2, none⟩ = some (.int .u64 a0_2) := (blk_cell BK480.out 2).trans rfl; have hcz143_3 : w140.cell? ⟨gb480, 3, none⟩ = some (.int .u64 a0_3) := (blk_cell BK480.out 3).trans rfl; have hcz143_4 : w140.cell? ⟨gb480, 4, none⟩ = some (.int .u64 a0_4) := (blk_cell BK480.out 4).trans rfl; have hcz143_5 : w140.cell? ⟨gb480, 5, none⟩ = some (.int .u64 a0_5) := (blk_cell BK480.out 5).trans rfl; have hcz143_6 : w140.cell? ⟨gb480, 6, none⟩ = some (.int .u64 a0_6) := (blk_cell BK480.out 6).trans rfl; have hcz143_7 : w140.cell? ⟨gb480, 7, none⟩ = some (.int .u64 a0_7) := (blk_cell BK480.out 7).trans rfl; have hcz143_8 : w140.cell? ⟨gb480, 8, none⟩ = some (.int .u64 a0_8) := (blk_cell BK480.out 8).trans rfl; have hcz143_9 : w140.cell? ⟨gb480, 9, none⟩ = some (.int .u64 a0_9) := (blk_cell BK480.out 9).trans rfl; have hcz143_10 : w140.cell? ⟨gb480, 10, none⟩ = some (.int .u64 a0_10) := (blk_cell BK480.out 10).trans rfl; have hcz143_11 : w140.cell? ⟨gb480, 11, none⟩ = some (.int .u64 a0_11) := (blk_cell BK480.out 11).trans rfl; have hcz143_12 : w140.cell? ⟨gb480, 12, none⟩ = some (.int .u64 a0_12) := (blk_cell BK480.out 12).trans rfl; have hfz143_0 := blk_frozen BK480.out 0; have hfz143_1 := blk_frozen BK480.out 1; have hfz143_2 := blk_frozen BK480.out 2; have hfz143_3 := blk_frozen BK480.out 3; have hfz143_4 := blk_frozen BK480.out 4; have hfz143_5 := blk_frozen BK480.out 5; have hfz143_6 := blk_frozen BK480.out 6; have hfz143_7 := blk_frozen BK480.out 7; have hfz143_8 := blk_frozen BK480.out 8; have hfz143_9 := blk_frozen BK480.out 9; have hfz143_10 := blk_frozen BK480.out 10; have hfz143_11 := blk_frozen BK480.out 11; have hfz143_12 := blk_frozen BK480.out 12) | (go_at_call 27; (with_reducible refine (policy_Covers.calls a0_0 a0_1 a0_2 a0_3 a0_4 t491 t492 t493 a0_8 a0_9 a0_10 t501 _ A127.out).mono ?_); rintro e w144 ⟨rfl, hb⟩; have n0_ := bb BK480 hb; have n1_ := bb BK481 hb; have n2_ := bb BK483 hb; have n3_ := bb BK494 hb; have n4_ := bs HB hb; clear BK480; clear BK481; clear BK483; clear BK494; clear HB; have BK480 := n0_; have BK481 := n1_; have BK483 := n2_; have BK494 := n3_; have HB := n4_; clear n0_ n1_ n2_ n3_ n4_; (try clear hb); (try clear hb2); (try clear hk); (try clear hi)))
                go_meet
                case rel => exact ⟨_, (!t501), rs, H', ⟨by first | omega | exact Nat.le_refl _⟩, ⟨bk BK480⟩, ⟨bk BK481⟩, ⟨bk BK483⟩, ⟨bk BK494⟩, ⟨bw HB⟩⟩
              · replace c126 := Bool.eq_false_iff.mpr c126
                subst c126
                have H1 : (turnstilelaw06_PolicyOrder.j0 k false true true a0_0 a0_1 a0_2 a0_3 a0_4 a0_5 a0_6 a0_7 a0_8 a0_9 a0_10 a0_11 a0_12 a0_0 a0_1 a0_2 a0_3 a0_4 t491 t492 t493) = some r := by rw [if_neg (show ¬ (false = true) by decide)] at H; exact H
                clear H
                have H := H1
                clear H1
                have H' := Aside0.mk H
                clear H
                have hnb145 := NB483_480.out
                have hnc145 := NB480_483.out
                have hnb146 := NB483_481.out
                have hnc146 := NB481_483.out
                have hnb147 := NB483_494.out
                have hnc147 := NB494_483.out
                obtain ⟨hcz148_0, hcz148_1, hcz148_2, hcz148_3, hcz148_4, hfz148_0, hfz148_1, hfz148_2, hfz148_3, hfz148_4⟩ := bc5 BK483
                have hnb149 := NB480_481.out
                have hnc149 := NB481_480.out
                have hnb150 := NB480_494.out
                have hnc150 := NB494_480.out
                have hcz151_0 : w40.cell? ⟨gb480, 0, none⟩ = some (.int .i64 a0_0) := (blk_cell BK480.out 0).trans rfl
                have hcz151_1 : w40.cell? ⟨gb480, 1, none⟩ = some (.int .u64 a0_1) := (blk_cell BK480.out 1).trans rfl
                have hcz151_2 : w40.cell? ⟨gb480, 2, none⟩ = some (.int .u64 a0_2) := (blk_cell BK480.out 2).trans rfl
                have hcz151_3 : w40.cell? ⟨gb480, 3, none⟩ = some (.int .u64 a0_3) := (blk_cell BK480.out 3).trans rfl
                have hcz151_4 : w40.cell? ⟨gb480, 4, none⟩ = some (.int .u64 a0_4) := (blk_cell BK480.out 4).trans rfl
                have hcz151_5 : w40.cell? ⟨gb480, 5, none⟩ = some (.int .u64 a0_5) := (blk_cell BK480.out 5).trans rfl
                have hcz151_6 : w40.cell? ⟨gb480, 6, none⟩ = some (.int .u64 a0_6) := (blk_cell BK480.out 6).trans rfl
                have hcz151_7 : w40.cell? ⟨gb480, 7, none⟩ = some (.int .u64 a0_7) := (blk_cell BK480.out 7).trans rfl
                have hcz151_8 : w40.cell? ⟨gb480, 8, none⟩ = some (.int .u64 a0_8) := (blk_cell BK480.out 8).trans rfl
                have hcz151_9 : w40.cell? ⟨gb480, 9, none⟩ = some (.int .u64 a0_9) := (blk_cell BK480.out 9).trans rfl
                have hcz151_10 : w40.cell? ⟨gb480, 10, none⟩ = some (.int .u64 a0_10) := (blk_cell BK480.out 10).trans rfl
                have hcz151_11 : w40.cell? ⟨gb480, 11, none⟩ = some (.int .u64 a0_11) := (blk_cell BK480.out 11).trans rfl
                have hcz151_12 : w40.cell? ⟨gb480, 12, none⟩ = some (.int .u64 a0_12) := (blk_cell BK480.out 12).trans rfl
                have hfz151_0 := blk_frozen BK480.out 0
                have hfz151_1 := blk_frozen BK480.out 1
                have hfz151_2 := blk_frozen BK480.out 2
                have hfz151_3 := blk_frozen BK480.out 3
                have hfz151_4 := blk_frozen BK480.out 4
                have hfz151_5 := blk_frozen BK480.out 5
                have hfz151_6 := blk_frozen BK480.out 6
                have hfz151_7 := blk_frozen BK480.out 7
                have hfz151_8 := blk_frozen BK480.out 8
                have hfz151_9 := blk_frozen BK480.out 9
                have hfz151_10 := blk_frozen BK480.out 10
                have hfz151_11 := blk_frozen BK480.out 11
                have hfz151_12 := blk_frozen BK480.out 12
                go_wp2_with (first | ((with_reducible refine gate_callee (f := 27) rfl ?_); refine gm (some 69) Try.func27 #[.agg #[.int .i64 a0_0, .int .u64 a0_1, .int .u64 a0_2, .int .u64 a0_3, .int .u64 a0_4], .agg #[.int .u64 a0_5, .int .u64 a0_6, .int .u64 a0_7], .agg #[.int .u64 a0_5, .int .u64 a0_6, .int .u64 a0_7]] (policy_Covers.calls a0_0 a0_1 a0_2 a0_3 a0_4 a0_5 a0_6 a0_7 a0_5 a0_6 a0_7 true _ A45.out) ?_; intro w152 hb; have n0_ := bb BK480 hb; have n1_ := bb BK481 hb; have n2_ := bb BK483 hb; have n3_ := bbp (.cells #[.int .u64 t491, .int .u64 t492, .int .u64 t493] 29 (0, 0)) BK494 hb; have n4_ := bs HB hb; clear BK480; clear BK481; clear BK483; clear BK494; clear HB; have BK480 := n0_; have BK481 := n1_; have BK483 := n2_; have BK494 := n3_; have HB := n4_; clear n0_ n1_ n2_ n3_ n4_; (try clear hb); (try clear hb2); (try clear hk); (try clear hi); obtain ⟨hcz153_0, hcz153_1, hcz153_2, hcz153_3, hcz153_4, hfz153_0, hfz153_1, hfz153_2, hfz153_3, hfz153_4⟩ := bc5 BK483; have hnb154 := NB494_481.out; have hnc154 := NB481_494.out; obtain ⟨hcz155_0, hcz155_1, hcz155_2, hfz155_0, hfz155_1, hfz155_2⟩ := bc3 BK494; have hcz156_0 : w152.cell? ⟨gb480, 0, none⟩ = some (.int .i64 a0_0) := (blk_cell BK480.out 0).trans rfl; have hcz156_1 : w152.cell? ⟨gb480, 1, none⟩ = some (.int .u64 a0_1) := (blk_cell BK480.out 1).trans rfl; have hcz156_2 : w152.cell? ⟨gb480, 2, none⟩ = some (.int .u64 a0_2) := (blk_cell BK480.out 2).trans rfl; have hcz156_3 : w152.cell? ⟨gb480, 3, none⟩ = some (.int .u64 a0_3) := (blk_cell BK480.out 3).trans rfl; have hcz156_4 : w152.cell? ⟨gb480, 4, none⟩ = some (.int .u64 a0_4) := (blk_cell BK480.out 4).trans rfl; have hcz156_5 : w152.cell? ⟨gb480, 5, none⟩ = some (.int .u64 a0_5) := (blk_cell BK480.out 5).trans rfl; have hcz156_6 : w152.cell? ⟨gb480, 6, none⟩ = some (.int .u64 a0_6) := (blk_cell BK480.out 6).trans rfl; have hcz156_7 : w152.cell? ⟨gb480, 7, none⟩ = some (.int .u64 a0_7) := (blk_cell BK480.out 7).trans rfl; have hcz156_8 : w152.cell? ⟨gb480, 8, none⟩ = some (.int .u64 a0_8) := (blk_cell BK480.out 8).trans rfl; have hcz156_9 : w152.cell? ⟨gb480, 9, none⟩ = some (.int .u64 a0_9) := (blk_cell BK480.out 9).trans rfl; have hcz156_10 : w152.cell? ⟨gb480, 10, none⟩ = some (.int .u64 a0_10) := (blk_cell BK480.out 10).trans rfl; have hcz156_11 : w152.cell? ⟨gb480, 11, none⟩ = some (.int .u64 a0_11) := (blk_cell BK480.out 11).trans rfl; have hcz156_12 : w152.cell? ⟨gb480, 12, none⟩ = some (.int .u64 a0_12) := (blk_cell BK480.out 12).trans rfl; have hfz156_0 := blk_frozen BK480.out 0; have hfz156_1 := blk_frozen BK480.out 1; have hfz156_2 := blk_frozen BK480.out 2; have hfz156_3 := blk_frozen BK480.out 3; have hfz156_4 := blk_frozen BK480.out 4; have hfz156_5 := blk_frozen BK480.out 5; have hfz156_6 := blk_frozen BK480.out 6; have hfz156_7 := blk_frozen BK480.out 7; have hfz156_8 := blk_frozen BK480.out 8; have hfz156_9 := blk_frozen BK480.out 9; have hfz156_10 := blk_frozen BK480.out 10; have hfz156_11 := blk_frozen BK480.out 11; have hfz156_12 := blk_frozen BK480.out 12) | (go_at_call 27; (with_reducible refine (policy_Covers.calls a0_0 a0_1 a0_2 a0_3 a0_4 t491 t492 t493 a0_5 a0_6 a0_7 false _ A125.out).mono ?_); rintro e w157 ⟨rfl, hb⟩; have n0_ := bb BK480 hb; have n1_ := bb BK481 hb; have n2_ := bb BK483 hb; have n3_ := bb BK494 hb; have n4_ := bs HB hb; clear BK480; clear BK481; clear BK483; clear BK494; clear HB; have BK480 := n0_; have BK481 := n1_; have BK483 := n2_; have BK494 := n3_; have HB := n4_; clear n0_ n1_ n2_ n3_ n4_; (try clear hb); (try clear hb2); (try clear hk); (try clear hi)))
                go_meet
                case rel => exact ⟨_, (true), rs, H', ⟨by first | omega | exact Nat.le_refl _⟩, ⟨bk BK480⟩, ⟨bk BK481⟩, ⟨bk BK483⟩, ⟨bk BK494⟩, ⟨bw HB⟩⟩
            · replace c124 := Bool.eq_false_iff.mpr c124
              subst c124
              have H1 : (turnstilelaw06_PolicyOrder.j0 k false false true a0_0 a0_1 a0_2 a0_3 a0_4 a0_5 a0_6 a0_7 a0_8 a0_9 a0_10 a0_11 a0_12 a0_0 a0_1 a0_2 a0_3 a0_4 t491 t492 t493) = some r := by rw [if_neg (show ¬ (false = true) by decide)] at H; exact H
              clear H
              have H := H1
              clear H1
              have H' := Aside0.mk H
              clear H
              have hnb158 := NB483_480.out
              have hnc158 := NB480_483.out
              have hnb159 := NB483_481.out
              have hnc159 := NB481_483.out
              have hnb160 := NB483_494.out
              have hnc160 := NB494_483.out
              obtain ⟨hcz161_0, hcz161_1, hcz161_2, hcz161_3, hcz161_4, hfz161_0, hfz161_1, hfz161_2, hfz161_3, hfz161_4⟩ := bc5 BK483
              have hnb162 := NB480_481.out
              have hnc162 := NB481_480.out
              have hnb163 := NB480_494.out
              have hnc163 := NB494_480.out
              have hcz164_0 : w40.cell? ⟨gb480, 0, none⟩ = some (.int .i64 a0_0) := (blk_cell BK480.out 0).trans rfl
              have hcz164_1 : w40.cell? ⟨gb480, 1, none⟩ = some (.int .u64 a0_1) := (blk_cell BK480.out 1).trans rfl
              have hcz164_2 : w40.cell? ⟨gb480, 2, none⟩ = some (.int .u64 a0_2) := (blk_cell BK480.out 2).trans rfl
              have hcz164_3 : w40.cell? ⟨gb480, 3, none⟩ = some (.int .u64 a0_3) := (blk_cell BK480.out 3).trans rfl
              have hcz164_4 : w40.cell? ⟨gb480, 4, none⟩ = some (.int .u64 a0_4) := (blk_cell BK480.out 4).trans rfl
              have hcz164_5 : w40.cell? ⟨gb480, 5, none⟩ = some (.int .u64 a0_5) := (blk_cell BK480.out 5).trans rfl
              have hcz164_6 : w40.cell? ⟨gb480, 6, none⟩ = some (.int .u64 a0_6) := (blk_cell BK480.out 6).trans rfl
              have hcz164_7 : w40.cell? ⟨gb480, 7, none⟩ = some (.int .u64 a0_7) := (blk_cell BK480.out 7).trans rfl
              have hcz164_8 : w40.cell? ⟨gb480, 8, none⟩ = some (.int .u64 a0_8) := (blk_cell BK480.out 8).trans rfl
              have hcz164_9 : w40.cell? ⟨gb480, 9, none⟩ = some (.int .u64 a0_9) := (blk_cell BK480.out 9).trans rfl
              have hcz164_10 : w40.cell? ⟨gb480, 10, none⟩ = some (.int .u64 a0_10) := (blk_cell BK480.out 10).trans rfl
              have hcz164_11 : w40.cell? ⟨gb480, 11, none⟩ = some (.int .u64 a0_11) := (blk_cell BK480.out 11).trans rfl
              have hcz164_12 : w40.cell? ⟨gb480, 12, none⟩ = some (.int .u64 a0_12) := (blk_cell BK480.out 12).trans rfl
              have hfz164_0 := blk_frozen BK480.out 0
              have hfz164_1 := blk_frozen BK480.out 1
              have hfz164_2 := blk_frozen BK480.out 2
              have hfz164_3 := blk_frozen BK480.out 3
              have hfz164_4 := blk_frozen BK480.out 4
              have hfz164_5 := blk_frozen BK480.out 5
              have hfz164_6 := blk_frozen BK480.out 6
              have hfz164_7 := blk_frozen BK480.out 7
              have hfz164_8 := blk_frozen BK480.out 8
              have hfz164_9 := blk_frozen BK480.out 9
              have hfz164_10 := blk_frozen BK480.out 10
              have hfz164_11 := blk_frozen BK480.out 11
              have hfz164_12 := blk_frozen BK480.out 12
              go_wp2_with (first | ((with_reducible refine gate_callee (f := 27) rfl ?_); refine gm (some 69) Try.func27 #[.agg #[.int .i64 a0_0, .int .u64 a0_1, .int .u64 a0_2, .int .u64 a0_3, .int .u64 a0_4], .agg #[.int .u64 a0_5, .int .u64 a0_6, .int .u64 a0_7], .agg #[.int .u64 a0_5, .int .u64 a0_6, .int .u64 a0_7]] (policy_Covers.calls a0_0 a0_1 a0_2 a0_3 a0_4 a0_5 a0_6 a0_7 a0_5 a0_6 a0_7 true _ A45.out) ?_; intro w165 hb; have n0_ := bb BK480 hb; have n1_ := bb BK481 hb; have n2_ := bb BK483 hb; have n3_ := bbp (.cells #[.int .u64 t491, .int .u64 t492, .int .u64 t493] 29 (0, 0)) BK494 hb; have n4_ := bs HB hb; clear BK480; clear BK481; clear BK483; clear BK494; clear HB; have BK480 := n0_; have BK481 := n1_; have BK483 := n2_; have BK494 := n3_; have HB := n4_; clear n0_ n1_ n2_ n3_ n4_; (try clear hb); (try clear hb2); (try clear hk); (try clear hi)))
              go_meet
              case rel => exact ⟨_, (true), rs, H', ⟨by first | omega | exact Nat.le_refl _⟩, ⟨bk BK480⟩, ⟨bk BK481⟩, ⟨bk BK483⟩, ⟨bk BK494⟩, ⟨bw HB⟩⟩
        · replace c46 := Bool.eq_false_iff.mpr c46
          subst c46
          have H1 : (turnstilelaw06_PolicyOrder.j0 k t487 t488 true a0_0 a0_1 a0_2 a0_3 a0_4 a0_5 a0_6 a0_7 a0_8 a0_9 a0_10 a0_11 a0_12 a0_0 a0_1 a0_2 a0_3 a0_4 t491 t492 t493) = some r := by rw [if_neg (show ¬ (false = true) by decide)] at H; exact H
          clear H
          have H := H1
          clear H1
          have H' := Aside0.mk H
          clear H
          have hnb166 := NB483_480.out
          have hnc166 := NB480_483.out
          have hnb167 := NB483_481.out
          have hnc167 := NB481_483.out
          have hnb168 := NB483_494.out
          have hnc168 := NB494_483.out
          obtain ⟨hcz169_0, hcz169_1, hcz169_2, hcz169_3, hcz169_4, hfz169_0, hfz169_1, hfz169_2, hfz169_3, hfz169_4⟩ := bc5 BK483
          have hnb170 := NB480_481.out
          have hnc170 := NB481_480.out
          have hnb171 := NB480_494.out
          have hnc171 := NB494_480.out
          have hcz172_0 : w40.cell? ⟨gb480, 0, none⟩ = some (.int .i64 a0_0) := (blk_cell BK480.out 0).trans rfl
          have hcz172_1 : w40.cell? ⟨gb480, 1, none⟩ = some (.int .u64 a0_1) := (blk_cell BK480.out 1).trans rfl
          have hcz172_2 : w40.cell? ⟨gb480, 2, none⟩ = some (.int .u64 a0_2) := (blk_cell BK480.out 2).trans rfl
          have hcz172_3 : w40.cell? ⟨gb480, 3, none⟩ = some (.int .u64 a0_3) := (blk_cell BK480.out 3).trans rfl
          have hcz172_4 : w40.cell? ⟨gb480, 4, none⟩ = some (.int .u64 a0_4) := (blk_cell BK480.out 4).trans rfl
          have hcz172_5 : w40.cell? ⟨gb480, 5, none⟩ = some (.int .u64 a0_5) := (blk_cell BK480.out 5).trans rfl
          have hcz172_6 : w40.cell? ⟨gb480, 6, none⟩ = some (.int .u64 a0_6) := (blk_cell BK480.out 6).trans rfl
          have hcz172_7 : w40.cell? ⟨gb480, 7, none⟩ = some (.int .u64 a0_7) := (blk_cell BK480.out 7).trans rfl
          have hcz172_8 : w40.cell? ⟨gb480, 8, none⟩ = some (.int .u64 a0_8) := (blk_cell BK480.out 8).trans rfl
          have hcz172_9 : w40.cell? ⟨gb480, 9, none⟩ = some (.int .u64 a0_9) := (blk_cell BK480.out 9).trans rfl
          have hcz172_10 : w40.cell? ⟨gb480, 10, none⟩ = some (.int .u64 a0_10) := (blk_cell BK480.out 10).trans rfl
          have hcz172_11 : w40.cell? ⟨gb480, 11, none⟩ = some (.int .u64 a0_11) := (blk_cell BK480.out 11).trans rfl
          have hcz172_12 : w40.cell? ⟨gb480, 12, none⟩ = some (.int .u64 a0_12) := (blk_cell BK480.out 12).trans rfl
          have hfz172_0 := blk_frozen BK480.out 0
          have hfz172_1 := blk_frozen BK480.out 1
          have hfz172_2 := blk_frozen BK480.out 2
          have hfz172_3 := blk_frozen BK480.out 3
          have hfz172_4 := blk_frozen BK480.out 4
          have hfz172_5 := blk_frozen BK480.out 5
          have hfz172_6 := blk_frozen BK480.out 6
          have hfz172_7 := blk_frozen BK480.out 7
          have hfz172_8 := blk_frozen BK480.out 8
          have hfz172_9 := blk_frozen BK480.out 9
          have hfz172_10 := blk_frozen BK480.out 10
          have hfz172_11 := blk_frozen BK480.out 11
          have hfz172_12 := blk_frozen BK480.out 12
          go_wp2_with (first | ((with_reducible refine gate_callee (f := 27) rfl ?_); refine gm (some 69) Try.func27 #[.agg #[.int .i64 a0_0, .int .u64 a0_1, .int .u64 a0_2, .int .u64 a0_3, .int .u64 a0_4], .agg #[.int .u64 a0_5, .int .u64 a0_6, .int .u64 a0_7], .agg #[.int .u64 a0_5, .int .u64 a0_6, .int .u64 a0_7]] (policy_Covers.calls a0_0 a0_1 a0_2 a0_3 a0_4 a0_5 a0_6 a0_7 a0_5 a0_6 a0_7 false _ A45.out) ?_; intro w173 hb; have n0_ := bb BK480 hb; have n1_ := bb BK481 hb; have n2_ := bb BK483 hb; have n3_ := bbp (.cells #[.int .u64 t491, .int .u64 t492, .int .u64 t493] 29 (0, 0)) BK494 hb; have n4_ := bs HB hb; clear BK480; clear BK481; clear BK483; clear BK494; clear HB; have BK480 := n0_; have BK481 := n1_; have BK483 := n2_; have BK494 := n3_; have HB := n4_; clear n0_ n1_ n2_ n3_ n4_; (try clear hb); (try clear hb2); (try clear hk); (try clear hi)))
          go_meet
          case rel => exact ⟨_, (true), rs, H', ⟨by first | omega | exact Nat.le_refl _⟩, ⟨bk BK480⟩, ⟨bk BK481⟩, ⟨bk BK483⟩, ⟨bk BK494⟩, ⟨bw HB⟩⟩
      case rest =>
        clear HC12
        try clear c1
        try clear c2
        try clear p2
        try clear c4
        try clear c5
        try clear c6
        try clear c7
        try clear c8
        try clear c9
        try clear c10
        try clear c11
        try clear c12
        try clear c13
        try clear c14
        try clear c15
        try clear c16
        try clear c17
        try clear c18
        try clear c19
        try clear c20
        try clear c26
        try clear c27
        try clear c41
        try clear c42
        try clear c43
        try clear c46
        try clear c47
        try clear c48
        try clear c49
        try clear c51
        try clear c53
        try clear c54
        try clear c55
        try clear c57
        try clear c58
        try clear c62
        try clear c70
        try clear c71
        try clear c72
        try clear c74
        try clear c75
        try clear c79
        try clear c83
        try clear c84
        try clear c85
        try clear c87
        try clear c88
        try clear c92
        try clear c94
        try clear c95
        try clear c96
        try clear c98
        try clear c99
        try clear c103
        try clear c111
        try clear c112
        try clear c113
        try clear c115
        try clear c116
        try clear c120
        try clear c124
        try clear c126
        try clear c128
        try clear c129
        try clear c130
        try clear c132
        try clear c133
        try clear c137
        try clear c145
        try clear c146
        try clear c147
        try clear c149
        try clear c150
        try clear c154
        try clear c158
        try clear c159
        try clear c160
        try clear c162
        try clear c163
        try clear c166
        try clear c167
        try clear c168
        try clear c170
        try clear c171
        try clear hcz100_0
        try clear hcz100_1
        try clear hcz100_10
        try clear hcz100_11
        try clear hcz100_12
        try clear hcz100_2
        try clear hcz100_3
        try clear hcz100_4
        try clear hcz100_5
        try clear hcz100_6
        try clear hcz100_7
        try clear hcz100_8
        try clear hcz100_9
        try clear hcz102_0
        try clear hcz102_1
        try clear hcz102_2
        try clear hcz102_3
        try clear hcz102_4
        try clear hcz104_0
        try clear hcz104_1
        try clear hcz104_2
        try clear hcz105_0
        try clear hcz105_1
        try clear hcz105_10
        try clear hcz105_11
        try clear hcz105_12
        try clear hcz105_2
        try clear hcz105_3
        try clear hcz105_4
        try clear hcz105_5
        try clear hcz105_6
        try clear hcz105_7
        try clear hcz105_8
        try clear hcz105_9
        try clear hcz107_0
        try clear hcz107_1
        try clear hcz107_2
        try clear hcz107_3
        try clear hcz107_4
        try clear hcz108_0
        try clear hcz108_1
        try clear hcz108_2
        try clear hcz109_0
        try clear hcz109_1
        try clear hcz109_10
        try clear hcz109_11
        try clear hcz109_12
        try clear hcz109_2
        try clear hcz109_3
        try clear hcz109_4
        try clear hcz109_5
        try clear hcz109_6
        try clear hcz109_7
        try clear hcz109_8
        try clear hcz109_9
        try clear hcz114_0
        try clear hcz114_1
        try clear hcz114_2
        try clear hcz114_3
        try clear hcz114_4
        try clear hcz117_0
        try clear hcz117_1
        try clear hcz117_10
        try clear hcz117_11
        try clear hcz117_12
        try clear hcz117_2
        try clear hcz117_3
        try clear hcz117_4
        try clear hcz117_5
        try clear hcz117_6
        try clear hcz117_7
        try clear hcz117_8
        try clear hcz117_9
        try clear hcz119_0
        try clear hcz119_1
        try clear hcz119_2
        try clear hcz119_3
        try clear hcz119_4
        try clear hcz121_0
        try clear hcz121_1
        try clear hcz121_2
        try clear hcz122_0
        try clear hcz122_1
        try clear hcz122_10
        try clear hcz122_11
        try clear hcz122_12
        try clear hcz122_2
        try clear hcz122_3
        try clear hcz122_4
        try clear hcz122_5
        try clear hcz122_6
        try clear hcz122_7
        try clear hcz122_8
        try clear hcz122_9
        try clear hcz131_0
        try clear hcz131_1
        try clear hcz131_2
        try clear hcz131_3
        try clear hcz131_4
        try clear hcz134_0
        try clear hcz134_1
        try clear hcz134_10
        try clear hcz134_11
        try clear hcz134_12
        try clear hcz134_2
        try clear hcz134_3
        try clear hcz134_4
        try clear hcz134_5
        try clear hcz134_6
        try clear hcz134_7
        try clear hcz134_8
        try clear hcz134_9
        try clear hcz136_0
        try clear hcz136_1
        try clear hcz136_2
        try clear hcz136_3
        try clear hcz136_4
        try clear hcz138_0
        try clear hcz138_1
        try clear hcz138_2
        try clear hcz139_0
        try clear hcz139_1
        try clear hcz139_10
        try clear hcz139_11
        try clear hcz139_12
        try clear hcz139_2
        try clear hcz139_3
        try clear hcz139_4
        try clear hcz139_5
        try clear hcz139_6
        try clear hcz139_7
        try clear hcz139_8
        try clear hcz139_9
        try clear hcz141_0
        try clear hcz141_1
        try clear hcz141_2
        try clear hcz141_3
        try clear hcz141_4
        try clear hcz142_0
        try clear hcz142_1
        try clear hcz142_2
        try clear hcz143_0
        try clear hcz143_1
        try clear hcz143_10
        try clear hcz143_11
        try clear hcz143_12
        try clear hcz143_2
        try clear hcz143_3
        try clear hcz143_4
        try clear hcz143_5
        try clear hcz143_6
        try clear hcz143_7
        try clear hcz143_8
        try clear hcz143_9
        try clear hcz148_0
        try clear hcz148_1
        try clear hcz148_2
        try clear hcz148_3
        try clear hcz148_4
        try clear hcz151_0
        try clear hcz151_1
        try clear hcz151_10
        try clear hcz151_11
        try clear hcz151_12
        try clear hcz151_2
        try clear hcz151_3
        try clear hcz151_4
        try clear hcz151_5
        try clear hcz151_6
        try clear hcz151_7
        try clear hcz151_8
        try clear hcz151_9
        try clear hcz153_0
        try clear hcz153_1
        try clear hcz153_2
        try clear hcz153_3
        try clear hcz153_4
        try clear hcz155_0
        try clear hcz155_1
        try clear hcz155_2
        try clear hcz156_0
        try clear hcz156_1
        try clear hcz156_10
        try clear hcz156_11
        try clear hcz156_12
        try clear hcz156_2
        try clear hcz156_3
        try clear hcz156_4
        try clear hcz156_5
        try clear hcz156_6
        try clear hcz156_7
        try clear hcz156_8
        try clear hcz156_9
        try clear hcz161_0
        try clear hcz161_1
        try clear hcz161_2
        try clear hcz161_3
        try clear hcz161_4
        try clear hcz164_0
        try clear hcz164_1
        try clear hcz164_10
        try clear hcz164_11
        try clear hcz164_12
        try clear hcz164_2
        try clear hcz164_3
        try clear hcz164_4
        try clear hcz164_5
        try clear hcz164_6
        try clear hcz164_7
        try clear hcz164_8
        try clear hcz164_9
        try clear hcz169_0
        try clear hcz169_1
        try clear hcz169_2
        try clear hcz169_3
        try clear hcz169_4
        try clear hcz172_0
        try clear hcz172_1
        try clear hcz172_10
        try clear hcz172_11
        try clear hcz172_12
        try clear hcz172_2
        try clear hcz172_3
        try clear hcz172_4
        try clear hcz172_5
        try clear hcz172_6
        try clear hcz172_7
        try clear hcz172_8
        try clear hcz172_9
        try clear hcz17_0
        try clear hcz17_1
        try clear hcz17_10
        try clear hcz17_11
        try clear hcz17_12
        try clear hcz17_2
        try clear hcz17_3
        try clear hcz17_4
        try clear hcz17_5
        try clear hcz17_6
        try clear hcz17_7
        try clear hcz17_8
        try clear hcz17_9
        try clear hcz21_0
        try clear hcz21_1
        try clear hcz21_2
        try clear hcz21_3
        try clear hcz21_4
        try clear hcz23_0
        try clear hcz23_1
        try clear hcz23_2
        try clear hcz23_3
        try clear hcz23_4
        try clear hcz24_0
        try clear hcz24_1
        try clear hcz24_10
        try clear hcz24_11
        try clear hcz24_12
        try clear hcz24_2
        try clear hcz24_3
        try clear hcz24_4
        try clear hcz24_5
        try clear hcz24_6
        try clear hcz24_7
        try clear hcz24_8
        try clear hcz24_9
        try clear hcz26_0
        try clear hcz26_1
        try clear hcz26_2
        try clear hcz26_3
        try clear hcz26_4
        try clear hcz27_0
        try clear hcz27_1
        try clear hcz27_10
        try clear hcz27_11
        try clear hcz27_12
        try clear hcz27_2
        try clear hcz27_3
        try clear hcz27_4
        try clear hcz27_5
        try clear hcz27_6
        try clear hcz27_7
        try clear hcz27_8
        try clear hcz27_9
        try clear hcz29_0
        try clear hcz29_1
        try clear hcz29_2
        try clear hcz29_3
        try clear hcz29_4
        try clear hcz30_0
        try clear hcz30_1
        try clear hcz30_10
        try clear hcz30_11
        try clear hcz30_12
        try clear hcz30_2
        try clear hcz30_3
        try clear hcz30_4
        try clear hcz30_5
        try clear hcz30_6
        try clear hcz30_7
        try clear hcz30_8
        try clear hcz30_9
        try clear hcz31_0
        try clear hcz31_1
        try clear hcz31_2
        try clear hcz33_0
        try clear hcz33_1
        try clear hcz33_2
        try clear hcz33_3
        try clear hcz33_4
        try clear hcz34_0
        try clear hcz34_1
        try clear hcz34_10
        try clear hcz34_11
        try clear hcz34_12
        try clear hcz34_2
        try clear hcz34_3
        try clear hcz34_4
        try clear hcz34_5
        try clear hcz34_6
        try clear hcz34_7
        try clear hcz34_8
        try clear hcz34_9
        try clear hcz35_0
        try clear hcz35_1
        try clear hcz35_2
        try clear hcz37_0
        try clear hcz37_1
        try clear hcz37_2
        try clear hcz37_3
        try clear hcz37_4
        try clear hcz38_0
        try clear hcz38_1
        try clear hcz38_10
        try clear hcz38_11
        try clear hcz38_12
        try clear hcz38_2
        try clear hcz38_3
        try clear hcz38_4
        try clear hcz38_5
        try clear hcz38_6
        try clear hcz38_7
        try clear hcz38_8
        try clear hcz38_9
        try clear hcz44_0
        try clear hcz44_1
        try clear hcz44_2
        try clear hcz56_0
        try clear hcz56_1
        try clear hcz56_2
        try clear hcz56_3
        try clear hcz56_4
        try clear hcz59_0
        try clear hcz59_1
        try clear hcz59_10
        try clear hcz59_11
        try clear hcz59_12
        try clear hcz59_2
        try clear hcz59_3
        try clear hcz59_4
        try clear hcz59_5
        try clear hcz59_6
        try clear hcz59_7
        try clear hcz59_8
        try clear hcz59_9
        try clear hcz61_0
        try clear hcz61_1
        try clear hcz61_2
        try clear hcz61_3
        try clear hcz61_4
        try clear hcz63_0
        try clear hcz63_1
        try clear hcz63_2
        try clear hcz64_0
        try clear hcz64_1
        try clear hcz64_10
        try clear hcz64_11
        try clear hcz64_12
        try clear hcz64_2
        try clear hcz64_3
        try clear hcz64_4
        try clear hcz64_5
        try clear hcz64_6
        try clear hcz64_7
        try clear hcz64_8
        try clear hcz64_9
        try clear hcz66_0
        try clear hcz66_1
        try clear hcz66_2
        try clear hcz66_3
        try clear hcz66_4
        try clear hcz67_0
        try clear hcz67_1
        try clear hcz67_2
        try clear hcz68_0
        try clear hcz68_1
        try clear hcz68_10
        try clear hcz68_11
        try clear hcz68_12
        try clear hcz68_2
        try clear hcz68_3
        try clear hcz68_4
        try clear hcz68_5
        try clear hcz68_6
        try clear hcz68_7
        try clear hcz68_8
        try clear hcz68_9
        try clear hcz73_0
        try clear hcz73_1
        try clear hcz73_2
        try clear hcz73_3
        try clear hcz73_4
        try clear hcz76_0
        try clear hcz76_1
        try clear hcz76_10
        try clear hcz76_11
        try clear hcz76_12
        try clear hcz76_2
        try clear hcz76_3
        try clear hcz76_4
        try clear hcz76_5
        try clear hcz76_6
        try clear hcz76_7
        try clear hcz76_8
        try clear hcz76_9
        try clear hcz78_0
        try clear hcz78_1
        try clear hcz78_2
        try clear hcz78_3
        try clear hcz78_4
        try clear hcz80_0
        try clear hcz80_1
        try clear hcz80_2
        try clear hcz81_0
        try clear hcz81_1
        try clear hcz81_10
        try clear hcz81_11
        try clear hcz81_12
        try clear hcz81_2
        try clear hcz81_3
        try clear hcz81_4
        try clear hcz81_5
        try clear hcz81_6
        try clear hcz81_7
        try clear hcz81_8
        try clear hcz81_9
        try clear hcz86_0
        try clear hcz86_1
        try clear hcz86_2
        try clear hcz86_3
        try clear hcz86_4
        try clear hcz89_0
        try clear hcz89_1
        try clear hcz89_10
        try clear hcz89_11
        try clear hcz89_12
        try clear hcz89_2
        try clear hcz89_3
        try clear hcz89_4
        try clear hcz89_5
        try clear hcz89_6
        try clear hcz89_7
        try clear hcz89_8
        try clear hcz89_9
        try clear hcz97_0
        try clear hcz97_1
        try clear hcz97_2
        try clear hcz97_3
        try clear hcz97_4
        try clear hfz100_0
        try clear hfz100_1
        try clear hfz100_10
        try clear hfz100_11
        try clear hfz100_12
        try clear hfz100_2
        try clear hfz100_3
        try clear hfz100_4
        try clear hfz100_5
        try clear hfz100_6
        try clear hfz100_7
        try clear hfz100_8
        try clear hfz100_9
        try clear hfz102_0
        try clear hfz102_1
        try clear hfz102_2
        try clear hfz102_3
        try clear hfz102_4
        try clear hfz104_0
        try clear hfz104_1
        try clear hfz104_2
        try clear hfz105_0
        try clear hfz105_1
        try clear hfz105_10
        try clear hfz105_11
        try clear hfz105_12
        try clear hfz105_2
        try clear hfz105_3
        try clear hfz105_4
        try clear hfz105_5
        try clear hfz105_6
        try clear hfz105_7
        try clear hfz105_8
        try clear hfz105_9
        try clear hfz107_0
        try clear hfz107_1
        try clear hfz107_2
        try clear hfz107_3
        try clear hfz107_4
        try clear hfz108_0
        try clear hfz108_1
        try clear hfz108_2
        try clear hfz109_0
        try clear hfz109_1
        try clear hfz109_10
        try clear hfz109_11
        try clear hfz109_12
        try clear hfz109_2
        try clear hfz109_3
        try clear hfz109_4
        try clear hfz109_5
        try clear hfz109_6
        try clear hfz109_7
        try clear hfz109_8
        try clear hfz109_9
        try clear hfz114_0
        try clear hfz114_1
        try clear hfz114_2
        try clear hfz114_3
        try clear hfz114_4
        try clear hfz117_0
        try clear hfz117_1
        try clear hfz117_10
        try clear hfz117_11
        try clear hfz117_12
        try clear hfz117_2
        try clear hfz117_3
        try clear hfz117_4
        try clear hfz117_5
        try clear hfz117_6
        try clear hfz117_7
        try clear hfz117_8
        try clear hfz117_9
        try clear hfz119_0
        try clear hfz119_1
        try clear hfz119_2
        try clear hfz119_3
        try clear hfz119_4
        try clear hfz121_0
        try clear hfz121_1
        try clear hfz121_2
        try clear hfz122_0
        try clear hfz122_1
        try clear hfz122_10
        try clear hfz122_11
        try clear hfz122_12
        try clear hfz122_2
        try clear hfz122_3
        try clear hfz122_4
        try clear hfz122_5
        try clear hfz122_6
        try clear hfz122_7
        try clear hfz122_8
        try clear hfz122_9
        try clear hfz131_0
        try clear hfz131_1
        try clear hfz131_2
        try clear hfz131_3
        try clear hfz131_4
        try clear hfz134_0
        try clear hfz134_1
        try clear hfz134_10
        try clear hfz134_11
        try clear hfz134_12
        try clear hfz134_2
        try clear hfz134_3
        try clear hfz134_4
        try clear hfz134_5
        try clear hfz134_6
        try clear hfz134_7
        try clear hfz134_8
        try clear hfz134_9
        try clear hfz136_0
        try clear hfz136_1
        try clear hfz136_2
        try clear hfz136_3
        try clear hfz136_4
        try clear hfz138_0
        try clear hfz138_1
        try clear hfz138_2
        try clear hfz139_0
        try clear hfz139_1
        try clear hfz139_10
        try clear hfz139_11
        try clear hfz139_12
        try clear hfz139_2
        try clear hfz139_3
        try clear hfz139_4
        try clear hfz139_5
        try clear hfz139_6
        try clear hfz139_7
        try clear hfz139_8
        try clear hfz139_9
        try clear hfz141_0
        try clear hfz141_1
        try clear hfz141_2
        try clear hfz141_3
        try clear hfz141_4
        try clear hfz142_0
        try clear hfz142_1
        try clear hfz142_2
        try clear hfz143_0
        try clear hfz143_1
        try clear hfz143_10
        try clear hfz143_11
        try clear hfz143_12
        try clear hfz143_2
        try clear hfz143_3
        try clear hfz143_4
        try clear hfz143_5
        try clear hfz143_6
        try clear hfz143_7
        try clear hfz143_8
        try clear hfz143_9
        try clear hfz148_0
        try clear hfz148_1
        try clear hfz148_2
        try clear hfz148_3
        try clear hfz148_4
        try clear hfz151_0
        try clear hfz151_1
        try clear hfz151_10
        try clear hfz151_11
        try clear hfz151_12
        try clear hfz151_2
        try clear hfz151_3
        try clear hfz151_4
        try clear hfz151_5
        try clear hfz151_6
        try clear hfz151_7
        try clear hfz151_8
        try clear hfz151_9
        try clear hfz153_0
        try clear hfz153_1
        try clear hfz153_2
        try clear hfz153_3
        try clear hfz153_4
        try clear hfz155_0
        try clear hfz155_1
        try clear hfz155_2
        try clear hfz156_0
        try clear hfz156_1
        try clear hfz156_10
        try clear hfz156_11
        try clear hfz156_12
        try clear hfz156_2
        try clear hfz156_3
        try clear hfz156_4
        try clear hfz156_5
        try clear hfz156_6
        try clear hfz156_7
        try clear hfz156_8
        try clear hfz156_9
        try clear hfz161_0
        try clear hfz161_1
        try clear hfz161_2
        try clear hfz161_3
        try clear hfz161_4
        try clear hfz164_0
        try clear hfz164_1
        try clear hfz164_10
        try clear hfz164_11
        try clear hfz164_12
        try clear hfz164_2
        try clear hfz164_3
        try clear hfz164_4
        try clear hfz164_5
        try clear hfz164_6
        try clear hfz164_7
        try clear hfz164_8
        try clear hfz164_9
        try clear hfz169_0
        try clear hfz169_1
        try clear hfz169_2
        try clear hfz169_3
        try clear hfz169_4
        try clear hfz172_0
        try clear hfz172_1
        try clear hfz172_10
        try clear hfz172_11
        try clear hfz172_12
        try clear hfz172_2
        try clear hfz172_3
        try clear hfz172_4
        try clear hfz172_5
        try clear hfz172_6
        try clear hfz172_7
        try clear hfz172_8
        try clear hfz172_9
        try clear hfz17_0
        try clear hfz17_1
        try clear hfz17_10
        try clear hfz17_11
        try clear hfz17_12
        try clear hfz17_2
        try clear hfz17_3
        try clear hfz17_4
        try clear hfz17_5
        try clear hfz17_6
        try clear hfz17_7
        try clear hfz17_8
        try clear hfz17_9
        try clear hfz21_0
        try clear hfz21_1
        try clear hfz21_2
        try clear hfz21_3
        try clear hfz21_4
        try clear hfz23_0
        try clear hfz23_1
        try clear hfz23_2
        try clear hfz23_3
        try clear hfz23_4
        try clear hfz24_0
        try clear hfz24_1
        try clear hfz24_10
        try clear hfz24_11
        try clear hfz24_12
        try clear hfz24_2
        try clear hfz24_3
        try clear hfz24_4
        try clear hfz24_5
        try clear hfz24_6
        try clear hfz24_7
        try clear hfz24_8
        try clear hfz24_9
        try clear hfz26_0
        try clear hfz26_1
        try clear hfz26_2
        try clear hfz26_3
        try clear hfz26_4
        try clear hfz27_0
        try clear hfz27_1
        try clear hfz27_10
        try clear hfz27_11
        try clear hfz27_12
        try clear hfz27_2
        try clear hfz27_3
        try clear hfz27_4
        try clear hfz27_5
        try clear hfz27_6
        try clear hfz27_7
        try clear hfz27_8
        try clear hfz27_9
        try clear hfz29_0
        try clear hfz29_1
        try clear hfz29_2
        try clear hfz29_3
        try clear hfz29_4
        try clear hfz30_0
        try clear hfz30_1
        try clear hfz30_10
        try clear hfz30_11
        try clear hfz30_12
        try clear hfz30_2
        try clear hfz30_3
        try clear hfz30_4
        try clear hfz30_5
        try clear hfz30_6
        try clear hfz30_7
        try clear hfz30_8
        try clear hfz30_9
        try clear hfz31_0
        try clear hfz31_1
        try clear hfz31_2
        try clear hfz33_0
        try clear hfz33_1
        try clear hfz33_2
        try clear hfz33_3
        try clear hfz33_4
        try clear hfz34_0
        try clear hfz34_1
        try clear hfz34_10
        try clear hfz34_11
        try clear hfz34_12
        try clear hfz34_2
        try clear hfz34_3
        try clear hfz34_4
        try clear hfz34_5
        try clear hfz34_6
        try clear hfz34_7
        try clear hfz34_8
        try clear hfz34_9
        try clear hfz35_0
        try clear hfz35_1
        try clear hfz35_2
        try clear hfz37_0
        try clear hfz37_1
        try clear hfz37_2
        try clear hfz37_3
        try clear hfz37_4
        try clear hfz38_0
        try clear hfz38_1
        try clear hfz38_10
        try clear hfz38_11
        try clear hfz38_12
        try clear hfz38_2
        try clear hfz38_3
        try clear hfz38_4
        try clear hfz38_5
        try clear hfz38_6
        try clear hfz38_7
        try clear hfz38_8
        try clear hfz38_9
        try clear hfz44_0
        try clear hfz44_1
        try clear hfz44_2
        try clear hfz56_0
        try clear hfz56_1
        try clear hfz56_2
        try clear hfz56_3
        try clear hfz56_4
        try clear hfz59_0
        try clear hfz59_1
        try clear hfz59_10
        try clear hfz59_11
        try clear hfz59_12
        try clear hfz59_2
        try clear hfz59_3
        try clear hfz59_4
        try clear hfz59_5
        try clear hfz59_6
        try clear hfz59_7
        try clear hfz59_8
        try clear hfz59_9
        try clear hfz61_0
        try clear hfz61_1
        try clear hfz61_2
        try clear hfz61_3
        try clear hfz61_4
        try clear hfz63_0
        try clear hfz63_1
        try clear hfz63_2
        try clear hfz64_0
        try clear hfz64_1
        try clear hfz64_10
        try clear hfz64_11
        try clear hfz64_12
        try clear hfz64_2
        try clear hfz64_3
        try clear hfz64_4
        try clear hfz64_5
        try clear hfz64_6
        try clear hfz64_7
        try clear hfz64_8
        try clear hfz64_9
        try clear hfz66_0
        try clear hfz66_1
        try clear hfz66_2
        try clear hfz66_3
        try clear hfz66_4
        try clear hfz67_0
        try clear hfz67_1
        try clear hfz67_2
        try clear hfz68_0
        try clear hfz68_1
        try clear hfz68_10
        try clear hfz68_11
        try clear hfz68_12
        try clear hfz68_2
        try clear hfz68_3
        try clear hfz68_4
        try clear hfz68_5
        try clear hfz68_6
        try clear hfz68_7
        try clear hfz68_8
        try clear hfz68_9
        try clear hfz73_0
        try clear hfz73_1
        try clear hfz73_2
        try clear hfz73_3
        try clear hfz73_4
        try clear hfz76_0
        try clear hfz76_1
        try clear hfz76_10
        try clear hfz76_11
        try clear hfz76_12
        try clear hfz76_2
        try clear hfz76_3
        try clear hfz76_4
        try clear hfz76_5
        try clear hfz76_6
        try clear hfz76_7
        try clear hfz76_8
        try clear hfz76_9
        try clear hfz78_0
        try clear hfz78_1
        try clear hfz78_2
        try clear hfz78_3
        try clear hfz78_4
        try clear hfz80_0
        try clear hfz80_1
        try clear hfz80_2
        try clear hfz81_0
        try clear hfz81_1
        try clear hfz81_10
        try clear hfz81_11
        try clear hfz81_12
        try clear hfz81_2
        try clear hfz81_3
        try clear hfz81_4
        try clear hfz81_5
        try clear hfz81_6
        try clear hfz81_7
        try clear hfz81_8
        try clear hfz81_9
        try clear hfz86_0
        try clear hfz86_1
        try clear hfz86_2
        try clear hfz86_3
        try clear hfz86_4
        try clear hfz89_0
        try clear hfz89_1
        try clear hfz89_10
        try clear hfz89_11
        try clear hfz89_12
        try clear hfz89_2
        try clear hfz89_3
        try clear hfz89_4
        try clear hfz89_5
        try clear hfz89_6
        try clear hfz89_7
        try clear hfz89_8
        try clear hfz89_9
        try clear hfz97_0
        try clear hfz97_1
        try clear hfz97_2
        try clear hfz97_3
        try clear hfz97_4
        obtain ⟨kq, x104_11, rfl, HA, HJ11, BK480, BK481, BK483, BK494, HB⟩ := hcut
        cases kq with
        | zero => exact absurd HA.out (by simp [turnstilelaw06_PolicyOrder.j0])
        | succ kj11 =>
          have H := HA.out
          clear HA
          simp only [turnstilelaw06_PolicyOrder.j0] at H
          by_cases c174 : x104_11 = true
          · subst c174
            have H1 : (some false) = some r := by rw [if_pos rfl] at H; exact H
            clear H
            have H := H1
            clear H1
            obtain rfl := Option.some.inj H
            go_wp2
            go_ret
            exact ⟨re, bw HB⟩
          · replace c174 := Bool.eq_false_iff.mpr c174
            subst c174
            have H1 : ((policy_Max.f a0_0 a0_1 a0_2 a0_3 a0_4 a0_5 a0_6 a0_7 a0_5 a0_6 a0_7).bind fun bt502 => ((policy_Max.f a0_0 a0_1 a0_2 a0_3 a0_4 a0_8 a0_9 a0_10 a0_8 a0_9 a0_10).bind fun bt506 => (if (t491 == bt502.1 && (t492 == bt502.2.1 && (t493 == bt502.2.2))) = true then (if t487 = true then (some (t488 == (bt502.1 == bt506.1 && (bt502.2.1 == bt506.2.1 && (bt502.2.2 == bt506.2.2))))) else (some (false == (bt502.1 == bt506.1 && (bt502.2.1 == bt506.2.1 && (bt502.2.2 == bt506.2.2)))))) else (if (t491 == bt506.1 && (t492 == bt506.2.1 && (t493 == bt506.2.2))) = true then (if t487 = true then (some (t488 == (bt502.1 == bt506.1 && (bt502.2.1 == bt506.2.1 && (bt502.2.2 == bt506.2.2))))) else (some (false == (bt502.1 == bt506.1 && (bt502.2.1 == bt506.2.1 && (bt502.2.2 == bt506.2.2)))))) else (some false))))) = some r := by rw [if_neg (show ¬ (false = true) by decide)] at H; exact H
            clear H
            have H := H1
            clear H1
            replace H := Option.bind_eq_some_iff.mp H
            obtain ⟨⟨t502, t503, t504⟩, A1750, H⟩ := H
            replace H : ((policy_Max.f a0_0 a0_1 a0_2 a0_3 a0_4 a0_8 a0_9 a0_10 a0_8 a0_9 a0_10).bind fun bt506 => (if (t491 == t502 && (t492 == t503 && (t493 == t504))) = true then (if t487 = true then (some (t488 == (t502 == bt506.1 && (t503 == bt506.2.1 && (t504 == bt506.2.2))))) else (some (false == (t502 == bt506.1 && (t503 == bt506.2.1 && (t504 == bt506.2.2)))))) else (if (t491 == bt506.1 && (t492 == bt506.2.1 && (t493 == bt506.2.2))) = true then (if t487 = true then (some (t488 == (t502 == bt506.1 && (t503 == bt506.2.1 && (t504 == bt506.2.2))))) else (some (false == (t502 == bt506.1 && (t503 == bt506.2.1 && (t504 == bt506.2.2)))))) else (some false)))) = some r := H
            have A175 := Aside0.mk A1750
            clear A1750
            replace H := Option.bind_eq_some_iff.mp H
            obtain ⟨⟨t506, t507, t508⟩, A1760, H⟩ := H
            replace H : (if (t491 == t502 && (t492 == t503 && (t493 == t504))) = true then (if t487 = true then (some (t488 == (t502 == t506 && (t503 == t507 && (t504 == t508))))) else (some (false == (t502 == t506 && (t503 == t507 && (t504 == t508)))))) else (if (t491 == t506 && (t492 == t507 && (t493 == t508))) = true then (if t487 = true then (some (t488 == (t502 == t506 && (t503 == t507 && (t504 == t508))))) else (some (false == (t502 == t506 && (t503 == t507 && (t504 == t508)))))) else (some false))) = some r := H
            have A176 := Aside0.mk A1760
            clear A1760
            by_cases c177 : (t491 == t502 && (t492 == t503 && (t493 == t504))) = true
            · rw [if_pos c177] at H
              have c177b0 : (t491 == t502 && (t492 == t503 && (t493 == t504))) = true := c177
              (try (have c177b1 : decide (t491 = t502 && (t492 == t503 && (t493 == t504))) = true := by simpa using c177))
              (try (have c177b2 : (t491 == t502 && (t492 == t503 && (t493 == t504))) = true := by simpa using c177))
              clear c177
              by_cases c178 : t487 = true
              · subst c178
                have H1 : (some (t488 == (t502 == t506 && (t503 == t507 && (t504 == t508))))) = some r := by rw [if_pos rfl] at H; exact H
                clear H
                have H := H1
                clear H1
                obtain rfl := Option.some.inj H
                have hnb179 := NB483_480.out
                have hnc179 := NB480_483.out
                have hnb180 := NB483_481.out
                have hnc180 := NB481_483.out
                have hnb181 := NB483_494.out
                have hnc181 := NB494_483.out
                obtain ⟨hcz182_0, hcz182_1, hcz182_2, hcz182_3, hcz182_4, hfz182_0, hfz182_1, hfz182_2, hfz182_3, hfz182_4⟩ := bc5 BK483
                have hnb183 := NB480_481.out
                have hnc183 := NB481_480.out
                have hnb184 := NB480_494.out
                have hnc184 := NB494_480.out
                have hcz185_0 : wc.cell? ⟨gb480, 0, none⟩ = some (.int .i64 a0_0) := (blk_cell BK480.out 0).trans rfl
                have hcz185_1 : wc.cell? ⟨gb480, 1, none⟩ = some (.int .u64 a0_1) := (blk_cell BK480.out 1).trans rfl
                have hcz185_2 : wc.cell? ⟨gb480, 2, none⟩ = some (.int .u64 a0_2) := (blk_cell BK480.out 2).trans rfl
                have hcz185_3 : wc.cell? ⟨gb480, 3, none⟩ = some (.int .u64 a0_3) := (blk_cell BK480.out 3).trans rfl
                have hcz185_4 : wc.cell? ⟨gb480, 4, none⟩ = some (.int .u64 a0_4) := (blk_cell BK480.out 4).trans rfl
                have hcz185_5 : wc.cell? ⟨gb480, 5, none⟩ = some (.int .u64 a0_5) := (blk_cell BK480.out 5).trans rfl
                have hcz185_6 : wc.cell? ⟨gb480, 6, none⟩ = some (.int .u64 a0_6) := (blk_cell BK480.out 6).trans rfl
                have hcz185_7 : wc.cell? ⟨gb480, 7, none⟩ = some (.int .u64 a0_7) := (blk_cell BK480.out 7).trans rfl
                have hcz185_8 : wc.cell? ⟨gb480, 8, none⟩ = some (.int .u64 a0_8) := (blk_cell BK480.out 8).trans rfl
                have hcz185_9 : wc.cell? ⟨gb480, 9, none⟩ = some (.int .u64 a0_9) := (blk_cell BK480.out 9).trans rfl
                have hcz185_10 : wc.cell? ⟨gb480, 10, none⟩ = some (.int .u64 a0_10) := (blk_cell BK480.out 10).trans rfl
                have hcz185_11 : wc.cell? ⟨gb480, 11, none⟩ = some (.int .u64 a0_11) := (blk_cell BK480.out 11).trans rfl
                have hcz185_12 : wc.cell? ⟨gb480, 12, none⟩ = some (.int .u64 a0_12) := (blk_cell BK480.out 12).trans rfl
                have hfz185_0 := blk_frozen BK480.out 0
                have hfz185_1 := blk_frozen BK480.out 1
                have hfz185_2 := blk_frozen BK480.out 2
                have hfz185_3 := blk_frozen BK480.out 3
                have hfz185_4 := blk_frozen BK480.out 4
                have hfz185_5 := blk_frozen BK480.out 5
                have hfz185_6 := blk_frozen BK480.out 6
                have hfz185_7 := blk_frozen BK480.out 7
                have hfz185_8 := blk_frozen BK480.out 8
                have hfz185_9 := blk_frozen BK480.out 9
                have hfz185_10 := blk_frozen BK480.out 10
                have hfz185_11 := blk_frozen BK480.out 11
                have hfz185_12 := blk_frozen BK480.out 12
                go_wp2_with (first | ((with_reducible refine gate_callee (f := 26) rfl ?_); refine gm (some 110) Try.func26 #[.agg #[.int .i64 a0_0, .int .u64 a0_1, .int .u64 a0_2, .int .u64 a0_3, .int .u64 a0_4], .agg #[.int .u64 a0_5, .int .u64 a0_6, .int .u64 a0_7], .agg #[.int .u64 a0_5, .int .u64 a0_6, .int .u64 a0_7]] (policy_Max.calls a0_0 a0_1 a0_2 a0_3 a0_4 a0_5 a0_6 a0_7 a0_5 a0_6 a0_7 t502 t503 t504 _ A175.out) ?_; intro w186 hb; have n0_ := bb BK480 hb; have n1_ := bb BK481 hb; have n2_ := bb BK483 hb; have n3_ := bb BK494 hb; have n4_ := bs HB hb; clear BK480; clear BK481; clear BK483; clear BK494; clear HB; have BK480 := n0_; have BK481 := n1_; have BK483 := n2_; have BK494 := n3_; have HB := n4_; clear n0_ n1_ n2_ n3_ n4_; (try clear hb); (try clear hb2); (try clear hk); (try clear hi)) | ((with_reducible refine gate_dst (N := 11) rfl ?_); refine bx 11 #[.int .u64 0, .int .u64 0, .int .u64 0] 29 ?_; intro gb505 hg w187 hbox hb; have n0_ := bb BK480 hb; have n1_ := bb BK481 hb; have n2_ := bb BK483 hb; have n3_ := bb BK494 hb; have n4_ := bs HB hb; have n5_ := Aside0.mk (hbox); have n6_ := sz HB hg; have n7_ := sz HB hg; have n8_ := nl BK480 hg; have n9_ := nr BK480 hg; have n10_ := nl BK481 hg; have n11_ := nr BK481 hg; have n12_ := nl BK483 hg; have n13_ := nr BK483 hg; have n14_ := nl BK494 hg; have n15_ := nr BK494 hg; clear BK480; clear BK481; clear BK483; clear BK494; clear HB; have BK480 := n0_; have BK481 := n1_; have BK483 := n2_; have BK494 := n3_; have HB := n4_; have BK505 := n5_; have GW505 := n6_; have GE505 := n7_; have NB480_505 := n8_; have NB505_480 := n9_; have NB481_505 := n10_; have NB505_481 := n11_; have NB483_505 := n12_; have NB505_483 := n13_; have NB494_505 := n14_; have NB505_494 := n15_; clear n0_ n1_ n2_ n3_ n4_ n5_ n6_ n7_ n8_ n9_ n10_ n11_ n12_ n13_ n14_ n15_; clear hb hbox hg; have hnb188 := NB505_480.out; have hnc188 := NB480_505.out; have hnb189 := NB505_481.out; have hnc189 := NB481_505.out; have hnb190 := NB505_483.out; have hnc190 := NB483_505.out; have hnb191 := NB505_494.out; have hnc191 := NB494_505.out; obtain ⟨hcz192_0, hcz192_1, hcz192_2, hfz192_0, hfz192_1, hfz192_2⟩ := bc3 BK505; obtain ⟨hcz193_0, hcz193_1, hcz193_2, hcz193_3, hcz193_4, hfz193_0, hfz193_1, hfz193_2, hfz193_3, hfz193_4⟩ := bc5 BK483; have hcz194_0 : w187.cell? ⟨gb480, 0, none⟩ = some (.int .i64 a0_0) := (blk_cell BK480.out 0).trans rfl; have hcz194_1 : w187.cell? ⟨gb480, 1, none⟩ = some (.int .u64 a0_1) := (blk_cell BK480.out 1).trans rfl; have hcz194_2 : w187.cell? ⟨gb480, 2, none⟩ = some (.int .u64 a0_2) := (blk_cell BK480.out 2).trans rfl; have hcz194_3 : w187.cell? ⟨gb480, 3, none⟩ = some (.int .u64 a0_3) := (blk_cell BK480.out 3).trans rfl; have hcz194_4 : w187.cell? ⟨gb480, 4, none⟩ = some (.int .u64 a0_4) := (blk_cell BK480.out 4).trans rfl; have hcz194_5 : w187.cell? ⟨gb480, 5, none⟩ = some (.int .u64 a0_5) := (blk_cell BK480.out 5).trans rfl; have hcz194_6 : w187.cell? ⟨gb480, 6, none⟩ = some (.int .u64 a0_6) := (blk_cell BK480.out 6).trans rfl; have hcz194_7 : w187.cell? ⟨gb480, 7, none⟩ = some (.int .u64 a0_7) := (blk_cell BK480.out 7).trans rfl; have hcz194_8 : w187.cell? ⟨gb480, 8, none⟩ = some (.int .u64 a0_8) := (blk_cell BK480.out 8).trans rfl; have hcz194_9 : w187.cell? ⟨gb480, 9, none⟩ = some (.int .u64 a0_9) := (blk_cell BK480.out 9).trans rfl; have hcz194_10 : w187.cell? ⟨gb480, 10, none⟩ = some (.int .u64 a0_10) := (blk_cell BK480.out 10).trans rfl; have hcz194_11 : w187.cell? ⟨gb480, 11, none⟩ = some (.int .u64 a0_11) := (blk_cell BK480.out 11).trans rfl; have hcz194_12 : w187.cell? ⟨gb480, 12, none⟩ = some (.int .u64 a0_12) := (blk_cell BK480.out 12).trans rfl; have hfz194_0 := blk_frozen BK480.out 0; have hfz194_1 := blk_frozen BK480.out 1; have hfz194_2 := blk_frozen BK480.out 2; have hfz194_3 := blk_frozen BK480.out 3; have hfz194_4 := blk_frozen BK480.out 4; have hfz194_5 := blk_frozen BK480.out 5; have hfz194_6 := blk_frozen BK480.out 6; have hfz194_7 := blk_frozen BK480.out 7; have hfz194_8 := blk_frozen BK480.out 8; have hfz194_9 := blk_frozen BK480.out 9; have hfz194_10 := blk_frozen BK480.out 10; have hfz194_11 := blk_frozen BK480.out 11; have hfz194_12 := blk_frozen BK480.out 12) | ((with_reducible refine gate_callee (f := 26) rfl ?_); refine gm (some 116) Try.func26 #[.agg #[.int .i64 a0_0, .int .u64 a0_1, .int .u64 a0_2, .int .u64 a0_3, .int .u64 a0_4], .agg #[.int .u64 a0_8, .int .u64 a0_9, .int .u64 a0_10], .agg #[.int .u64 a0_8, .int .u64 a0_9, .int .u64 a0_10]] (policy_Max.calls a0_0 a0_1 a0_2 a0_3 a0_4 a0_8 a0_9 a0_10 a0_8 a0_9 a0_10 t506 t507 t508 _ A176.out) ?_; intro w195 hb; have n0_ := bb BK480 hb; have n1_ := bb BK481 hb; have n2_ := bb BK483 hb; have n3_ := bb BK494 hb; have n4_ := bbp (.cells #[.int .u64 t502, .int .u64 t503, .int .u64 t504] 29 (0, 0)) BK505 hb; have n5_ := bs HB hb; clear BK480; clear BK481; clear BK483; clear BK494; clear BK505; clear HB; have BK480 := n0_; have BK481 := n1_; have BK483 := n2_; have BK494 := n3_; have BK505 := n4_; have HB := n5_; clear n0_ n1_ n2_ n3_ n4_ n5_; (try clear hb); (try clear hb2); (try clear hk); (try clear hi)) | ((with_reducible refine gate_dst (N := 12) rfl ?_); refine bx 12 #[.int .u64 0, .int .u64 0, .int .u64 0] 29 ?_; intro gb509 hg w196 hbox hb; have n0_ := bb BK480 hb; have n1_ := bb BK481 hb; have n2_ := bb BK483 hb; have n3_ := bb BK494 hb; have n4_ := bb BK505 hb; have n5_ := bs HB hb; have n6_ := Aside0.mk (hbox); have n7_ := sz HB hg; have n8_ := sz HB hg; have n9_ := nl BK480 hg; have n10_ := nr BK480 hg; have n11_ := nl BK481 hg; have n12_ := nr BK481 hg; have n13_ := nl BK483 hg; have n14_ := nr BK483 hg; have n15_ := nl BK494 hg; have n16_ := nr BK494 hg; have n17_ := nl BK505 hg; have n18_ := nr BK505 hg; clear BK480; clear BK481; clear BK483; clear BK494; clear BK505; clear HB; have BK480 := n0_; have BK481 := n1_; have BK483 := n2_; have BK494 := n3_; have BK505 := n4_; have HB := n5_; have BK509 := n6_; have GW509 := n7_; have GE509 := n8_; have NB480_509 := n9_; have NB509_480 := n10_; have NB481_509 := n11_; have NB509_481 := n12_; have NB483_509 := n13_; have NB509_483 := n14_; have NB494_509 := n15_; have NB509_494 := n16_; have NB505_509 := n17_; have NB509_505 := n18_; clear n0_ n1_ n2_ n3_ n4_ n5_ n6_ n7_ n8_ n9_ n10_ n11_ n12_ n13_ n14_ n15_ n16_ n17_ n18_; clear hb hbox hg; have hnb197 := NB509_480.out; have hnc197 := NB480_509.out; have hnb198 := NB509_481.out; have hnc198 := NB481_509.out; have hnb199 := NB509_483.out; have hnc199 := NB483_509.out; have hnb200 := NB509_494.out; have hnc200 := NB494_509.out; have hnb201 := NB509_505.out; have hnc201 := NB505_509.out; obtain ⟨hcz202_0, hcz202_1, hcz202_2, hfz202_0, hfz202_1, hfz202_2⟩ := bc3 BK509; have hnb203 := NB494_481.out; have hnc203 := NB481_494.out; obtain ⟨hcz204_0, hcz204_1, hcz204_2, hfz204_0, hfz204_1, hfz204_2⟩ := bc3 BK494; obtain ⟨hcz205_0, hcz205_1, hcz205_2, hfz205_0, hfz205_1, hfz205_2⟩ := bc3 BK505))
                go_ret
                exact ⟨re, bw HB⟩
              · replace c178 := Bool.eq_false_iff.mpr c178
                subst c178
                have H1 : (some (false == (t502 == t506 && (t503 == t507 && (t504 == t508))))) = some r := by rw [if_neg (show ¬ (false = true) by decide)] at H; exact H
                clear H
                have H := H1
                clear H1
                obtain rfl := Option.some.inj H
                have hnb206 := NB483_480.out
                have hnc206 := NB480_483.out
                have hnb207 := NB483_481.out
                have hnc207 := NB481_483.out
                have hnb208 := NB483_494.out
                have hnc208 := NB494_483.out
                obtain ⟨hcz209_0, hcz209_1, hcz209_2, hcz209_3, hcz209_4, hfz209_0, hfz209_1, hfz209_2, hfz209_3, hfz209_4⟩ := bc5 BK483
                have hnb210 := NB480_481.out
                have hnc210 := NB481_480.out
                have hnb211 := NB480_494.out
                have hnc211 := NB494_480.out
                have hcz212_0 : wc.cell? ⟨gb480, 0, none⟩ = some (.int .i64 a0_0) := (blk_cell BK480.out 0).trans rfl
                have hcz212_1 : wc.cell? ⟨gb480, 1, none⟩ = some (.int .u64 a0_1) := (blk_cell BK480.out 1).trans rfl
                have hcz212_2 : wc.cell? ⟨gb480, 2, none⟩ = some (.int .u64 a0_2) := (blk_cell BK480.out 2).trans rfl
                have hcz212_3 : wc.cell? ⟨gb480, 3, none⟩ = some (.int .u64 a0_3) := (blk_cell BK480.out 3).trans rfl
                have hcz212_4 : wc.cell? ⟨gb480, 4, none⟩ = some (.int .u64 a0_4) := (blk_cell BK480.out 4).trans rfl
                have hcz212_5 : wc.cell? ⟨gb480, 5, none⟩ = some (.int .u64 a0_5) := (blk_cell BK480.out 5).trans rfl
                have hcz212_6 : wc.cell? ⟨gb480, 6, none⟩ = some (.int .u64 a0_6) := (blk_cell BK480.out 6).trans rfl
                have hcz212_7 : wc.cell? ⟨gb480, 7, none⟩ = some (.int .u64 a0_7) := (blk_cell BK480.out 7).trans rfl
                have hcz212_8 : wc.cell? ⟨gb480, 8, none⟩ = some (.int .u64 a0_8) := (blk_cell BK480.out 8).trans rfl
                have hcz212_9 : wc.cell? ⟨gb480, 9, none⟩ = some (.int .u64 a0_9) := (blk_cell BK480.out 9).trans rfl
                have hcz212_10 : wc.cell? ⟨gb480, 10, none⟩ = some (.int .u64 a0_10) := (blk_cell BK480.out 10).trans rfl
                have hcz212_11 : wc.cell? ⟨gb480, 11, none⟩ = some (.int .u64 a0_11) := (blk_cell BK480.out 11).trans rfl
                have hcz212_12 : wc.cell? ⟨gb480, 12, none⟩ = some (.int .u64 a0_12) := (blk_cell BK480.out 12).trans rfl
                have hfz212_0 := blk_frozen BK480.out 0
                have hfz212_1 := blk_frozen BK480.out 1
                have hfz212_2 := blk_frozen BK480.out 2
                have hfz212_3 := blk_frozen BK480.out 3
                have hfz212_4 := blk_frozen BK480.out 4
                have hfz212_5 := blk_frozen BK480.out 5
                have hfz212_6 := blk_frozen BK480.out 6
                have hfz212_7 := blk_frozen BK480.out 7
                have hfz212_8 := blk_frozen BK480.out 8
                have hfz212_9 := blk_frozen BK480.out 9
                have hfz212_10 := blk_frozen BK480.out 10
                have hfz212_11 := blk_frozen BK480.out 11
                have hfz212_12 := blk_frozen BK480.out 12
                go_wp2_with (first | ((with_reducible refine gate_callee (f := 26) rfl ?_); refine gm (some 110) Try.func26 #[.agg #[.int .i64 a0_0, .int .u64 a0_1, .int .u64 a0_2, .int .u64 a0_3, .int .u64 a0_4], .agg #[.int .u64 a0_5, .int .u64 a0_6, .int .u64 a0_7], .agg #[.int .u64 a0_5, .int .u64 a0_6, .int .u64 a0_7]] (policy_Max.calls a0_0 a0_1 a0_2 a0_3 a0_4 a0_5 a0_6 a0_7 a0_5 a0_6 a0_7 t502 t503 t504 _ A175.out) ?_; intro w213 hb; have n0_ := bb BK480 hb; have n1_ := bb BK481 hb; have n2_ := bb BK483 hb; have n3_ := bb BK494 hb; have n4_ := bs HB hb; clear BK480; clear BK481; clear BK483; clear BK494; clear HB; have BK480 := n0_; have BK481 := n1_; have BK483 := n2_; have BK494 := n3_; have HB := n4_; clear n0_ n1_ n2_ n3_ n4_; (try clear hb); (try clear hb2); (try clear hk); (try clear hi)) | ((with_reducible refine gate_dst (N := 11) rfl ?_); refine bx 11 #[.int .u64 0, .int .u64 0, .int .u64 0] 29 ?_; intro gb505 hg w214 hbox hb; have n0_ := bb BK480 hb; have n1_ := bb BK481 hb; have n2_ := bb BK483 hb; have n3_ := bb BK494 hb; have n4_ := bs HB hb; have n5_ := Aside0.mk (hbox); have n6_ := sz HB hg; have n7_ := sz HB hg; have n8_ := nl BK480 hg; have n9_ := nr BK480 hg; have n10_ := nl BK481 hg; have n11_ := nr BK481 hg; have n12_ := nl BK483 hg; have n13_ := nr BK483 hg; have n14_ := nl BK494 hg; have n15_ := nr BK494 hg; clear BK480; clear BK481; clear BK483; clear BK494; clear HB; have BK480 := n0_; have BK481 := n1_; have BK483 := n2_; have BK494 := n3_; have HB := n4_; have BK505 := n5_; have GW505 := n6_; have GE505 := n7_; have NB480_505 := n8_; have NB505_480 := n9_; have NB481_505 := n10_; have NB505_481 := n11_; have NB483_505 := n12_; have NB505_483 := n13_; have NB494_505 := n14_; have NB505_494 := n15_; clear n0_ n1_ n2_ n3_ n4_ n5_ n6_ n7_ n8_ n9_ n10_ n11_ n12_ n13_ n14_ n15_; clear hb hbox hg; have hnb215 := NB505_480.out; have hnc215 := NB480_505.out; have hnb216 := NB505_481.out; have hnc216 := NB481_505.out; have hnb217 := NB505_483.out; have hnc217 := NB483_505.out; have hnb218 := NB505_494.out; have hnc218 := NB494_505.out; obtain ⟨hcz219_0, hcz219_1, hcz219_2, hfz219_0, hfz219_1, hfz219_2⟩ := bc3 BK505; obtain ⟨hcz220_0, hcz220_1, hcz220_2, hcz220_3, hcz220_4, hfz220_0, hfz220_1, hfz220_2, hfz220_3, hfz220_4⟩ := bc5 BK483; have hcz221_0 : w214.cell? ⟨gb480, 0, none⟩ = some (.int .i64 a0_0) := (blk_cell BK480.out 0).trans rfl; have hcz221_1 : w214.cell? ⟨gb480, 1, none⟩ = some (.int .u64 a0_1) := (blk_cell BK480.out 1).trans rfl; have hcz221_2 : w214.cell? ⟨gb480, 2, none⟩ = some (.int .u64 a0_2) := (blk_cell BK480.out 2).trans rfl; have hcz221_3 : w214.cell? ⟨gb480, 3, none⟩ = some (.int .u64 a0_3) := (blk_cell BK480.out 3).trans rfl; have hcz221_4 : w214.cell? ⟨gb480, 4, none⟩ = some (.int .u64 a0_4) := (blk_cell BK480.out 4).trans rfl; have hcz221_5 : w214.cell? ⟨gb480, 5, none⟩ = some (.int .u64 a0_5) := (blk_cell BK480.out 5).trans rfl; have hcz221_6 : w214.cell? ⟨gb480, 6, none⟩ = some (.int .u64 a0_6) := (blk_cell BK480.out 6).trans rfl; have hcz221_7 : w214.cell? ⟨gb480, 7, none⟩ = some (.int .u64 a0_7) := (blk_cell BK480.out 7).trans rfl; have hcz221_8 : w214.cell? ⟨gb480, 8, none⟩ = some (.int .u64 a0_8) := (blk_cell BK480.out 8).trans rfl; have hcz221_9 : w214.cell? ⟨gb480, 9, none⟩ = some (.int .u64 a0_9) := (blk_cell BK480.out 9).trans rfl; have hcz221_10 : w214.cell? ⟨gb480, 10, none⟩ = some (.int .u64 a0_10) := (blk_cell BK480.out 10).trans rfl; have hcz221_11 : w214.cell? ⟨gb480, 11, none⟩ = some (.int .u64 a0_11) := (blk_cell BK480.out 11).trans rfl; have hcz221_12 : w214.cell? ⟨gb480, 12, none⟩ = some (.int .u64 a0_12) := (blk_cell BK480.out 12).trans rfl; have hfz221_0 := blk_frozen BK480.out 0; have hfz221_1 := blk_frozen BK480.out 1; have hfz221_2 := blk_frozen BK480.out 2; have hfz221_3 := blk_frozen BK480.out 3; have hfz221_4 := blk_frozen BK480.out 4; have hfz221_5 := blk_frozen BK480.out 5; have hfz221_6 := blk_frozen BK480.out 6; have hfz221_7 := blk_frozen BK480.out 7; have hfz221_8 := blk_frozen BK480.out 8; have hfz221_9 := blk_frozen BK480.out 9; have hfz221_10 := blk_frozen BK480.out 10; have hfz221_11 := blk_frozen BK480.out 11; have hfz221_12 := blk_frozen BK480.out 12) | ((with_reducible refine gate_callee (f := 26) rfl ?_); refine gm (some 116) Try.func26 #[.agg #[.int .i64 a0_0, .int .u64 a0_1, .int .u64 a0_2, .int .u64 a0_3, .int .u64 a0_4], .agg #[.int .u64 a0_8, .int .u64 a0_9, .int .u64 a0_10], .agg #[.int .u64 a0_8, .int .u64 a0_9, .int .u64 a0_10]] (policy_Max.calls a0_0 a0_1 a0_2 a0_3 a0_4 a0_8 a0_9 a0_10 a0_8 a0_9 a0_10 t506 t507 t508 _ A176.out) ?_; intro w222 hb; have n0_ := bb BK480 hb; have n1_ := bb BK481 hb; have n2_ := bb BK483 hb; have n3_ := bb BK494 hb; have n4_ := bbp (.cells #[.int .u64 t502, .int .u64 t503, .int .u64 t504] 29 (0, 0)) BK505 hb; have n5_ := bs HB hb; clear BK480; clear BK481; clear BK483; clear BK494; clear BK505; clear HB; have BK480 := n0_; have BK481 := n1_; have BK483 := n2_; have BK494 := n3_; have BK505 := n4_; have HB := n5_; clear n0_ n1_ n2_ n3_ n4_ n5_; (try clear hb); (try clear hb2); (try clear hk); (try clear hi)) | ((with_reducible refine gate_dst (N := 12) rfl ?_); refine bx 12 #[.int .u64 0, .int .u64 0, .int .u64 0] 29 ?_; intro gb509 hg w223 hbox hb; have n0_ := bb BK480 hb; have n1_ := bb BK481 hb; have n2_ := bb BK483 hb; have n3_ := bb BK494 hb; have n4_ := bb BK505 hb; have n5_ := bs HB hb; have n6_ := Aside0.mk (hbox); have n7_ := sz HB hg; have n8_ := sz HB hg; have n9_ := nl BK480 hg; have n10_ := nr BK480 hg; have n11_ := nl BK481 hg; have n12_ := nr BK481 hg; have n13_ := nl BK483 hg; have n14_ := nr BK483 hg; have n15_ := nl BK494 hg; have n16_ := nr BK494 hg; have n17_ := nl BK505 hg; have n18_ := nr BK505 hg; clear BK480; clear BK481; clear BK483; clear BK494; clear BK505; clear HB; have BK480 := n0_; have BK481 := n1_; have BK483 := n2_; have BK494 := n3_; have BK505 := n4_; have HB := n5_; have BK509 := n6_; have GW509 := n7_; have GE509 := n8_; have NB480_509 := n9_; have NB509_480 := n10_; have NB481_509 := n11_; have NB509_481 := n12_; have NB483_509 := n13_; have NB509_483 := n14_; have NB494_509 := n15_; have NB509_494 := n16_; have NB505_509 := n17_; have NB509_505 := n18_; clear n0_ n1_ n2_ n3_ n4_ n5_ n6_ n7_ n8_ n9_ n10_ n11_ n12_ n13_ n14_ n15_ n16_ n17_ n18_; clear hb hbox hg; have hnb224 := NB509_480.out; have hnc224 := NB480_509.out; have hnb225 := NB509_481.out; have hnc225 := NB481_509.out; have hnb226 := NB509_483.out; have hnc226 := NB483_509.out; have hnb227 := NB509_494.out; have hnc227 := NB494_509.out; have hnb228 := NB509_505.out; have hnc228 := NB505_509.out; obtain ⟨hcz229_0, hcz229_1, hcz229_2, hfz229_0, hfz229_1, hfz229_2⟩ := bc3 BK509; have hnb230 := NB494_481.out; have hnc230 := NB481_494.out; obtain ⟨hcz231_0, hcz231_1, hcz231_2, hfz231_0, hfz231_1, hfz231_2⟩ := bc3 BK494; obtain ⟨hcz232_0, hcz232_1, hcz232_2, hfz232_0, hfz232_1, hfz232_2⟩ := bc3 BK505))
                go_ret
                exact ⟨re, bw HB⟩
            · rw [if_neg c177] at H
              have c177b0 : (t491 == t502 && (t492 == t503 && (t493 == t504))) = false := by simpa using c177
              (try (have c177b1 : decide (t491 = t502 && (t492 == t503 && (t493 == t504))) = false := by simpa using c177))
              (try (have c177b2 : (t491 == t502 && (t492 == t503 && (t493 == t504))) = false := by simpa using c177))
              (try (have c177b3 : ¬ (t491 = t502 && (t492 == t503 && (t493 == t504))) := by simpa using c177))
              clear c177
              by_cases c233 : (t491 == t506 && (t492 == t507 && (t493 == t508))) = true
              · rw [if_pos c233] at H
                have c233b0 : (t491 == t506 && (t492 == t507 && (t493 == t508))) = true := c233
                (try (have c233b1 : decide (t491 = t506 && (t492 == t507 && (t493 == t508))) = true := by simpa using c233))
                (try (have c233b2 : (t491 == t506 && (t492 == t507 && (t493 == t508))) = true := by simpa using c233))
                clear c233
                by_cases c234 : t487 = true
                · subst c234
                  have H1 : (some (t488 == (t502 == t506 && (t503 == t507 && (t504 == t508))))) = some r := by rw [if_pos rfl] at H; exact H
                  clear H
                  have H := H1
                  clear H1
                  obtain rfl := Option.some.inj H
                  have hnb235 := NB483_480.out
                  have hnc235 := NB480_483.out
                  have hnb236 := NB483_481.out
                  have hnc236 := NB481_483.out
                  have hnb237 := NB483_494.out
                  have hnc237 := NB494_483.out
                  obtain ⟨hcz238_0, hcz238_1, hcz238_2, hcz238_3, hcz238_4, hfz238_0, hfz238_1, hfz238_2, hfz238_3, hfz238_4⟩ := bc5 BK483
                  have hnb239 := NB480_481.out
                  have hnc239 := NB481_480.out
                  have hnb240 := NB480_494.out
                  have hnc240 := NB494_480.out
                  have hcz241_0 : wc.cell? ⟨gb480, 0, none⟩ = some (.int .i64 a0_0) := (blk_cell BK480.out 0).trans rfl
                  have hcz241_1 : wc.cell? ⟨gb480, 1, none⟩ = some (.int .u64 a0_1) := (blk_cell BK480.out 1).trans rfl
                  have hcz241_2 : wc.cell? ⟨gb480, 2, none⟩ = some (.int .u64 a0_2) := (blk_cell BK480.out 2).trans rfl
                  have hcz241_3 : wc.cell? ⟨gb480, 3, none⟩ = some (.int .u64 a0_3) := (blk_cell BK480.out 3).trans rfl
                  have hcz241_4 : wc.cell? ⟨gb480, 4, none⟩ = some (.int .u64 a0_4) := (blk_cell BK480.out 4).trans rfl
                  have hcz241_5 : wc.cell? ⟨gb480, 5, none⟩ = some (.int .u64 a0_5) := (blk_cell BK480.out 5).trans rfl
                  have hcz241_6 : wc.cell? ⟨gb480, 6, none⟩ = some (.int .u64 a0_6) := (blk_cell BK480.out 6).trans rfl
                  have hcz241_7 : wc.cell? ⟨gb480, 7, none⟩ = some (.int .u64 a0_7) := (blk_cell BK480.out 7).trans rfl
                  have hcz241_8 : wc.cell? ⟨gb480, 8, none⟩ = some (.int .u64 a0_8) := (blk_cell BK480.out 8).trans rfl
                  have hcz241_9 : wc.cell? ⟨gb480, 9, none⟩ = some (.int .u64 a0_9) := (blk_cell BK480.out 9).trans rfl
                  have hcz241_10 : wc.cell? ⟨gb480, 10, none⟩ = some (.int .u64 a0_10) := (blk_cell BK480.out 10).trans rfl
                  have hcz241_11 : wc.cell? ⟨gb480, 11, none⟩ = some (.int .u64 a0_11) := (blk_cell BK480.out 11).trans rfl
                  have hcz241_12 : wc.cell? ⟨gb480, 12, none⟩ = some (.int .u64 a0_12) := (blk_cell BK480.out 12).trans rfl
                  have hfz241_0 := blk_frozen BK480.out 0
                  have hfz241_1 := blk_frozen BK480.out 1
                  have hfz241_2 := blk_frozen BK480.out 2
                  have hfz241_3 := blk_frozen BK480.out 3
                  have hfz241_4 := blk_frozen BK480.out 4
                  have hfz241_5 := blk_frozen BK480.out 5
                  have hfz241_6 := blk_frozen BK480.out 6
                  have hfz241_7 := blk_frozen BK480.out 7
                  have hfz241_8 := blk_frozen BK480.out 8
                  have hfz241_9 := blk_frozen BK480.out 9
                  have hfz241_10 := blk_frozen BK480.out 10
                  have hfz241_11 := blk_frozen BK480.out 11
                  have hfz241_12 := blk_frozen BK480.out 12
                  go_wp2_with (first | ((with_reducible refine gate_callee (f := 26) rfl ?_); refine gm (some 110) Try.func26 #[.agg #[.int .i64 a0_0, .int .u64 a0_1, .int .u64 a0_2, .int .u64 a0_3, .int .u64 a0_4], .agg #[.int .u64 a0_5, .int .u64 a0_6, .int .u64 a0_7], .agg #[.int .u64 a0_5, .int .u64 a0_6, .int .u64 a0_7]] (policy_Max.calls a0_0 a0_1 a0_2 a0_3 a0_4 a0_5 a0_6 a0_7 a0_5 a0_6 a0_7 t502 t503 t504 _ A175.out) ?_; intro w242 hb; have n0_ := bb BK480 hb; have n1_ := bb BK481 hb; have n2_ := bb BK483 hb; have n3_ := bb BK494 hb; have n4_ := bs HB hb; clear BK480; clear BK481; clear BK483; clear BK494; clear HB; have BK480 := n0_; have BK481 := n1_; have BK483 := n2_; have BK494 := n3_; have HB := n4_; clear n0_ n1_ n2_ n3_ n4_; (try clear hb); (try clear hb2); (try clear hk); (try clear hi)) | ((with_reducible refine gate_dst (N := 11) rfl ?_); refine bx 11 #[.int .u64 0, .int .u64 0, .int .u64 0] 29 ?_; intro gb505 hg w243 hbox hb; have n0_ := bb BK480 hb; have n1_ := bb BK481 hb; have n2_ := bb BK483 hb; have n3_ := bb BK494 hb; have n4_ := bs HB hb; have n5_ := Aside0.mk (hbox); have n6_ := sz HB hg; have n7_ := sz HB hg; have n8_ := nl BK480 hg; have n9_ := nr BK480 hg; have n10_ := nl BK481 hg; have n11_ := nr BK481 hg; have n12_ := nl BK483 hg; have n13_ := nr BK483 hg; have n14_ := nl BK494 hg; have n15_ := nr BK494 hg; clear BK480; clear BK481; clear BK483; clear BK494; clear HB; have BK480 := n0_; have BK481 := n1_; have BK483 := n2_; have BK494 := n3_; have HB := n4_; have BK505 := n5_; have GW505 := n6_; have GE505 := n7_; have NB480_505 := n8_; have NB505_480 := n9_; have NB481_505 := n10_; have NB505_481 := n11_; have NB483_505 := n12_; have NB505_483 := n13_; have NB494_505 := n14_; have NB505_494 := n15_; clear n0_ n1_ n2_ n3_ n4_ n5_ n6_ n7_ n8_ n9_ n10_ n11_ n12_ n13_ n14_ n15_; clear hb hbox hg; have hnb244 := NB505_480.out; have hnc244 := NB480_505.out; have hnb245 := NB505_481.out; have hnc245 := NB481_505.out; have hnb246 := NB505_483.out; have hnc246 := NB483_505.out; have hnb247 := NB505_494.out; have hnc247 := NB494_505.out; obtain ⟨hcz248_0, hcz248_1, hcz248_2, hfz248_0, hfz248_1, hfz248_2⟩ := bc3 BK505; obtain ⟨hcz249_0, hcz249_1, hcz249_2, hcz249_3, hcz249_4, hfz249_0, hfz249_1, hfz249_2, hfz249_3, hfz249_4⟩ := bc5 BK483; have hcz250_0 : w243.cell? ⟨gb480, 0, none⟩ = some (.int .i64 a0_0) := (blk_cell BK480.out 0).trans rfl; have hcz250_1 : w243.cell? ⟨gb480, 1, none⟩ = some (.int .u64 a0_1) := (blk_cell BK480.out 1).trans rfl; have hcz250_2 : w243.cell? ⟨gb480, 2, none⟩ = some (.int .u64 a0_2) := (blk_cell BK480.out 2).trans rfl; have hcz250_3 : w243.cell? ⟨gb480, 3, none⟩ = some (.int .u64 a0_3) := (blk_cell BK480.out 3).trans rfl; have hcz250_4 : w243.cell? ⟨gb480, 4, none⟩ = some (.int .u64 a0_4) := (blk_cell BK480.out 4).trans rfl; have hcz250_5 : w243.cell? ⟨gb480, 5, none⟩ = some (.int .u64 a0_5) := (blk_cell BK480.out 5).trans rfl; have hcz250_6 : w243.cell? ⟨gb480, 6, none⟩ = some (.int .u64 a0_6) := (blk_cell BK480.out 6).trans rfl; have hcz250_7 : w243.cell? ⟨gb480, 7, none⟩ = some (.int .u64 a0_7) := (blk_cell BK480.out 7).trans rfl; have hcz250_8 : w243.cell? ⟨gb480, 8, none⟩ = some (.int .u64 a0_8) := (blk_cell BK480.out 8).trans rfl; have hcz250_9 : w243.cell? ⟨gb480, 9, none⟩ = some (.int .u64 a0_9) := (blk_cell BK480.out 9).trans rfl; have hcz250_10 : w243.cell? ⟨gb480, 10, none⟩ = some (.int .u64 a0_10) := (blk_cell BK480.out 10).trans rfl; have hcz250_11 : w243.cell? ⟨gb480, 11, none⟩ = some (.int .u64 a0_11) := (blk_cell BK480.out 11).trans rfl; have hcz250_12 : w243.cell? ⟨gb480, 12, none⟩ = some (.int .u64 a0_12) := (blk_cell BK480.out 12).trans rfl; have hfz250_0 := blk_frozen BK480.out 0; have hfz250_1 := blk_frozen BK480.out 1; have hfz250_2 := blk_frozen BK480.out 2; have hfz250_3 := blk_frozen BK480.out 3; have hfz250_4 := blk_frozen BK480.out 4; have hfz250_5 := blk_frozen BK480.out 5; have hfz250_6 := blk_frozen BK480.out 6; have hfz250_7 := blk_frozen BK480.out 7; have hfz250_8 := blk_frozen BK480.out 8; have hfz250_9 := blk_frozen BK480.out 9; have hfz250_10 := blk_frozen BK480.out 10; have hfz250_11 := blk_frozen BK480.out 11; have hfz250_12 := blk_frozen BK480.out 12) | ((with_reducible refine gate_callee (f := 26) rfl ?_); refine gm (some 116) Try.func26 #[.agg #[.int .i64 a0_0, .int .u64 a0_1, .int .u64 a0_2, .int .u64 a0_3, .int .u64 a0_4], .agg #[.int .u64 a0_8, .int .u64 a0_9, .int .u64 a0_10], .agg #[.int .u64 a0_8, .int .u64 a0_9, .int .u64 a0_10]] (policy_Max.calls a0_0 a0_1 a0_2 a0_3 a0_4 a0_8 a0_9 a0_10 a0_8 a0_9 a0_10 t506 t507 t508 _ A176.out) ?_; intro w251 hb; have n0_ := bb BK480 hb; have n1_ := bb BK481 hb; have n2_ := bb BK483 hb; have n3_ := bb BK494 hb; have n4_ := bbp (.cells #[.int .u64 t502, .int .u64 t503, .int .u64 t504] 29 (0, 0)) BK505 hb; have n5_ := bs HB hb; clear BK480; clear BK481; clear BK483; clear BK494; clear BK505; clear HB; have BK480 := n0_; have BK481 := n1_; have BK483 := n2_; have BK494 := n3_; have BK505 := n4_; have HB := n5_; clear n0_ n1_ n2_ n3_ n4_ n5_; (try clear hb); (try clear hb2); (try clear hk); (try clear hi)) | ((with_reducible refine gate_dst (N := 12) rfl ?_); refine bx 12 #[.int .u64 0, .int .u64 0, .int .u64 0] 29 ?_; intro gb509 hg w252 hbox hb; have n0_ := bb BK480 hb; have n1_ := bb BK481 hb; have n2_ := bb BK483 hb; have n3_ := bb BK494 hb; have n4_ := bb BK505 hb; have n5_ := bs HB hb; have n6_ := Aside0.mk (hbox); have n7_ := sz HB hg; have n8_ := sz HB hg; have n9_ := nl BK480 hg; have n10_ := nr BK480 hg; have n11_ := nl BK481 hg; have n12_ := nr BK481 hg; have n13_ := nl BK483 hg; have n14_ := nr BK483 hg; have n15_ := nl BK494 hg; have n16_ := nr BK494 hg; have n17_ := nl BK505 hg; have n18_ := nr BK505 hg; clear BK480; clear BK481; clear BK483; clear BK494; clear BK505; clear HB; have BK480 := n0_; have BK481 := n1_; have BK483 := n2_; have BK494 := n3_; have BK505 := n4_; have HB := n5_; have BK509 := n6_; have GW509 := n7_; have GE509 := n8_; have NB480_509 := n9_; have NB509_480 := n10_; have NB481_509 := n11_; have NB509_481 := n12_; have NB483_509 := n13_; have NB509_483 := n14_; have NB494_509 := n15_; have NB509_494 := n16_; have NB505_509 := n17_; have NB509_505 := n18_; clear n0_ n1_ n2_ n3_ n4_ n5_ n6_ n7_ n8_ n9_ n10_ n11_ n12_ n13_ n14_ n15_ n16_ n17_ n18_; clear hb hbox hg; have hnb253 := NB509_480.out; have hnc253 := NB480_509.out; have hnb254 := NB509_481.out; have hnc254 := NB481_509.out; have hnb255 := NB509_483.out; have hnc255 := NB483_509.out; have hnb256 := NB509_494.out; have hnc256 := NB494_509.out; have hnb257 := NB509_505.out; have hnc257 := NB505_509.out; obtain ⟨hcz258_0, hcz258_1, hcz258_2, hfz258_0, hfz258_1, hfz258_2⟩ := bc3 BK509; have hnb259 := NB494_481.out; have hnc259 := NB481_494.out; obtain ⟨hcz260_0, hcz260_1, hcz260_2, hfz260_0, hfz260_1, hfz260_2⟩ := bc3 BK494; obtain ⟨hcz261_0, hcz261_1, hcz261_2, hfz261_0, hfz261_1, hfz261_2⟩ := bc3 BK505))
                  go_ret
                  exact ⟨re, bw HB⟩
                · replace c234 := Bool.eq_false_iff.mpr c234
                  subst c234
                  have H1 : (some (false == (t502 == t506 && (t503 == t507 && (t504 == t508))))) = some r := by rw [if_neg (show ¬ (false = true) by decide)] at H; exact H
                  clear H
                  have H := H1
                  clear H1
                  obtain rfl := Option.some.inj H
                  have hnb262 := NB483_480.out
                  have hnc262 := NB480_483.out
                  have hnb263 := NB483_481.out
                  have hnc263 := NB481_483.out
                  have hnb264 := NB483_494.out
                  have hnc264 := NB494_483.out
                  obtain ⟨hcz265_0, hcz265_1, hcz265_2, hcz265_3, hcz265_4, hfz265_0, hfz265_1, hfz265_2, hfz265_3, hfz265_4⟩ := bc5 BK483
                  have hnb266 := NB480_481.out
                  have hnc266 := NB481_480.out
                  have hnb267 := NB480_494.out
                  have hnc267 := NB494_480.out
                  have hcz268_0 : wc.cell? ⟨gb480, 0, none⟩ = some (.int .i64 a0_0) := (blk_cell BK480.out 0).trans rfl
                  have hcz268_1 : wc.cell? ⟨gb480, 1, none⟩ = some (.int .u64 a0_1) := (blk_cell BK480.out 1).trans rfl
                  have hcz268_2 : wc.cell? ⟨gb480, 2, none⟩ = some (.int .u64 a0_2) := (blk_cell BK480.out 2).trans rfl
                  have hcz268_3 : wc.cell? ⟨gb480, 3, none⟩ = some (.int .u64 a0_3) := (blk_cell BK480.out 3).trans rfl
                  have hcz268_4 : wc.cell? ⟨gb480, 4, none⟩ = some (.int .u64 a0_4) := (blk_cell BK480.out 4).trans rfl
                  have hcz268_5 : wc.cell? ⟨gb480, 5, none⟩ = some (.int .u64 a0_5) := (blk_cell BK480.out 5).trans rfl
                  have hcz268_6 : wc.cell? ⟨gb480, 6, none⟩ = some (.int .u64 a0_6) := (blk_cell BK480.out 6).trans rfl
                  have hcz268_7 : wc.cell? ⟨gb480, 7, none⟩ = some (.int .u64 a0_7) := (blk_cell BK480.out 7).trans rfl
                  have hcz268_8 : wc.cell? ⟨gb480, 8, none⟩ = some (.int .u64 a0_8) := (blk_cell BK480.out 8).trans rfl
                  have hcz268_9 : wc.cell? ⟨gb480, 9, none⟩ = some (.int .u64 a0_9) := (blk_cell BK480.out 9).trans rfl
                  have hcz268_10 : wc.cell? ⟨gb480, 10, none⟩ = some (.int .u64 a0_10) := (blk_cell BK480.out 10).trans rfl
                  have hcz268_11 : wc.cell? ⟨gb480, 11, none⟩ = some (.int .u64 a0_11) := (blk_cell BK480.out 11).trans rfl
                  have hcz268_12 : wc.cell? ⟨gb480, 12, none⟩ = some (.int .u64 a0_12) := (blk_cell BK480.out 12).trans rfl
                  have hfz268_0 := blk_frozen BK480.out 0
                  have hfz268_1 := blk_frozen BK480.out 1
                  have hfz268_2 := blk_frozen BK480.out 2
                  have hfz268_3 := blk_frozen BK480.out 3
                  have hfz268_4 := blk_frozen BK480.out 4
                  have hfz268_5 := blk_frozen BK480.out 5
                  have hfz268_6 := blk_frozen BK480.out 6
                  have hfz268_7 := blk_frozen BK480.out 7
                  have hfz268_8 := blk_frozen BK480.out 8
                  have hfz268_9 := blk_frozen BK480.out 9
                  have hfz268_10 := blk_frozen BK480.out 10
                  have hfz268_11 := blk_frozen BK480.out 11
                  have hfz268_12 := blk_frozen BK480.out 12
                  go_wp2_with (first | ((with_reducible refine gate_callee (f := 26) rfl ?_); refine gm (some 110) Try.func26 #[.agg #[.int .i64 a0_0, .int .u64 a0_1, .int .u64 a0_2, .int .u64 a0_3, .int .u64 a0_4], .agg #[.int .u64 a0_5, .int .u64 a0_6, .int .u64 a0_7], .agg #[.int .u64 a0_5, .int .u64 a0_6, .int .u64 a0_7]] (policy_Max.calls a0_0 a0_1 a0_2 a0_3 a0_4 a0_5 a0_6 a0_7 a0_5 a0_6 a0_7 t502 t503 t504 _ A175.out) ?_; intro w269 hb; have n0_ := bb BK480 hb; have n1_ := bb BK481 hb; have n2_ := bb BK483 hb; have n3_ := bb BK494 hb; have n4_ := bs HB hb; clear BK480; clear BK481; clear BK483; clear BK494; clear HB; have BK480 := n0_; have BK481 := n1_; have BK483 := n2_; have BK494 := n3_; have HB := n4_; clear n0_ n1_ n2_ n3_ n4_; (try clear hb); (try clear hb2); (try clear hk); (try clear hi)) | ((with_reducible refine gate_dst (N := 11) rfl ?_); refine bx 11 #[.int .u64 0, .int .u64 0, .int .u64 0] 29 ?_; intro gb505 hg w270 hbox hb; have n0_ := bb BK480 hb; have n1_ := bb BK481 hb; have n2_ := bb BK483 hb; have n3_ := bb BK494 hb; have n4_ := bs HB hb; have n5_ := Aside0.mk (hbox); have n6_ := sz HB hg; have n7_ := sz HB hg; have n8_ := nl BK480 hg; have n9_ := nr BK480 hg; have n10_ := nl BK481 hg; have n11_ := nr BK481 hg; have n12_ := nl BK483 hg; have n13_ := nr BK483 hg; have n14_ := nl BK494 hg; have n15_ := nr BK494 hg; clear BK480; clear BK481; clear BK483; clear BK494; clear HB; have BK480 := n0_; have BK481 := n1_; have BK483 := n2_; have BK494 := n3_; have HB := n4_; have BK505 := n5_; have GW505 := n6_; have GE505 := n7_; have NB480_505 := n8_; have NB505_480 := n9_; have NB481_505 := n10_; have NB505_481 := n11_; have NB483_505 := n12_; have NB505_483 := n13_; have NB494_505 := n14_; have NB505_494 := n15_; clear n0_ n1_ n2_ n3_ n4_ n5_ n6_ n7_ n8_ n9_ n10_ n11_ n12_ n13_ n14_ n15_; clear hb hbox hg; have hnb271 := NB505_480.out; have hnc271 := NB480_505.out; have hnb272 := NB505_481.out; have hnc272 := NB481_505.out; have hnb273 := NB505_483.out; have hnc273 := NB483_505.out; have hnb274 := NB505_494.out; have hnc274 := NB494_505.out; obtain ⟨hcz275_0, hcz275_1, hcz275_2, hfz275_0, hfz275_1, hfz275_2⟩ := bc3 BK505; obtain ⟨hcz276_0, hcz276_1, hcz276_2, hcz276_3, hcz276_4, hfz276_0, hfz276_1, hfz276_2, hfz276_3, hfz276_4⟩ := bc5 BK483; have hcz277_0 : w270.cell? ⟨gb480, 0, none⟩ = some (.int .i64 a0_0) := (blk_cell BK480.out 0).trans rfl; have hcz277_1 : w270.cell? ⟨gb480, 1, none⟩ = some (.int .u64 a0_1) := (blk_cell BK480.out 1).trans rfl; have hcz277_2 : w270.cell? ⟨gb480, 2, none⟩ = some (.int .u64 a0_2) := (blk_cell BK480.out 2).trans rfl; have hcz277_3 : w270.cell? ⟨gb480, 3, none⟩ = some (.int .u64 a0_3) := (blk_cell BK480.out 3).trans rfl; have hcz277_4 : w270.cell? ⟨gb480, 4, none⟩ = some (.int .u64 a0_4) := (blk_cell BK480.out 4).trans rfl; have hcz277_5 : w270.cell? ⟨gb480, 5, none⟩ = some (.int .u64 a0_5) := (blk_cell BK480.out 5).trans rfl; have hcz277_6 : w270.cell? ⟨gb480, 6, none⟩ = some (.int .u64 a0_6) := (blk_cell BK480.out 6).trans rfl; have hcz277_7 : w270.cell? ⟨gb480, 7, none⟩ = some (.int .u64 a0_7) := (blk_cell BK480.out 7).trans rfl; have hcz277_8 : w270.cell? ⟨gb480, 8, none⟩ = some (.int .u64 a0_8) := (blk_cell BK480.out 8).trans rfl; have hcz277_9 : w270.cell? ⟨gb480, 9, none⟩ = some (.int .u64 a0_9) := (blk_cell BK480.out 9).trans rfl; have hcz277_10 : w270.cell? ⟨gb480, 10, none⟩ = some (.int .u64 a0_10) := (blk_cell BK480.out 10).trans rfl; have hcz277_11 : w270.cell? ⟨gb480, 11, none⟩ = some (.int .u64 a0_11) := (blk_cell BK480.out 11).trans rfl; have hcz277_12 : w270.cell? ⟨gb480, 12, none⟩ = some (.int .u64 a0_12) := (blk_cell BK480.out 12).trans rfl; have hfz277_0 := blk_frozen BK480.out 0; have hfz277_1 := blk_frozen BK480.out 1; have hfz277_2 := blk_frozen BK480.out 2; have hfz277_3 := blk_frozen BK480.out 3; have hfz277_4 := blk_frozen BK480.out 4; have hfz277_5 := blk_frozen BK480.out 5; have hfz277_6 := blk_frozen BK480.out 6; have hfz277_7 := blk_frozen BK480.out 7; have hfz277_8 := blk_frozen BK480.out 8; have hfz277_9 := blk_frozen BK480.out 9; have hfz277_10 := blk_frozen BK480.out 10; have hfz277_11 := blk_frozen BK480.out 11; have hfz277_12 := blk_frozen BK480.out 12) | ((with_reducible refine gate_callee (f := 26) rfl ?_); refine gm (some 116) Try.func26 #[.agg #[.int .i64 a0_0, .int .u64 a0_1, .int .u64 a0_2, .int .u64 a0_3, .int .u64 a0_4], .agg #[.int .u64 a0_8, .int .u64 a0_9, .int .u64 a0_10], .agg #[.int .u64 a0_8, .int .u64 a0_9, .int .u64 a0_10]] (policy_Max.calls a0_0 a0_1 a0_2 a0_3 a0_4 a0_8 a0_9 a0_10 a0_8 a0_9 a0_10 t506 t507 t508 _ A176.out) ?_; intro w278 hb; have n0_ := bb BK480 hb; have n1_ := bb BK481 hb; have n2_ := bb BK483 hb; have n3_ := bb BK494 hb; have n4_ := bbp (.cells #[.int .u64 t502, .int .u64 t503, .int .u64 t504] 29 (0, 0)) BK505 hb; have n5_ := bs HB hb; clear BK480; clear BK481; clear BK483; clear BK494; clear BK505; clear HB; have BK480 := n0_; have BK481 := n1_; have BK483 := n2_; have BK494 := n3_; have BK505 := n4_; have HB := n5_; clear n0_ n1_ n2_ n3_ n4_ n5_; (try clear hb); (try clear hb2); (try clear hk); (try clear hi)) | ((with_reducible refine gate_dst (N := 12) rfl ?_); refine bx 12 #[.int .u64 0, .int .u64 0, .int .u64 0] 29 ?_; intro gb509 hg w279 hbox hb; have n0_ := bb BK480 hb; have n1_ := bb BK481 hb; have n2_ := bb BK483 hb; have n3_ := bb BK494 hb; have n4_ := bb BK505 hb; have n5_ := bs HB hb; have n6_ := Aside0.mk (hbox); have n7_ := sz HB hg; have n8_ := sz HB hg; have n9_ := nl BK480 hg; have n10_ := nr BK480 hg; have n11_ := nl BK481 hg; have n12_ := nr BK481 hg; have n13_ := nl BK483 hg; have n14_ := nr BK483 hg; have n15_ := nl BK494 hg; have n16_ := nr BK494 hg; have n17_ := nl BK505 hg; have n18_ := nr BK505 hg; clear BK480; clear BK481; clear BK483; clear BK494; clear BK505; clear HB; have BK480 := n0_; have BK481 := n1_; have BK483 := n2_; have BK494 := n3_; have BK505 := n4_; have HB := n5_; have BK509 := n6_; have GW509 := n7_; have GE509 := n8_; have NB480_509 := n9_; have NB509_480 := n10_; have NB481_509 := n11_; have NB509_481 := n12_; have NB483_509 := n13_; have NB509_483 := n14_; have NB494_509 := n15_; have NB509_494 := n16_; have NB505_509 := n17_; have NB509_505 := n18_; clear n0_ n1_ n2_ n3_ n4_ n5_ n6_ n7_ n8_ n9_ n10_ n11_ n12_ n13_ n14_ n15_ n16_ n17_ n18_; clear hb hbox hg; have hnb280 := NB509_480.out; have hnc280 := NB480_509.out; have hnb281 := NB509_481.out; have hnc281 := NB481_509.out; have hnb282 := NB509_483.out; have hnc282 := NB483_509.out; have hnb283 := NB509_494.out; have hnc283 := NB494_509.out; have hnb284 := NB509_505.out; have hnc284 := NB505_509.out; obtain ⟨hcz285_0, hcz285_1, hcz285_2, hfz285_0, hfz285_1, hfz285_2⟩ := bc3 BK509; have hnb286 := NB494_481.out; have hnc286 := NB481_494.out; obtain ⟨hcz287_0, hcz287_1, hcz287_2, hfz287_0, hfz287_1, hfz287_2⟩ := bc3 BK494; obtain ⟨hcz288_0, hcz288_1, hcz288_2, hfz288_0, hfz288_1, hfz288_2⟩ := bc3 BK505))
                  go_ret
                  exact ⟨re, bw HB⟩
              · rw [if_neg c233] at H
                have c233b0 : (t491 == t506 && (t492 == t507 && (t493 == t508))) = false := by simpa using c233
                (try (have c233b1 : decide (t491 = t506 && (t492 == t507 && (t493 == t508))) = false := by simpa using c233))
                (try (have c233b2 : (t491 == t506 && (t492 == t507 && (t493 == t508))) = false := by simpa using c233))
                (try (have c233b3 : ¬ (t491 = t506 && (t492 == t507 && (t493 == t508))) := by simpa using c233))
                clear c233
                obtain rfl := Option.some.inj H
                have hnb289 := NB483_480.out
                have hnc289 := NB480_483.out
                have hnb290 := NB483_481.out
                have hnc290 := NB481_483.out
                have hnb291 := NB483_494.out
                have hnc291 := NB494_483.out
                obtain ⟨hcz292_0, hcz292_1, hcz292_2, hcz292_3, hcz292_4, hfz292_0, hfz292_1, hfz292_2, hfz292_3, hfz292_4⟩ := bc5 BK483
                have hnb293 := NB480_481.out
                have hnc293 := NB481_480.out
                have hnb294 := NB480_494.out
                have hnc294 := NB494_480.out
                have hcz295_0 : wc.cell? ⟨gb480, 0, none⟩ = some (.int .i64 a0_0) := (blk_cell BK480.out 0).trans rfl
                have hcz295_1 : wc.cell? ⟨gb480, 1, none⟩ = some (.int .u64 a0_1) := (blk_cell BK480.out 1).trans rfl
                have hcz295_2 : wc.cell? ⟨gb480, 2, none⟩ = some (.int .u64 a0_2) := (blk_cell BK480.out 2).trans rfl
                have hcz295_3 : wc.cell? ⟨gb480, 3, none⟩ = some (.int .u64 a0_3) := (blk_cell BK480.out 3).trans rfl
                have hcz295_4 : wc.cell? ⟨gb480, 4, none⟩ = some (.int .u64 a0_4) := (blk_cell BK480.out 4).trans rfl
                have hcz295_5 : wc.cell? ⟨gb480, 5, none⟩ = some (.int .u64 a0_5) := (blk_cell BK480.out 5).trans rfl
                have hcz295_6 : wc.cell? ⟨gb480, 6, none⟩ = some (.int .u64 a0_6) := (blk_cell BK480.out 6).trans rfl
                have hcz295_7 : wc.cell? ⟨gb480, 7, none⟩ = some (.int .u64 a0_7) := (blk_cell BK480.out 7).trans rfl
                have hcz295_8 : wc.cell? ⟨gb480, 8, none⟩ = some (.int .u64 a0_8) := (blk_cell BK480.out 8).trans rfl
                have hcz295_9 : wc.cell? ⟨gb480, 9, none⟩ = some (.int .u64 a0_9) := (blk_cell BK480.out 9).trans rfl
                have hcz295_10 : wc.cell? ⟨gb480, 10, none⟩ = some (.int .u64 a0_10) := (blk_cell BK480.out 10).trans rfl
                have hcz295_11 : wc.cell? ⟨gb480, 11, none⟩ = some (.int .u64 a0_11) := (blk_cell BK480.out 11).trans rfl
                have hcz295_12 : wc.cell? ⟨gb480, 12, none⟩ = some (.int .u64 a0_12) := (blk_cell BK480.out 12).trans rfl
                have hfz295_0 := blk_frozen BK480.out 0
                have hfz295_1 := blk_frozen BK480.out 1
                have hfz295_2 := blk_frozen BK480.out 2
                have hfz295_3 := blk_frozen BK480.out 3
                have hfz295_4 := blk_frozen BK480.out 4
                have hfz295_5 := blk_frozen BK480.out 5
                have hfz295_6 := blk_frozen BK480.out 6
                have hfz295_7 := blk_frozen BK480.out 7
                have hfz295_8 := blk_frozen BK480.out 8
                have hfz295_9 := blk_frozen BK480.out 9
                have hfz295_10 := blk_frozen BK480.out 10
                have hfz295_11 := blk_frozen BK480.out 11
                have hfz295_12 := blk_frozen BK480.out 12
                go_wp2_with (first | ((with_reducible refine gate_callee (f := 26) rfl ?_); refine gm (some 110) Try.func26 #[.agg #[.int .i64 a0_0, .int .u64 a0_1, .int .u64 a0_2, .int .u64 a0_3, .int .u64 a0_4], .agg #[.int .u64 a0_5, .int .u64 a0_6, .int .u64 a0_7], .agg #[.int .u64 a0_5, .int .u64 a0_6, .int .u64 a0_7]] (policy_Max.calls a0_0 a0_1 a0_2 a0_3 a0_4 a0_5 a0_6 a0_7 a0_5 a0_6 a0_7 t502 t503 t504 _ A175.out) ?_; intro w296 hb; have n0_ := bb BK480 hb; have n1_ := bb BK481 hb; have n2_ := bb BK483 hb; have n3_ := bb BK494 hb; have n4_ := bs HB hb; clear BK480; clear BK481; clear BK483; clear BK494; clear HB; have BK480 := n0_; have BK481 := n1_; have BK483 := n2_; have BK494 := n3_; have HB := n4_; clear n0_ n1_ n2_ n3_ n4_; (try clear hb); (try clear hb2); (try clear hk); (try clear hi)) | ((with_reducible refine gate_dst (N := 11) rfl ?_); refine bx 11 #[.int .u64 0, .int .u64 0, .int .u64 0] 29 ?_; intro gb505 hg w297 hbox hb; have n0_ := bb BK480 hb; have n1_ := bb BK481 hb; have n2_ := bb BK483 hb; have n3_ := bb BK494 hb; have n4_ := bs HB hb; have n5_ := Aside0.mk (hbox); have n6_ := sz HB hg; have n7_ := sz HB hg; have n8_ := nl BK480 hg; have n9_ := nr BK480 hg; have n10_ := nl BK481 hg; have n11_ := nr BK481 hg; have n12_ := nl BK483 hg; have n13_ := nr BK483 hg; have n14_ := nl BK494 hg; have n15_ := nr BK494 hg; clear BK480; clear BK481; clear BK483; clear BK494; clear HB; have BK480 := n0_; have BK481 := n1_; have BK483 := n2_; have BK494 := n3_; have HB := n4_; have BK505 := n5_; have GW505 := n6_; have GE505 := n7_; have NB480_505 := n8_; have NB505_480 := n9_; have NB481_505 := n10_; have NB505_481 := n11_; have NB483_505 := n12_; have NB505_483 := n13_; have NB494_505 := n14_; have NB505_494 := n15_; clear n0_ n1_ n2_ n3_ n4_ n5_ n6_ n7_ n8_ n9_ n10_ n11_ n12_ n13_ n14_ n15_; clear hb hbox hg; have hnb298 := NB505_480.out; have hnc298 := NB480_505.out; have hnb299 := NB505_481.out; have hnc299 := NB481_505.out; have hnb300 := NB505_483.out; have hnc300 := NB483_505.out; have hnb301 := NB505_494.out; have hnc301 := NB494_505.out; obtain ⟨hcz302_0, hcz302_1, hcz302_2, hfz302_0, hfz302_1, hfz302_2⟩ := bc3 BK505; obtain ⟨hcz303_0, hcz303_1, hcz303_2, hcz303_3, hcz303_4, hfz303_0, hfz303_1, hfz303_2, hfz303_3, hfz303_4⟩ := bc5 BK483; have hcz304_0 : w297.cell? ⟨gb480, 0, none⟩ = some (.int .i64 a0_0) := (blk_cell BK480.out 0).trans rfl; have hcz304_1 : w297.cell? ⟨gb480, 1, none⟩ = some (.int .u64 a0_1) := (blk_cell BK480.out 1).trans rfl; have hcz304_2 : w297.cell? ⟨gb480, 2, none⟩ = some (.int .u64 a0_2) := (blk_cell BK480.out 2).trans rfl; have hcz304_3 : w297.cell? ⟨gb480, 3, none⟩ = some (.int .u64 a0_3) := (blk_cell BK480.out 3).trans rfl; have hcz304_4 : w297.cell? ⟨gb480, 4, none⟩ = some (.int .u64 a0_4) := (blk_cell BK480.out 4).trans rfl; have hcz304_5 : w297.cell? ⟨gb480, 5, none⟩ = some (.int .u64 a0_5) := (blk_cell BK480.out 5).trans rfl; have hcz304_6 : w297.cell? ⟨gb480, 6, none⟩ = some (.int .u64 a0_6) := (blk_cell BK480.out 6).trans rfl; have hcz304_7 : w297.cell? ⟨gb480, 7, none⟩ = some (.int .u64 a0_7) := (blk_cell BK480.out 7).trans rfl; have hcz304_8 : w297.cell? ⟨gb480, 8, none⟩ = some (.int .u64 a0_8) := (blk_cell BK480.out 8).trans rfl; have hcz304_9 : w297.cell? ⟨gb480, 9, none⟩ = some (.int .u64 a0_9) := (blk_cell BK480.out 9).trans rfl; have hcz304_10 : w297.cell? ⟨gb480, 10, none⟩ = some (.int .u64 a0_10) := (blk_cell BK480.out 10).trans rfl; have hcz304_11 : w297.cell? ⟨gb480, 11, none⟩ = some (.int .u64 a0_11) := (blk_cell BK480.out 11).trans rfl; have hcz304_12 : w297.cell? ⟨gb480, 12, none⟩ = some (.int .u64 a0_12) := (blk_cell BK480.out 12).trans rfl; have hfz304_0 := blk_frozen BK480.out 0; have hfz304_1 := blk_frozen BK480.out 1; have hfz304_2 := blk_frozen BK480.out 2; have hfz304_3 := blk_frozen BK480.out 3; have hfz304_4 := blk_frozen BK480.out 4; have hfz304_5 := blk_frozen BK480.out 5; have hfz304_6 := blk_frozen BK480.out 6; have hfz304_7 := blk_frozen BK480.out 7; have hfz304_8 := blk_frozen BK480.out 8; have hfz304_9 := blk_frozen BK480.out 9; have hfz304_10 := blk_frozen BK480.out 10; have hfz304_11 := blk_frozen BK480.out 11; have hfz304_12 := blk_frozen BK480.out 12) | ((with_reducible refine gate_callee (f := 26) rfl ?_); refine gm (some 116) Try.func26 #[.agg #[.int .i64 a0_0, .int .u64 a0_1, .int .u64 a0_2, .int .u64 a0_3, .int .u64 a0_4], .agg #[.int .u64 a0_8, .int .u64 a0_9, .int .u64 a0_10], .agg #[.int .u64 a0_8, .int .u64 a0_9, .int .u64 a0_10]] (policy_Max.calls a0_0 a0_1 a0_2 a0_3 a0_4 a0_8 a0_9 a0_10 a0_8 a0_9 a0_10 t506 t507 t508 _ A176.out) ?_; intro w305 hb; have n0_ := bb BK480 hb; have n1_ := bb BK481 hb; have n2_ := bb BK483 hb; have n3_ := bb BK494 hb; have n4_ := bbp (.cells #[.int .u64 t502, .int .u64 t503, .int .u64 t504] 29 (0, 0)) BK505 hb; have n5_ := bs HB hb; clear BK480; clear BK481; clear BK483; clear BK494; clear BK505; clear HB; have BK480 := n0_; have BK481 := n1_; have BK483 := n2_; have BK494 := n3_; have BK505 := n4_; have HB := n5_; clear n0_ n1_ n2_ n3_ n4_ n5_; (try clear hb); (try clear hb2); (try clear hk); (try clear hi)) | ((with_reducible refine gate_dst (N := 12) rfl ?_); refine bx 12 #[.int .u64 0, .int .u64 0, .int .u64 0] 29 ?_; intro gb509 hg w306 hbox hb; have n0_ := bb BK480 hb; have n1_ := bb BK481 hb; have n2_ := bb BK483 hb; have n3_ := bb BK494 hb; have n4_ := bb BK505 hb; have n5_ := bs HB hb; have n6_ := Aside0.mk (hbox); have n7_ := sz HB hg; have n8_ := sz HB hg; have n9_ := nl BK480 hg; have n10_ := nr BK480 hg; have n11_ := nl BK481 hg; have n12_ := nr BK481 hg; have n13_ := nl BK483 hg; have n14_ := nr BK483 hg; have n15_ := nl BK494 hg; have n16_ := nr BK494 hg; have n17_ := nl BK505 hg; have n18_ := nr BK505 hg; clear BK480; clear BK481; clear BK483; clear BK494; clear BK505; clear HB; have BK480 := n0_; have BK481 := n1_; have BK483 := n2_; have BK494 := n3_; have BK505 := n4_; have HB := n5_; have BK509 := n6_; have GW509 := n7_; have GE509 := n8_; have NB480_509 := n9_; have NB509_480 := n10_; have NB481_509 := n11_; have NB509_481 := n12_; have NB483_509 := n13_; have NB509_483 := n14_; have NB494_509 := n15_; have NB509_494 := n16_; have NB505_509 := n17_; have NB509_505 := n18_; clear n0_ n1_ n2_ n3_ n4_ n5_ n6_ n7_ n8_ n9_ n10_ n11_ n12_ n13_ n14_ n15_ n16_ n17_ n18_; clear hb hbox hg; have hnb307 := NB509_480.out; have hnc307 := NB480_509.out; have hnb308 := NB509_481.out; have hnc308 := NB481_509.out; have hnb309 := NB509_483.out; have hnc309 := NB483_509.out; have hnb310 := NB509_494.out; have hnc310 := NB494_509.out; have hnb311 := NB509_505.out; have hnc311 := NB505_509.out; obtain ⟨hcz312_0, hcz312_1, hcz312_2, hfz312_0, hfz312_1, hfz312_2⟩ := bc3 BK509; have hnb313 := NB494_481.out; have hnc313 := NB481_494.out; obtain ⟨hcz314_0, hcz314_1, hcz314_2, hfz314_0, hfz314_1, hfz314_2⟩ := bc3 BK494; obtain ⟨hcz315_0, hcz315_1, hcz315_2, hfz315_0, hfz315_1, hfz315_2⟩ := bc3 BK505))
                go_ret
                exact ⟨re, bw HB⟩
    · replace c6 := Bool.eq_false_iff.mpr c6
      subst c6
      have H1 : ((policy_Covers.f a0_0 a0_1 a0_2 a0_3 a0_4 a0_5 a0_6 a0_7 a0_5 a0_6 a0_7).bind fun t485 => (if t485 = true then (some false) else ((policy_Covers.f a0_0 a0_1 a0_2 a0_3 a0_4 a0_5 a0_6 a0_7 a0_8 a0_9 a0_10).bind fun t486 => (some (!t486))))) = some r := by rw [if_neg (show ¬ (false = true) by decide)] at H; exact H
      clear H
      have H := H1
      clear H1
      replace H := Option.bind_eq_some_iff.mp H
      obtain ⟨t485, A3160, H⟩ := H
      replace H : (if t485 = true then (some false) else ((policy_Covers.f a0_0 a0_1 a0_2 a0_3 a0_4 a0_5 a0_6 a0_7 a0_8 a0_9 a0_10).bind fun t486 => (some (!t486)))) = some r := H
      have A316 := Aside0.mk A3160
      clear A3160
      by_cases c317 : t485 = true
      · subst c317
        have H1 : (some false) = some r := by rw [if_pos rfl] at H; exact H
        clear H
        have H := H1
        clear H1
        obtain rfl := Option.some.inj H
        go_enter Try.func6, Try.ntmps6
        go_wp2_with (first | ((with_reducible refine gate_dst (N := 2) rfl ?_); refine bx 2 #[.int .i64 a0_0, .int .u64 a0_1, .int .u64 a0_2, .int .u64 a0_3, .int .u64 a0_4, .int .u64 a0_5, .int .u64 a0_6, .int .u64 a0_7, .int .u64 a0_8, .int .u64 a0_9, .int .u64 a0_10, .int .u64 a0_11, .int .u64 a0_12] 31 ?_; intro gb480 hg w318 hbox hb; have n0_ := bs HB hb; have n1_ := Aside0.mk (hbox); have n2_ := sz HB hg; have n3_ := sz HB hg; clear HB; have HB := n0_; have BK480 := n1_; have GW480 := n2_; have GE480 := n3_; clear n0_ n1_ n2_ n3_; clear hb hbox hg) | ((with_reducible refine gate_dst (N := 3) rfl ?_); refine bx 3 #[.int .u64 a1_0, .int .u64 a1_1, .int .u64 a1_2] 29 ?_; intro gb481 hg w319 hbox hb; have n0_ := bb BK480 hb; have n1_ := bs HB hb; have n2_ := Aside0.mk (hbox); have n3_ := sz HB hg; have n4_ := sz HB hg; have n5_ := nl BK480 hg; have n6_ := nr BK480 hg; clear BK480; clear HB; have BK480 := n0_; have HB := n1_; have BK481 := n2_; have GW481 := n3_; have GE481 := n4_; have NB480_481 := n5_; have NB481_480 := n6_; clear n0_ n1_ n2_ n3_ n4_ n5_ n6_; clear hb hbox hg) | ((with_reducible refine gate_callee (f := 14) rfl ?_); refine gm (some 13) Try.func14 #[] (turnstilelaw06_awake.calls k  true _ A3.out) ?_; intro w320 hb; have n0_ := bb BK480 hb; have n1_ := bb BK481 hb; have n2_ := bs HB hb; clear BK480; clear BK481; clear HB; have BK480 := n0_; have BK481 := n1_; have HB := n2_; clear n0_ n1_ n2_; (try clear hb); (try clear hb2); (try clear hk); (try clear hi); have hnb321 := NB480_481.out; have hnc321 := NB481_480.out; have hcz322_0 : w320.cell? ⟨gb480, 0, none⟩ = some (.int .i64 a0_0) := (blk_cell BK480.out 0).trans rfl; have hcz322_1 : w320.cell? ⟨gb480, 1, none⟩ = some (.int .u64 a0_1) := (blk_cell BK480.out 1).trans rfl; have hcz322_2 : w320.cell? ⟨gb480, 2, none⟩ = some (.int .u64 a0_2) := (blk_cell BK480.out 2).trans rfl; have hcz322_3 : w320.cell? ⟨gb480, 3, none⟩ = some (.int .u64 a0_3) := (blk_cell BK480.out 3).trans rfl; have hcz322_4 : w320.cell? ⟨gb480, 4, none⟩ = some (.int .u64 a0_4) := (blk_cell BK480.out 4).trans rfl; have hcz322_5 : w320.cell? ⟨gb480, 5, none⟩ = some (.int .u64 a0_5) := (blk_cell BK480.out 5).trans rfl; have hcz322_6 : w320.cell? ⟨gb480, 6, none⟩ = some (.int .u64 a0_6) := (blk_cell BK480.out 6).trans rfl; have hcz322_7 : w320.cell? ⟨gb480, 7, none⟩ = some (.int .u64 a0_7) := (blk_cell BK480.out 7).trans rfl; have hcz322_8 : w320.cell? ⟨gb480, 8, none⟩ = some (.int .u64 a0_8) := (blk_cell BK480.out 8).trans rfl; have hcz322_9 : w320.cell? ⟨gb480, 9, none⟩ = some (.int .u64 a0_9) := (blk_cell BK480.out 9).trans rfl; have hcz322_10 : w320.cell? ⟨gb480, 10, none⟩ = some (.int .u64 a0_10) := (blk_cell BK480.out 10).trans rfl; have hcz322_11 : w320.cell? ⟨gb480, 11, none⟩ = some (.int .u64 a0_11) := (blk_cell BK480.out 11).trans rfl; have hcz322_12 : w320.cell? ⟨gb480, 12, none⟩ = some (.int .u64 a0_12) := (blk_cell BK480.out 12).trans rfl; have hfz322_0 := blk_frozen BK480.out 0; have hfz322_1 := blk_frozen BK480.out 1; have hfz322_2 := blk_frozen BK480.out 2; have hfz322_3 := blk_frozen BK480.out 3; have hfz322_4 := blk_frozen BK480.out 4; have hfz322_5 := blk_frozen BK480.out 5; have hfz322_6 := blk_frozen BK480.out 6; have hfz322_7 := blk_frozen BK480.out 7; have hfz322_8 := blk_frozen BK480.out 8; have hfz322_9 := blk_frozen BK480.out 9; have hfz322_10 := blk_frozen BK480.out 10; have hfz322_11 := blk_frozen BK480.out 11; have hfz322_12 := blk_frozen BK480.out 12) | ((with_reducible refine gate_dst (N := 5) rfl ?_); refine bx 5 #[.int .i64 0, .int .u64 0, .int .u64 0, .int .u64 0, .int .u64 0] 27 ?_; intro gb483 hg w323 hbox hb; have n0_ := bb BK480 hb; have n1_ := bb BK481 hb; have n2_ := bs HB hb; have n3_ := Aside0.mk (hbox); have n4_ := sz HB hg; have n5_ := sz HB hg; have n6_ := nl BK480 hg; have n7_ := nr BK480 hg; have n8_ := nl BK481 hg; have n9_ := nr BK481 hg; clear BK480; clear BK481; clear HB; have BK480 := n0_; have BK481 := n1_; have HB := n2_; have BK483 := n3_; have GW483 := n4_; have GE483 := n5_; have NB480_483 := n6_; have NB483_480 := n7_; have NB481_483 := n8_; have NB483_481 := n9_; clear n0_ n1_ n2_ n3_ n4_ n5_ n6_ n7_ n8_ n9_; clear hb hbox hg; have hnb324 := NB483_480.out; have hnc324 := NB480_483.out; have hnb325 := NB483_481.out; have hnc325 := NB481_483.out; obtain ⟨hcz326_0, hcz326_1, hcz326_2, hcz326_3, hcz326_4, hfz326_0, hfz326_1, hfz326_2, hfz326_3, hfz326_4⟩ := bc5 BK483) | ((with_reducible refine gate_callee (f := 18) rfl ?_); refine gm (some 18) Try.func18 #[.agg #[.int .i64 a0_0, .int .u64 a0_1, .int .u64 a0_2, .int .u64 a0_3, .int .u64 a0_4]] (policy_Valid.calls a0_0 a0_1 a0_2 a0_3 a0_4 false _ A5.out) ?_; intro w327 hb; have n0_ := bb BK480 hb; have n1_ := bb BK481 hb; have n2_ := bbp (.cells #[.int .i64 a0_0, .int .u64 a0_1, .int .u64 a0_2, .int .u64 a0_3, .int .u64 a0_4] 27 (0, 0)) BK483 hb; have n3_ := bs HB hb; clear BK480; clear BK481; clear BK483; clear HB; have BK480 := n0_; have BK481 := n1_; have BK483 := n2_; have HB := n3_; clear n0_ n1_ n2_ n3_; (try clear hb); (try clear hb2); (try clear hk); (try clear hi); obtain ⟨hcz328_0, hcz328_1, hcz328_2, hcz328_3, hcz328_4, hfz328_0, hfz328_1, hfz328_2, hfz328_3, hfz328_4⟩ := bc5 BK483; have hcz329_0 : w327.cell? ⟨gb480, 0, none⟩ = some (.int .i64 a0_0) := (blk_cell BK480.out 0).trans rfl; have hcz329_1 : w327.cell? ⟨gb480, 1, none⟩ = some (.int .u64 a0_1) := (blk_cell BK480.out 1).trans rfl; have hcz329_2 : w327.cell? ⟨gb480, 2, none⟩ = some (.int .u64 a0_2) := (blk_cell BK480.out 2).trans rfl; have hcz329_3 : w327.cell? ⟨gb480, 3, none⟩ = some (.int .u64 a0_3) := (blk_cell BK480.out 3).trans rfl; have hcz329_4 : w327.cell? ⟨gb480, 4, none⟩ = some (.int .u64 a0_4) := (blk_cell BK480.out 4).trans rfl; have hcz329_5 : w327.cell? ⟨gb480, 5, none⟩ = some (.int .u64 a0_5) := (blk_cell BK480.out 5).trans rfl; have hcz329_6 : w327.cell? ⟨gb480, 6, none⟩ = some (.int .u64 a0_6) := (blk_cell BK480.out 6).trans rfl; have hcz329_7 : w327.cell? ⟨gb480, 7, none⟩ = some (.int .u64 a0_7) := (blk_cell BK480.out 7).trans rfl; have hcz329_8 : w327.cell? ⟨gb480, 8, none⟩ = some (.int .u64 a0_8) := (blk_cell BK480.out 8).trans rfl; have hcz329_9 : w327.cell? ⟨gb480, 9, none⟩ = some (.int .u64 a0_9) := (blk_cell BK480.out 9).trans rfl; have hcz329_10 : w327.cell? ⟨gb480, 10, none⟩ = some (.int .u64 a0_10) := (blk_cell BK480.out 10).trans rfl; have hcz329_11 : w327.cell? ⟨gb480, 11, none⟩ = some (.int .u64 a0_11) := (blk_cell BK480.out 11).trans rfl; have hcz329_12 : w327.cell? ⟨gb480, 12, none⟩ = some (.int .u64 a0_12) := (blk_cell BK480.out 12).trans rfl; have hfz329_0 := blk_frozen BK480.out 0; have hfz329_1 := blk_frozen BK480.out 1; have hfz329_2 := blk_frozen BK480.out 2; have hfz329_3 := blk_frozen BK480.out 3; have hfz329_4 := blk_frozen BK480.out 4; have hfz329_5 := blk_frozen BK480.out 5; have hfz329_6 := blk_frozen BK480.out 6; have hfz329_7 := blk_frozen BK480.out 7; have hfz329_8 := blk_frozen BK480.out 8; have hfz329_9 := blk_frozen BK480.out 9; have hfz329_10 := blk_frozen BK480.out 10; have hfz329_11 := blk_frozen BK480.out 11; have hfz329_12 := blk_frozen BK480.out 12) | ((with_reducible refine gate_callee (f := 27) rfl ?_); refine gm (some 25) Try.func27 #[.agg #[.int .i64 a0_0, .int .u64 a0_1, .int .u64 a0_2, .int .u64 a0_3, .int .u64 a0_4], .agg #[.int .u64 a0_5, .int .u64 a0_6, .int .u64 a0_7], .agg #[.int .u64 a0_5, .int .u64 a0_6, .int .u64 a0_7]] (policy_Covers.calls a0_0 a0_1 a0_2 a0_3 a0_4 a0_5 a0_6 a0_7 a0_5 a0_6 a0_7 true _ A316.out) ?_; intro w330 hb; have n0_ := bb BK480 hb; have n1_ := bb BK481 hb; have n2_ := bb BK483 hb; have n3_ := bs HB hb; clear BK480; clear BK481; clear BK483; clear HB; have BK480 := n0_; have BK481 := n1_; have BK483 := n2_; have HB := n3_; clear n0_ n1_ n2_ n3_; (try clear hb); (try clear hb2); (try clear hk); (try clear hi)))
        go_ret
        exact ⟨re, bw HB⟩
      · replace c317 := Bool.eq_false_iff.mpr c317
        subst c317
        have H1 : ((policy_Covers.f a0_0 a0_1 a0_2 a0_3 a0_4 a0_5 a0_6 a0_7 a0_8 a0_9 a0_10).bind fun t486 => (some (!t486))) = some r := by rw [if_neg (show ¬ (false = true) by decide)] at H; exact H
        clear H
        have H := H1
        clear H1
        replace H := Option.bind_eq_some_iff.mp H
        obtain ⟨t486, A3310, H⟩ := H
        replace H : (some (!t486)) = some r := H
        have A331 := Aside0.mk A3310
        clear A3310
        obtain rfl := Option.some.inj H
        go_enter Try.func6, Try.ntmps6
        go_wp2_with (first | ((with_reducible refine gate_dst (N := 2) rfl ?_); refine bx 2 #[.int .i64 a0_0, .int .u64 a0_1, .int .u64 a0_2, .int .u64 a0_3, .int .u64 a0_4, .int .u64 a0_5, .int .u64 a0_6, .int .u64 a0_7, .int .u64 a0_8, .int .u64 a0_9, .int .u64 a0_10, .int .u64 a0_11, .int .u64 a0_12] 31 ?_; intro gb480 hg w332 hbox hb; have n0_ := bs HB hb; have n1_ := Aside0.mk (hbox); have n2_ := sz HB hg; have n3_ := sz HB hg; clear HB; have HB := n0_; have BK480 := n1_; have GW480 := n2_; have GE480 := n3_; clear n0_ n1_ n2_ n3_; clear hb hbox hg) | ((with_reducible refine gate_dst (N := 3) rfl ?_); refine bx 3 #[.int .u64 a1_0, .int .u64 a1_1, .int .u64 a1_2] 29 ?_; intro gb481 hg w333 hbox hb; have n0_ := bb BK480 hb; have n1_ := bs HB hb; have n2_ := Aside0.mk (hbox); have n3_ := sz HB hg; have n4_ := sz HB hg; have n5_ := nl BK480 hg; have n6_ := nr BK480 hg; clear BK480; clear HB; have BK480 := n0_; have HB := n1_; have BK481 := n2_; have GW481 := n3_; have GE481 := n4_; have NB480_481 := n5_; have NB481_480 := n6_; clear n0_ n1_ n2_ n3_ n4_ n5_ n6_; clear hb hbox hg) | ((with_reducible refine gate_callee (f := 14) rfl ?_); refine gm (some 13) Try.func14 #[] (turnstilelaw06_awake.calls k  true _ A3.out) ?_; intro w334 hb; have n0_ := bb BK480 hb; have n1_ := bb BK481 hb; have n2_ := bs HB hb; clear BK480; clear BK481; clear HB; have BK480 := n0_; have BK481 := n1_; have HB := n2_; clear n0_ n1_ n2_; (try clear hb); (try clear hb2); (try clear hk); (try clear hi); have hnb335 := NB480_481.out; have hnc335 := NB481_480.out; have hcz336_0 : w334.cell? ⟨gb480, 0, none⟩ = some (.int .i64 a0_0) := (blk_cell BK480.out 0).trans rfl; have hcz336_1 : w334.cell? ⟨gb480, 1, none⟩ = some (.int .u64 a0_1) := (blk_cell BK480.out 1).trans rfl; have hcz336_2 : w334.cell? ⟨gb480, 2, none⟩ = some (.int .u64 a0_2) := (blk_cell BK480.out 2).trans rfl; have hcz336_3 : w334.cell? ⟨gb480, 3, none⟩ = some (.int .u64 a0_3) := (blk_cell BK480.out 3).trans rfl; have hcz336_4 : w334.cell? ⟨gb480, 4, none⟩ = some (.int .u64 a0_4) := (blk_cell BK480.out 4).trans rfl; have hcz336_5 : w334.cell? ⟨gb480, 5, none⟩ = some (.int .u64 a0_5) := (blk_cell BK480.out 5).trans rfl; have hcz336_6 : w334.cell? ⟨gb480, 6, none⟩ = some (.int .u64 a0_6) := (blk_cell BK480.out 6).trans rfl; have hcz336_7 : w334.cell? ⟨gb480, 7, none⟩ = some (.int .u64 a0_7) := (blk_cell BK480.out 7).trans rfl; have hcz336_8 : w334.cell? ⟨gb480, 8, none⟩ = some (.int .u64 a0_8) := (blk_cell BK480.out 8).trans rfl; have hcz336_9 : w334.cell? ⟨gb480, 9, none⟩ = some (.int .u64 a0_9) := (blk_cell BK480.out 9).trans rfl; have hcz336_10 : w334.cell? ⟨gb480, 10, none⟩ = some (.int .u64 a0_10) := (blk_cell BK480.out 10).trans rfl; have hcz336_11 : w334.cell? ⟨gb480, 11, none⟩ = some (.int .u64 a0_11) := (blk_cell BK480.out 11).trans rfl; have hcz336_12 : w334.cell? ⟨gb480, 12, none⟩ = some (.int .u64 a0_12) := (blk_cell BK480.out 12).trans rfl; have hfz336_0 := blk_frozen BK480.out 0; have hfz336_1 := blk_frozen BK480.out 1; have hfz336_2 := blk_frozen BK480.out 2; have hfz336_3 := blk_frozen BK480.out 3; have hfz336_4 := blk_frozen BK480.out 4; have hfz336_5 := blk_frozen BK480.out 5; have hfz336_6 := blk_frozen BK480.out 6; have hfz336_7 := blk_frozen BK480.out 7; have hfz336_8 := blk_frozen BK480.out 8; have hfz336_9 := blk_frozen BK480.out 9; have hfz336_10 := blk_frozen BK480.out 10; have hfz336_11 := blk_frozen BK480.out 11; have hfz336_12 := blk_frozen BK480.out 12) | ((with_reducible refine gate_dst (N := 5) rfl ?_); refine bx 5 #[.int .i64 0, .int .u64 0, .int .u64 0, .int .u64 0, .int .u64 0] 27 ?_; intro gb483 hg w337 hbox hb; have n0_ := bb BK480 hb; have n1_ := bb BK481 hb; have n2_ := bs HB hb; have n3_ := Aside0.mk (hbox); have n4_ := sz HB hg; have n5_ := sz HB hg; have n6_ := nl BK480 hg; have n7_ := nr BK480 hg; have n8_ := nl BK481 hg; have n9_ := nr BK481 hg; clear BK480; clear BK481; clear HB; have BK480 := n0_; have BK481 := n1_; have HB := n2_; have BK483 := n3_; have GW483 := n4_; have GE483 := n5_; have NB480_483 := n6_; have NB483_480 := n7_; have NB481_483 := n8_; have NB483_481 := n9_; clear n0_ n1_ n2_ n3_ n4_ n5_ n6_ n7_ n8_ n9_; clear hb hbox hg; have hnb338 := NB483_480.out; have hnc338 := NB480_483.out; have hnb339 := NB483_481.out; have hnc339 := NB481_483.out; obtain ⟨hcz340_0, hcz340_1, hcz340_2, hcz340_3, hcz340_4, hfz340_0, hfz340_1, hfz340_2, hfz340_3, hfz340_4⟩ := bc5 BK483) | ((with_reducible refine gate_callee (f := 18) rfl ?_); refine gm (some 18) Try.func18 #[.agg #[.int .i64 a0_0, .int .u64 a0_1, .int .u64 a0_2, .int .u64 a0_3, .int .u64 a0_4]] (policy_Valid.calls a0_0 a0_1 a0_2 a0_3 a0_4 false _ A5.out) ?_; intro w341 hb; have n0_ := bb BK480 hb; have n1_ := bb BK481 hb; have n2_ := bbp (.cells #[.int .i64 a0_0, .int .u64 a0_1, .int .u64 a0_2, .int .u64 a0_3, .int .u64 a0_4] 27 (0, 0)) BK483 hb; have n3_ := bs HB hb; clear BK480; clear BK481; clear BK483; clear HB; have BK480 := n0_; have BK481 := n1_; have BK483 := n2_; have HB := n3_; clear n0_ n1_ n2_ n3_; (try clear hb); (try clear hb2); (try clear hk); (try clear hi); obtain ⟨hcz342_0, hcz342_1, hcz342_2, hcz342_3, hcz342_4, hfz342_0, hfz342_1, hfz342_2, hfz342_3, hfz342_4⟩ := bc5 BK483; have hcz343_0 : w341.cell? ⟨gb480, 0, none⟩ = some (.int .i64 a0_0) := (blk_cell BK480.out 0).trans rfl; have hcz343_1 : w341.cell? ⟨gb480, 1, none⟩ = some (.int .u64 a0_1) := (blk_cell BK480.out 1).trans rfl; have hcz343_2 : w341.cell? ⟨gb480, 2, none⟩ = some (.int .u64 a0_2) := (blk_cell BK480.out 2).trans rfl; have hcz343_3 : w341.cell? ⟨gb480, 3, none⟩ = some (.int .u64 a0_3) := (blk_cell BK480.out 3).trans rfl; have hcz343_4 : w341.cell? ⟨gb480, 4, none⟩ = some (.int .u64 a0_4) := (blk_cell BK480.out 4).trans rfl; have hcz343_5 : w341.cell? ⟨gb480, 5, none⟩ = some (.int .u64 a0_5) := (blk_cell BK480.out 5).trans rfl; have hcz343_6 : w341.cell? ⟨gb480, 6, none⟩ = some (.int .u64 a0_6) := (blk_cell BK480.out 6).trans rfl; have hcz343_7 : w341.cell? ⟨gb480, 7, none⟩ = some (.int .u64 a0_7) := (blk_cell BK480.out 7).trans rfl; have hcz343_8 : w341.cell? ⟨gb480, 8, none⟩ = some (.int .u64 a0_8) := (blk_cell BK480.out 8).trans rfl; have hcz343_9 : w341.cell? ⟨gb480, 9, none⟩ = some (.int .u64 a0_9) := (blk_cell BK480.out 9).trans rfl; have hcz343_10 : w341.cell? ⟨gb480, 10, none⟩ = some (.int .u64 a0_10) := (blk_cell BK480.out 10).trans rfl; have hcz343_11 : w341.cell? ⟨gb480, 11, none⟩ = some (.int .u64 a0_11) := (blk_cell BK480.out 11).trans rfl; have hcz343_12 : w341.cell? ⟨gb480, 12, none⟩ = some (.int .u64 a0_12) := (blk_cell BK480.out 12).trans rfl; have hfz343_0 := blk_frozen BK480.out 0; have hfz343_1 := blk_frozen BK480.out 1; have hfz343_2 := blk_frozen BK480.out 2; have hfz343_3 := blk_frozen BK480.out 3; have hfz343_4 := blk_frozen BK480.out 4; have hfz343_5 := blk_frozen BK480.out 5; have hfz343_6 := blk_frozen BK480.out 6; have hfz343_7 := blk_frozen BK480.out 7; have hfz343_8 := blk_frozen BK480.out 8; have hfz343_9 := blk_frozen BK480.out 9; have hfz343_10 := blk_frozen BK480.out 10; have hfz343_11 := blk_frozen BK480.out 11; have hfz343_12 := blk_frozen BK480.out 12) | ((with_reducible refine gate_callee (f := 27) rfl ?_); refine gm (some 25) Try.func27 #[.agg #[.int .i64 a0_0, .int .u64 a0_1, .int .u64 a0_2, .int .u64 a0_3, .int .u64 a0_4], .agg #[.int .u64 a0_5, .int .u64 a0_6, .int .u64 a0_7], .agg #[.int .u64 a0_5, .int .u64 a0_6, .int .u64 a0_7]] (policy_Covers.calls a0_0 a0_1 a0_2 a0_3 a0_4 a0_5 a0_6 a0_7 a0_5 a0_6 a0_7 false _ A316.out) ?_; intro w344 hb; have n0_ := bb BK480 hb; have n1_ := bb BK481 hb; have n2_ := bb BK483 hb; have n3_ := bs HB hb; clear BK480; clear BK481; clear BK483; clear HB; have BK480 := n0_; have BK481 := n1_; have BK483 := n2_; have HB := n3_; clear n0_ n1_ n2_ n3_; (try clear hb); (try clear hb2); (try clear hk); (try clear hi); obtain ⟨hcz345_0, hcz345_1, hcz345_2, hcz345_3, hcz345_4, hfz345_0, hfz345_1, hfz345_2, hfz345_3, hfz345_4⟩ := bc5 BK483; have hcz346_0 : w344.cell? ⟨gb480, 0, none⟩ = some (.int .i64 a0_0) := (blk_cell BK480.out 0).trans rfl; have hcz346_1 : w344.cell? ⟨gb480, 1, none⟩ = some (.int .u64 a0_1) := (blk_cell BK480.out 1).trans rfl; have hcz346_2 : w344.cell? ⟨gb480, 2, none⟩ = some (.int .u64 a0_2) := (blk_cell BK480.out 2).trans rfl; have hcz346_3 : w344.cell? ⟨gb480, 3, none⟩ = some (.int .u64 a0_3) := (blk_cell BK480.out 3).trans rfl; have hcz346_4 : w344.cell? ⟨gb480, 4, none⟩ = some (.int .u64 a0_4) := (blk_cell BK480.out 4).trans rfl; have hcz346_5 : w344.cell? ⟨gb480, 5, none⟩ = some (.int .u64 a0_5) := (blk_cell BK480.out 5).trans rfl; have hcz346_6 : w344.cell? ⟨gb480, 6, none⟩ = some (.int .u64 a0_6) := (blk_cell BK480.out 6).trans rfl; have hcz346_7 : w344.cell? ⟨gb480, 7, none⟩ = some (.int .u64 a0_7) := (blk_cell BK480.out 7).trans rfl; have hcz346_8 : w344.cell? ⟨gb480, 8, none⟩ = some (.int .u64 a0_8) := (blk_cell BK480.out 8).trans rfl; have hcz346_9 : w344.cell? ⟨gb480, 9, none⟩ = some (.int .u64 a0_9) := (blk_cell BK480.out 9).trans rfl; have hcz346_10 : w344.cell? ⟨gb480, 10, none⟩ = some (.int .u64 a0_10) := (blk_cell BK480.out 10).trans rfl; have hcz346_11 : w344.cell? ⟨gb480, 11, none⟩ = some (.int .u64 a0_11) := (blk_cell BK480.out 11).trans rfl; have hcz346_12 : w344.cell? ⟨gb480, 12, none⟩ = some (.int .u64 a0_12) := (blk_cell BK480.out 12).trans rfl; have hfz346_0 := blk_frozen BK480.out 0; have hfz346_1 := blk_frozen BK480.out 1; have hfz346_2 := blk_frozen BK480.out 2; have hfz346_3 := blk_frozen BK480.out 3; have hfz346_4 := blk_frozen BK480.out 4; have hfz346_5 := blk_frozen BK480.out 5; have hfz346_6 := blk_frozen BK480.out 6; have hfz346_7 := blk_frozen BK480.out 7; have hfz346_8 := blk_frozen BK480.out 8; have hfz346_9 := blk_frozen BK480.out 9; have hfz346_10 := blk_frozen BK480.out 10; have hfz346_11 := blk_frozen BK480.out 11; have hfz346_12 := blk_frozen BK480.out 12) | (go_at_call 27; (with_reducible refine (policy_Covers.calls a0_0 a0_1 a0_2 a0_3 a0_4 a0_5 a0_6 a0_7 a0_8 a0_9 a0_10 t486 _ A331.out).mono ?_); rintro e w347 ⟨rfl, hb⟩; have n0_ := bb BK480 hb; have n1_ := bb BK481 hb; have n2_ := bb BK483 hb; have n3_ := bs HB hb; clear BK480; clear BK481; clear BK483; clear HB; have BK480 := n0_; have BK481 := n1_; have BK483 := n2_; have HB := n3_; clear n0_ n1_ n2_ n3_; (try clear hb); (try clear hb2); (try clear hk); (try clear hi)))
        go_ret
        exact ⟨re, bw HB⟩
  · replace c4 := Bool.eq_false_iff.mpr c4
    subst c4
    have H1 : (some false) = some r := by rw [if_neg (show ¬ (false = true) by decide)] at H; exact H
    clear H
    have H := H1
    clear H1
    obtain rfl := Option.some.inj H
    go_enter Try.func6, Try.ntmps6
    go_wp2_with (first | ((with_reducible refine gate_dst (N := 2) rfl ?_); refine bx 2 #[.int .i64 a0_0, .int .u64 a0_1, .int .u64 a0_2, .int .u64 a0_3, .int .u64 a0_4, .int .u64 a0_5, .int .u64 a0_6, .int .u64 a0_7, .int .u64 a0_8, .int .u64 a0_9, .int .u64 a0_10, .int .u64 a0_11, .int .u64 a0_12] 31 ?_; intro gb480 hg w348 hbox hb; have n0_ := bs HB hb; have n1_ := Aside0.mk (hbox); have n2_ := sz HB hg; have n3_ := sz HB hg; clear HB; have HB := n0_; have BK480 := n1_; have GW480 := n2_; have GE480 := n3_; clear n0_ n1_ n2_ n3_; clear hb hbox hg) | ((with_reducible refine gate_dst (N := 3) rfl ?_); refine bx 3 #[.int .u64 a1_0, .int .u64 a1_1, .int .u64 a1_2] 29 ?_; intro gb481 hg w349 hbox hb; have n0_ := bb BK480 hb; have n1_ := bs HB hb; have n2_ := Aside0.mk (hbox); have n3_ := sz HB hg; have n4_ := sz HB hg; have n5_ := nl BK480 hg; have n6_ := nr BK480 hg; clear BK480; clear HB; have BK480 := n0_; have HB := n1_; have BK481 := n2_; have GW481 := n3_; have GE481 := n4_; have NB480_481 := n5_; have NB481_480 := n6_; clear n0_ n1_ n2_ n3_ n4_ n5_ n6_; clear hb hbox hg) | ((with_reducible refine gate_callee (f := 14) rfl ?_); refine gm (some 13) Try.func14 #[] (turnstilelaw06_awake.calls k  false _ A3.out) ?_; intro w350 hb; have n0_ := bb BK480 hb; have n1_ := bb BK481 hb; have n2_ := bs HB hb; clear BK480; clear BK481; clear HB; have BK480 := n0_; have BK481 := n1_; have HB := n2_; clear n0_ n1_ n2_; (try clear hb); (try clear hb2); (try clear hk); (try clear hi)))
    go_ret
    exact ⟨re, bw HB⟩


end Go.Proofs.Ytokfhdpokemekaa.Q
