/- Written by the session's own program hyb.py: what functions of the program compute; Lean checks it. -/
import Derived.Test.YtokfhdpokemekaaQx0
import Derived.Test.YtokfhdpokemekaaQx1
import Derived.Test.YtokfhdpokemekaaQx5
import Derived.Test.YtokfhdpokemekaaQx6
import Derived.Test.YtokfhdpokemekaaQx11
import Derived.Test.YtokfhdpokemekaaQx13
import Derived.Test.YtokfhdpokemekaaQx14
import Derived.Test.YtokfhdpokemekaaQx16
import Derived.Test.YtokfhdpokemekaaQx17
import Derived.Test.YtokfhdpokemekaaQx18
import Derived.Test.YtokfhdpokemekaaQx21
namespace Go.Proofs.Ytokfhdpokemekaa.Q
open Go.RowKit Go.Proofs.YtokfhdpokemekaaW.PrintWords Go.Proofs.YtokfhdpokemekaaW.PrintLast Go.Proofs.YtokfhdpokemekaaW.PrintMore Go.Proofs.YtokfhdpokemekaaW.PrintShort
attribute [local go_sem] run_Add64 run_Sub64
attribute [local go_sem] max2_int min2_int max_two min_two max_three min_three max_four min_four   -- for this text's walks alone
set_option linter.unusedVariables false
set_option linter.unusedSimpArgs false

attribute [local go_sem high] eqA29
/-! ### turnstilelaw06_PolicyFace: function 4 -/
mutual
def turnstilelaw06_PolicyFace.j0 : Nat → Bool → Int → Int → Int → Int → Int → Int → Int → Int → Int → Int → Int → Int → Int → Option (Bool)
  | 0, _, _, _, _, _, _, _, _, _, _, _, _, _, _ => none
  | k + 1, x15, x416000, x416001, x416002, x416003, x416004, x416005, x416006, x416007, x416008, x416009, x416010, x416011, x416012 => if x15 = true then (some false) else ((policy_Admit.f k x416000 x416001 x416002 x416003 x416004 x416005 x416006 x416007 x416011 x416012).bind fun bt419 => ((policy_Left.f k x416000 x416001 x416002 x416003 x416004 x416005 x416006 x416007 x416011).bind fun t425 => (turnstilelaw06_PolicyFace.j1 k bt419.2.2.2.1 bt419.2.2.2.2 t425 x416000 x416001 x416002 x416003 x416004 x416005 x416006 x416007 x416008 x416009 x416010 x416011 x416012 x416000 x416001 x416002 x416003 x416004 x416005 x416006 x416007 bt419.1 bt419.2.1 bt419.2.2.1)))
def turnstilelaw06_PolicyFace.j1 : Nat → Bool → Int → Int → Int → Int → Int → Int → Int → Int → Int → Int → Int → Int → Int → Int → Int → Int → Int → Int → Int → Int → Int → Int → Int → Int → Int → Int → Option (Bool)
  | 0, _, _, _, _, _, _, _, _, _, _, _, _, _, _, _, _, _, _, _, _, _, _, _, _, _, _, _ => none
  | k + 1, x6, x7, x8, x416000, x416001, x416002, x416003, x416004, x416005, x416006, x416007, x416008, x416009, x416010, x416011, x416012, x418000, x418001, x418002, x418003, x418004, x419000, x419001, x419002, x425000, x425001, x425002 => (policy_Valid.f x418000 x418001 x418002 x418003 x418004).bind fun t426 => (turnstilelaw06_PolicyFace.j2 k x6 x7 x8 (!t426) x416000 x416001 x416002 x416003 x416004 x416005 x416006 x416007 x416008 x416009 x416010 x416011 x416012 x418000 x418001 x418002 x418003 x418004 x419000 x419001 x419002 x425000 x425001 x425002)
def turnstilelaw06_PolicyFace.j2 : Nat → Bool → Int → Int → Bool → Int → Int → Int → Int → Int → Int → Int → Int → Int → Int → Int → Int → Int → Int → Int → Int → Int → Int → Int → Int → Int → Int → Int → Int → Option (Bool)
  | 0, _, _, _, _, _, _, _, _, _, _, _, _, _, _, _, _, _, _, _, _, _, _, _, _, _, _, _, _ => none
  | k + 1, x6, x7, x8, x38, x416000, x416001, x416002, x416003, x416004, x416005, x416006, x416007, x416008, x416009, x416010, x416011, x416012, x418000, x418001, x418002, x418003, x418004, x419000, x419001, x419002, x425000, x425001, x425002 => if x38 = true then (if (x425000 == 0 && (x425001 == 0 && (x425002 == 0))) = true then (if x6 = true then (some false) else (if x7 = 18446744073709551615 then (some (x8 == 0)) else (some false))) else (some false)) else (turnstilelaw06_PolicyFace.j3 k x6 x7 x8 (x418000 == 1) x416000 x416001 x416002 x416003 x416004 x416005 x416006 x416007 x416008 x416009 x416010 x416011 x416012 x418000 x418001 x418002 x418003 x418004 x419000 x419001 x419002 x425000 x425001 x425002)
def turnstilelaw06_PolicyFace.j3 : Nat → Bool → Int → Int → Bool → Int → Int → Int → Int → Int → Int → Int → Int → Int → Int → Int → Int → Int → Int → Int → Int → Int → Int → Int → Int → Int → Int → Int → Int → Option (Bool)
  | 0, _, _, _, _, _, _, _, _, _, _, _, _, _, _, _, _, _, _, _, _, _, _, _, _, _, _, _, _ => none
  | k + 1, x6, x7, x8, x56, x416000, x416001, x416002, x416003, x416004, x416005, x416006, x416007, x416008, x416009, x416010, x416011, x416012, x418000, x418001, x418002, x418003, x418004, x419000, x419001, x419002, x425000, x425001, x425002 => if x56 = true then ((gcra_Admit.f k x418001 x418002 x419000 x416011 x416012).bind fun bt427 => (turnstilelaw06_PolicyFace.j4 k x6 x7 x8 bt427.1 bt427.2 x416000 x416001 x416002 x416003 x416004 x416005 x416006 x416007 x416008 x416009 x416010 x416011 x416012 x418000 x418001 x418002 x418003 x418004 x419000 x419001 x419002 x425000 x425001 x425002)) else ((window_Admit.f k x418003 x418004 x419001 x419002 x416011 x416012).bind fun bt434 => (turnstilelaw06_PolicyFace.j5 k x6 x7 x8 bt434.1 bt434.2.1 bt434.2.2 x416000 x416001 x416002 x416003 x416004 x416005 x416006 x416007 x416008 x416009 x416010 x416011 x416012 x418000 x418001 x418002 x418003 x418004 x419000 x419001 x419002 x425000 x425001 x425002))
def turnstilelaw06_PolicyFace.j4 : Nat → Bool → Int → Int → Int → Bool → Int → Int → Int → Int → Int → Int → Int → Int → Int → Int → Int → Int → Int → Int → Int → Int → Int → Int → Int → Int → Int → Int → Int → Int → Option (Bool)
  | 0, _, _, _, _, _, _, _, _, _, _, _, _, _, _, _, _, _, _, _, _, _, _, _, _, _, _, _, _, _ => none
  | k + 1, x6, x7, x8, x9, x10, x416000, x416001, x416002, x416003, x416004, x416005, x416006, x416007, x416008, x416009, x416010, x416011, x416012, x418000, x418001, x418002, x418003, x418004, x419000, x419001, x419002, x425000, x425001, x425002 => if x10 = true then (if (x425000 == x9 && (x425001 == 0 && (x425002 == 0))) = true then (if (x6 == x10) = true then (if x7 = 0 then ((gcra_Burst.f k x418001 x418002 x419000 x416011).bind fun t429 => (some (x8 == t429))) else (if x6 = true then (some false) else ((gcra_Burst.f k x418001 x418002 x419000 x416011).bind fun t430 => (some (x8 == t430))))) else (some false)) else (some false)) else ((gcra_Retry.f k x418001 x418002 x419000 x416011 x416012).bind fun t431 => (if x7 = t431 then (if (x425000 == x9 && (x425001 == 0 && (x425002 == 0))) = true then (if (x6 == x10) = true then (if x7 = 0 then ((gcra_Burst.f k x418001 x418002 x419000 x416011).bind fun t432 => (some (x8 == t432))) else (if x6 = true then (some false) else ((gcra_Burst.f k x418001 x418002 x419000 x416011).bind fun t433 => (some (x8 == t433))))) else (some false)) else (some false)) else (some false)))
def turnstilelaw06_PolicyFace.j5 : Nat → Bool → Int → Int → Int → Int → Bool → Int → Int → Int → Int → Int → Int → Int → Int → Int → Int → Int → Int → Int → Int → Int → Int → Int → Int → Int → Int → Int → Int → Int → Int → Option (Bool)
  | 0, _, _, _, _, _, _, _, _, _, _, _, _, _, _, _, _, _, _, _, _, _, _, _, _, _, _, _, _, _, _ => none
  | k + 1, x6, x7, x8, x11, x12, x13, x416000, x416001, x416002, x416003, x416004, x416005, x416006, x416007, x416008, x416009, x416010, x416011, x416012, x418000, x418001, x418002, x418003, x418004, x419000, x419001, x419002, x425000, x425001, x425002 => if x13 = true then (if (x425000 == 0 && (x425001 == x11 && (x425002 == x12))) = true then (if (x6 == x13) = true then (if x7 = 0 then ((window_Left.f x418003 x418004 x419001 x419002 x416011).bind fun t437 => (some (x8 == t437))) else (if x6 = true then (some false) else ((window_Left.f x418003 x418004 x419001 x419002 x416011).bind fun t438 => (some (x8 == t438))))) else (some false)) else (some false)) else ((window_Retry.f k x418003 x418004 x419001 x419002 x416011 x416012).bind fun t439 => (if x7 = t439 then (if (x425000 == 0 && (x425001 == x11 && (x425002 == x12))) = true then (if (x6 == x13) = true then (if x7 = 0 then ((window_Left.f x418003 x418004 x419001 x419002 x416011).bind fun t440 => (some (x8 == t440))) else (if x6 = true then (some false) else ((window_Left.f x418003 x418004 x419001 x419002 x416011).bind fun t441 => (some (x8 == t441))))) else (some false)) else (some false)) else (some false)))
end
def turnstilelaw06_PolicyFace.f (k : Nat) (a0_0 : Int) (a0_1 : Int) (a0_2 : Int) (a0_3 : Int) (a0_4 : Int) (a0_5 : Int) (a0_6 : Int) (a0_7 : Int) (a0_8 : Int) (a0_9 : Int) (a0_10 : Int) (a0_11 : Int) (a0_12 : Int) : Option (Bool) := (turnstilelaw06_awake.f k).bind fun t416 => (turnstilelaw06_PolicyFace.j0 k (!t416) a0_0 a0_1 a0_2 a0_3 a0_4 a0_5 a0_6 a0_7 a0_8 a0_9 a0_10 a0_11 a0_12)
theorem turnstilelaw06_PolicyFace.mono_l : ∀ k, (∀ y0 y1 y2 y3 y4 y5 y6 y7 y8 y9 y10 y11 y12 y13, LeO (turnstilelaw06_PolicyFace.j0 k y0 y1 y2 y3 y4 y5 y6 y7 y8 y9 y10 y11 y12 y13) (turnstilelaw06_PolicyFace.j0 (k + 1) y0 y1 y2 y3 y4 y5 y6 y7 y8 y9 y10 y11 y12 y13)) ∧ (∀ y0 y1 y2 y3 y4 y5 y6 y7 y8 y9 y10 y11 y12 y13 y14 y15 y16 y17 y18 y19 y20 y21 y22 y23 y24 y25 y26, LeO (turnstilelaw06_PolicyFace.j1 k y0 y1 y2 y3 y4 y5 y6 y7 y8 y9 y10 y11 y12 y13 y14 y15 y16 y17 y18 y19 y20 y21 y22 y23 y24 y25 y26) (turnstilelaw06_PolicyFace.j1 (k + 1) y0 y1 y2 y3 y4 y5 y6 y7 y8 y9 y10 y11 y12 y13 y14 y15 y16 y17 y18 y19 y20 y21 y22 y23 y24 y25 y26)) ∧ (∀ y0 y1 y2 y3 y4 y5 y6 y7 y8 y9 y10 y11 y12 y13 y14 y15 y16 y17 y18 y19 y20 y21 y22 y23 y24 y25 y26 y27, LeO (turnstilelaw06_PolicyFace.j2 k y0 y1 y2 y3 y4 y5 y6 y7 y8 y9 y10 y11 y12 y13 y14 y15 y16 y17 y18 y19 y20 y21 y22 y23 y24 y25 y26 y27) (turnstilelaw06_PolicyFace.j2 (k + 1) y0 y1 y2 y3 y4 y5 y6 y7 y8 y9 y10 y11 y12 y13 y14 y15 y16 y17 y18 y19 y20 y21 y22 y23 y24 y25 y26 y27)) ∧ (∀ y0 y1 y2 y3 y4 y5 y6 y7 y8 y9 y10 y11 y12 y13 y14 y15 y16 y17 y18 y19 y20 y21 y22 y23 y24 y25 y26 y27, LeO (turnstilelaw06_PolicyFace.j3 k y0 y1 y2 y3 y4 y5 y6 y7 y8 y9 y10 y11 y12 y13 y14 y15 y16 y17 y18 y19 y20 y21 y22 y23 y24 y25 y26 y27) (turnstilelaw06_PolicyFace.j3 (k + 1) y0 y1 y2 y3 y4 y5 y6 y7 y8 y9 y10 y11 y12 y13 y14 y15 y16 y17 y18 y19 y20 y21 y22 y23 y24 y25 y26 y27)) ∧ (∀ y0 y1 y2 y3 y4 y5 y6 y7 y8 y9 y10 y11 y12 y13 y14 y15 y16 y17 y18 y19 y20 y21 y22 y23 y24 y25 y26 y27 y28, LeO (turnstilelaw06_PolicyFace.j4 k y0 y1 y2 y3 y4 y5 y6 y7 y8 y9 y10 y11 y12 y13 y14 y15 y16 y17 y18 y19 y20 y21 y22 y23 y24 y25 y26 y27 y28) (turnstilelaw06_PolicyFace.j4 (k + 1) y0 y1 y2 y3 y4 y5 y6 y7 y8 y9 y10 y11 y12 y13 y14 y15 y16 y17 y18 y19 y20 y21 y22 y23 y24 y25 y26 y27 y28)) ∧ (∀ y0 y1 y2 y3 y4 y5 y6 y7 y8 y9 y10 y11 y12 y13 y14 y15 y16 y17 y18 y19 y20 y21 y22 y23 y24 y25 y26 y27 y28 y29, LeO (turnstilelaw06_PolicyFace.j5 k y0 y1 y2 y3 y4 y5 y6 y7 y8 y9 y10 y11 y12 y13 y14 y15 y16 y17 y18 y19 y20 y21 y22 y23 y24 y25 y26 y27 y28 y29) (turnstilelaw06_PolicyFace.j5 (k + 1) y0 y1 y2 y3 y4 y5 y6 y7 y8 y9 y10 y11 y12 y13 y14 y15 y16 y17 y18 y19 y20 y21 y22 y23 y24 y25 y26 y27 y28 y29))
  | 0 => ⟨fun _ _ _ _ _ _ _ _ _ _ _ _ _ _ r h => by simp [turnstilelaw06_PolicyFace.j0] at h, fun _ _ _ _ _ _ _ _ _ _ _ _ _ _ _ _ _ _ _ _ _ _ _ _ _ _ _ r h => by simp [turnstilelaw06_PolicyFace.j1] at h, fun _ _ _ _ _ _ _ _ _ _ _ _ _ _ _ _ _ _ _ _ _ _ _ _ _ _ _ _ r h => by simp [turnstilelaw06_PolicyFace.j2] at h, fun _ _ _ _ _ _ _ _ _ _ _ _ _ _ _ _ _ _ _ _ _ _ _ _ _ _ _ _ r h => by simp [turnstilelaw06_PolicyFace.j3] at h, fun _ _ _ _ _ _ _ _ _ _ _ _ _ _ _ _ _ _ _ _ _ _ _ _ _ _ _ _ _ r h => by simp [turnstilelaw06_PolicyFace.j4] at h, fun _ _ _ _ _ _ _ _ _ _ _ _ _ _ _ _ _ _ _ _ _ _ _ _ _ _ _ _ _ _ r h => by simp [turnstilelaw06_PolicyFace.j5] at h⟩
  | k + 1 => by
    obtain ⟨ih0, ih1, ih2, ih3, ih4, ih5⟩ := turnstilelaw06_PolicyFace.mono_l k
    refine ⟨?_, ?_, ?_, ?_, ?_, ?_⟩
    · intro y0 y1 y2 y3 y4 y5 y6 y7 y8 y9 y10 y11 y12 y13
      unfold turnstilelaw06_PolicyFace.j0
      repeat' first
      | (with_reducible exact ih0 _ _ _ _ _ _ _ _ _ _ _ _ _ _)
      | (with_reducible exact ih1 _ _ _ _ _ _ _ _ _ _ _ _ _ _ _ _ _ _ _ _ _ _ _ _ _ _ _)
      | (with_reducible exact ih2 _ _ _ _ _ _ _ _ _ _ _ _ _ _ _ _ _ _ _ _ _ _ _ _ _ _ _ _)
      | (with_reducible exact ih3 _ _ _ _ _ _ _ _ _ _ _ _ _ _ _ _ _ _ _ _ _ _ _ _ _ _ _ _)
      | (with_reducible exact ih4 _ _ _ _ _ _ _ _ _ _ _ _ _ _ _ _ _ _ _ _ _ _ _ _ _ _ _ _ _)
      | (with_reducible exact ih5 _ _ _ _ _ _ _ _ _ _ _ _ _ _ _ _ _ _ _ _ _ _ _ _ _ _ _ _ _ _)
      | (with_reducible exact gcra_Admit.mono _ _ _ _ _ _)
      | (with_reducible exact gcra_Burst.mono _ _ _ _ _)
      | (with_reducible exact gcra_Retry.mono _ _ _ _ _ _)
      | (with_reducible exact policy_Admit.mono _ _ _ _ _ _ _ _ _ _ _)
      | (with_reducible exact policy_Left.mono _ _ _ _ _ _ _ _ _ _)
      | (with_reducible exact turnstilelaw06_awake.mono _)
      | (with_reducible exact window_Admit.mono _ _ _ _ _ _ _)
      | (with_reducible exact window_Retry.mono _ _ _ _ _ _ _)
      | (with_reducible exact LeO.refl _)
      | (with_reducible exact LeO.none _)
      | (with_reducible refine LeO.ite ?_ ?_)
      | (with_reducible refine LeO.bind ?_ (fun _ => ?_))
      | exact ih0 _ _ _ _ _ _ _ _ _ _ _ _ _ _
      | exact ih1 _ _ _ _ _ _ _ _ _ _ _ _ _ _ _ _ _ _ _ _ _ _ _ _ _ _ _
      | exact ih2 _ _ _ _ _ _ _ _ _ _ _ _ _ _ _ _ _ _ _ _ _ _ _ _ _ _ _ _
      | exact ih3 _ _ _ _ _ _ _ _ _ _ _ _ _ _ _ _ _ _ _ _ _ _ _ _ _ _ _ _
      | exact ih4 _ _ _ _ _ _ _ _ _ _ _ _ _ _ _ _ _ _ _ _ _ _ _ _ _ _ _ _ _
      | exact ih5 _ _ _ _ _ _ _ _ _ _ _ _ _ _ _ _ _ _ _ _ _ _ _ _ _ _ _ _ _ _
      | exact gcra_Admit.mono _ _ _ _ _ _
      | exact gcra_Burst.mono _ _ _ _ _
      | exact gcra_Retry.mono _ _ _ _ _ _
      | exact policy_Admit.mono _ _ _ _ _ _ _ _ _ _ _
      | exact policy_Left.mono _ _ _ _ _ _ _ _ _ _
      | exact turnstilelaw06_awake.mono _
      | exact window_Admit.mono _ _ _ _ _ _ _
      | exact window_Retry.mono _ _ _ _ _ _ _
      | exact LeO.none _
      | refine LeO.ite ?_ ?_
      | refine LeO.bind ?_ (fun _ => ?_)
    · intro y0 y1 y2 y3 y4 y5 y6 y7 y8 y9 y10 y11 y12 y13 y14 y15 y16 y17 y18 y19 y20 y21 y22 y23 y24 y25 y26
      unfold turnstilelaw06_PolicyFace.j1
      repeat' first
      | (with_reducible exact ih0 _ _ _ _ _ _ _ _ _ _ _ _ _ _)
      | (with_reducible exact ih1 _ _ _ _ _ _ _ _ _ _ _ _ _ _ _ _ _ _ _ _ _ _ _ _ _ _ _)
      | (with_reducible exact ih2 _ _ _ _ _ _ _ _ _ _ _ _ _ _ _ _ _ _ _ _ _ _ _ _ _ _ _ _)
      | (with_reducible exact ih3 _ _ _ _ _ _ _ _ _ _ _ _ _ _ _ _ _ _ _ _ _ _ _ _ _ _ _ _)
      | (with_reducible exact ih4 _ _ _ _ _ _ _ _ _ _ _ _ _ _ _ _ _ _ _ _ _ _ _ _ _ _ _ _ _)
      | (with_reducible exact ih5 _ _ _ _ _ _ _ _ _ _ _ _ _ _ _ _ _ _ _ _ _ _ _ _ _ _ _ _ _ _)
      | (with_reducible exact gcra_Admit.mono _ _ _ _ _ _)
      | (with_reducible exact gcra_Burst.mono _ _ _ _ _)
      | (with_reducible exact gcra_Retry.mono _ _ _ _ _ _)
      | (with_reducible exact policy_Admit.mono _ _ _ _ _ _ _ _ _ _ _)
      | (with_reducible exact policy_Left.mono _ _ _ _ _ _ _ _ _ _)
      | (with_reducible exact turnstilelaw06_awake.mono _)
      | (with_reducible exact window_Admit.mono _ _ _ _ _ _ _)
      | (with_reducible exact window_Retry.mono _ _ _ _ _ _ _)
      | (with_reducible exact LeO.refl _)
      | (with_reducible exact LeO.none _)
      | (with_reducible refine LeO.ite ?_ ?_)
      | (with_reducible refine LeO.bind ?_ (fun _ => ?_))
      | exact ih0 _ _ _ _ _ _ _ _ _ _ _ _ _ _
      | exact ih1 _ _ _ _ _ _ _ _ _ _ _ _ _ _ _ _ _ _ _ _ _ _ _ _ _ _ _
      | exact ih2 _ _ _ _ _ _ _ _ _ _ _ _ _ _ _ _ _ _ _ _ _ _ _ _ _ _ _ _
      | exact ih3 _ _ _ _ _ _ _ _ _ _ _ _ _ _ _ _ _ _ _ _ _ _ _ _ _ _ _ _
      | exact ih4 _ _ _ _ _ _ _ _ _ _ _ _ _ _ _ _ _ _ _ _ _ _ _ _ _ _ _ _ _
      | exact ih5 _ _ _ _ _ _ _ _ _ _ _ _ _ _ _ _ _ _ _ _ _ _ _ _ _ _ _ _ _ _
      | exact gcra_Admit.mono _ _ _ _ _ _
      | exact gcra_Burst.mono _ _ _ _ _
      | exact gcra_Retry.mono _ _ _ _ _ _
      | exact policy_Admit.mono _ _ _ _ _ _ _ _ _ _ _
      | exact policy_Left.mono _ _ _ _ _ _ _ _ _ _
      | exact turnstilelaw06_awake.mono _
      | exact window_Admit.mono _ _ _ _ _ _ _
      | exact window_Retry.mono _ _ _ _ _ _ _
      | exact LeO.none _
      | refine LeO.ite ?_ ?_
      | refine LeO.bind ?_ (fun _ => ?_)
    · intro y0 y1 y2 y3 y4 y5 y6 y7 y8 y9 y10 y11 y12 y13 y14 y15 y16 y17 y18 y19 y20 y21 y22 y23 y24 y25 y26 y27
      unfold turnstilelaw06_PolicyFace.j2
      repeat' first
      | (with_reducible exact ih0 _ _ _ _ _ _ _ _ _ _ _ _ _ _)
      | (with_reducible exact ih1 _ _ _ _ _ _ _ _ _ _ _ _ _ _ _ _ _ _ _ _ _ _ _ _ _ _ _)
      | (with_reducible exact ih2 _ _ _ _ _ _ _ _ _ _ _ _ _ _ _ _ _ _ _ _ _ _ _ _ _ _ _ _)
      | (with_reducible exact ih3 _ _ _ _ _ _ _ _ _ _ _ _ _ _ _ _ _ _ _ _ _ _ _ _ _ _ _ _)
      | (with_reducible exact ih4 _ _ _ _ _ _ _ _ _ _ _ _ _ _ _ _ _ _ _ _ _ _ _ _ _ _ _ _ _)
      | (with_reducible exact ih5 _ _ _ _ _ _ _ _ _ _ _ _ _ _ _ _ _ _ _ _ _ _ _ _ _ _ _ _ _ _)
      | (with_reducible exact gcra_Admit.mono _ _ _ _ _ _)
      | (with_reducible exact gcra_Burst.mono _ _ _ _ _)
      | (with_reducible exact gcra_Retry.mono _ _ _ _ _ _)
      | (with_reducible exact policy_Admit.mono _ _ _ _ _ _ _ _ _ _ _)
      | (with_reducible exact policy_Left.mono _ _ _ _ _ _ _ _ _ _)
      | (with_reducible exact turnstilelaw06_awake.mono _)
      | (with_reducible exact window_Admit.mono _ _ _ _ _ _ _)
      | (with_reducible exact window_Retry.mono _ _ _ _ _ _ _)
      | (with_reducible exact LeO.refl _)
      | (with_reducible exact LeO.none _)
      | (with_reducible refine LeO.ite ?_ ?_)
      | (with_reducible refine LeO.bind ?_ (fun _ => ?_))
      | exact ih0 _ _ _ _ _ _ _ _ _ _ _ _ _ _
      | exact ih1 _ _ _ _ _ _ _ _ _ _ _ _ _ _ _ _ _ _ _ _ _ _ _ _ _ _ _
      | exact ih2 _ _ _ _ _ _ _ _ _ _ _ _ _ _ _ _ _ _ _ _ _ _ _ _ _ _ _ _
      | exact ih3 _ _ _ _ _ _ _ _ _ _ _ _ _ _ _ _ _ _ _ _ _ _ _ _ _ _ _ _
      | exact ih4 _ _ _ _ _ _ _ _ _ _ _ _ _ _ _ _ _ _ _ _ _ _ _ _ _ _ _ _ _
      | exact ih5 _ _ _ _ _ _ _ _ _ _ _ _ _ _ _ _ _ _ _ _ _ _ _ _ _ _ _ _ _ _
      | exact gcra_Admit.mono _ _ _ _ _ _
      | exact gcra_Burst.mono _ _ _ _ _
      | exact gcra_Retry.mono _ _ _ _ _ _
      | exact policy_Admit.mono _ _ _ _ _ _ _ _ _ _ _
      | exact policy_Left.mono _ _ _ _ _ _ _ _ _ _
      | exact turnstilelaw06_awake.mono _
      | exact window_Admit.mono _ _ _ _ _ _ _
      | exact window_Retry.mono _ _ _ _ _ _ _
      | exact LeO.none _
      | refine LeO.ite ?_ ?_
      | refine LeO.bind ?_ (fun _ => ?_)
    · intro y0 y1 y2 y3 y4 y5 y6 y7 y8 y9 y10 y11 y12 y13 y14 y15 y16 y17 y18 y19 y20 y21 y22 y23 y24 y25 y26 y27
      unfold turnstilelaw06_PolicyFace.j3
      repeat' first
      | (with_reducible exact ih0 _ _ _ _ _ _ _ _ _ _ _ _ _ _)
      | (with_reducible exact ih1 _ _ _ _ _ _ _ _ _ _ _ _ _ _ _ _ _ _ _ _ _ _ _ _ _ _ _)
      | (with_reducible exact ih2 _ _ _ _ _ _ _ _ _ _ _ _ _ _ _ _ _ _ _ _ _ _ _ _ _ _ _ _)
      | (with_reducible exact ih3 _ _ _ _ _ _ _ _ _ _ _ _ _ _ _ _ _ _ _ _ _ _ _ _ _ _ _ _)
      | (with_reducible exact ih4 _ _ _ _ _ _ _ _ _ _ _ _ _ _ _ _ _ _ _ _ _ _ _ _ _ _ _ _ _)
      | (with_reducible exact ih5 _ _ _ _ _ _ _ _ _ _ _ _ _ _ _ _ _ _ _ _ _ _ _ _ _ _ _ _ _ _)
      | (with_reducible exact gcra_Admit.mono _ _ _ _ _ _)
      | (with_reducible exact gcra_Burst.mono _ _ _ _ _)
      | (with_reducible exact gcra_Retry.mono _ _ _ _ _ _)
      | (with_reducible exact policy_Admit.mono _ _ _ _ _ _ _ _ _ _ _)
      | (with_reducible exact policy_Left.mono _ _ _ _ _ _ _ _ _ _)
      | (with_reducible exact turnstilelaw06_awake.mono _)
      | (with_reducible exact window_Admit.mono _ _ _ _ _ _ _)
      | (with_reducible exact window_Retry.mono _ _ _ _ _ _ _)
      | (with_reducible exact LeO.refl _)
      | (with_reducible exact LeO.none _)
      | (with_reducible refine LeO.ite ?_ ?_)
      | (with_reducible refine LeO.bind ?_ (fun _ => ?_))
      | exact ih0 _ _ _ _ _ _ _ _ _ _ _ _ _ _
      | exact ih1 _ _ _ _ _ _ _ _ _ _ _ _ _ _ _ _ _ _ _ _ _ _ _ _ _ _ _
      | exact ih2 _ _ _ _ _ _ _ _ _ _ _ _ _ _ _ _ _ _ _ _ _ _ _ _ _ _ _ _
      | exact ih3 _ _ _ _ _ _ _ _ _ _ _ _ _ _ _ _ _ _ _ _ _ _ _ _ _ _ _ _
      | exact ih4 _ _ _ _ _ _ _ _ _ _ _ _ _ _ _ _ _ _ _ _ _ _ _ _ _ _ _ _ _
      | exact ih5 _ _ _ _ _ _ _ _ _ _ _ _ _ _ _ _ _ _ _ _ _ _ _ _ _ _ _ _ _ _
      | exact gcra_Admit.mono _ _ _ _ _ _
      | exact gcra_Burst.mono _ _ _ _ _
      | exact gcra_Retry.mono _ _ _ _ _ _
      | exact policy_Admit.mono _ _ _ _ _ _ _ _ _ _ _
      | exact policy_Left.mono _ _ _ _ _ _ _ _ _ _
      | exact turnstilelaw06_awake.mono _
      | exact window_Admit.mono _ _ _ _ _ _ _
      | exact window_Retry.mono _ _ _ _ _ _ _
      | exact LeO.none _
      | refine LeO.ite ?_ ?_
      | refine LeO.bind ?_ (fun _ => ?_)
    · intro y0 y1 y2 y3 y4 y5 y6 y7 y8 y9 y10 y11 y12 y13 y14 y15 y16 y17 y18 y19 y20 y21 y22 y23 y24 y25 y26 y27 y28
      unfold turnstilelaw06_PolicyFace.j4
      repeat' first
      | (with_reducible exact ih0 _ _ _ _ _ _ _ _ _ _ _ _ _ _)
      | (with_reducible exact ih1 _ _ _ _ _ _ _ _ _ _ _ _ _ _ _ _ _ _ _ _ _ _ _ _ _ _ _)
      | (with_reducible exact ih2 _ _ _ _ _ _ _ _ _ _ _ _ _ _ _ _ _ _ _ _ _ _ _ _ _ _ _ _)
      | (with_reducible exact ih3 _ _ _ _ _ _ _ _ _ _ _ _ _ _ _ _ _ _ _ _ _ _ _ _ _ _ _ _)
      | (with_reducible exact ih4 _ _ _ _ _ _ _ _ _ _ _ _ _ _ _ _ _ _ _ _ _ _ _ _ _ _ _ _ _)
      | (with_reducible exact ih5 _ _ _ _ _ _ _ _ _ _ _ _ _ _ _ _ _ _ _ _ _ _ _ _ _ _ _ _ _ _)
      | (with_reducible exact gcra_Admit.mono _ _ _ _ _ _)
      | (with_reducible exact gcra_Burst.mono _ _ _ _ _)
      | (with_reducible exact gcra_Retry.mono _ _ _ _ _ _)
      | (with_reducible exact policy_Admit.mono _ _ _ _ _ _ _ _ _ _ _)
      | (with_reducible exact policy_Left.mono _ _ _ _ _ _ _ _ _ _)
      | (with_reducible exact turnstilelaw06_awake.mono _)
      | (with_reducible exact window_Admit.mono _ _ _ _ _ _ _)
      | (with_reducible exact window_Retry.mono _ _ _ _ _ _ _)
      | (with_reducible exact LeO.refl _)
      | (with_reducible exact LeO.none _)
      | (with_reducible refine LeO.ite ?_ ?_)
      | (with_reducible refine LeO.bind ?_ (fun _ => ?_))
      | exact ih0 _ _ _ _ _ _ _ _ _ _ _ _ _ _
      | exact ih1 _ _ _ _ _ _ _ _ _ _ _ _ _ _ _ _ _ _ _ _ _ _ _ _ _ _ _
      | exact ih2 _ _ _ _ _ _ _ _ _ _ _ _ _ _ _ _ _ _ _ _ _ _ _ _ _ _ _ _
      | exact ih3 _ _ _ _ _ _ _ _ _ _ _ _ _ _ _ _ _ _ _ _ _ _ _ _ _ _ _ _
      | exact ih4 _ _ _ _ _ _ _ _ _ _ _ _ _ _ _ _ _ _ _ _ _ _ _ _ _ _ _ _ _
      | exact ih5 _ _ _ _ _ _ _ _ _ _ _ _ _ _ _ _ _ _ _ _ _ _ _ _ _ _ _ _ _ _
      | exact gcra_Admit.mono _ _ _ _ _ _
      | exact gcra_Burst.mono _ _ _ _ _
      | exact gcra_Retry.mono _ _ _ _ _ _
      | exact policy_Admit.mono _ _ _ _ _ _ _ _ _ _ _
      | exact policy_Left.mono _ _ _ _ _ _ _ _ _ _
      | exact turnstilelaw06_awake.mono _
      | exact window_Admit.mono _ _ _ _ _ _ _
      | exact window_Retry.mono _ _ _ _ _ _ _
      | exact LeO.none _
      | refine LeO.ite ?_ ?_
      | refine LeO.bind ?_ (fun _ => ?_)
    · intro y0 y1 y2 y3 y4 y5 y6 y7 y8 y9 y10 y11 y12 y13 y14 y15 y16 y17 y18 y19 y20 y21 y22 y23 y24 y25 y26 y27 y28 y29
      unfold turnstilelaw06_PolicyFace.j5
      repeat' first
      | (with_reducible exact ih0 _ _ _ _ _ _ _ _ _ _ _ _ _ _)
      | (with_reducible exact ih1 _ _ _ _ _ _ _ _ _ _ _ _ _ _ _ _ _ _ _ _ _ _ _ _ _ _ _)
      | (with_reducible exact ih2 _ _ _ _ _ _ _ _ _ _ _ _ _ _ _ _ _ _ _ _ _ _ _ _ _ _ _ _)
      | (with_reducible exact ih3 _ _ _ _ _ _ _ _ _ _ _ _ _ _ _ _ _ _ _ _ _ _ _ _ _ _ _ _)
      | (with_reducible exact ih4 _ _ _ _ _ _ _ _ _ _ _ _ _ _ _ _ _ _ _ _ _ _ _ _ _ _ _ _ _)
      | (with_reducible exact ih5 _ _ _ _ _ _ _ _ _ _ _ _ _ _ _ _ _ _ _ _ _ _ _ _ _ _ _ _ _ _)
      | (with_reducible exact gcra_Admit.mono _ _ _ _ _ _)
      | (with_reducible exact gcra_Burst.mono _ _ _ _ _)
      | (with_reducible exact gcra_Retry.mono _ _ _ _ _ _)
      | (with_reducible exact policy_Admit.mono _ _ _ _ _ _ _ _ _ _ _)
      | (with_reducible exact policy_Left.mono _ _ _ _ _ _ _ _ _ _)
      | (with_reducible exact turnstilelaw06_awake.mono _)
      | (with_reducible exact window_Admit.mono _ _ _ _ _ _ _)
      | (with_reducible exact window_Retry.mono _ _ _ _ _ _ _)
      | (with_reducible exact LeO.refl _)
      | (with_reducible exact LeO.none _)
      | (with_reducible refine LeO.ite ?_ ?_)
      | (with_reducible refine LeO.bind ?_ (fun _ => ?_))
      | exact ih0 _ _ _ _ _ _ _ _ _ _ _ _ _ _
      | exact ih1 _ _ _ _ _ _ _ _ _ _ _ _ _ _ _ _ _ _ _ _ _ _ _ _ _ _ _
      | exact ih2 _ _ _ _ _ _ _ _ _ _ _ _ _ _ _ _ _ _ _ _ _ _ _ _ _ _ _ _
      | exact ih3 _ _ _ _ _ _ _ _ _ _ _ _ _ _ _ _ _ _ _ _ _ _ _ _ _ _ _ _
      | exact ih4 _ _ _ _ _ _ _ _ _ _ _ _ _ _ _ _ _ _ _ _ _ _ _ _ _ _ _ _ _
      | exact ih5 _ _ _ _ _ _ _ _ _ _ _ _ _ _ _ _ _ _ _ _ _ _ _ _ _ _ _ _ _ _
      | exact gcra_Admit.mono _ _ _ _ _ _
      | exact gcra_Burst.mono _ _ _ _ _
      | exact gcra_Retry.mono _ _ _ _ _ _
      | exact policy_Admit.mono _ _ _ _ _ _ _ _ _ _ _
      | exact policy_Left.mono _ _ _ _ _ _ _ _ _ _
      | exact turnstilelaw06_awake.mono _
      | exact window_Admit.mono _ _ _ _ _ _ _
      | exact window_Retry.mono _ _ _ _ _ _ _
      | exact LeO.none _
      | refine LeO.ite ?_ ?_
      | refine LeO.bind ?_ (fun _ => ?_)
theorem turnstilelaw06_PolicyFace.mono : ∀ a0 a1 a2 a3 a4 a5 a6 a7 a8 a9 a10 a11 a12 k, LeO (turnstilelaw06_PolicyFace.f k a0 a1 a2 a3 a4 a5 a6 a7 a8 a9 a10 a11 a12) (turnstilelaw06_PolicyFace.f (k + 1) a0 a1 a2 a3 a4 a5 a6 a7 a8 a9 a10 a11 a12) := by
  intro a0 a1 a2 a3 a4 a5 a6 a7 a8 a9 a10 a11 a12 k
  obtain ⟨ih0, ih1, ih2, ih3, ih4, ih5⟩ := turnstilelaw06_PolicyFace.mono_l k
  unfold turnstilelaw06_PolicyFace.f
  repeat' first
      | (with_reducible exact ih0 _ _ _ _ _ _ _ _ _ _ _ _ _ _)
      | (with_reducible exact ih1 _ _ _ _ _ _ _ _ _ _ _ _ _ _ _ _ _ _ _ _ _ _ _ _ _ _ _)
      | (with_reducible exact ih2 _ _ _ _ _ _ _ _ _ _ _ _ _ _ _ _ _ _ _ _ _ _ _ _ _ _ _ _)
      | (with_reducible exact ih3 _ _ _ _ _ _ _ _ _ _ _ _ _ _ _ _ _ _ _ _ _ _ _ _ _ _ _ _)
      | (with_reducible exact ih4 _ _ _ _ _ _ _ _ _ _ _ _ _ _ _ _ _ _ _ _ _ _ _ _ _ _ _ _ _)
      | (with_reducible exact ih5 _ _ _ _ _ _ _ _ _ _ _ _ _ _ _ _ _ _ _ _ _ _ _ _ _ _ _ _ _ _)
      | (with_reducible exact gcra_Admit.mono _ _ _ _ _ _)
      | (with_reducible exact gcra_Burst.mono _ _ _ _ _)
      | (with_reducible exact gcra_Retry.mono _ _ _ _ _ _)
      | (with_reducible exact policy_Admit.mono _ _ _ _ _ _ _ _ _ _ _)
      | (with_reducible exact policy_Left.mono _ _ _ _ _ _ _ _ _ _)
      | (with_reducible exact turnstilelaw06_awake.mono _)
      | (with_reducible exact window_Admit.mono _ _ _ _ _ _ _)
      | (with_reducible exact window_Retry.mono _ _ _ _ _ _ _)
      | (with_reducible exact LeO.refl _)
      | (with_reducible exact LeO.none _)
      | (with_reducible refine LeO.ite ?_ ?_)
      | (with_reducible refine LeO.bind ?_ (fun _ => ?_))
      | exact ih0 _ _ _ _ _ _ _ _ _ _ _ _ _ _
      | exact ih1 _ _ _ _ _ _ _ _ _ _ _ _ _ _ _ _ _ _ _ _ _ _ _ _ _ _ _
      | exact ih2 _ _ _ _ _ _ _ _ _ _ _ _ _ _ _ _ _ _ _ _ _ _ _ _ _ _ _ _
      | exact ih3 _ _ _ _ _ _ _ _ _ _ _ _ _ _ _ _ _ _ _ _ _ _ _ _ _ _ _ _
      | exact ih4 _ _ _ _ _ _ _ _ _ _ _ _ _ _ _ _ _ _ _ _ _ _ _ _ _ _ _ _ _
      | exact ih5 _ _ _ _ _ _ _ _ _ _ _ _ _ _ _ _ _ _ _ _ _ _ _ _ _ _ _ _ _ _
      | exact gcra_Admit.mono _ _ _ _ _ _
      | exact gcra_Burst.mono _ _ _ _ _
      | exact gcra_Retry.mono _ _ _ _ _ _
      | exact policy_Admit.mono _ _ _ _ _ _ _ _ _ _ _
      | exact policy_Left.mono _ _ _ _ _ _ _ _ _ _
      | exact turnstilelaw06_awake.mono _
      | exact window_Admit.mono _ _ _ _ _ _ _
      | exact window_Retry.mono _ _ _ _ _ _ _
      | exact LeO.none _
      | refine LeO.ite ?_ ?_
      | refine LeO.bind ?_ (fun _ => ?_)
set_option maxHeartbeats 8000000 in
set_option maxRecDepth 100000 in
theorem turnstilelaw06_PolicyFace.calls (k : Nat) (a0_0 : Int) (a0_1 : Int) (a0_2 : Int) (a0_3 : Int) (a0_4 : Int) (a0_5 : Int) (a0_6 : Int) (a0_7 : Int) (a0_8 : Int) (a0_9 : Int) (a0_10 : Int) (a0_11 : Int) (a0_12 : Int) (r : Bool) (w : World) (h : turnstilelaw06_PolicyFace.f k a0_0 a0_1 a0_2 a0_3 a0_4 a0_5 a0_6 a0_7 a0_8 a0_9 a0_10 a0_11 a0_12 = some r) :
    Calls Try.prog 4 #[.agg #[.int .i64 a0_0, .int .u64 a0_1, .int .u64 a0_2, .int .u64 a0_3, .int .u64 a0_4, .int .u64 a0_5, .int .u64 a0_6, .int .u64 a0_7, .int .u64 a0_8, .int .u64 a0_9, .int .u64 a0_10, .int .u64 a0_11, .int .u64 a0_12]] w fun e w' => e = .returned (.bool r) ∧ Below w.heap.size w w' := by
  have hu31 := Try.underlying31
  have hu27 := Try.underlying27
  have hu29 := Try.underlying29
  have HB := Aside0.mk (Below.refl w.heap.size w)
  have H : ((turnstilelaw06_awake.f k).bind fun t416 => (turnstilelaw06_PolicyFace.j0 k (!t416) a0_0 a0_1 a0_2 a0_3 a0_4 a0_5 a0_6 a0_7 a0_8 a0_9 a0_10 a0_11 a0_12)) = some r := h
  clear h
  have HC2 := Aside0.mk H
  clear H
  go_enter Try.func4, Try.ntmps4
  go_upto_region 1 with (first | ((with_reducible refine gate_dst (N := 1) rfl ?_); refine bx 1 #[.int .i64 a0_0, .int .u64 a0_1, .int .u64 a0_2, .int .u64 a0_3, .int .u64 a0_4, .int .u64 a0_5, .int .u64 a0_6, .int .u64 a0_7, .int .u64 a0_8, .int .u64 a0_9, .int .u64 a0_10, .int .u64 a0_11, .int .u64 a0_12] 31 ?_; intro gb415 hg w3 hbox hb; have n0_ := bs HB hb; have n1_ := Aside0.mk (hbox); have n2_ := sz HB hg; have n3_ := sz HB hg; clear HB; have HB := n0_; have BK415 := n1_; have GW415 := n2_; have GE415 := n3_; clear n0_ n1_ n2_ n3_; clear hb hbox hg))
  (try simp only [Act.put, List.setIfInBounds_toArray, List.set_cons_zero, List.set_cons_succ])
  go_cut [15] (fun v15 wc => ∃ (kq : Nat) (x15_1 : Bool), v15 = .bool x15_1 ∧ Aside0 (turnstilelaw06_PolicyFace.j0 kq x15_1 a0_0 a0_1 a0_2 a0_3 a0_4 a0_5 a0_6 a0_7 a0_8 a0_9 a0_10 a0_11 a0_12 = some r) ∧ Aside0 (kq ≤ k) ∧ Aside0 (wc.heap[gb415]? = some (.cells #[.int .i64 a0_0, .int .u64 a0_1, .int .u64 a0_2, .int .u64 a0_3, .int .u64 a0_4, .int .u64 a0_5, .int .u64 a0_6, .int .u64 a0_7, .int .u64 a0_8, .int .u64 a0_9, .int .u64 a0_10, .int .u64 a0_11, .int .u64 a0_12] 31 (0, 0))) ∧ Aside0 (Below w.heap.size w wc))
  case first =>
    have H := HC2.out
    clear HC2
    replace H := Option.bind_eq_some_iff.mp H
    obtain ⟨t416, A40, H⟩ := H
    replace H : (turnstilelaw06_PolicyFace.j0 k (!t416) a0_0 a0_1 a0_2 a0_3 a0_4 a0_5 a0_6 a0_7 a0_8 a0_9 a0_10 a0_11 a0_12) = some r := H
    have A4 := Aside0.mk A40
    clear A40
    have H' := Aside0.mk H
    clear H
    go_wp2_with (first | ((with_reducible refine gate_callee (f := 14) rfl ?_); refine gm (some 14) Try.func14 #[] (turnstilelaw06_awake.calls k  t416 _ A4.out) ?_; intro w5 hb; have n0_ := bb BK415 hb; have n1_ := bs HB hb; clear BK415; clear HB; have BK415 := n0_; have HB := n1_; clear n0_ n1_; (try clear hb); (try clear hb2); (try clear hk); (try clear hi)))
    go_meet
    case rel => exact ⟨_, (!t416), rs, H', ⟨by first | omega | exact Nat.le_refl _⟩, ⟨bk BK415⟩, ⟨bw HB⟩⟩
  case rest => as_aux_lemma =>
    clear HC2
    try clear c1
    try clear p2
    try clear c4
    obtain ⟨kq, x15_1, rfl, HA, HJ1, BK415, HB⟩ := hcut
    cases kq with
    | zero => exact absurd HA.out (by simp [turnstilelaw06_PolicyFace.j0])
    | succ kj1 =>
      have H := HA.out
      clear HA
      simp only [turnstilelaw06_PolicyFace.j0] at H
      by_cases c6 : x15_1 = true
      · subst c6
        have H1 : (some false) = some r := by rw [if_pos rfl] at H; exact H
        clear H
        have H := H1
        clear H1
        obtain rfl := Option.some.inj H
        go_wp2
        go_ret
        exact ⟨re, bw HB⟩
      · replace c6 := Bool.eq_false_iff.mpr c6
        subst c6
        have H1 : ((policy_Admit.f kj1 a0_0 a0_1 a0_2 a0_3 a0_4 a0_5 a0_6 a0_7 a0_11 a0_12).bind fun bt419 => ((policy_Left.f kj1 a0_0 a0_1 a0_2 a0_3 a0_4 a0_5 a0_6 a0_7 a0_11).bind fun t425 => (turnstilelaw06_PolicyFace.j1 kj1 bt419.2.2.2.1 bt419.2.2.2.2 t425 a0_0 a0_1 a0_2 a0_3 a0_4 a0_5 a0_6 a0_7 a0_8 a0_9 a0_10 a0_11 a0_12 a0_0 a0_1 a0_2 a0_3 a0_4 a0_5 a0_6 a0_7 bt419.1 bt419.2.1 bt419.2.2.1))) = some r := by rw [if_neg (show ¬ (false = true) by decide)] at H; exact H
        clear H
        have H := H1
        clear H1
        replace H := Option.bind_eq_some_iff.mp H
        obtain ⟨⟨t419, t420, t421, t422, t423⟩, A70, H⟩ := H
        replace H : ((policy_Left.f kj1 a0_0 a0_1 a0_2 a0_3 a0_4 a0_5 a0_6 a0_7 a0_11).bind fun t425 => (turnstilelaw06_PolicyFace.j1 kj1 t422 t423 t425 a0_0 a0_1 a0_2 a0_3 a0_4 a0_5 a0_6 a0_7 a0_8 a0_9 a0_10 a0_11 a0_12 a0_0 a0_1 a0_2 a0_3 a0_4 a0_5 a0_6 a0_7 t419 t420 t421)) = some r := H
        have A7 := Aside0.mk A70
        clear A70
        have HC8 := Aside0.mk H
        clear H
        have hcz9_0 : wc.cell? ⟨gb415, 0, none⟩ = some (.int .i64 a0_0) := (blk_cell BK415.out 0).trans rfl
        have hcz9_1 : wc.cell? ⟨gb415, 1, none⟩ = some (.int .u64 a0_1) := (blk_cell BK415.out 1).trans rfl
        have hcz9_2 : wc.cell? ⟨gb415, 2, none⟩ = some (.int .u64 a0_2) := (blk_cell BK415.out 2).trans rfl
        have hcz9_3 : wc.cell? ⟨gb415, 3, none⟩ = some (.int .u64 a0_3) := (blk_cell BK415.out 3).trans rfl
        have hcz9_4 : wc.cell? ⟨gb415, 4, none⟩ = some (.int .u64 a0_4) := (blk_cell BK415.out 4).trans rfl
        have hcz9_5 : wc.cell? ⟨gb415, 5, none⟩ = some (.int .u64 a0_5) := (blk_cell BK415.out 5).trans rfl
        have hcz9_6 : wc.cell? ⟨gb415, 6, none⟩ = some (.int .u64 a0_6) := (blk_cell BK415.out 6).trans rfl
        have hcz9_7 : wc.cell? ⟨gb415, 7, none⟩ = some (.int .u64 a0_7) := (blk_cell BK415.out 7).trans rfl
        have hcz9_8 : wc.cell? ⟨gb415, 8, none⟩ = some (.int .u64 a0_8) := (blk_cell BK415.out 8).trans rfl
        have hcz9_9 : wc.cell? ⟨gb415, 9, none⟩ = some (.int .u64 a0_9) := (blk_cell BK415.out 9).trans rfl
        have hcz9_10 : wc.cell? ⟨gb415, 10, none⟩ = some (.int .u64 a0_10) := (blk_cell BK415.out 10).trans rfl
        have hcz9_11 : wc.cell? ⟨gb415, 11, none⟩ = some (.int .u64 a0_11) := (blk_cell BK415.out 11).trans rfl
        have hcz9_12 : wc.cell? ⟨gb415, 12, none⟩ = some (.int .u64 a0_12) := (blk_cell BK415.out 12).trans rfl
        have hfz9_0 := blk_frozen BK415.out 0
        have hfz9_1 := blk_frozen BK415.out 1
        have hfz9_2 := blk_frozen BK415.out 2
        have hfz9_3 := blk_frozen BK415.out 3
        have hfz9_4 := blk_frozen BK415.out 4
        have hfz9_5 := blk_frozen BK415.out 5
        have hfz9_6 := blk_frozen BK415.out 6
        have hfz9_7 := blk_frozen BK415.out 7
        have hfz9_8 := blk_frozen BK415.out 8
        have hfz9_9 := blk_frozen BK415.out 9
        have hfz9_10 := blk_frozen BK415.out 10
        have hfz9_11 := blk_frozen BK415.out 11
        have hfz9_12 := blk_frozen BK415.out 12
        go_upto_region 6 with (first | ((with_reducible refine gate_dst (N := 3) rfl ?_); refine bx 3 #[.int .i64 0, .int .u64 0, .int .u64 0, .int .u64 0, .int .u64 0] 27 ?_; intro gb417 hg w10 hbox hb; have n0_ := bb BK415 hb; have n1_ := bs HB hb; have n2_ := Aside0.mk (hbox); have n3_ := sz HB hg; have n4_ := sz HB hg; have n5_ := nl BK415 hg; have n6_ := nr BK415 hg; clear BK415; clear HB; have BK415 := n0_; have HB := n1_; have BK417 := n2_; have GW417 := n3_; have GE417 := n4_; have NB415_417 := n5_; have NB417_415 := n6_; clear n0_ n1_ n2_ n3_ n4_ n5_ n6_; clear hb hbox hg; have hnb11 := NB417_415.out; have hnc11 := NB415_417.out; obtain ⟨hcz12_0, hcz12_1, hcz12_2, hcz12_3, hcz12_4, hfz12_0, hfz12_1, hfz12_2, hfz12_3, hfz12_4⟩ := bc5 BK417; have hcz13_0 : w10.cell? ⟨gb415, 0, none⟩ = some (.int .i64 a0_0) := (blk_cell BK415.out 0).trans rfl; have hcz13_1 : w10.cell? ⟨gb415, 1, none⟩ = some (.int .u64 a0_1) := (blk_cell BK415.out 1).trans rfl; have hcz13_2 : w10.cell? ⟨gb415, 2, none⟩ = some (.int .u64 a0_2) := (blk_cell BK415.out 2).trans rfl; have hcz13_3 : w10.cell? ⟨gb415, 3, none⟩ = some (.int .u64 a0_3) := (blk_cell BK415.out 3).trans rfl; have hcz13_4 : w10.cell? ⟨gb415, 4, none⟩ = some (.int .u64 a0_4) := (blk_cell BK415.out 4).trans rfl; have hcz13_5 : w10.cell? ⟨gb415, 5, none⟩ = some (.int .u64 a0_5) := (blk_cell BK415.out 5).trans rfl; have hcz13_6 : w10.cell? ⟨gb415, 6, none⟩ = some (.int .u64 a0_6) := (blk_cell BK415.out 6).trans rfl; have hcz13_7 : w10.cell? ⟨gb415, 7, none⟩ = some (.int .u64 a0_7) := (blk_cell BK415.out 7).trans rfl; have hcz13_8 : w10.cell? ⟨gb415, 8, none⟩ = some (.int .u64 a0_8) := (blk_cell BK415.out 8).trans rfl; have hcz13_9 : w10.cell? ⟨gb415, 9, none⟩ = some (.int .u64 a0_9) := (blk_cell BK415.out 9).trans rfl; have hcz13_10 : w10.cell? ⟨gb415, 10, none⟩ = some (.int .u64 a0_10) := (blk_cell BK415.out 10).trans rfl; have hcz13_11 : w10.cell? ⟨gb415, 11, none⟩ = some (.int .u64 a0_11) := (blk_cell BK415.out 11).trans rfl; have hcz13_12 : w10.cell? ⟨gb415, 12, none⟩ = some (.int .u64 a0_12) := (blk_cell BK415.out 12).trans rfl; have hfz13_0 := blk_frozen BK415.out 0; have hfz13_1 := blk_frozen BK415.out 1; have hfz13_2 := blk_frozen BK415.out 2; have hfz13_3 := blk_frozen BK415.out 3; have hfz13_4 := blk_frozen BK415.out 4; have hfz13_5 := blk_frozen BK415.out 5; have hfz13_6 := blk_frozen BK415.out 6; have hfz13_7 := blk_frozen BK415.out 7; have hfz13_8 := blk_frozen BK415.out 8; have hfz13_9 := blk_frozen BK415.out 9; have hfz13_10 := blk_frozen BK415.out 10; have hfz13_11 := blk_frozen BK415.out 11; have hfz13_12 := blk_frozen BK415.out 12) | ((with_reducible refine gate_dst (N := 4) rfl ?_); refine bx 4 #[.int .u64 0, .int .u64 0, .int .u64 0] 29 ?_; intro gb418 hg w14 hbox hb; have n0_ := bb BK415 hb; have n1_ := bbp (.cells #[.int .i64 a0_0, .int .u64 a0_1, .int .u64 a0_2, .int .u64 a0_3, .int .u64 a0_4] 27 (0, 0)) BK417 hb; have n2_ := bs HB hb; have n3_ := Aside0.mk (hbox); have n4_ := sz HB hg; have n5_ := sz HB hg; have n6_ := nl BK415 hg; have n7_ := nr BK415 hg; have n8_ := nlp (.cells #[.int .i64 a0_0, .int .u64 a0_1, .int .u64 a0_2, .int .u64 a0_3, .int .u64 a0_4] 27 (0, 0)) BK417 hg; have n9_ := nrp (.cells #[.int .i64 a0_0, .int .u64 a0_1, .int .u64 a0_2, .int .u64 a0_3, .int .u64 a0_4] 27 (0, 0)) BK417 hg; clear BK415; clear BK417; clear HB; have BK415 := n0_; have BK417 := n1_; have HB := n2_; have BK418 := n3_; have GW418 := n4_; have GE418 := n5_; have NB415_418 := n6_; have NB418_415 := n7_; have NB417_418 := n8_; have NB418_417 := n9_; clear n0_ n1_ n2_ n3_ n4_ n5_ n6_ n7_ n8_ n9_; clear hb hbox hg; have hnb15 := NB418_415.out; have hnc15 := NB415_418.out; have hnb16 := NB418_417.out; have hnc16 := NB417_418.out; obtain ⟨hcz17_0, hcz17_1, hcz17_2, hfz17_0, hfz17_1, hfz17_2⟩ := bc3 BK418; obtain ⟨hcz18_0, hcz18_1, hcz18_2, hcz18_3, hcz18_4, hfz18_0, hfz18_1, hfz18_2, hfz18_3, hfz18_4⟩ := bc5 BK417; have hcz19_0 : w14.cell? ⟨gb415, 0, none⟩ = some (.int .i64 a0_0) := (blk_cell BK415.out 0).trans rfl; have hcz19_1 : w14.cell? ⟨gb415, 1, none⟩ = some (.int .u64 a0_1) := (blk_cell BK415.out 1).trans rfl; have hcz19_2 : w14.cell? ⟨gb415, 2, none⟩ = some (.int .u64 a0_2) := (blk_cell BK415.out 2).trans rfl; have hcz19_3 : w14.cell? ⟨gb415, 3, none⟩ = some (.int .u64 a0_3) := (blk_cell BK415.out 3).trans rfl; have hcz19_4 : w14.cell? ⟨gb415, 4, none⟩ = some (.int .u64 a0_4) := (blk_cell BK415.out 4).trans rfl; have hcz19_5 : w14.cell? ⟨gb415, 5, none⟩ = some (.int .u64 a0_5) := (blk_cell BK415.out 5).trans rfl; have hcz19_6 : w14.cell? ⟨gb415, 6, none⟩ = some (.int .u64 a0_6) := (blk_cell BK415.out 6).trans rfl; have hcz19_7 : w14.cell? ⟨gb415, 7, none⟩ = some (.int .u64 a0_7) := (blk_cell BK415.out 7).trans rfl; have hcz19_8 : w14.cell? ⟨gb415, 8, none⟩ = some (.int .u64 a0_8) := (blk_cell BK415.out 8).trans rfl; have hcz19_9 : w14.cell? ⟨gb415, 9, none⟩ = some (.int .u64 a0_9) := (blk_cell BK415.out 9).trans rfl; have hcz19_10 : w14.cell? ⟨gb415, 10, none⟩ = some (.int .u64 a0_10) := (blk_cell BK415.out 10).trans rfl; have hcz19_11 : w14.cell? ⟨gb415, 11, none⟩ = some (.int .u64 a0_11) := (blk_cell BK415.out 11).trans rfl; have hcz19_12 : w14.cell? ⟨gb415, 12, none⟩ = some (.int .u64 a0_12) := (blk_cell BK415.out 12).trans rfl; have hfz19_0 := blk_frozen BK415.out 0; have hfz19_1 := blk_frozen BK415.out 1; have hfz19_2 := blk_frozen BK415.out 2; have hfz19_3 := blk_frozen BK415.out 3; have hfz19_4 := blk_frozen BK415.out 4; have hfz19_5 := blk_frozen BK415.out 5; have hfz19_6 := blk_frozen BK415.out 6; have hfz19_7 := blk_frozen BK415.out 7; have hfz19_8 := blk_frozen BK415.out 8; have hfz19_9 := blk_frozen BK415.out 9; have hfz19_10 := blk_frozen BK415.out 10; have hfz19_11 := blk_frozen BK415.out 11; have hfz19_12 := blk_frozen BK415.out 12) | ((with_reducible refine gate_callee (f := 16) rfl ?_); refine gm (some 27) Try.func16 #[.agg #[.int .i64 a0_0, .int .u64 a0_1, .int .u64 a0_2, .int .u64 a0_3, .int .u64 a0_4], .agg #[.int .u64 a0_5, .int .u64 a0_6, .int .u64 a0_7], .int .u64 a0_11, .int .u64 a0_12] (policy_Admit.calls kj1 a0_0 a0_1 a0_2 a0_3 a0_4 a0_5 a0_6 a0_7 a0_11 a0_12 t419 t420 t421 t422 t423 _ A7.out) ?_; intro w20 hb; have n0_ := bb BK415 hb; have n1_ := bb BK417 hb; have n2_ := bbp (.cells #[.int .u64 a0_5, .int .u64 a0_6, .int .u64 a0_7] 29 (0, 0)) BK418 hb; have n3_ := bs HB hb; clear BK415; clear BK417; clear BK418; clear HB; have BK415 := n0_; have BK417 := n1_; have BK418 := n2_; have HB := n3_; clear n0_ n1_ n2_ n3_; (try clear hb); (try clear hb2); (try clear hk); (try clear hi)) | ((with_reducible refine gate_dst (N := 5) rfl ?_); refine bx 5 #[.int .u64 0, .int .u64 0, .int .u64 0] 29 ?_; intro gb424 hg w21 hbox hb; have n0_ := bb BK415 hb; have n1_ := bb BK417 hb; have n2_ := bb BK418 hb; have n3_ := bs HB hb; have n4_ := Aside0.mk (hbox); have n5_ := sz HB hg; have n6_ := sz HB hg; have n7_ := nl BK415 hg; have n8_ := nr BK415 hg; have n9_ := nl BK417 hg; have n10_ := nr BK417 hg; have n11_ := nl BK418 hg; have n12_ := nr BK418 hg; clear BK415; clear BK417; clear BK418; clear HB; have BK415 := n0_; have BK417 := n1_; have BK418 := n2_; have HB := n3_; have BK424 := n4_; have GW424 := n5_; have GE424 := n6_; have NB415_424 := n7_; have NB424_415 := n8_; have NB417_424 := n9_; have NB424_417 := n10_; have NB418_424 := n11_; have NB424_418 := n12_; clear n0_ n1_ n2_ n3_ n4_ n5_ n6_ n7_ n8_ n9_ n10_ n11_ n12_; clear hb hbox hg; have hnb22 := NB424_415.out; have hnc22 := NB415_424.out; have hnb23 := NB424_417.out; have hnc23 := NB417_424.out; have hnb24 := NB424_418.out; have hnc24 := NB418_424.out; obtain ⟨hcz25_0, hcz25_1, hcz25_2, hfz25_0, hfz25_1, hfz25_2⟩ := bc3 BK424))
        (try simp only [Act.put, List.setIfInBounds_toArray, List.set_cons_zero, List.set_cons_succ])
        go_cut [8] (fun v8 wc => ∃ (kq : Nat) (x8_7 : Int), v8 = .int .u64 x8_7 ∧ Aside0 (turnstilelaw06_PolicyFace.j1 kq t422 t423 x8_7 a0_0 a0_1 a0_2 a0_3 a0_4 a0_5 a0_6 a0_7 a0_8 a0_9 a0_10 a0_11 a0_12 a0_0 a0_1 a0_2 a0_3 a0_4 a0_5 a0_6 a0_7 t419 t420 t421 = some r) ∧ Aside0 (kq ≤ kj1) ∧ Aside0 (wc.heap[gb415]? = some (.cells #[.int .i64 a0_0, .int .u64 a0_1, .int .u64 a0_2, .int .u64 a0_3, .int .u64 a0_4, .int .u64 a0_5, .int .u64 a0_6, .int .u64 a0_7, .int .u64 a0_8, .int .u64 a0_9, .int .u64 a0_10, .int .u64 a0_11, .int .u64 a0_12] 31 (0, 0))) ∧ Aside0 (wc.heap[gb417]? = some (.cells #[.int .i64 a0_0, .int .u64 a0_1, .int .u64 a0_2, .int .u64 a0_3, .int .u64 a0_4] 27 (0, 0))) ∧ Aside0 (wc.heap[gb418]? = some (.cells #[.int .u64 a0_5, .int .u64 a0_6, .int .u64 a0_7] 29 (0, 0))) ∧ Aside0 (wc.heap[gb424]? = some (.cells #[.int .u64 t419, .int .u64 t420, .int .u64 t421] 29 (0, 0))) ∧ Aside0 (Below w.heap.size w wc))
        case first =>
          have H := HC8.out
          clear HC8
          replace H := Option.bind_eq_some_iff.mp H
          obtain ⟨t425, A260, H⟩ := H
          replace H : (turnstilelaw06_PolicyFace.j1 kj1 t422 t423 t425 a0_0 a0_1 a0_2 a0_3 a0_4 a0_5 a0_6 a0_7 a0_8 a0_9 a0_10 a0_11 a0_12 a0_0 a0_1 a0_2 a0_3 a0_4 a0_5 a0_6 a0_7 t419 t420 t421) = some r := H
          have A26 := Aside0.mk A260
          clear A260
          have H' := Aside0.mk H
          clear H
          have hnb27 := NB417_415.out
          have hnc27 := NB415_417.out
          have hnb28 := NB417_418.out
          have hnc28 := NB418_417.out
          have hnb29 := NB417_424.out
          have hnc29 := NB424_417.out
          obtain ⟨hcz30_0, hcz30_1, hcz30_2, hcz30_3, hcz30_4, hfz30_0, hfz30_1, hfz30_2, hfz30_3, hfz30_4⟩ := bc5 BK417
          have hnb31 := NB418_415.out
          have hnc31 := NB415_418.out
          have hnb32 := NB418_424.out
          have hnc32 := NB424_418.out
          obtain ⟨hcz33_0, hcz33_1, hcz33_2, hfz33_0, hfz33_1, hfz33_2⟩ := bc3 BK418
          have hnb34 := NB415_424.out
          have hnc34 := NB424_415.out
          have hcz35_0 : w21.cell? ⟨gb415, 0, none⟩ = some (.int .i64 a0_0) := (blk_cell BK415.out 0).trans rfl
          have hcz35_1 : w21.cell? ⟨gb415, 1, none⟩ = some (.int .u64 a0_1) := (blk_cell BK415.out 1).trans rfl
          have hcz35_2 : w21.cell? ⟨gb415, 2, none⟩ = some (.int .u64 a0_2) := (blk_cell BK415.out 2).trans rfl
          have hcz35_3 : w21.cell? ⟨gb415, 3, none⟩ = some (.int .u64 a0_3) := (blk_cell BK415.out 3).trans rfl
          have hcz35_4 : w21.cell? ⟨gb415, 4, none⟩ = some (.int .u64 a0_4) := (blk_cell BK415.out 4).trans rfl
          have hcz35_5 : w21.cell? ⟨gb415, 5, none⟩ = some (.int .u64 a0_5) := (blk_cell BK415.out 5).trans rfl
          have hcz35_6 : w21.cell? ⟨gb415, 6, none⟩ = some (.int .u64 a0_6) := (blk_cell BK415.out 6).trans rfl
          have hcz35_7 : w21.cell? ⟨gb415, 7, none⟩ = some (.int .u64 a0_7) := (blk_cell BK415.out 7).trans rfl
          have hcz35_8 : w21.cell? ⟨gb415, 8, none⟩ = some (.int .u64 a0_8) := (blk_cell BK415.out 8).trans rfl
          have hcz35_9 : w21.cell? ⟨gb415, 9, none⟩ = some (.int .u64 a0_9) := (blk_cell BK415.out 9).trans rfl
          have hcz35_10 : w21.cell? ⟨gb415, 10, none⟩ = some (.int .u64 a0_10) := (blk_cell BK415.out 10).trans rfl
          have hcz35_11 : w21.cell? ⟨gb415, 11, none⟩ = some (.int .u64 a0_11) := (blk_cell BK415.out 11).trans rfl
          have hcz35_12 : w21.cell? ⟨gb415, 12, none⟩ = some (.int .u64 a0_12) := (blk_cell BK415.out 12).trans rfl
          have hfz35_0 := blk_frozen BK415.out 0
          have hfz35_1 := blk_frozen BK415.out 1
          have hfz35_2 := blk_frozen BK415.out 2
          have hfz35_3 := blk_frozen BK415.out 3
          have hfz35_4 := blk_frozen BK415.out 4
          have hfz35_5 := blk_frozen BK415.out 5
          have hfz35_6 := blk_frozen BK415.out 6
          have hfz35_7 := blk_frozen BK415.out 7
          have hfz35_8 := blk_frozen BK415.out 8
          have hfz35_9 := blk_frozen BK415.out 9
          have hfz35_10 := blk_frozen BK415.out 10
          have hfz35_11 := blk_frozen BK415.out 11
          have hfz35_12 := blk_frozen BK415.out 12
          go_wp2_with (first | ((with_reducible refine gate_callee (f := 17) rfl ?_); refine gm (some 35) Try.func17 #[.agg #[.int .i64 a0_0, .int .u64 a0_1, .int .u64 a0_2, .int .u64 a0_3, .int .u64 a0_4], .agg #[.int .u64 a0_5, .int .u64 a0_6, .int .u64 a0_7], .int .u64 a0_11] (policy_Left.calls kj1 a0_0 a0_1 a0_2 a0_3 a0_4 a0_5 a0_6 a0_7 a0_11 t425 _ A26.out) ?_; intro w36 hb; have n0_ := bb BK415 hb; have n1_ := bb BK417 hb; have n2_ := bb BK418 hb; have n3_ := bbp (.cells #[.int .u64 t419, .int .u64 t420, .int .u64 t421] 29 (0, 0)) BK424 hb; have n4_ := bs HB hb; clear BK415; clear BK417; clear BK418; clear BK424; clear HB; have BK415 := n0_; have BK417 := n1_; have BK418 := n2_; have BK424 := n3_; have HB := n4_; clear n0_ n1_ n2_ n3_ n4_; (try clear hb); (try clear hb2); (try clear hk); (try clear hi)))
          go_meet
          case rel => exact ⟨_, (t425), rs, H', ⟨by have := HJ1.out; first | omega | exact Nat.le_refl _⟩, ⟨bk BK415⟩, ⟨bk BK417⟩, ⟨bk BK418⟩, ⟨bk BK424⟩, ⟨bw HB⟩⟩
        case rest => as_aux_lemma =>
          clear HC8
          try clear c1
          try clear c2
          try clear p2
          try clear c3
          try clear c4
          try clear c6
          try clear c11
          try clear c14
          try clear c15
          try clear c16
          try clear c17
          try clear c22
          try clear c23
          try clear c24
          try clear c27
          try clear c28
          try clear c29
          try clear c31
          try clear c32
          try clear c34
          try clear hcz12_0
          try clear hcz12_1
          try clear hcz12_2
          try clear hcz12_3
          try clear hcz12_4
          try clear hcz13_0
          try clear hcz13_1
          try clear hcz13_10
          try clear hcz13_11
          try clear hcz13_12
          try clear hcz13_2
          try clear hcz13_3
          try clear hcz13_4
          try clear hcz13_5
          try clear hcz13_6
          try clear hcz13_7
          try clear hcz13_8
          try clear hcz13_9
          try clear hcz17_0
          try clear hcz17_1
          try clear hcz17_2
          try clear hcz18_0
          try clear hcz18_1
          try clear hcz18_2
          try clear hcz18_3
          try clear hcz18_4
          try clear hcz19_0
          try clear hcz19_1
          try clear hcz19_10
          try clear hcz19_11
          try clear hcz19_12
          try clear hcz19_2
          try clear hcz19_3
          try clear hcz19_4
          try clear hcz19_5
          try clear hcz19_6
          try clear hcz19_7
          try clear hcz19_8
          try clear hcz19_9
          try clear hcz25_0
          try clear hcz25_1
          try clear hcz25_2
          try clear hcz30_0
          try clear hcz30_1
          try clear hcz30_2
          try clear hcz30_3
          try clear hcz30_4
          try clear hcz33_0
          try clear hcz33_1
          try clear hcz33_2
          try clear hcz35_0
          try clear hcz35_1
          try clear hcz35_10
          try clear hcz35_11
          try clear hcz35_12
          try clear hcz35_2
          try clear hcz35_3
          try clear hcz35_4
          try clear hcz35_5
          try clear hcz35_6
          try clear hcz35_7
          try clear hcz35_8
          try clear hcz35_9
          try clear hcz9_0
          try clear hcz9_1
          try clear hcz9_10
          try clear hcz9_11
          try clear hcz9_12
          try clear hcz9_2
          try clear hcz9_3
          try clear hcz9_4
          try clear hcz9_5
          try clear hcz9_6
          try clear hcz9_7
          try clear hcz9_8
          try clear hcz9_9
          try clear hfz12_0
          try clear hfz12_1
          try clear hfz12_2
          try clear hfz12_3
          try clear hfz12_4
          try clear hfz13_0
          try clear hfz13_1
          try clear hfz13_10
          try clear hfz13_11
          try clear hfz13_12
          try clear hfz13_2
          try clear hfz13_3
          try clear hfz13_4
          try clear hfz13_5
          try clear hfz13_6
          try clear hfz13_7
          try clear hfz13_8
          try clear hfz13_9
          try clear hfz17_0
          try clear hfz17_1
          try clear hfz17_2
          try clear hfz18_0
          try clear hfz18_1
          try clear hfz18_2
          try clear hfz18_3
          try clear hfz18_4
          try clear hfz19_0
          try clear hfz19_1
          try clear hfz19_10
          try clear hfz19_11
          try clear hfz19_12
          try clear hfz19_2
          try clear hfz19_3
          try clear hfz19_4
          try clear hfz19_5
          try clear hfz19_6
          try clear hfz19_7
          try clear hfz19_8
          try clear hfz19_9
          try clear hfz25_0
          try clear hfz25_1
          try clear hfz25_2
          try clear hfz30_0
          try clear hfz30_1
          try clear hfz30_2
          try clear hfz30_3
          try clear hfz30_4
          try clear hfz33_0
          try clear hfz33_1
          try clear hfz33_2
          try clear hfz35_0
          try clear hfz35_1
          try clear hfz35_10
          try clear hfz35_11
          try clear hfz35_12
          try clear hfz35_2
          try clear hfz35_3
          try clear hfz35_4
          try clear hfz35_5
          try clear hfz35_6
          try clear hfz35_7
          try clear hfz35_8
          try clear hfz35_9
          try clear hfz9_0
          try clear hfz9_1
          try clear hfz9_10
          try clear hfz9_11
          try clear hfz9_12
          try clear hfz9_2
          try clear hfz9_3
          try clear hfz9_4
          try clear hfz9_5
          try clear hfz9_6
          try clear hfz9_7
          try clear hfz9_8
          try clear hfz9_9
          try clear p2
          obtain ⟨kq, x8_7, rfl, HA, HJ7, BK415, BK417, BK418, BK424, HB⟩ := hcut
          cases kq with
          | zero => exact absurd HA.out (by simp [turnstilelaw06_PolicyFace.j1])
          | succ kj7 =>
            have H := HA.out
            clear HA
            simp only [turnstilelaw06_PolicyFace.j1] at H
            have HC37 := Aside0.mk H
            clear H
            go_upto_region 7 with (fail)
            go_cut [38] (fun v38 wc => ∃ (kq : Nat) (x38_36 : Bool), v38 = .bool x38_36 ∧ Aside0 (turnstilelaw06_PolicyFace.j2 kq t422 t423 x8_7 x38_36 a0_0 a0_1 a0_2 a0_3 a0_4 a0_5 a0_6 a0_7 a0_8 a0_9 a0_10 a0_11 a0_12 a0_0 a0_1 a0_2 a0_3 a0_4 a0_5 a0_6 a0_7 t419 t420 t421 = some r) ∧ Aside0 (kq ≤ kj7) ∧ Aside0 (wc.heap[gb415]? = some (.cells #[.int .i64 a0_0, .int .u64 a0_1, .int .u64 a0_2, .int .u64 a0_3, .int .u64 a0_4, .int .u64 a0_5, .int .u64 a0_6, .int .u64 a0_7, .int .u64 a0_8, .int .u64 a0_9, .int .u64 a0_10, .int .u64 a0_11, .int .u64 a0_12] 31 (0, 0))) ∧ Aside0 (wc.heap[gb417]? = some (.cells #[.int .i64 a0_0, .int .u64 a0_1, .int .u64 a0_2, .int .u64 a0_3, .int .u64 a0_4] 27 (0, 0))) ∧ Aside0 (wc.heap[gb418]? = some (.cells #[.int .u64 a0_5, .int .u64 a0_6, .int .u64 a0_7] 29 (0, 0))) ∧ Aside0 (wc.heap[gb424]? = some (.cells #[.int .u64 t419, .int .u64 t420, .int .u64 t421] 29 (0, 0))) ∧ Aside0 (Below w.heap.size w wc))
            case first =>
              have H := HC37.out
              clear HC37
              replace H := Option.bind_eq_some_iff.mp H
              obtain ⟨t426, A380, H⟩ := H
              replace H : (turnstilelaw06_PolicyFace.j2 kj7 t422 t423 x8_7 (!t426) a0_0 a0_1 a0_2 a0_3 a0_4 a0_5 a0_6 a0_7 a0_8 a0_9 a0_10 a0_11 a0_12 a0_0 a0_1 a0_2 a0_3 a0_4 a0_5 a0_6 a0_7 t419 t420 t421) = some r := H
              have A38 := Aside0.mk A380
              clear A380
              have H' := Aside0.mk H
              clear H
              have hnb39 := NB417_415.out
              have hnc39 := NB415_417.out
              have hnb40 := NB417_418.out
              have hnc40 := NB418_417.out
              have hnb41 := NB417_424.out
              have hnc41 := NB424_417.out
              obtain ⟨hcz42_0, hcz42_1, hcz42_2, hcz42_3, hcz42_4, hfz42_0, hfz42_1, hfz42_2, hfz42_3, hfz42_4⟩ := bc5 BK417
              go_wp2_with (first | ((with_reducible refine gate_callee (f := 18) rfl ?_); refine gm (some 37) Try.func18 #[.agg #[.int .i64 a0_0, .int .u64 a0_1, .int .u64 a0_2, .int .u64 a0_3, .int .u64 a0_4]] (policy_Valid.calls a0_0 a0_1 a0_2 a0_3 a0_4 t426 _ A38.out) ?_; intro w43 hb; have n0_ := bb BK415 hb; have n1_ := bb BK417 hb; have n2_ := bb BK418 hb; have n3_ := bb BK424 hb; have n4_ := bs HB hb; clear BK415; clear BK417; clear BK418; clear BK424; clear HB; have BK415 := n0_; have BK417 := n1_; have BK418 := n2_; have BK424 := n3_; have HB := n4_; clear n0_ n1_ n2_ n3_ n4_; (try clear hb); (try clear hb2); (try clear hk); (try clear hi)))
              go_meet
              case rel => exact ⟨_, (!t426), rs, H', ⟨by have := HJ1.out; have := HJ7.out; first | omega | exact Nat.le_refl _⟩, ⟨bk BK415⟩, ⟨bk BK417⟩, ⟨bk BK418⟩, ⟨bk BK424⟩, ⟨bw HB⟩⟩
            case rest => as_aux_lemma =>
              clear HC37
              try clear c1
              try clear c2
              try clear p2
              try clear c3
              try clear c4
              try clear c6
              try clear c11
              try clear c14
              try clear c15
              try clear c16
              try clear c17
              try clear c18
              try clear c22
              try clear c23
              try clear c24
              try clear c27
              try clear c28
              try clear c29
              try clear c31
              try clear c32
              try clear c34
              try clear c39
              try clear c40
              try clear c41
              try clear hcz12_0
              try clear hcz12_1
              try clear hcz12_2
              try clear hcz12_3
              try clear hcz12_4
              try clear hcz13_0
              try clear hcz13_1
              try clear hcz13_10
              try clear hcz13_11
              try clear hcz13_12
              try clear hcz13_2
              try clear hcz13_3
              try clear hcz13_4
              try clear hcz13_5
              try clear hcz13_6
              try clear hcz13_7
              try clear hcz13_8
              try clear hcz13_9
              try clear hcz17_0
              try clear hcz17_1
              try clear hcz17_2
              try clear hcz18_0
              try clear hcz18_1
              try clear hcz18_2
              try clear hcz18_3
              try clear hcz18_4
              try clear hcz19_0
              try clear hcz19_1
              try clear hcz19_10
              try clear hcz19_11
              try clear hcz19_12
              try clear hcz19_2
              try clear hcz19_3
              try clear hcz19_4
              try clear hcz19_5
              try clear hcz19_6
              try clear hcz19_7
              try clear hcz19_8
              try clear hcz19_9
              try clear hcz25_0
              try clear hcz25_1
              try clear hcz25_2
              try clear hcz30_0
              try clear hcz30_1
              try clear hcz30_2
              try clear hcz30_3
              try clear hcz30_4
              try clear hcz33_0
              try clear hcz33_1
              try clear hcz33_2
              try clear hcz35_0
              try clear hcz35_1
              try clear hcz35_10
              try clear hcz35_11
              try clear hcz35_12
              try clear hcz35_2
              try clear hcz35_3
              try clear hcz35_4
              try clear hcz35_5
              try clear hcz35_6
              try clear hcz35_7
              try clear hcz35_8
              try clear hcz35_9
              try clear hcz42_0
              try clear hcz42_1
              try clear hcz42_2
              try clear hcz42_3
              try clear hcz42_4
              try clear hcz9_0
              try clear hcz9_1
              try clear hcz9_10
              try clear hcz9_11
              try clear hcz9_12
              try clear hcz9_2
              try clear hcz9_3
              try clear hcz9_4
              try clear hcz9_5
              try clear hcz9_6
              try clear hcz9_7
              try clear hcz9_8
              try clear hcz9_9
              try clear hfz12_0
              try clear hfz12_1
              try clear hfz12_2
              try clear hfz12_3
              try clear hfz12_4
              try clear hfz13_0
              try clear hfz13_1
              try clear hfz13_10
              try clear hfz13_11
              try clear hfz13_12
              try clear hfz13_2
              try clear hfz13_3
              try clear hfz13_4
              try clear hfz13_5
              try clear hfz13_6
              try clear hfz13_7
              try clear hfz13_8
              try clear hfz13_9
              try clear hfz17_0
              try clear hfz17_1
              try clear hfz17_2
              try clear hfz18_0
              try clear hfz18_1
              try clear hfz18_2
              try clear hfz18_3
              try clear hfz18_4
              try clear hfz19_0
              try clear hfz19_1
              try clear hfz19_10
              try clear hfz19_11
              try clear hfz19_12
              try clear hfz19_2
              try clear hfz19_3
              try clear hfz19_4
              try clear hfz19_5
              try clear hfz19_6
              try clear hfz19_7
              try clear hfz19_8
              try clear hfz19_9
              try clear hfz25_0
              try clear hfz25_1
              try clear hfz25_2
              try clear hfz30_0
              try clear hfz30_1
              try clear hfz30_2
              try clear hfz30_3
              try clear hfz30_4
              try clear hfz33_0
              try clear hfz33_1
              try clear hfz33_2
              try clear hfz35_0
              try clear hfz35_1
              try clear hfz35_10
              try clear hfz35_11
              try clear hfz35_12
              try clear hfz35_2
              try clear hfz35_3
              try clear hfz35_4
              try clear hfz35_5
              try clear hfz35_6
              try clear hfz35_7
              try clear hfz35_8
              try clear hfz35_9
              try clear hfz42_0
              try clear hfz42_1
              try clear hfz42_2
              try clear hfz42_3
              try clear hfz42_4
              try clear hfz9_0
              try clear hfz9_1
              try clear hfz9_10
              try clear hfz9_11
              try clear hfz9_12
              try clear hfz9_2
              try clear hfz9_3
              try clear hfz9_4
              try clear hfz9_5
              try clear hfz9_6
              try clear hfz9_7
              try clear hfz9_8
              try clear hfz9_9
              try clear p2
              obtain ⟨kq, x38_36, rfl, HA, HJ36, BK415, BK417, BK418, BK424, HB⟩ := hcut
              cases kq with
              | zero => exact absurd HA.out (by simp [turnstilelaw06_PolicyFace.j2])
              | succ kj36 =>
                have H := HA.out
                clear HA
                simp only [turnstilelaw06_PolicyFace.j2] at H
                by_cases c44 : x38_36 = true
                · subst c44
                  have H1 : (if (t419 == 0 && (t420 == 0 && (t421 == 0))) = true then (if t422 = true then (some false) else (if t423 = 18446744073709551615 then (some (x8_7 == 0)) else (some false))) else (some false)) = some r := by rw [if_pos rfl] at H; exact H
                  clear H
                  have H := H1
                  clear H1
                  by_cases c45 : (t419 == 0 && (t420 == 0 && (t421 == 0))) = true
                  · rw [if_pos c45] at H
                    have c45b0 : (t419 == 0 && (t420 == 0 && (t421 == 0))) = true := c45
                    (try (have c45b1 : decide (t419 = 0 && (t420 == 0 && (t421 == 0))) = true := by simpa using c45))
                    (try (have c45b2 : (t419 == 0 && (t420 == 0 && (t421 == 0))) = true := by simpa using c45))
                    clear c45
                    by_cases c46 : t422 = true
                    · subst c46
                      have H1 : (some false) = some r := by rw [if_pos rfl] at H; exact H
                      clear H
                      have H := H1
                      clear H1
                      obtain rfl := Option.some.inj H
                      have hnb47 := NB424_415.out
                      have hnc47 := NB415_424.out
                      have hnb48 := NB424_417.out
                      have hnc48 := NB417_424.out
                      have hnb49 := NB424_418.out
                      have hnc49 := NB418_424.out
                      obtain ⟨hcz50_0, hcz50_1, hcz50_2, hfz50_0, hfz50_1, hfz50_2⟩ := bc3 BK424
                      go_wp2
                      go_ret
                      exact ⟨re, bw HB⟩
                    · replace c46 := Bool.eq_false_iff.mpr c46
                      subst c46
                      have H1 : (if t423 = 18446744073709551615 then (some (x8_7 == 0)) else (some false)) = some r := by rw [if_neg (show ¬ (false = true) by decide)] at H; exact H
                      clear H
                      have H := H1
                      clear H1
                      by_cases c51 : t423 = 18446744073709551615
                      · rw [if_pos c51] at H
                        have c51b0 : (t423 == 18446744073709551615) = true := beq_iff_eq.mpr c51
                        have c51b1 : (t423 != 18446744073709551615) = false := bne_eq_false_iff_eq.mpr c51
                        clear c51
                        (try (have hd52 := c45b0; rw [c51b0] at hd52; (first | rw [Bool.true_and] at hd52 | rw [Bool.and_true] at hd52 | (rw [Bool.not_true] at hd52; rw [Bool.false_or] at hd52) | skip)))
                        (try (have hd53 := c45b1; rw [c51b0] at hd53; (first | rw [Bool.true_and] at hd53 | rw [Bool.and_true] at hd53 | (rw [Bool.not_true] at hd53; rw [Bool.false_or] at hd53) | skip)))
                        (try (have hd54 := c45b2; rw [c51b0] at hd54; (first | rw [Bool.true_and] at hd54 | rw [Bool.and_true] at hd54 | (rw [Bool.not_true] at hd54; rw [Bool.false_or] at hd54) | skip)))
                        obtain rfl := Option.some.inj H
                        have hnb55 := NB424_415.out
                        have hnc55 := NB415_424.out
                        have hnb56 := NB424_417.out
                        have hnc56 := NB417_424.out
                        have hnb57 := NB424_418.out
                        have hnc57 := NB418_424.out
                        obtain ⟨hcz58_0, hcz58_1, hcz58_2, hfz58_0, hfz58_1, hfz58_2⟩ := bc3 BK424
                        go_wp2
                        go_ret
                        exact ⟨re, bw HB⟩
                      · rw [if_neg c51] at H
                        have c51b0 : (t423 == 18446744073709551615) = false := beq_eq_false_iff_ne.mpr c51
                        have c51b1 : (t423 != 18446744073709551615) = true := bne_iff_ne.mpr c51
                        (try (have hd59 := c45b0; rw [c51b0] at hd59; (first | rw [Bool.true_and] at hd59 | rw [Bool.and_true] at hd59 | (rw [Bool.not_true] at hd59; rw [Bool.false_or] at hd59) | skip)))
                        (try (have hd60 := c45b1; rw [c51b0] at hd60; (first | rw [Bool.true_and] at hd60 | rw [Bool.and_true] at hd60 | (rw [Bool.not_true] at hd60; rw [Bool.false_or] at hd60) | skip)))
                        (try (have hd61 := c45b2; rw [c51b0] at hd61; (first | rw [Bool.true_and] at hd61 | rw [Bool.and_true] at hd61 | (rw [Bool.not_true] at hd61; rw [Bool.false_or] at hd61) | skip)))
                        obtain rfl := Option.some.inj H
                        have hnb62 := NB424_415.out
                        have hnc62 := NB415_424.out
                        have hnb63 := NB424_417.out
                        have hnc63 := NB417_424.out
                        have hnb64 := NB424_418.out
                        have hnc64 := NB418_424.out
                        obtain ⟨hcz65_0, hcz65_1, hcz65_2, hfz65_0, hfz65_1, hfz65_2⟩ := bc3 BK424
                        go_wp2
                        go_ret
                        exact ⟨re, bw HB⟩
                  · rw [if_neg c45] at H
                    have c45b0 : (t419 == 0 && (t420 == 0 && (t421 == 0))) = false := by simpa using c45
                    (try (have c45b1 : decide (t419 = 0 && (t420 == 0 && (t421 == 0))) = false := by simpa using c45))
                    (try (have c45b2 : (t419 == 0 && (t420 == 0 && (t421 == 0))) = false := by simpa using c45))
                    (try (have c45b3 : ¬ (t419 = 0 && (t420 == 0 && (t421 == 0))) := by simpa using c45))
                    clear c45
                    obtain rfl := Option.some.inj H
                    have hnb66 := NB424_415.out
                    have hnc66 := NB415_424.out
                    have hnb67 := NB424_417.out
                    have hnc67 := NB417_424.out
                    have hnb68 := NB424_418.out
                    have hnc68 := NB418_424.out
                    obtain ⟨hcz69_0, hcz69_1, hcz69_2, hfz69_0, hfz69_1, hfz69_2⟩ := bc3 BK424
                    go_wp2
                    go_ret
                    exact ⟨re, bw HB⟩
                · replace c44 := Bool.eq_false_iff.mpr c44
                  subst c44
                  have H1 : (turnstilelaw06_PolicyFace.j3 kj36 t422 t423 x8_7 (a0_0 == 1) a0_0 a0_1 a0_2 a0_3 a0_4 a0_5 a0_6 a0_7 a0_8 a0_9 a0_10 a0_11 a0_12 a0_0 a0_1 a0_2 a0_3 a0_4 a0_5 a0_6 a0_7 t419 t420 t421) = some r := by rw [if_neg (show ¬ (false = true) by decide)] at H; exact H
                  clear H
                  have H := H1
                  clear H1
                  have HC70 := Aside0.mk H
                  clear H
                  go_upto_region 9 with (fail)
                  go_cut [56] (fun v56 wc => ∃ (kq : Nat) (x56_69 : Bool), v56 = .bool x56_69 ∧ Aside0 (turnstilelaw06_PolicyFace.j3 kq t422 t423 x8_7 x56_69 a0_0 a0_1 a0_2 a0_3 a0_4 a0_5 a0_6 a0_7 a0_8 a0_9 a0_10 a0_11 a0_12 a0_0 a0_1 a0_2 a0_3 a0_4 a0_5 a0_6 a0_7 t419 t420 t421 = some r) ∧ Aside0 (kq ≤ kj36) ∧ Aside0 (wc.heap[gb415]? = some (.cells #[.int .i64 a0_0, .int .u64 a0_1, .int .u64 a0_2, .int .u64 a0_3, .int .u64 a0_4, .int .u64 a0_5, .int .u64 a0_6, .int .u64 a0_7, .int .u64 a0_8, .int .u64 a0_9, .int .u64 a0_10, .int .u64 a0_11, .int .u64 a0_12] 31 (0, 0))) ∧ Aside0 (wc.heap[gb417]? = some (.cells #[.int .i64 a0_0, .int .u64 a0_1, .int .u64 a0_2, .int .u64 a0_3, .int .u64 a0_4] 27 (0, 0))) ∧ Aside0 (wc.heap[gb418]? = some (.cells #[.int .u64 a0_5, .int .u64 a0_6, .int .u64 a0_7] 29 (0, 0))) ∧ Aside0 (wc.heap[gb424]? = some (.cells #[.int .u64 t419, .int .u64 t420, .int .u64 t421] 29 (0, 0))) ∧ Aside0 (Below w.heap.size w wc))
                  case first =>
                    have H := HC70.out
                    clear HC70
                    have H' := Aside0.mk H
                    clear H
                    have hnb71 := NB417_415.out
                    have hnc71 := NB415_417.out
                    have hnb72 := NB417_418.out
                    have hnc72 := NB418_417.out
                    have hnb73 := NB417_424.out
                    have hnc73 := NB424_417.out
                    obtain ⟨hcz74_0, hcz74_1, hcz74_2, hcz74_3, hcz74_4, hfz74_0, hfz74_1, hfz74_2, hfz74_3, hfz74_4⟩ := bc5 BK417
                    go_wp2
                    go_meet
                    case rel => exact ⟨_, ((a0_0 == 1)), rs, H', ⟨by have := HJ1.out; have := HJ7.out; have := HJ36.out; first | omega | exact Nat.le_refl _⟩, ⟨bk BK415⟩, ⟨bk BK417⟩, ⟨bk BK418⟩, ⟨bk BK424⟩, ⟨bw HB⟩⟩
                  case rest => as_aux_lemma =>
                    clear HC70
                    try clear c1
                    try clear c2
                    try clear p2
                    try clear c3
                    try clear c4
                    try clear c5
                    try clear c6
                    try clear c7
                    try clear c11
                    try clear c14
                    try clear c15
                    try clear c16
                    try clear c17
                    try clear c18
                    try clear c22
                    try clear c23
                    try clear c24
                    try clear c27
                    try clear c28
                    try clear c29
                    try clear c31
                    try clear c32
                    try clear c34
                    try clear c39
                    try clear c40
                    try clear c41
                    try clear c44
                    try clear c45
                    try clear c45b0
                    try clear c45b1
                    try clear c45b2
                    try clear c46
                    try clear c47
                    try clear c48
                    try clear c49
                    try clear c51
                    try clear c51b0
                    try clear c51b1
                    try clear c55
                    try clear c56
                    try clear c57
                    try clear c62
                    try clear c63
                    try clear c64
                    try clear c66
                    try clear c67
                    try clear c68
                    try clear c71
                    try clear c72
                    try clear c73
                    try clear hcz12_0
                    try clear hcz12_1
                    try clear hcz12_2
                    try clear hcz12_3
                    try clear hcz12_4
                    try clear hcz13_0
                    try clear hcz13_1
                    try clear hcz13_10
                    try clear hcz13_11
                    try clear hcz13_12
                    try clear hcz13_2
                    try clear hcz13_3
                    try clear hcz13_4
                    try clear hcz13_5
                    try clear hcz13_6
                    try clear hcz13_7
                    try clear hcz13_8
                    try clear hcz13_9
                    try clear hcz17_0
                    try clear hcz17_1
                    try clear hcz17_2
                    try clear hcz18_0
                    try clear hcz18_1
                    try clear hcz18_2
                    try clear hcz18_3
                    try clear hcz18_4
                    try clear hcz19_0
                    try clear hcz19_1
                    try clear hcz19_10
                    try clear hcz19_11
                    try clear hcz19_12
                    try clear hcz19_2
                    try clear hcz19_3
                    try clear hcz19_4
                    try clear hcz19_5
                    try clear hcz19_6
                    try clear hcz19_7
                    try clear hcz19_8
                    try clear hcz19_9
                    try clear hcz25_0
                    try clear hcz25_1
                    try clear hcz25_2
                    try clear hcz30_0
                    try clear hcz30_1
                    try clear hcz30_2
                    try clear hcz30_3
                    try clear hcz30_4
                    try clear hcz33_0
                    try clear hcz33_1
                    try clear hcz33_2
                    try clear hcz35_0
                    try clear hcz35_1
                    try clear hcz35_10
                    try clear hcz35_11
                    try clear hcz35_12
                    try clear hcz35_2
                    try clear hcz35_3
                    try clear hcz35_4
                    try clear hcz35_5
                    try clear hcz35_6
                    try clear hcz35_7
                    try clear hcz35_8
                    try clear hcz35_9
                    try clear hcz42_0
                    try clear hcz42_1
                    try clear hcz42_2
                    try clear hcz42_3
                    try clear hcz42_4
                    try clear hcz50_0
                    try clear hcz50_1
                    try clear hcz50_2
                    try clear hcz58_0
                    try clear hcz58_1
                    try clear hcz58_2
                    try clear hcz65_0
                    try clear hcz65_1
                    try clear hcz65_2
                    try clear hcz69_0
                    try clear hcz69_1
                    try clear hcz69_2
                    try clear hcz74_0
                    try clear hcz74_1
                    try clear hcz74_2
                    try clear hcz74_3
                    try clear hcz74_4
                    try clear hcz9_0
                    try clear hcz9_1
                    try clear hcz9_10
                    try clear hcz9_11
                    try clear hcz9_12
                    try clear hcz9_2
                    try clear hcz9_3
                    try clear hcz9_4
                    try clear hcz9_5
                    try clear hcz9_6
                    try clear hcz9_7
                    try clear hcz9_8
                    try clear hcz9_9
                    try clear hfz12_0
                    try clear hfz12_1
                    try clear hfz12_2
                    try clear hfz12_3
                    try clear hfz12_4
                    try clear hfz13_0
                    try clear hfz13_1
                    try clear hfz13_10
                    try clear hfz13_11
                    try clear hfz13_12
                    try clear hfz13_2
                    try clear hfz13_3
                    try clear hfz13_4
                    try clear hfz13_5
                    try clear hfz13_6
                    try clear hfz13_7
                    try clear hfz13_8
                    try clear hfz13_9
                    try clear hfz17_0
                    try clear hfz17_1
                    try clear hfz17_2
                    try clear hfz18_0
                    try clear hfz18_1
                    try clear hfz18_2
                    try clear hfz18_3
                    try clear hfz18_4
                    try clear hfz19_0
                    try clear hfz19_1
                    try clear hfz19_10
                    try clear hfz19_11
                    try clear hfz19_12
                    try clear hfz19_2
                    try clear hfz19_3
                    try clear hfz19_4
                    try clear hfz19_5
                    try clear hfz19_6
                    try clear hfz19_7
                    try clear hfz19_8
                    try clear hfz19_9
                    try clear hfz25_0
                    try clear hfz25_1
                    try clear hfz25_2
                    try clear hfz30_0
                    try clear hfz30_1
                    try clear hfz30_2
                    try clear hfz30_3
                    try clear hfz30_4
                    try clear hfz33_0
                    try clear hfz33_1
                    try clear hfz33_2
                    try clear hfz35_0
                    try clear hfz35_1
                    try clear hfz35_10
                    try clear hfz35_11
                    try clear hfz35_12
                    try clear hfz35_2
                    try clear hfz35_3
                    try clear hfz35_4
                    try clear hfz35_5
                    try clear hfz35_6
                    try clear hfz35_7
                    try clear hfz35_8
                    try clear hfz35_9
                    try clear hfz42_0
                    try clear hfz42_1
                    try clear hfz42_2
                    try clear hfz42_3
                    try clear hfz42_4
                    try clear hfz50_0
                    try clear hfz50_1
                    try clear hfz50_2
                    try clear hfz58_0
                    try clear hfz58_1
                    try clear hfz58_2
                    try clear hfz65_0
                    try clear hfz65_1
                    try clear hfz65_2
                    try clear hfz69_0
                    try clear hfz69_1
                    try clear hfz69_2
                    try clear hfz74_0
                    try clear hfz74_1
                    try clear hfz74_2
                    try clear hfz74_3
                    try clear hfz74_4
                    try clear hfz9_0
                    try clear hfz9_1
                    try clear hfz9_10
                    try clear hfz9_11
                    try clear hfz9_12
                    try clear hfz9_2
                    try clear hfz9_3
                    try clear hfz9_4
                    try clear hfz9_5
                    try clear hfz9_6
                    try clear hfz9_7
                    try clear hfz9_8
                    try clear hfz9_9
                    try clear p2
                    obtain ⟨kq, x56_69, rfl, HA, HJ69, BK415, BK417, BK418, BK424, HB⟩ := hcut
                    cases kq with
                    | zero => exact absurd HA.out (by simp [turnstilelaw06_PolicyFace.j3])
                    | succ kj69 =>
                      have H := HA.out
                      clear HA
                      simp only [turnstilelaw06_PolicyFace.j3] at H
                      by_cases c75 : x56_69 = true
                      · subst c75
                        have H1 : ((gcra_Admit.f kj69 a0_1 a0_2 a0_5 a0_11 a0_12).bind fun bt427 => (turnstilelaw06_PolicyFace.j4 kj69 t422 t423 x8_7 bt427.1 bt427.2 a0_0 a0_1 a0_2 a0_3 a0_4 a0_5 a0_6 a0_7 a0_8 a0_9 a0_10 a0_11 a0_12 a0_0 a0_1 a0_2 a0_3 a0_4 a0_5 a0_6 a0_7 t419 t420 t421)) = some r := by rw [if_pos rfl] at H; exact H
                        clear H
                        have H := H1
                        clear H1
                        have HC76 := Aside0.mk H
                        clear H
                        go_upto_region 10 with (fail)
                        go_cut [9, 10] (fun v9 v10 wc => ∃ (kq : Nat) (x9_75 : Int) (x10_75 : Bool), v9 = .int .u64 x9_75 ∧ v10 = .bool x10_75 ∧ Aside0 (turnstilelaw06_PolicyFace.j4 kq t422 t423 x8_7 x9_75 x10_75 a0_0 a0_1 a0_2 a0_3 a0_4 a0_5 a0_6 a0_7 a0_8 a0_9 a0_10 a0_11 a0_12 a0_0 a0_1 a0_2 a0_3 a0_4 a0_5 a0_6 a0_7 t419 t420 t421 = some r) ∧ Aside0 (kq ≤ kj69) ∧ Aside0 (wc.heap[gb415]? = some (.cells #[.int .i64 a0_0, .int .u64 a0_1, .int .u64 a0_2, .int .u64 a0_3, .int .u64 a0_4, .int .u64 a0_5, .int .u64 a0_6, .int .u64 a0_7, .int .u64 a0_8, .int .u64 a0_9, .int .u64 a0_10, .int .u64 a0_11, .int .u64 a0_12] 31 (0, 0))) ∧ Aside0 (wc.heap[gb417]? = some (.cells #[.int .i64 a0_0, .int .u64 a0_1, .int .u64 a0_2, .int .u64 a0_3, .int .u64 a0_4] 27 (0, 0))) ∧ Aside0 (wc.heap[gb418]? = some (.cells #[.int .u64 a0_5, .int .u64 a0_6, .int .u64 a0_7] 29 (0, 0))) ∧ Aside0 (wc.heap[gb424]? = some (.cells #[.int .u64 t419, .int .u64 t420, .int .u64 t421] 29 (0, 0))) ∧ Aside0 (Below w.heap.size w wc))
                        case first =>
                          have H := HC76.out
                          clear HC76
                          replace H := Option.bind_eq_some_iff.mp H
                          obtain ⟨⟨t427, t428⟩, A770, H⟩ := H
                          replace H : (turnstilelaw06_PolicyFace.j4 kj69 t422 t423 x8_7 t427 t428 a0_0 a0_1 a0_2 a0_3 a0_4 a0_5 a0_6 a0_7 a0_8 a0_9 a0_10 a0_11 a0_12 a0_0 a0_1 a0_2 a0_3 a0_4 a0_5 a0_6 a0_7 t419 t420 t421) = some r := H
                          have A77 := Aside0.mk A770
                          clear A770
                          have H' := Aside0.mk H
                          clear H
                          have hnb78 := NB417_415.out
                          have hnc78 := NB415_417.out
                          have hnb79 := NB417_418.out
                          have hnc79 := NB418_417.out
                          have hnb80 := NB417_424.out
                          have hnc80 := NB424_417.out
                          obtain ⟨hcz81_0, hcz81_1, hcz81_2, hcz81_3, hcz81_4, hfz81_0, hfz81_1, hfz81_2, hfz81_3, hfz81_4⟩ := bc5 BK417
                          have hnb82 := NB418_415.out
                          have hnc82 := NB415_418.out
                          have hnb83 := NB418_424.out
                          have hnc83 := NB424_418.out
                          obtain ⟨hcz84_0, hcz84_1, hcz84_2, hfz84_0, hfz84_1, hfz84_2⟩ := bc3 BK418
                          have hnb85 := NB415_424.out
                          have hnc85 := NB424_415.out
                          have hcz86_0 : wc.cell? ⟨gb415, 0, none⟩ = some (.int .i64 a0_0) := (blk_cell BK415.out 0).trans rfl
                          have hcz86_1 : wc.cell? ⟨gb415, 1, none⟩ = some (.int .u64 a0_1) := (blk_cell BK415.out 1).trans rfl
                          have hcz86_2 : wc.cell? ⟨gb415, 2, none⟩ = some (.int .u64 a0_2) := (blk_cell BK415.out 2).trans rfl
                          have hcz86_3 : wc.cell? ⟨gb415, 3, none⟩ = some (.int .u64 a0_3) := (blk_cell BK415.out 3).trans rfl
                          have hcz86_4 : wc.cell? ⟨gb415, 4, none⟩ = some (.int .u64 a0_4) := (blk_cell BK415.out 4).trans rfl
                          have hcz86_5 : wc.cell? ⟨gb415, 5, none⟩ = some (.int .u64 a0_5) := (blk_cell BK415.out 5).trans rfl
                          have hcz86_6 : wc.cell? ⟨gb415, 6, none⟩ = some (.int .u64 a0_6) := (blk_cell BK415.out 6).trans rfl
                          have hcz86_7 : wc.cell? ⟨gb415, 7, none⟩ = some (.int .u64 a0_7) := (blk_cell BK415.out 7).trans rfl
                          have hcz86_8 : wc.cell? ⟨gb415, 8, none⟩ = some (.int .u64 a0_8) := (blk_cell BK415.out 8).trans rfl
                          have hcz86_9 : wc.cell? ⟨gb415, 9, none⟩ = some (.int .u64 a0_9) := (blk_cell BK415.out 9).trans rfl
                          have hcz86_10 : wc.cell? ⟨gb415, 10, none⟩ = some (.int .u64 a0_10) := (blk_cell BK415.out 10).trans rfl
                          have hcz86_11 : wc.cell? ⟨gb415, 11, none⟩ = some (.int .u64 a0_11) := (blk_cell BK415.out 11).trans rfl
                          have hcz86_12 : wc.cell? ⟨gb415, 12, none⟩ = some (.int .u64 a0_12) := (blk_cell BK415.out 12).trans rfl
                          have hfz86_0 := blk_frozen BK415.out 0
                          have hfz86_1 := blk_frozen BK415.out 1
                          have hfz86_2 := blk_frozen BK415.out 2
                          have hfz86_3 := blk_frozen BK415.out 3
                          have hfz86_4 := blk_frozen BK415.out 4
                          have hfz86_5 := blk_frozen BK415.out 5
                          have hfz86_6 := blk_frozen BK415.out 6
                          have hfz86_7 := blk_frozen BK415.out 7
                          have hfz86_8 := blk_frozen BK415.out 8
                          have hfz86_9 := blk_frozen BK415.out 9
                          have hfz86_10 := blk_frozen BK415.out 10
                          have hfz86_11 := blk_frozen BK415.out 11
                          have hfz86_12 := blk_frozen BK415.out 12
                          go_wp2_with (first | ((with_reducible refine gate_callee (f := 19) rfl ?_); refine gm (some 68) Try.func19 #[.int .u64 a0_1, .int .u64 a0_2, .int .u64 a0_5, .int .u64 a0_11, .int .u64 a0_12] (gcra_Admit.calls kj69 a0_1 a0_2 a0_5 a0_11 a0_12 t427 t428 _ A77.out) ?_; intro w87 hb; have n0_ := bb BK415 hb; have n1_ := bb BK417 hb; have n2_ := bb BK418 hb; have n3_ := bb BK424 hb; have n4_ := bs HB hb; clear BK415; clear BK417; clear BK418; clear BK424; clear HB; have BK415 := n0_; have BK417 := n1_; have BK418 := n2_; have BK424 := n3_; have HB := n4_; clear n0_ n1_ n2_ n3_ n4_; (try clear hb); (try clear hb2); (try clear hk); (try clear hi)))
                          go_meet
                          case rel => exact ⟨_, (t427), (t428), rs, rs, H', ⟨by have := HJ1.out; have := HJ7.out; have := HJ36.out; have := HJ69.out; first | omega | exact Nat.le_refl _⟩, ⟨bk BK415⟩, ⟨bk BK417⟩, ⟨bk BK418⟩, ⟨bk BK424⟩, ⟨bw HB⟩⟩
                        case rest => as_aux_lemma =>
                          clear HC76
                          try clear c1
                          try clear c2
                          try clear p2
                          try clear c3
                          try clear c4
                          try clear c5
                          try clear c6
                          try clear c7
                          try clear c8
                          try clear c11
                          try clear c14
                          try clear c15
                          try clear c16
                          try clear c17
                          try clear c18
                          try clear c19
                          try clear c22
                          try clear c23
                          try clear c24
                          try clear c27
                          try clear c28
                          try clear c29
                          try clear c31
                          try clear c32
                          try clear c34
                          try clear c39
                          try clear c40
                          try clear c41
                          try clear c44
                          try clear c45
                          try clear c45b0
                          try clear c45b1
                          try clear c45b2
                          try clear c46
                          try clear c47
                          try clear c48
                          try clear c49
                          try clear c51
                          try clear c51b0
                          try clear c51b1
                          try clear c55
                          try clear c56
                          try clear c57
                          try clear c62
                          try clear c63
                          try clear c64
                          try clear c66
                          try clear c67
                          try clear c68
                          try clear c71
                          try clear c72
                          try clear c73
                          try clear c75
                          try clear c78
                          try clear c79
                          try clear c80
                          try clear c82
                          try clear c83
                          try clear c85
                          try clear hcz12_0
                          try clear hcz12_1
                          try clear hcz12_2
                          try clear hcz12_3
                          try clear hcz12_4
                          try clear hcz13_0
                          try clear hcz13_1
                          try clear hcz13_10
                          try clear hcz13_11
                          try clear hcz13_12
                          try clear hcz13_2
                          try clear hcz13_3
                          try clear hcz13_4
                          try clear hcz13_5
                          try clear hcz13_6
                          try clear hcz13_7
                          try clear hcz13_8
                          try clear hcz13_9
                          try clear hcz17_0
                          try clear hcz17_1
                          try clear hcz17_2
                          try clear hcz18_0
                          try clear hcz18_1
                          try clear hcz18_2
                          try clear hcz18_3
                          try clear hcz18_4
                          try clear hcz19_0
                          try clear hcz19_1
                          try clear hcz19_10
                          try clear hcz19_11
                          try clear hcz19_12
                          try clear hcz19_2
                          try clear hcz19_3
                          try clear hcz19_4
                          try clear hcz19_5
                          try clear hcz19_6
                          try clear hcz19_7
                          try clear hcz19_8
                          try clear hcz19_9
                          try clear hcz25_0
                          try clear hcz25_1
                          try clear hcz25_2
                          try clear hcz30_0
                          try clear hcz30_1
                          try clear hcz30_2
                          try clear hcz30_3
                          try clear hcz30_4
                          try clear hcz33_0
                          try clear hcz33_1
                          try clear hcz33_2
                          try clear hcz35_0
                          try clear hcz35_1
                          try clear hcz35_10
                          try clear hcz35_11
                          try clear hcz35_12
                          try clear hcz35_2
                          try clear hcz35_3
                          try clear hcz35_4
                          try clear hcz35_5
                          try clear hcz35_6
                          try clear hcz35_7
                          try clear hcz35_8
                          try clear hcz35_9
                          try clear hcz42_0
                          try clear hcz42_1
                          try clear hcz42_2
                          try clear hcz42_3
                          try clear hcz42_4
                          try clear hcz50_0
                          try clear hcz50_1
                          try clear hcz50_2
                          try clear hcz58_0
                          try clear hcz58_1
                          try clear hcz58_2
                          try clear hcz65_0
                          try clear hcz65_1
                          try clear hcz65_2
                          try clear hcz69_0
                          try clear hcz69_1
                          try clear hcz69_2
                          try clear hcz74_0
                          try clear hcz74_1
                          try clear hcz74_2
                          try clear hcz74_3
                          try clear hcz74_4
                          try clear hcz81_0
                          try clear hcz81_1
                          try clear hcz81_2
                          try clear hcz81_3
                          try clear hcz81_4
                          try clear hcz84_0
                          try clear hcz84_1
                          try clear hcz84_2
                          try clear hcz86_0
                          try clear hcz86_1
                          try clear hcz86_10
                          try clear hcz86_11
                          try clear hcz86_12
                          try clear hcz86_2
                          try clear hcz86_3
                          try clear hcz86_4
                          try clear hcz86_5
                          try clear hcz86_6
                          try clear hcz86_7
                          try clear hcz86_8
                          try clear hcz86_9
                          try clear hcz9_0
                          try clear hcz9_1
                          try clear hcz9_10
                          try clear hcz9_11
                          try clear hcz9_12
                          try clear hcz9_2
                          try clear hcz9_3
                          try clear hcz9_4
                          try clear hcz9_5
                          try clear hcz9_6
                          try clear hcz9_7
                          try clear hcz9_8
                          try clear hcz9_9
                          try clear hfz12_0
                          try clear hfz12_1
                          try clear hfz12_2
                          try clear hfz12_3
                          try clear hfz12_4
                          try clear hfz13_0
                          try clear hfz13_1
                          try clear hfz13_10
                          try clear hfz13_11
                          try clear hfz13_12
                          try clear hfz13_2
                          try clear hfz13_3
                          try clear hfz13_4
                          try clear hfz13_5
                          try clear hfz13_6
                          try clear hfz13_7
                          try clear hfz13_8
                          try clear hfz13_9
                          try clear hfz17_0
                          try clear hfz17_1
                          try clear hfz17_2
                          try clear hfz18_0
                          try clear hfz18_1
                          try clear hfz18_2
                          try clear hfz18_3
                          try clear hfz18_4
                          try clear hfz19_0
                          try clear hfz19_1
                          try clear hfz19_10
                          try clear hfz19_11
                          try clear hfz19_12
                          try clear hfz19_2
                          try clear hfz19_3
                          try clear hfz19_4
                          try clear hfz19_5
                          try clear hfz19_6
                          try clear hfz19_7
                          try clear hfz19_8
                          try clear hfz19_9
                          try clear hfz25_0
                          try clear hfz25_1
                          try clear hfz25_2
                          try clear hfz30_0
                          try clear hfz30_1
                          try clear hfz30_2
                          try clear hfz30_3
                          try clear hfz30_4
                          try clear hfz33_0
                          try clear hfz33_1
                          try clear hfz33_2
                          try clear hfz35_0
                          try clear hfz35_1
                          try clear hfz35_10
                          try clear hfz35_11
                          try clear hfz35_12
                          try clear hfz35_2
                          try clear hfz35_3
                          try clear hfz35_4
                          try clear hfz35_5
                          try clear hfz35_6
                          try clear hfz35_7
                          try clear hfz35_8
                          try clear hfz35_9
                          try clear hfz42_0
                          try clear hfz42_1
                          try clear hfz42_2
                          try clear hfz42_3
                          try clear hfz42_4
                          try clear hfz50_0
                          try clear hfz50_1
                          try clear hfz50_2
                          try clear hfz58_0
                          try clear hfz58_1
                          try clear hfz58_2
                          try clear hfz65_0
                          try clear hfz65_1
                          try clear hfz65_2
                          try clear hfz69_0
                          try clear hfz69_1
                          try clear hfz69_2
                          try clear hfz74_0
                          try clear hfz74_1
                          try clear hfz74_2
                          try clear hfz74_3
                          try clear hfz74_4
                          try clear hfz81_0
                          try clear hfz81_1
                          try clear hfz81_2
                          try clear hfz81_3
                          try clear hfz81_4
                          try clear hfz84_0
                          try clear hfz84_1
                          try clear hfz84_2
                          try clear hfz86_0
                          try clear hfz86_1
                          try clear hfz86_10
                          try clear hfz86_11
                          try clear hfz86_12
                          try clear hfz86_2
                          try clear hfz86_3
                          try clear hfz86_4
                          try clear hfz86_5
                          try clear hfz86_6
                          try clear hfz86_7
                          try clear hfz86_8
                          try clear hfz86_9
                          try clear hfz9_0
                          try clear hfz9_1
                          try clear hfz9_10
                          try clear hfz9_11
                          try clear hfz9_12
                          try clear hfz9_2
                          try clear hfz9_3
                          try clear hfz9_4
                          try clear hfz9_5
                          try clear hfz9_6
                          try clear hfz9_7
                          try clear hfz9_8
                          try clear hfz9_9
                          try clear p2
                          obtain ⟨kq, x9_75, x10_75, rfl, rfl, HA, HJ75, BK415, BK417, BK418, BK424, HB⟩ := hcut
                          cases kq with
                          | zero => exact absurd HA.out (by simp [turnstilelaw06_PolicyFace.j4])
                          | succ kj75 =>
                            have H := HA.out
                            clear HA
                            simp only [turnstilelaw06_PolicyFace.j4] at H
                            by_cases c88 : x10_75 = true
                            · subst c88
                              have H1 : (if (t419 == x9_75 && (t420 == 0 && (t421 == 0))) = true then (if (t422 == true) = true then (if t423 = 0 then ((gcra_Burst.f kj75 a0_1 a0_2 a0_5 a0_11).bind fun t429 => (some (x8_7 == t429))) else (if t422 = true then (some false) else ((gcra_Burst.f kj75 a0_1 a0_2 a0_5 a0_11).bind fun t430 => (some (x8_7 == t430))))) else (some false)) else (some false)) = some r := by rw [if_pos rfl] at H; exact H
                              clear H
                              have H := H1
                              clear H1
                              by_cases c89 : (t419 == x9_75 && (t420 == 0 && (t421 == 0))) = true
                              · rw [if_pos c89] at H
                                have c89b0 : (t419 == x9_75 && (t420 == 0 && (t421 == 0))) = true := c89
                                (try (have c89b1 : decide (t419 = x9_75 && (t420 == 0 && (t421 == 0))) = true := by simpa using c89))
                                (try (have c89b2 : (t419 == x9_75 && (t420 == 0 && (t421 == 0))) = true := by simpa using c89))
                                clear c89
                                by_cases c90 : (t422 == true) = true
                                · rw [if_pos c90] at H
                                  have c90b0 : (t422 == true) = true := c90
                                  (try (have c90b1 : decide (t422 = true) = true := by simpa using c90))
                                  (try (have c90b2 : (t422 == true) = true := by simpa using c90))
                                  clear c90
                                  by_cases c91 : t423 = 0
                                  · rw [if_pos c91] at H
                                    have c91b0 : (t423 == 0) = true := beq_iff_eq.mpr c91
                                    have c91b1 : (t423 != 0) = false := bne_eq_false_iff_eq.mpr c91
                                    clear c91
                                    (try (have hd92 := c89b0; rw [c91b0] at hd92; (first | rw [Bool.true_and] at hd92 | rw [Bool.and_true] at hd92 | (rw [Bool.not_true] at hd92; rw [Bool.false_or] at hd92) | skip)))
                                    (try (have hd93 := c89b1; rw [c91b0] at hd93; (first | rw [Bool.true_and] at hd93 | rw [Bool.and_true] at hd93 | (rw [Bool.not_true] at hd93; rw [Bool.false_or] at hd93) | skip)))
                                    (try (have hd94 := c89b2; rw [c91b0] at hd94; (first | rw [Bool.true_and] at hd94 | rw [Bool.and_true] at hd94 | (rw [Bool.not_true] at hd94; rw [Bool.false_or] at hd94) | skip)))
                                    replace H := Option.bind_eq_some_iff.mp H
                                    obtain ⟨t429, A950, H⟩ := H
                                    replace H : (some (x8_7 == t429)) = some r := H
                                    have A95 := Aside0.mk A950
                                    clear A950
                                    obtain rfl := Option.some.inj H
                                    have hnb96 := NB424_415.out
                                    have hnc96 := NB415_424.out
                                    have hnb97 := NB424_417.out
                                    have hnc97 := NB417_424.out
                                    have hnb98 := NB424_418.out
                                    have hnc98 := NB418_424.out
                                    obtain ⟨hcz99_0, hcz99_1, hcz99_2, hfz99_0, hfz99_1, hfz99_2⟩ := bc3 BK424
                                    have hnb100 := NB417_415.out
                                    have hnc100 := NB415_417.out
                                    have hnb101 := NB417_418.out
                                    have hnc101 := NB418_417.out
                                    obtain ⟨hcz102_0, hcz102_1, hcz102_2, hcz102_3, hcz102_4, hfz102_0, hfz102_1, hfz102_2, hfz102_3, hfz102_4⟩ := bc5 BK417
                                    have hnb103 := NB418_415.out
                                    have hnc103 := NB415_418.out
                                    obtain ⟨hcz104_0, hcz104_1, hcz104_2, hfz104_0, hfz104_1, hfz104_2⟩ := bc3 BK418
                                    have hcz105_0 : wc.cell? ⟨gb415, 0, none⟩ = some (.int .i64 a0_0) := (blk_cell BK415.out 0).trans rfl
                                    have hcz105_1 : wc.cell? ⟨gb415, 1, none⟩ = some (.int .u64 a0_1) := (blk_cell BK415.out 1).trans rfl
                                    have hcz105_2 : wc.cell? ⟨gb415, 2, none⟩ = some (.int .u64 a0_2) := (blk_cell BK415.out 2).trans rfl
                                    have hcz105_3 : wc.cell? ⟨gb415, 3, none⟩ = some (.int .u64 a0_3) := (blk_cell BK415.out 3).trans rfl
                                    have hcz105_4 : wc.cell? ⟨gb415, 4, none⟩ = some (.int .u64 a0_4) := (blk_cell BK415.out 4).trans rfl
                                    have hcz105_5 : wc.cell? ⟨gb415, 5, none⟩ = some (.int .u64 a0_5) := (blk_cell BK415.out 5).trans rfl
                                    have hcz105_6 : wc.cell? ⟨gb415, 6, none⟩ = some (.int .u64 a0_6) := (blk_cell BK415.out 6).trans rfl
                                    have hcz105_7 : wc.cell? ⟨gb415, 7, none⟩ = some (.int .u64 a0_7) := (blk_cell BK415.out 7).trans rfl
                                    have hcz105_8 : wc.cell? ⟨gb415, 8, none⟩ = some (.int .u64 a0_8) := (blk_cell BK415.out 8).trans rfl
                                    have hcz105_9 : wc.cell? ⟨gb415, 9, none⟩ = some (.int .u64 a0_9) := (blk_cell BK415.out 9).trans rfl
                                    have hcz105_10 : wc.cell? ⟨gb415, 10, none⟩ = some (.int .u64 a0_10) := (blk_cell BK415.out 10).trans rfl
                                    have hcz105_11 : wc.cell? ⟨gb415, 11, none⟩ = some (.int .u64 a0_11) := (blk_cell BK415.out 11).trans rfl
                                    have hcz105_12 : wc.cell? ⟨gb415, 12, none⟩ = some (.int .u64 a0_12) := (blk_cell BK415.out 12).trans rfl
                                    have hfz105_0 := blk_frozen BK415.out 0
                                    have hfz105_1 := blk_frozen BK415.out 1
                                    have hfz105_2 := blk_frozen BK415.out 2
                                    have hfz105_3 := blk_frozen BK415.out 3
                                    have hfz105_4 := blk_frozen BK415.out 4
                                    have hfz105_5 := blk_frozen BK415.out 5
                                    have hfz105_6 := blk_frozen BK415.out 6
                                    have hfz105_7 := blk_frozen BK415.out 7
                                    have hfz105_8 := blk_frozen BK415.out 8
                                    have hfz105_9 := blk_frozen BK415.out 9
                                    have hfz105_10 := blk_frozen BK415.out 10
                                    have hfz105_11 := blk_frozen BK415.out 11
                                    have hfz105_12 := blk_frozen BK415.out 12
                                    go_wp2_with (first | (go_at_call 21; (with_reducible refine (gcra_Burst.calls kj75 a0_1 a0_2 a0_5 a0_11 t429 _ A95.out).mono ?_); rintro e w106 ⟨rfl, hb⟩; have n0_ := bb BK415 hb; have n1_ := bb BK417 hb; have n2_ := bb BK418 hb; have n3_ := bb BK424 hb; have n4_ := bs HB hb; clear BK415; clear BK417; clear BK418; clear BK424; clear HB; have BK415 := n0_; have BK417 := n1_; have BK418 := n2_; have BK424 := n3_; have HB := n4_; clear n0_ n1_ n2_ n3_ n4_; (try clear hb); (try clear hb2); (try clear hk); (try clear hi)))
                                    go_ret
                                    exact ⟨re, bw HB⟩
                                  · rw [if_neg c91] at H
                                    have c91b0 : (t423 == 0) = false := beq_eq_false_iff_ne.mpr c91
                                    have c91b1 : (t423 != 0) = true := bne_iff_ne.mpr c91
                                    (try (have hd107 := c89b0; rw [c91b0] at hd107; (first | rw [Bool.true_and] at hd107 | rw [Bool.and_true] at hd107 | (rw [Bool.not_true] at hd107; rw [Bool.false_or] at hd107) | skip)))
                                    (try (have hd108 := c89b1; rw [c91b0] at hd108; (first | rw [Bool.true_and] at hd108 | rw [Bool.and_true] at hd108 | (rw [Bool.not_true] at hd108; rw [Bool.false_or] at hd108) | skip)))
                                    (try (have hd109 := c89b2; rw [c91b0] at hd109; (first | rw [Bool.true_and] at hd109 | rw [Bool.and_true] at hd109 | (rw [Bool.not_true] at hd109; rw [Bool.false_or] at hd109) | skip)))
                                    by_cases c110 : t422 = true
                                    · subst c110
                                      have H1 : (some false) = some r := by rw [if_pos rfl] at H; exact H
                                      clear H
                                      have H := H1
                                      clear H1
                                      obtain rfl := Option.some.inj H
                                      have hnb111 := NB424_415.out
                                      have hnc111 := NB415_424.out
                                      have hnb112 := NB424_417.out
                                      have hnc112 := NB417_424.out
                                      have hnb113 := NB424_418.out
                                      have hnc113 := NB418_424.out
                                      obtain ⟨hcz114_0, hcz114_1, hcz114_2, hfz114_0, hfz114_1, hfz114_2⟩ := bc3 BK424
                                      go_wp2
                                      go_ret
                                      exact ⟨re, bw HB⟩
                                    · replace c110 := Bool.eq_false_iff.mpr c110
                                      subst c110
                                      have H1 : ((gcra_Burst.f kj75 a0_1 a0_2 a0_5 a0_11).bind fun t430 => (some (x8_7 == t430))) = some r := by rw [if_neg (show ¬ (false = true) by decide)] at H; exact H
                                      clear H
                                      have H := H1
                                      clear H1
                                      replace H := Option.bind_eq_some_iff.mp H
                                      obtain ⟨t430, A1150, H⟩ := H
                                      replace H : (some (x8_7 == t430)) = some r := H
                                      have A115 := Aside0.mk A1150
                                      clear A1150
                                      obtain rfl := Option.some.inj H
                                      have hnb116 := NB424_415.out
                                      have hnc116 := NB415_424.out
                                      have hnb117 := NB424_417.out
                                      have hnc117 := NB417_424.out
                                      have hnb118 := NB424_418.out
                                      have hnc118 := NB418_424.out
                                      obtain ⟨hcz119_0, hcz119_1, hcz119_2, hfz119_0, hfz119_1, hfz119_2⟩ := bc3 BK424
                                      have hnb120 := NB417_415.out
                                      have hnc120 := NB415_417.out
                                      have hnb121 := NB417_418.out
                                      have hnc121 := NB418_417.out
                                      obtain ⟨hcz122_0, hcz122_1, hcz122_2, hcz122_3, hcz122_4, hfz122_0, hfz122_1, hfz122_2, hfz122_3, hfz122_4⟩ := bc5 BK417
                                      have hnb123 := NB418_415.out
                                      have hnc123 := NB415_418.out
                                      obtain ⟨hcz124_0, hcz124_1, hcz124_2, hfz124_0, hfz124_1, hfz124_2⟩ := bc3 BK418
                                      have hcz125_0 : wc.cell? ⟨gb415, 0, none⟩ = some (.int .i64 a0_0) := (blk_cell BK415.out 0).trans rfl
                                      have hcz125_1 : wc.cell? ⟨gb415, 1, none⟩ = some (.int .u64 a0_1) := (blk_cell BK415.out 1).trans rfl
                                      have hcz125_2 : wc.cell? ⟨gb415, 2, none⟩ = some (.int .u64 a0_2) := (blk_cell BK415.out 2).trans rfl
                                      have hcz125_3 : wc.cell? ⟨gb415, 3, none⟩ = some (.int .u64 a0_3) := (blk_cell BK415.out 3).trans rfl
                                      have hcz125_4 : wc.cell? ⟨gb415, 4, none⟩ = some (.int .u64 a0_4) := (blk_cell BK415.out 4).trans rfl
                                      have hcz125_5 : wc.cell? ⟨gb415, 5, none⟩ = some (.int .u64 a0_5) := (blk_cell BK415.out 5).trans rfl
                                      have hcz125_6 : wc.cell? ⟨gb415, 6, none⟩ = some (.int .u64 a0_6) := (blk_cell BK415.out 6).trans rfl
                                      have hcz125_7 : wc.cell? ⟨gb415, 7, none⟩ = some (.int .u64 a0_7) := (blk_cell BK415.out 7).trans rfl
                                      have hcz125_8 : wc.cell? ⟨gb415, 8, none⟩ = some (.int .u64 a0_8) := (blk_cell BK415.out 8).trans rfl
                                      have hcz125_9 : wc.cell? ⟨gb415, 9, none⟩ = some (.int .u64 a0_9) := (blk_cell BK415.out 9).trans rfl
                                      have hcz125_10 : wc.cell? ⟨gb415, 10, none⟩ = some (.int .u64 a0_10) := (blk_cell BK415.out 10).trans rfl
                                      have hcz125_11 : wc.cell? ⟨gb415, 11, none⟩ = some (.int .u64 a0_11) := (blk_cell BK415.out 11).trans rfl
                                      have hcz125_12 : wc.cell? ⟨gb415, 12, none⟩ = some (.int .u64 a0_12) := (blk_cell BK415.out 12).trans rfl
                                      have hfz125_0 := blk_frozen BK415.out 0
                                      have hfz125_1 := blk_frozen BK415.out 1
                                      have hfz125_2 := blk_frozen BK415.out 2
                                      have hfz125_3 := blk_frozen BK415.out 3
                                      have hfz125_4 := blk_frozen BK415.out 4
                                      have hfz125_5 := blk_frozen BK415.out 5
                                      have hfz125_6 := blk_frozen BK415.out 6
                                      have hfz125_7 := blk_frozen BK415.out 7
                                      have hfz125_8 := blk_frozen BK415.out 8
                                      have hfz125_9 := blk_frozen BK415.out 9
                                      have hfz125_10 := blk_frozen BK415.out 10
                                      have hfz125_11 := blk_frozen BK415.out 11
                                      have hfz125_12 := blk_frozen BK415.out 12
                                      go_wp2_with (first | (go_at_call 21; (with_reducible refine (gcra_Burst.calls kj75 a0_1 a0_2 a0_5 a0_11 t430 _ A115.out).mono ?_); rintro e w126 ⟨rfl, hb⟩; have n0_ := bb BK415 hb; have n1_ := bb BK417 hb; have n2_ := bb BK418 hb; have n3_ := bb BK424 hb; have n4_ := bs HB hb; clear BK415; clear BK417; clear BK418; clear BK424; clear HB; have BK415 := n0_; have BK417 := n1_; have BK418 := n2_; have BK424 := n3_; have HB := n4_; clear n0_ n1_ n2_ n3_ n4_; (try clear hb); (try clear hb2); (try clear hk); (try clear hi)))
                                      go_ret
                                      exact ⟨re, bw HB⟩
                                · rw [if_neg c90] at H
                                  have c90b0 : (t422 == true) = false := by simpa using c90
                                  (try (have c90b1 : decide (t422 = true) = false := by simpa using c90))
                                  (try (have c90b2 : (t422 == true) = false := by simpa using c90))
                                  (try (have c90b3 : ¬ (t422 = true) := by simpa using c90))
                                  clear c90
                                  obtain rfl := Option.some.inj H
                                  have hnb127 := NB424_415.out
                                  have hnc127 := NB415_424.out
                                  have hnb128 := NB424_417.out
                                  have hnc128 := NB417_424.out
                                  have hnb129 := NB424_418.out
                                  have hnc129 := NB418_424.out
                                  obtain ⟨hcz130_0, hcz130_1, hcz130_2, hfz130_0, hfz130_1, hfz130_2⟩ := bc3 BK424
                                  go_wp2
                                  go_ret
                                  exact ⟨re, bw HB⟩
                              · rw [if_neg c89] at H
                                have c89b0 : (t419 == x9_75 && (t420 == 0 && (t421 == 0))) = false := by simpa using c89
                                (try (have c89b1 : decide (t419 = x9_75 && (t420 == 0 && (t421 == 0))) = false := by simpa using c89))
                                (try (have c89b2 : (t419 == x9_75 && (t420 == 0 && (t421 == 0))) = false := by simpa using c89))
                                (try (have c89b3 : ¬ (t419 = x9_75 && (t420 == 0 && (t421 == 0))) := by simpa using c89))
                                clear c89
                                obtain rfl := Option.some.inj H
                                have hnb131 := NB424_415.out
                                have hnc131 := NB415_424.out
                                have hnb132 := NB424_417.out
                                have hnc132 := NB417_424.out
                                have hnb133 := NB424_418.out
                                have hnc133 := NB418_424.out
                                obtain ⟨hcz134_0, hcz134_1, hcz134_2, hfz134_0, hfz134_1, hfz134_2⟩ := bc3 BK424
                                go_wp2
                                go_ret
                                exact ⟨re, bw HB⟩
                            · replace c88 := Bool.eq_false_iff.mpr c88
                              subst c88
                              have H1 : ((gcra_Retry.f kj75 a0_1 a0_2 a0_5 a0_11 a0_12).bind fun t431 => (if t423 = t431 then (if (t419 == x9_75 && (t420 == 0 && (t421 == 0))) = true then (if (t422 == false) = true then (if t423 = 0 then ((gcra_Burst.f kj75 a0_1 a0_2 a0_5 a0_11).bind fun t432 => (some (x8_7 == t432))) else (if t422 = true then (some false) else ((gcra_Burst.f kj75 a0_1 a0_2 a0_5 a0_11).bind fun t433 => (some (x8_7 == t433))))) else (some false)) else (some false)) else (some false))) = some r := by rw [if_neg (show ¬ (false = true) by decide)] at H; exact H
                              clear H
                              have H := H1
                              clear H1
                              replace H := Option.bind_eq_some_iff.mp H
                              obtain ⟨t431, A1350, H⟩ := H
                              replace H : (if t423 = t431 then (if (t419 == x9_75 && (t420 == 0 && (t421 == 0))) = true then (if (t422 == false) = true then (if t423 = 0 then ((gcra_Burst.f kj75 a0_1 a0_2 a0_5 a0_11).bind fun t432 => (some (x8_7 == t432))) else (if t422 = true then (some false) else ((gcra_Burst.f kj75 a0_1 a0_2 a0_5 a0_11).bind fun t433 => (some (x8_7 == t433))))) else (some false)) else (some false)) else (some false)) = some r := H
                              have A135 := Aside0.mk A1350
                              clear A1350
                              by_cases c136 : t423 = t431
                              · rw [if_pos c136] at H
                                have c136b0 : (t423 == t431) = true := beq_iff_eq.mpr c136
                                have c136b1 : (t423 != t431) = false := bne_eq_false_iff_eq.mpr c136
                                clear c136
                                by_cases c137 : (t419 == x9_75 && (t420 == 0 && (t421 == 0))) = true
                                · rw [if_pos c137] at H
                                  have c137b0 : (t419 == x9_75 && (t420 == 0 && (t421 == 0))) = true := c137
                                  (try (have c137b1 : decide (t419 = x9_75 && (t420 == 0 && (t421 == 0))) = true := by simpa using c137))
                                  (try (have c137b2 : (t419 == x9_75 && (t420 == 0 && (t421 == 0))) = true := by simpa using c137))
                                  clear c137
                                  by_cases c138 : (t422 == false) = true
                                  · rw [if_pos c138] at H
                                    have c138b0 : (t422 == false) = true := c138
                                    (try (have c138b1 : decide (t422 = false) = true := by simpa using c138))
                                    (try (have c138b2 : (t422 == false) = true := by simpa using c138))
                                    clear c138
                                    by_cases c139 : t423 = 0
                                    · rw [if_pos c139] at H
                                      have c139b0 : (t423 == 0) = true := beq_iff_eq.mpr c139
                                      have c139b1 : (t423 != 0) = false := bne_eq_false_iff_eq.mpr c139
                                      clear c139
                                      (try (have hd140 := c137b0; rw [c139b0] at hd140; (first | rw [Bool.true_and] at hd140 | rw [Bool.and_true] at hd140 | (rw [Bool.not_true] at hd140; rw [Bool.false_or] at hd140) | skip)))
                                      (try (have hd141 := c137b1; rw [c139b0] at hd141; (first | rw [Bool.true_and] at hd141 | rw [Bool.and_true] at hd141 | (rw [Bool.not_true] at hd141; rw [Bool.false_or] at hd141) | skip)))
                                      (try (have hd142 := c137b2; rw [c139b0] at hd142; (first | rw [Bool.true_and] at hd142 | rw [Bool.and_true] at hd142 | (rw [Bool.not_true] at hd142; rw [Bool.false_or] at hd142) | skip)))
                                      replace H := Option.bind_eq_some_iff.mp H
                                      obtain ⟨t432, A1430, H⟩ := H
                                      replace H : (some (x8_7 == t432)) = some r := H
                                      have A143 := Aside0.mk A1430
                                      clear A1430
                                      obtain rfl := Option.some.inj H
                                      have hnb144 := NB417_415.out
                                      have hnc144 := NB415_417.out
                                      have hnb145 := NB417_418.out
                                      have hnc145 := NB418_417.out
                                      have hnb146 := NB417_424.out
                                      have hnc146 := NB424_417.out
                                      obtain ⟨hcz147_0, hcz147_1, hcz147_2, hcz147_3, hcz147_4, hfz147_0, hfz147_1, hfz147_2, hfz147_3, hfz147_4⟩ := bc5 BK417
                                      have hnb148 := NB418_415.out
                                      have hnc148 := NB415_418.out
                                      have hnb149 := NB418_424.out
                                      have hnc149 := NB424_418.out
                                      obtain ⟨hcz150_0, hcz150_1, hcz150_2, hfz150_0, hfz150_1, hfz150_2⟩ := bc3 BK418
                                      have hnb151 := NB415_424.out
                                      have hnc151 := NB424_415.out
                                      have hcz152_0 : wc.cell? ⟨gb415, 0, none⟩ = some (.int .i64 a0_0) := (blk_cell BK415.out 0).trans rfl
                                      have hcz152_1 : wc.cell? ⟨gb415, 1, none⟩ = some (.int .u64 a0_1) := (blk_cell BK415.out 1).trans rfl
                                      have hcz152_2 : wc.cell? ⟨gb415, 2, none⟩ = some (.int .u64 a0_2) := (blk_cell BK415.out 2).trans rfl
                                      have hcz152_3 : wc.cell? ⟨gb415, 3, none⟩ = some (.int .u64 a0_3) := (blk_cell BK415.out 3).trans rfl
                                      have hcz152_4 : wc.cell? ⟨gb415, 4, none⟩ = some (.int .u64 a0_4) := (blk_cell BK415.out 4).trans rfl
                                      have hcz152_5 : wc.cell? ⟨gb415, 5, none⟩ = some (.int .u64 a0_5) := (blk_cell BK415.out 5).trans rfl
                                      have hcz152_6 : wc.cell? ⟨gb415, 6, none⟩ = some (.int .u64 a0_6) := (blk_cell BK415.out 6).trans rfl
                                      have hcz152_7 : wc.cell? ⟨gb415, 7, none⟩ = some (.int .u64 a0_7) := (blk_cell BK415.out 7).trans rfl
                                      have hcz152_8 : wc.cell? ⟨gb415, 8, none⟩ = some (.int .u64 a0_8) := (blk_cell BK415.out 8).trans rfl
                                      have hcz152_9 : wc.cell? ⟨gb415, 9, none⟩ = some (.int .u64 a0_9) := (blk_cell BK415.out 9).trans rfl
                                      have hcz152_10 : wc.cell? ⟨gb415, 10, none⟩ = some (.int .u64 a0_10) := (blk_cell BK415.out 10).trans rfl
                                      have hcz152_11 : wc.cell? ⟨gb415, 11, none⟩ = some (.int .u64 a0_11) := (blk_cell BK415.out 11).trans rfl
                                      have hcz152_12 : wc.cell? ⟨gb415, 12, none⟩ = some (.int .u64 a0_12) := (blk_cell BK415.out 12).trans rfl
                                      have hfz152_0 := blk_frozen BK415.out 0
                                      have hfz152_1 := blk_frozen BK415.out 1
                                      have hfz152_2 := blk_frozen BK415.out 2
                                      have hfz152_3 := blk_frozen BK415.out 3
                                      have hfz152_4 := blk_frozen BK415.out 4
                                      have hfz152_5 := blk_frozen BK415.out 5
                                      have hfz152_6 := blk_frozen BK415.out 6
                                      have hfz152_7 := blk_frozen BK415.out 7
                                      have hfz152_8 := blk_frozen BK415.out 8
                                      have hfz152_9 := blk_frozen BK415.out 9
                                      have hfz152_10 := blk_frozen BK415.out 10
                                      have hfz152_11 := blk_frozen BK415.out 11
                                      have hfz152_12 := blk_frozen BK415.out 12
                                      go_wp2_with (first | (go_at_call 20; (with_reducible refine (gcra_Retry.calls kj75 a0_1 a0_2 a0_5 a0_11 a0_12 t431 _ A135.out).mono ?_); rintro e w153 ⟨rfl, hb⟩; have n0_ := bb BK415 hb; have n1_ := bb BK417 hb; have n2_ := bb BK418 hb; have n3_ := bb BK424 hb; have n4_ := bs HB hb; clear BK415; clear BK417; clear BK418; clear BK424; clear HB; have BK415 := n0_; have BK417 := n1_; have BK418 := n2_; have BK424 := n3_; have HB := n4_; clear n0_ n1_ n2_ n3_ n4_; (try clear hb); (try clear hb2); (try clear hk); (try clear hi); obtain ⟨hcz154_0, hcz154_1, hcz154_2, hfz154_0, hfz154_1, hfz154_2⟩ := bc3 BK424; obtain ⟨hcz155_0, hcz155_1, hcz155_2, hcz155_3, hcz155_4, hfz155_0, hfz155_1, hfz155_2, hfz155_3, hfz155_4⟩ := bc5 BK417; obtain ⟨hcz156_0, hcz156_1, hcz156_2, hfz156_0, hfz156_1, hfz156_2⟩ := bc3 BK418; have hcz157_0 : w153.cell? ⟨gb415, 0, none⟩ = some (.int .i64 a0_0) := (blk_cell BK415.out 0).trans rfl; have hcz157_1 : w153.cell? ⟨gb415, 1, none⟩ = some (.int .u64 a0_1) := (blk_cell BK415.out 1).trans rfl; have hcz157_2 : w153.cell? ⟨gb415, 2, none⟩ = some (.int .u64 a0_2) := (blk_cell BK415.out 2).trans rfl; have hcz157_3 : w153.cell? ⟨gb415, 3, none⟩ = some (.int .u64 a0_3) := (blk_cell BK415.out 3).trans rfl; have hcz157_4 : w153.cell? ⟨gb415, 4, none⟩ = some (.int .u64 a0_4) := (blk_cell BK415.out 4).trans rfl; have hcz157_5 : w153.cell? ⟨gb415, 5, none⟩ = some (.int .u64 a0_5) := (blk_cell BK415.out 5).trans rfl; have hcz157_6 : w153.cell? ⟨gb415, 6, none⟩ = some (.int .u64 a0_6) := (blk_cell BK415.out 6).trans rfl; have hcz157_7 : w153.cell? ⟨gb415, 7, none⟩ = some (.int .u64 a0_7) := (blk_cell BK415.out 7).trans rfl; have hcz157_8 : w153.cell? ⟨gb415, 8, none⟩ = some (.int .u64 a0_8) := (blk_cell BK415.out 8).trans rfl; have hcz157_9 : w153.cell? ⟨gb415, 9, none⟩ = some (.int .u64 a0_9) := (blk_cell BK415.out 9).trans rfl; have hcz157_10 : w153.cell? ⟨gb415, 10, none⟩ = some (.int .u64 a0_10) := (blk_cell BK415.out 10).trans rfl; have hcz157_11 : w153.cell? ⟨gb415, 11, none⟩ = some (.int .u64 a0_11) := (blk_cell BK415.out 11).trans rfl; have hcz157_12 : w153.cell? ⟨gb415, 12, none⟩ = some (.int .u64 a0_12) := (blk_cell BK415.out 12).trans rfl; have hfz157_0 := blk_frozen BK415.out 0; have hfz157_1 := blk_frozen BK415.out 1; have hfz157_2 := blk_frozen BK415.out 2; have hfz157_3 := blk_frozen BK415.out 3; have hfz157_4 := blk_frozen BK415.out 4; have hfz157_5 := blk_frozen BK415.out 5; have hfz157_6 := blk_frozen BK415.out 6; have hfz157_7 := blk_frozen BK415.out 7; have hfz157_8 := blk_frozen BK415.out 8; have hfz157_9 := blk_frozen BK415.out 9; have hfz157_10 := blk_frozen BK415.out 10; have hfz157_11 := blk_frozen BK415.out 11; have hfz157_12 := blk_frozen BK415.out 12) | (go_at_call 21; (with_reducible refine (gcra_Burst.calls kj75 a0_1 a0_2 a0_5 a0_11 t432 _ A143.out).mono ?_); rintro e w158 ⟨rfl, hb⟩; have n0_ := bb BK415 hb; have n1_ := bb BK417 hb; have n2_ := bb BK418 hb; have n3_ := bb BK424 hb; have n4_ := bs HB hb; clear BK415; clear BK417; clear BK418; clear BK424; clear HB; have BK415 := n0_; have BK417 := n1_; have BK418 := n2_; have BK424 := n3_; have HB := n4_; clear n0_ n1_ n2_ n3_ n4_; (try clear hb); (try clear hb2); (try clear hk); (try clear hi)))
                                      go_ret
                                      exact ⟨re, bw HB⟩
                                    · rw [if_neg c139] at H
                                      have c139b0 : (t423 == 0) = false := beq_eq_false_iff_ne.mpr c139
                                      have c139b1 : (t423 != 0) = true := bne_iff_ne.mpr c139
                                      (try (have hd159 := c137b0; rw [c139b0] at hd159; (first | rw [Bool.true_and] at hd159 | rw [Bool.and_true] at hd159 | (rw [Bool.not_true] at hd159; rw [Bool.false_or] at hd159) | skip)))
                                      (try (have hd160 := c137b1; rw [c139b0] at hd160; (first | rw [Bool.true_and] at hd160 | rw [Bool.and_true] at hd160 | (rw [Bool.not_true] at hd160; rw [Bool.false_or] at hd160) | skip)))
                                      (try (have hd161 := c137b2; rw [c139b0] at hd161; (first | rw [Bool.true_and] at hd161 | rw [Bool.and_true] at hd161 | (rw [Bool.not_true] at hd161; rw [Bool.false_or] at hd161) | skip)))
                                      by_cases c162 : t422 = true
                                      · subst c162
                                        have H1 : (some false) = some r := by rw [if_pos rfl] at H; exact H
                                        clear H
                                        have H := H1
                                        clear H1
                                        obtain rfl := Option.some.inj H
                                        have hnb163 := NB417_415.out
                                        have hnc163 := NB415_417.out
                                        have hnb164 := NB417_418.out
                                        have hnc164 := NB418_417.out
                                        have hnb165 := NB417_424.out
                                        have hnc165 := NB424_417.out
                                        obtain ⟨hcz166_0, hcz166_1, hcz166_2, hcz166_3, hcz166_4, hfz166_0, hfz166_1, hfz166_2, hfz166_3, hfz166_4⟩ := bc5 BK417
                                        have hnb167 := NB418_415.out
                                        have hnc167 := NB415_418.out
                                        have hnb168 := NB418_424.out
                                        have hnc168 := NB424_418.out
                                        obtain ⟨hcz169_0, hcz169_1, hcz169_2, hfz169_0, hfz169_1, hfz169_2⟩ := bc3 BK418
                                        have hnb170 := NB415_424.out
                                        have hnc170 := NB424_415.out
                                        have hcz171_0 : wc.cell? ⟨gb415, 0, none⟩ = some (.int .i64 a0_0) := (blk_cell BK415.out 0).trans rfl
                                        have hcz171_1 : wc.cell? ⟨gb415, 1, none⟩ = some (.int .u64 a0_1) := (blk_cell BK415.out 1).trans rfl
                                        have hcz171_2 : wc.cell? ⟨gb415, 2, none⟩ = some (.int .u64 a0_2) := (blk_cell BK415.out 2).trans rfl
                                        have hcz171_3 : wc.cell? ⟨gb415, 3, none⟩ = some (.int .u64 a0_3) := (blk_cell BK415.out 3).trans rfl
                                        have hcz171_4 : wc.cell? ⟨gb415, 4, none⟩ = some (.int .u64 a0_4) := (blk_cell BK415.out 4).trans rfl
                                        have hcz171_5 : wc.cell? ⟨gb415, 5, none⟩ = some (.int .u64 a0_5) := (blk_cell BK415.out 5).trans rfl
                                        have hcz171_6 : wc.cell? ⟨gb415, 6, none⟩ = some (.int .u64 a0_6) := (blk_cell BK415.out 6).trans rfl
                                        have hcz171_7 : wc.cell? ⟨gb415, 7, none⟩ = some (.int .u64 a0_7) := (blk_cell BK415.out 7).trans rfl
                                        have hcz171_8 : wc.cell? ⟨gb415, 8, none⟩ = some (.int .u64 a0_8) := (blk_cell BK415.out 8).trans rfl
                                        have hcz171_9 : wc.cell? ⟨gb415, 9, none⟩ = some (.int .u64 a0_9) := (blk_cell BK415.out 9).trans rfl
                                        have hcz171_10 : wc.cell? ⟨gb415, 10, none⟩ = some (.int .u64 a0_10) := (blk_cell BK415.out 10).trans rfl
                                        have hcz171_11 : wc.cell? ⟨gb415, 11, none⟩ = some (.int .u64 a0_11) := (blk_cell BK415.out 11).trans rfl
                                        have hcz171_12 : wc.cell? ⟨gb415, 12, none⟩ = some (.int .u64 a0_12) := (blk_cell BK415.out 12).trans rfl
                                        have hfz171_0 := blk_frozen BK415.out 0
                                        have hfz171_1 := blk_frozen BK415.out 1
                                        have hfz171_2 := blk_frozen BK415.out 2
                                        have hfz171_3 := blk_frozen BK415.out 3
                                        have hfz171_4 := blk_frozen BK415.out 4
                                        have hfz171_5 := blk_frozen BK415.out 5
                                        have hfz171_6 := blk_frozen BK415.out 6
                                        have hfz171_7 := blk_frozen BK415.out 7
                                        have hfz171_8 := blk_frozen BK415.out 8
                                        have hfz171_9 := blk_frozen BK415.out 9
                                        have hfz171_10 := blk_frozen BK415.out 10
                                        have hfz171_11 := blk_frozen BK415.out 11
                                        have hfz171_12 := blk_frozen BK415.out 12
                                        go_wp2_with (first | (go_at_call 20; (with_reducible refine (gcra_Retry.calls kj75 a0_1 a0_2 a0_5 a0_11 a0_12 t431 _ A135.out).mono ?_); rintro e w172 ⟨rfl, hb⟩; have n0_ := bb BK415 hb; have n1_ := bb BK417 hb; have n2_ := bb BK418 hb; have n3_ := bb BK424 hb; have n4_ := bs HB hb; clear BK415; clear BK417; clear BK418; clear BK424; clear HB; have BK415 := n0_; have BK417 := n1_; have BK418 := n2_; have BK424 := n3_; have HB := n4_; clear n0_ n1_ n2_ n3_ n4_; (try clear hb); (try clear hb2); (try clear hk); (try clear hi); obtain ⟨hcz173_0, hcz173_1, hcz173_2, hfz173_0, hfz173_1, hfz173_2⟩ := bc3 BK424))
                                        go_ret
                                        exact ⟨re, bw HB⟩
                                      · replace c162 := Bool.eq_false_iff.mpr c162
                                        subst c162
                                        have H1 : ((gcra_Burst.f kj75 a0_1 a0_2 a0_5 a0_11).bind fun t433 => (some (x8_7 == t433))) = some r := by rw [if_neg (show ¬ (false = true) by decide)] at H; exact H
                                        clear H
                                        have H := H1
                                        clear H1
                                        replace H := Option.bind_eq_some_iff.mp H
                                        obtain ⟨t433, A1740, H⟩ := H
                                        replace H : (some (x8_7 == t433)) = some r := H
                                        have A174 := Aside0.mk A1740
                                        clear A1740
                                        obtain rfl := Option.some.inj H
                                        have hnb175 := NB417_415.out
                                        have hnc175 := NB415_417.out
                                        have hnb176 := NB417_418.out
                                        have hnc176 := NB418_417.out
                                        have hnb177 := NB417_424.out
                                        have hnc177 := NB424_417.out
                                        obtain ⟨hcz178_0, hcz178_1, hcz178_2, hcz178_3, hcz178_4, hfz178_0, hfz178_1, hfz178_2, hfz178_3, hfz178_4⟩ := bc5 BK417
                                        have hnb179 := NB418_415.out
                                        have hnc179 := NB415_418.out
                                        have hnb180 := NB418_424.out
                                        have hnc180 := NB424_418.out
                                        obtain ⟨hcz181_0, hcz181_1, hcz181_2, hfz181_0, hfz181_1, hfz181_2⟩ := bc3 BK418
                                        have hnb182 := NB415_424.out
                                        have hnc182 := NB424_415.out
                                        have hcz183_0 : wc.cell? ⟨gb415, 0, none⟩ = some (.int .i64 a0_0) := (blk_cell BK415.out 0).trans rfl
                                        have hcz183_1 : wc.cell? ⟨gb415, 1, none⟩ = some (.int .u64 a0_1) := (blk_cell BK415.out 1).trans rfl
                                        have hcz183_2 : wc.cell? ⟨gb415, 2, none⟩ = some (.int .u64 a0_2) := (blk_cell BK415.out 2).trans rfl
                                        have hcz183_3 : wc.cell? ⟨gb415, 3, none⟩ = some (.int .u64 a0_3) := (blk_cell BK415.out 3).trans rfl
                                        have hcz183_4 : wc.cell? ⟨gb415, 4, none⟩ = some (.int .u64 a0_4) := (blk_cell BK415.out 4).trans rfl
                                        have hcz183_5 : wc.cell? ⟨gb415, 5, none⟩ = some (.int .u64 a0_5) := (blk_cell BK415.out 5).trans rfl
                                        have hcz183_6 : wc.cell? ⟨gb415, 6, none⟩ = some (.int .u64 a0_6) := (blk_cell BK415.out 6).trans rfl
                                        have hcz183_7 : wc.cell? ⟨gb415, 7, none⟩ = some (.int .u64 a0_7) := (blk_cell BK415.out 7).trans rfl
                                        have hcz183_8 : wc.cell? ⟨gb415, 8, none⟩ = some (.int .u64 a0_8) := (blk_cell BK415.out 8).trans rfl
                                        have hcz183_9 : wc.cell? ⟨gb415, 9, none⟩ = some (.int .u64 a0_9) := (blk_cell BK415.out 9).trans rfl
                                        have hcz183_10 : wc.cell? ⟨gb415, 10, none⟩ = some (.int .u64 a0_10) := (blk_cell BK415.out 10).trans rfl
                                        have hcz183_11 : wc.cell? ⟨gb415, 11, none⟩ = some (.int .u64 a0_11) := (blk_cell BK415.out 11).trans rfl
                                        have hcz183_12 : wc.cell? ⟨gb415, 12, none⟩ = some (.int .u64 a0_12) := (blk_cell BK415.out 12).trans rfl
                                        have hfz183_0 := blk_frozen BK415.out 0
                                        have hfz183_1 := blk_frozen BK415.out 1
                                        have hfz183_2 := blk_frozen BK415.out 2
                                        have hfz183_3 := blk_frozen BK415.out 3
                                        have hfz183_4 := blk_frozen BK415.out 4
                                        have hfz183_5 := blk_frozen BK415.out 5
                                        have hfz183_6 := blk_frozen BK415.out 6
                                        have hfz183_7 := blk_frozen BK415.out 7
                                        have hfz183_8 := blk_frozen BK415.out 8
                                        have hfz183_9 := blk_frozen BK415.out 9
                                        have hfz183_10 := blk_frozen BK415.out 10
                                        have hfz183_11 := blk_frozen BK415.out 11
                                        have hfz183_12 := blk_frozen BK415.out 12
                                        go_wp2_with (first | (go_at_call 20; (with_reducible refine (gcra_Retry.calls kj75 a0_1 a0_2 a0_5 a0_11 a0_12 t431 _ A135.out).mono ?_); rintro e w184 ⟨rfl, hb⟩; have n0_ := bb BK415 hb; have n1_ := bb BK417 hb; have n2_ := bb BK418 hb; have n3_ := bb BK424 hb; have n4_ := bs HB hb; clear BK415; clear BK417; clear BK418; clear BK424; clear HB; have BK415 := n0_; have BK417 := n1_; have BK418 := n2_; have BK424 := n3_; have HB := n4_; clear n0_ n1_ n2_ n3_ n4_; (try clear hb); (try clear hb2); (try clear hk); (try clear hi); obtain ⟨hcz185_0, hcz185_1, hcz185_2, hfz185_0, hfz185_1, hfz185_2⟩ := bc3 BK424; obtain ⟨hcz186_0, hcz186_1, hcz186_2, hcz186_3, hcz186_4, hfz186_0, hfz186_1, hfz186_2, hfz186_3, hfz186_4⟩ := bc5 BK417; obtain ⟨hcz187_0, hcz187_1, hcz187_2, hfz187_0, hfz187_1, hfz187_2⟩ := bc3 BK418; have hcz188_0 : w184.cell? ⟨gb415, 0, none⟩ = some (.int .i64 a0_0) := (blk_cell BK415.out 0).trans rfl; have hcz188_1 : w184.cell? ⟨gb415, 1, none⟩ = some (.int .u64 a0_1) := (blk_cell BK415.out 1).trans rfl; have hcz188_2 : w184.cell? ⟨gb415, 2, none⟩ = some (.int .u64 a0_2) := (blk_cell BK415.out 2).trans rfl; have hcz188_3 : w184.cell? ⟨gb415, 3, none⟩ = some (.int .u64 a0_3) := (blk_cell BK415.out 3).trans rfl; have hcz188_4 : w184.cell? ⟨gb415, 4, none⟩ = some (.int .u64 a0_4) := (blk_cell BK415.out 4).trans rfl; have hcz188_5 : w184.cell? ⟨gb415, 5, none⟩ = some (.int .u64 a0_5) := (blk_cell BK415.out 5).trans rfl; have hcz188_6 : w184.cell? ⟨gb415, 6, none⟩ = some (.int .u64 a0_6) := (blk_cell BK415.out 6).trans rfl; have hcz188_7 : w184.cell? ⟨gb415, 7, none⟩ = some (.int .u64 a0_7) := (blk_cell BK415.out 7).trans rfl; have hcz188_8 : w184.cell? ⟨gb415, 8, none⟩ = some (.int .u64 a0_8) := (blk_cell BK415.out 8).trans rfl; have hcz188_9 : w184.cell? ⟨gb415, 9, none⟩ = some (.int .u64 a0_9) := (blk_cell BK415.out 9).trans rfl; have hcz188_10 : w184.cell? ⟨gb415, 10, none⟩ = some (.int .u64 a0_10) := (blk_cell BK415.out 10).trans rfl; have hcz188_11 : w184.cell? ⟨gb415, 11, none⟩ = some (.int .u64 a0_11) := (blk_cell BK415.out 11).trans rfl; have hcz188_12 : w184.cell? ⟨gb415, 12, none⟩ = some (.int .u64 a0_12) := (blk_cell BK415.out 12).trans rfl; have hfz188_0 := blk_frozen BK415.out 0; have hfz188_1 := blk_frozen BK415.out 1; have hfz188_2 := blk_frozen BK415.out 2; have hfz188_3 := blk_frozen BK415.out 3; have hfz188_4 := blk_frozen BK415.out 4; have hfz188_5 := blk_frozen BK415.out 5; have hfz188_6 := blk_frozen BK415.out 6; have hfz188_7 := blk_frozen BK415.out 7; have hfz188_8 := blk_frozen BK415.out 8; have hfz188_9 := blk_frozen BK415.out 9; have hfz188_10 := blk_frozen BK415.out 10; have hfz188_11 := blk_frozen BK415.out 11; have hfz188_12 := blk_frozen BK415.out 12) | (go_at_call 21; (with_reducible refine (gcra_Burst.calls kj75 a0_1 a0_2 a0_5 a0_11 t433 _ A174.out).mono ?_); rintro e w189 ⟨rfl, hb⟩; have n0_ := bb BK415 hb; have n1_ := bb BK417 hb; have n2_ := bb BK418 hb; have n3_ := bb BK424 hb; have n4_ := bs HB hb; clear BK415; clear BK417; clear BK418; clear BK424; clear HB; have BK415 := n0_; have BK417 := n1_; have BK418 := n2_; have BK424 := n3_; have HB := n4_; clear n0_ n1_ n2_ n3_ n4_; (try clear hb); (try clear hb2); (try clear hk); (try clear hi)))
                                        go_ret
                                        exact ⟨re, bw HB⟩
                                  · rw [if_neg c138] at H
                                    have c138b0 : (t422 == false) = false := by simpa using c138
                                    (try (have c138b1 : decide (t422 = false) = false := by simpa using c138))
                                    (try (have c138b2 : (t422 == false) = false := by simpa using c138))
                                    (try (have c138b3 : ¬ (t422 = false) := by simpa using c138))
                                    clear c138
                                    obtain rfl := Option.some.inj H
                                    have hnb190 := NB417_415.out
                                    have hnc190 := NB415_417.out
                                    have hnb191 := NB417_418.out
                                    have hnc191 := NB418_417.out
                                    have hnb192 := NB417_424.out
                                    have hnc192 := NB424_417.out
                                    obtain ⟨hcz193_0, hcz193_1, hcz193_2, hcz193_3, hcz193_4, hfz193_0, hfz193_1, hfz193_2, hfz193_3, hfz193_4⟩ := bc5 BK417
                                    have hnb194 := NB418_415.out
                                    have hnc194 := NB415_418.out
                                    have hnb195 := NB418_424.out
                                    have hnc195 := NB424_418.out
                                    obtain ⟨hcz196_0, hcz196_1, hcz196_2, hfz196_0, hfz196_1, hfz196_2⟩ := bc3 BK418
                                    have hnb197 := NB415_424.out
                                    have hnc197 := NB424_415.out
                                    have hcz198_0 : wc.cell? ⟨gb415, 0, none⟩ = some (.int .i64 a0_0) := (blk_cell BK415.out 0).trans rfl
                                    have hcz198_1 : wc.cell? ⟨gb415, 1, none⟩ = some (.int .u64 a0_1) := (blk_cell BK415.out 1).trans rfl
                                    have hcz198_2 : wc.cell? ⟨gb415, 2, none⟩ = some (.int .u64 a0_2) := (blk_cell BK415.out 2).trans rfl
                                    have hcz198_3 : wc.cell? ⟨gb415, 3, none⟩ = some (.int .u64 a0_3) := (blk_cell BK415.out 3).trans rfl
                                    have hcz198_4 : wc.cell? ⟨gb415, 4, none⟩ = some (.int .u64 a0_4) := (blk_cell BK415.out 4).trans rfl
                                    have hcz198_5 : wc.cell? ⟨gb415, 5, none⟩ = some (.int .u64 a0_5) := (blk_cell BK415.out 5).trans rfl
                                    have hcz198_6 : wc.cell? ⟨gb415, 6, none⟩ = some (.int .u64 a0_6) := (blk_cell BK415.out 6).trans rfl
                                    have hcz198_7 : wc.cell? ⟨gb415, 7, none⟩ = some (.int .u64 a0_7) := (blk_cell BK415.out 7).trans rfl
                                    have hcz198_8 : wc.cell? ⟨gb415, 8, none⟩ = some (.int .u64 a0_8) := (blk_cell BK415.out 8).trans rfl
                                    have hcz198_9 : wc.cell? ⟨gb415, 9, none⟩ = some (.int .u64 a0_9) := (blk_cell BK415.out 9).trans rfl
                                    have hcz198_10 : wc.cell? ⟨gb415, 10, none⟩ = some (.int .u64 a0_10) := (blk_cell BK415.out 10).trans rfl
                                    have hcz198_11 : wc.cell? ⟨gb415, 11, none⟩ = some (.int .u64 a0_11) := (blk_cell BK415.out 11).trans rfl
                                    have hcz198_12 : wc.cell? ⟨gb415, 12, none⟩ = some (.int .u64 a0_12) := (blk_cell BK415.out 12).trans rfl
                                    have hfz198_0 := blk_frozen BK415.out 0
                                    have hfz198_1 := blk_frozen BK415.out 1
                                    have hfz198_2 := blk_frozen BK415.out 2
                                    have hfz198_3 := blk_frozen BK415.out 3
                                    have hfz198_4 := blk_frozen BK415.out 4
                                    have hfz198_5 := blk_frozen BK415.out 5
                                    have hfz198_6 := blk_frozen BK415.out 6
                                    have hfz198_7 := blk_frozen BK415.out 7
                                    have hfz198_8 := blk_frozen BK415.out 8
                                    have hfz198_9 := blk_frozen BK415.out 9
                                    have hfz198_10 := blk_frozen BK415.out 10
                                    have hfz198_11 := blk_frozen BK415.out 11
                                    have hfz198_12 := blk_frozen BK415.out 12
                                    go_wp2_with (first | (go_at_call 20; (with_reducible refine (gcra_Retry.calls kj75 a0_1 a0_2 a0_5 a0_11 a0_12 t431 _ A135.out).mono ?_); rintro e w199 ⟨rfl, hb⟩; have n0_ := bb BK415 hb; have n1_ := bb BK417 hb; have n2_ := bb BK418 hb; have n3_ := bb BK424 hb; have n4_ := bs HB hb; clear BK415; clear BK417; clear BK418; clear BK424; clear HB; have BK415 := n0_; have BK417 := n1_; have BK418 := n2_; have BK424 := n3_; have HB := n4_; clear n0_ n1_ n2_ n3_ n4_; (try clear hb); (try clear hb2); (try clear hk); (try clear hi); obtain ⟨hcz200_0, hcz200_1, hcz200_2, hfz200_0, hfz200_1, hfz200_2⟩ := bc3 BK424))
                                    go_ret
                                    exact ⟨re, bw HB⟩
                                · rw [if_neg c137] at H
                                  have c137b0 : (t419 == x9_75 && (t420 == 0 && (t421 == 0))) = false := by simpa using c137
                                  (try (have c137b1 : decide (t419 = x9_75 && (t420 == 0 && (t421 == 0))) = false := by simpa using c137))
                                  (try (have c137b2 : (t419 == x9_75 && (t420 == 0 && (t421 == 0))) = false := by simpa using c137))
                                  (try (have c137b3 : ¬ (t419 = x9_75 && (t420 == 0 && (t421 == 0))) := by simpa using c137))
                                  clear c137
                                  obtain rfl := Option.some.inj H
                                  have hnb201 := NB417_415.out
                                  have hnc201 := NB415_417.out
                                  have hnb202 := NB417_418.out
                                  have hnc202 := NB418_417.out
                                  have hnb203 := NB417_424.out
                                  have hnc203 := NB424_417.out
                                  obtain ⟨hcz204_0, hcz204_1, hcz204_2, hcz204_3, hcz204_4, hfz204_0, hfz204_1, hfz204_2, hfz204_3, hfz204_4⟩ := bc5 BK417
                                  have hnb205 := NB418_415.out
                                  have hnc205 := NB415_418.out
                                  have hnb206 := NB418_424.out
                                  have hnc206 := NB424_418.out
                                  obtain ⟨hcz207_0, hcz207_1, hcz207_2, hfz207_0, hfz207_1, hfz207_2⟩ := bc3 BK418
                                  have hnb208 := NB415_424.out
                                  have hnc208 := NB424_415.out
                                  have hcz209_0 : wc.cell? ⟨gb415, 0, none⟩ = some (.int .i64 a0_0) := (blk_cell BK415.out 0).trans rfl
                                  have hcz209_1 : wc.cell? ⟨gb415, 1, none⟩ = some (.int .u64 a0_1) := (blk_cell BK415.out 1).trans rfl
                                  have hcz209_2 : wc.cell? ⟨gb415, 2, none⟩ = some (.int .u64 a0_2) := (blk_cell BK415.out 2).trans rfl
                                  have hcz209_3 : wc.cell? ⟨gb415, 3, none⟩ = some (.int .u64 a0_3) := (blk_cell BK415.out 3).trans rfl
                                  have hcz209_4 : wc.cell? ⟨gb415, 4, none⟩ = some (.int .u64 a0_4) := (blk_cell BK415.out 4).trans rfl
                                  have hcz209_5 : wc.cell? ⟨gb415, 5, none⟩ = some (.int .u64 a0_5) := (blk_cell BK415.out 5).trans rfl
                                  have hcz209_6 : wc.cell? ⟨gb415, 6, none⟩ = some (.int .u64 a0_6) := (blk_cell BK415.out 6).trans rfl
                                  have hcz209_7 : wc.cell? ⟨gb415, 7, none⟩ = some (.int .u64 a0_7) := (blk_cell BK415.out 7).trans rfl
                                  have hcz209_8 : wc.cell? ⟨gb415, 8, none⟩ = some (.int .u64 a0_8) := (blk_cell BK415.out 8).trans rfl
                                  have hcz209_9 : wc.cell? ⟨gb415, 9, none⟩ = some (.int .u64 a0_9) := (blk_cell BK415.out 9).trans rfl
                                  have hcz209_10 : wc.cell? ⟨gb415, 10, none⟩ = some (.int .u64 a0_10) := (blk_cell BK415.out 10).trans rfl
                                  have hcz209_11 : wc.cell? ⟨gb415, 11, none⟩ = some (.int .u64 a0_11) := (blk_cell BK415.out 11).trans rfl
                                  have hcz209_12 : wc.cell? ⟨gb415, 12, none⟩ = some (.int .u64 a0_12) := (blk_cell BK415.out 12).trans rfl
                                  have hfz209_0 := blk_frozen BK415.out 0
                                  have hfz209_1 := blk_frozen BK415.out 1
                                  have hfz209_2 := blk_frozen BK415.out 2
                                  have hfz209_3 := blk_frozen BK415.out 3
                                  have hfz209_4 := blk_frozen BK415.out 4
                                  have hfz209_5 := blk_frozen BK415.out 5
                                  have hfz209_6 := blk_frozen BK415.out 6
                                  have hfz209_7 := blk_frozen BK415.out 7
                                  have hfz209_8 := blk_frozen BK415.out 8
                                  have hfz209_9 := blk_frozen BK415.out 9
                                  have hfz209_10 := blk_frozen BK415.out 10
                                  have hfz209_11 := blk_frozen BK415.out 11
                                  have hfz209_12 := blk_frozen BK415.out 12
                                  go_wp2_with (first | (go_at_call 20; (with_reducible refine (gcra_Retry.calls kj75 a0_1 a0_2 a0_5 a0_11 a0_12 t431 _ A135.out).mono ?_); rintro e w210 ⟨rfl, hb⟩; have n0_ := bb BK415 hb; have n1_ := bb BK417 hb; have n2_ := bb BK418 hb; have n3_ := bb BK424 hb; have n4_ := bs HB hb; clear BK415; clear BK417; clear BK418; clear BK424; clear HB; have BK415 := n0_; have BK417 := n1_; have BK418 := n2_; have BK424 := n3_; have HB := n4_; clear n0_ n1_ n2_ n3_ n4_; (try clear hb); (try clear hb2); (try clear hk); (try clear hi); obtain ⟨hcz211_0, hcz211_1, hcz211_2, hfz211_0, hfz211_1, hfz211_2⟩ := bc3 BK424))
                                  go_ret
                                  exact ⟨re, bw HB⟩
                              · rw [if_neg c136] at H
                                have c136b0 : (t423 == t431) = false := beq_eq_false_iff_ne.mpr c136
                                have c136b1 : (t423 != t431) = true := bne_iff_ne.mpr c136
                                obtain rfl := Option.some.inj H
                                have hnb212 := NB417_415.out
                                have hnc212 := NB415_417.out
                                have hnb213 := NB417_418.out
                                have hnc213 := NB418_417.out
                                have hnb214 := NB417_424.out
                                have hnc214 := NB424_417.out
                                obtain ⟨hcz215_0, hcz215_1, hcz215_2, hcz215_3, hcz215_4, hfz215_0, hfz215_1, hfz215_2, hfz215_3, hfz215_4⟩ := bc5 BK417
                                have hnb216 := NB418_415.out
                                have hnc216 := NB415_418.out
                                have hnb217 := NB418_424.out
                                have hnc217 := NB424_418.out
                                obtain ⟨hcz218_0, hcz218_1, hcz218_2, hfz218_0, hfz218_1, hfz218_2⟩ := bc3 BK418
                                have hnb219 := NB415_424.out
                                have hnc219 := NB424_415.out
                                have hcz220_0 : wc.cell? ⟨gb415, 0, none⟩ = some (.int .i64 a0_0) := (blk_cell BK415.out 0).trans rfl
                                have hcz220_1 : wc.cell? ⟨gb415, 1, none⟩ = some (.int .u64 a0_1) := (blk_cell BK415.out 1).trans rfl
                                have hcz220_2 : wc.cell? ⟨gb415, 2, none⟩ = some (.int .u64 a0_2) := (blk_cell BK415.out 2).trans rfl
                                have hcz220_3 : wc.cell? ⟨gb415, 3, none⟩ = some (.int .u64 a0_3) := (blk_cell BK415.out 3).trans rfl
                                have hcz220_4 : wc.cell? ⟨gb415, 4, none⟩ = some (.int .u64 a0_4) := (blk_cell BK415.out 4).trans rfl
                                have hcz220_5 : wc.cell? ⟨gb415, 5, none⟩ = some (.int .u64 a0_5) := (blk_cell BK415.out 5).trans rfl
                                have hcz220_6 : wc.cell? ⟨gb415, 6, none⟩ = some (.int .u64 a0_6) := (blk_cell BK415.out 6).trans rfl
                                have hcz220_7 : wc.cell? ⟨gb415, 7, none⟩ = some (.int .u64 a0_7) := (blk_cell BK415.out 7).trans rfl
                                have hcz220_8 : wc.cell? ⟨gb415, 8, none⟩ = some (.int .u64 a0_8) := (blk_cell BK415.out 8).trans rfl
                                have hcz220_9 : wc.cell? ⟨gb415, 9, none⟩ = some (.int .u64 a0_9) := (blk_cell BK415.out 9).trans rfl
                                have hcz220_10 : wc.cell? ⟨gb415, 10, none⟩ = some (.int .u64 a0_10) := (blk_cell BK415.out 10).trans rfl
                                have hcz220_11 : wc.cell? ⟨gb415, 11, none⟩ = some (.int .u64 a0_11) := (blk_cell BK415.out 11).trans rfl
                                have hcz220_12 : wc.cell? ⟨gb415, 12, none⟩ = some (.int .u64 a0_12) := (blk_cell BK415.out 12).trans rfl
                                have hfz220_0 := blk_frozen BK415.out 0
                                have hfz220_1 := blk_frozen BK415.out 1
                                have hfz220_2 := blk_frozen BK415.out 2
                                have hfz220_3 := blk_frozen BK415.out 3
                                have hfz220_4 := blk_frozen BK415.out 4
                                have hfz220_5 := blk_frozen BK415.out 5
                                have hfz220_6 := blk_frozen BK415.out 6
                                have hfz220_7 := blk_frozen BK415.out 7
                                have hfz220_8 := blk_frozen BK415.out 8
                                have hfz220_9 := blk_frozen BK415.out 9
                                have hfz220_10 := blk_frozen BK415.out 10
                                have hfz220_11 := blk_frozen BK415.out 11
                                have hfz220_12 := blk_frozen BK415.out 12
                                go_wp2_with (first | (go_at_call 20; (with_reducible refine (gcra_Retry.calls kj75 a0_1 a0_2 a0_5 a0_11 a0_12 t431 _ A135.out).mono ?_); rintro e w221 ⟨rfl, hb⟩; have n0_ := bb BK415 hb; have n1_ := bb BK417 hb; have n2_ := bb BK418 hb; have n3_ := bb BK424 hb; have n4_ := bs HB hb; clear BK415; clear BK417; clear BK418; clear BK424; clear HB; have BK415 := n0_; have BK417 := n1_; have BK418 := n2_; have BK424 := n3_; have HB := n4_; clear n0_ n1_ n2_ n3_ n4_; (try clear hb); (try clear hb2); (try clear hk); (try clear hi)))
                                go_ret
                                exact ⟨re, bw HB⟩
                      · replace c75 := Bool.eq_false_iff.mpr c75
                        subst c75
                        have H1 : ((window_Admit.f kj69 a0_3 a0_4 a0_6 a0_7 a0_11 a0_12).bind fun bt434 => (turnstilelaw06_PolicyFace.j5 kj69 t422 t423 x8_7 bt434.1 bt434.2.1 bt434.2.2 a0_0 a0_1 a0_2 a0_3 a0_4 a0_5 a0_6 a0_7 a0_8 a0_9 a0_10 a0_11 a0_12 a0_0 a0_1 a0_2 a0_3 a0_4 a0_5 a0_6 a0_7 t419 t420 t421)) = some r := by rw [if_neg (show ¬ (false = true) by decide)] at H; exact H
                        clear H
                        have H := H1
                        clear H1
                        have HC222 := Aside0.mk H
                        clear H
                        go_upto_region 14 with (fail)
                        go_cut [11, 12, 13] (fun v11 v12 v13 wc => ∃ (kq : Nat) (x11_221 : Int) (x12_221 : Int) (x13_221 : Bool), v11 = .int .u64 x11_221 ∧ v12 = .int .u64 x12_221 ∧ v13 = .bool x13_221 ∧ Aside0 (turnstilelaw06_PolicyFace.j5 kq t422 t423 x8_7 x11_221 x12_221 x13_221 a0_0 a0_1 a0_2 a0_3 a0_4 a0_5 a0_6 a0_7 a0_8 a0_9 a0_10 a0_11 a0_12 a0_0 a0_1 a0_2 a0_3 a0_4 a0_5 a0_6 a0_7 t419 t420 t421 = some r) ∧ Aside0 (kq ≤ kj69) ∧ Aside0 (wc.heap[gb415]? = some (.cells #[.int .i64 a0_0, .int .u64 a0_1, .int .u64 a0_2, .int .u64 a0_3, .int .u64 a0_4, .int .u64 a0_5, .int .u64 a0_6, .int .u64 a0_7, .int .u64 a0_8, .int .u64 a0_9, .int .u64 a0_10, .int .u64 a0_11, .int .u64 a0_12] 31 (0, 0))) ∧ Aside0 (wc.heap[gb417]? = some (.cells #[.int .i64 a0_0, .int .u64 a0_1, .int .u64 a0_2, .int .u64 a0_3, .int .u64 a0_4] 27 (0, 0))) ∧ Aside0 (wc.heap[gb418]? = some (.cells #[.int .u64 a0_5, .int .u64 a0_6, .int .u64 a0_7] 29 (0, 0))) ∧ Aside0 (wc.heap[gb424]? = some (.cells #[.int .u64 t419, .int .u64 t420, .int .u64 t421] 29 (0, 0))) ∧ Aside0 (Below w.heap.size w wc))
                        case first =>
                          have H := HC222.out
                          clear HC222
                          replace H := Option.bind_eq_some_iff.mp H
                          obtain ⟨⟨t434, t435, t436⟩, A2230, H⟩ := H
                          replace H : (turnstilelaw06_PolicyFace.j5 kj69 t422 t423 x8_7 t434 t435 t436 a0_0 a0_1 a0_2 a0_3 a0_4 a0_5 a0_6 a0_7 a0_8 a0_9 a0_10 a0_11 a0_12 a0_0 a0_1 a0_2 a0_3 a0_4 a0_5 a0_6 a0_7 t419 t420 t421) = some r := H
                          have A223 := Aside0.mk A2230
                          clear A2230
                          have H' := Aside0.mk H
                          clear H
                          have hnb224 := NB417_415.out
                          have hnc224 := NB415_417.out
                          have hnb225 := NB417_418.out
                          have hnc225 := NB418_417.out
                          have hnb226 := NB417_424.out
                          have hnc226 := NB424_417.out
                          obtain ⟨hcz227_0, hcz227_1, hcz227_2, hcz227_3, hcz227_4, hfz227_0, hfz227_1, hfz227_2, hfz227_3, hfz227_4⟩ := bc5 BK417
                          have hnb228 := NB418_415.out
                          have hnc228 := NB415_418.out
                          have hnb229 := NB418_424.out
                          have hnc229 := NB424_418.out
                          obtain ⟨hcz230_0, hcz230_1, hcz230_2, hfz230_0, hfz230_1, hfz230_2⟩ := bc3 BK418
                          have hnb231 := NB415_424.out
                          have hnc231 := NB424_415.out
                          have hcz232_0 : wc.cell? ⟨gb415, 0, none⟩ = some (.int .i64 a0_0) := (blk_cell BK415.out 0).trans rfl
                          have hcz232_1 : wc.cell? ⟨gb415, 1, none⟩ = some (.int .u64 a0_1) := (blk_cell BK415.out 1).trans rfl
                          have hcz232_2 : wc.cell? ⟨gb415, 2, none⟩ = some (.int .u64 a0_2) := (blk_cell BK415.out 2).trans rfl
                          have hcz232_3 : wc.cell? ⟨gb415, 3, none⟩ = some (.int .u64 a0_3) := (blk_cell BK415.out 3).trans rfl
                          have hcz232_4 : wc.cell? ⟨gb415, 4, none⟩ = some (.int .u64 a0_4) := (blk_cell BK415.out 4).trans rfl
                          have hcz232_5 : wc.cell? ⟨gb415, 5, none⟩ = some (.int .u64 a0_5) := (blk_cell BK415.out 5).trans rfl
                          have hcz232_6 : wc.cell? ⟨gb415, 6, none⟩ = some (.int .u64 a0_6) := (blk_cell BK415.out 6).trans rfl
                          have hcz232_7 : wc.cell? ⟨gb415, 7, none⟩ = some (.int .u64 a0_7) := (blk_cell BK415.out 7).trans rfl
                          have hcz232_8 : wc.cell? ⟨gb415, 8, none⟩ = some (.int .u64 a0_8) := (blk_cell BK415.out 8).trans rfl
                          have hcz232_9 : wc.cell? ⟨gb415, 9, none⟩ = some (.int .u64 a0_9) := (blk_cell BK415.out 9).trans rfl
                          have hcz232_10 : wc.cell? ⟨gb415, 10, none⟩ = some (.int .u64 a0_10) := (blk_cell BK415.out 10).trans rfl
                          have hcz232_11 : wc.cell? ⟨gb415, 11, none⟩ = some (.int .u64 a0_11) := (blk_cell BK415.out 11).trans rfl
                          have hcz232_12 : wc.cell? ⟨gb415, 12, none⟩ = some (.int .u64 a0_12) := (blk_cell BK415.out 12).trans rfl
                          have hfz232_0 := blk_frozen BK415.out 0
                          have hfz232_1 := blk_frozen BK415.out 1
                          have hfz232_2 := blk_frozen BK415.out 2
                          have hfz232_3 := blk_frozen BK415.out 3
                          have hfz232_4 := blk_frozen BK415.out 4
                          have hfz232_5 := blk_frozen BK415.out 5
                          have hfz232_6 := blk_frozen BK415.out 6
                          have hfz232_7 := blk_frozen BK415.out 7
                          have hfz232_8 := blk_frozen BK415.out 8
                          have hfz232_9 := blk_frozen BK415.out 9
                          have hfz232_10 := blk_frozen BK415.out 10
                          have hfz232_11 := blk_frozen BK415.out 11
                          have hfz232_12 := blk_frozen BK415.out 12
                          go_wp2_with (first | ((with_reducible refine gate_callee (f := 22) rfl ?_); refine gl (some 131) Try.func22 #[.int .u64 a0_3, .int .u64 a0_4, .int .u64 a0_6, .int .u64 a0_7, .int .u64 a0_11, .int .u64 a0_12] ?_; (with_reducible refine (window_Admit.calls kj69 a0_3 a0_4 a0_6 a0_7 a0_11 a0_12 t434 t435 t436 _ A223.out).mono ?_); rintro e w' ⟨rfl, ⟨nd, rfl⟩⟩; refine ⟨_, rfl, ?_⟩))
                          go_meet
                          case rel => exact ⟨_, (t434), (t435), (t436), rs, rs, rs, H', ⟨by have := HJ1.out; have := HJ7.out; have := HJ36.out; have := HJ69.out; first | omega | exact Nat.le_refl _⟩, ⟨bk BK415⟩, ⟨bk BK417⟩, ⟨bk BK418⟩, ⟨bk BK424⟩, ⟨bw HB⟩⟩
                        case rest => as_aux_lemma =>
                          clear HC222
                          try clear c1
                          try clear c2
                          try clear p2
                          try clear c7
                          try clear c8
                          try clear c9
                          try clear c12
                          try clear c13
                          try clear c14
                          try clear c15
                          try clear c16
                          try clear c17
                          try clear c18
                          try clear c19
                          try clear c20
                          try clear c21
                          try clear c22
                          try clear c23
                          try clear c75
                          try clear c88
                          try clear c89
                          try clear c89b0
                          try clear c89b1
                          try clear c89b2
                          try clear c90
                          try clear c90b0
                          try clear c90b1
                          try clear c90b2
                          try clear c120
                          try clear c121
                          try clear c123
                          try clear c127
                          try clear c128
                          try clear c129
                          try clear c131
                          try clear c132
                          try clear c133
                          try clear c136
                          try clear c136b0
                          try clear c136b1
                          try clear c137
                          try clear c137b0
                          try clear c137b1
                          try clear c137b2
                          try clear c138
                          try clear c138b0
                          try clear c138b1
                          try clear c138b2
                          try clear c139
                          try clear c139b0
                          try clear c139b1
                          try clear c144
                          try clear c145
                          try clear c146
                          try clear c148
                          try clear c149
                          try clear c151
                          try clear c162
                          try clear c163
                          try clear c164
                          try clear c165
                          try clear c167
                          try clear c168
                          try clear c170
                          try clear c175
                          try clear c176
                          try clear c177
                          try clear c179
                          try clear c180
                          try clear c182
                          try clear c190
                          try clear c191
                          try clear c192
                          try clear c194
                          try clear c195
                          try clear c197
                          try clear c201
                          try clear c202
                          try clear c203
                          try clear c205
                          try clear c206
                          try clear c208
                          try clear c212
                          try clear c213
                          try clear c214
                          try clear c216
                          try clear c217
                          try clear c219
                          try clear c224
                          try clear c225
                          try clear c226
                          try clear c228
                          try clear c229
                          try clear c231
                          try clear hcz122_0
                          try clear hcz122_1
                          try clear hcz122_2
                          try clear hcz122_3
                          try clear hcz122_4
                          try clear hcz124_0
                          try clear hcz124_1
                          try clear hcz124_2
                          try clear hcz125_0
                          try clear hcz125_1
                          try clear hcz125_10
                          try clear hcz125_11
                          try clear hcz125_12
                          try clear hcz125_2
                          try clear hcz125_3
                          try clear hcz125_4
                          try clear hcz125_5
                          try clear hcz125_6
                          try clear hcz125_7
                          try clear hcz125_8
                          try clear hcz125_9
                          try clear hcz130_0
                          try clear hcz130_1
                          try clear hcz130_2
                          try clear hcz134_0
                          try clear hcz134_1
                          try clear hcz134_2
                          try clear hcz147_0
                          try clear hcz147_1
                          try clear hcz147_2
                          try clear hcz147_3
                          try clear hcz147_4
                          try clear hcz150_0
                          try clear hcz150_1
                          try clear hcz150_2
                          try clear hcz152_0
                          try clear hcz152_1
                          try clear hcz152_10
                          try clear hcz152_11
                          try clear hcz152_12
                          try clear hcz152_2
                          try clear hcz152_3
                          try clear hcz152_4
                          try clear hcz152_5
                          try clear hcz152_6
                          try clear hcz152_7
                          try clear hcz152_8
                          try clear hcz152_9
                          try clear hcz154_0
                          try clear hcz154_1
                          try clear hcz154_2
                          try clear hcz155_0
                          try clear hcz155_1
                          try clear hcz155_2
                          try clear hcz155_3
                          try clear hcz155_4
                          try clear hcz156_0
                          try clear hcz156_1
                          try clear hcz156_2
                          try clear hcz157_0
                          try clear hcz157_1
                          try clear hcz157_10
                          try clear hcz157_11
                          try clear hcz157_12
                          try clear hcz157_2
                          try clear hcz157_3
                          try clear hcz157_4
                          try clear hcz157_5
                          try clear hcz157_6
                          try clear hcz157_7
                          try clear hcz157_8
                          try clear hcz157_9
                          try clear hcz166_0
                          try clear hcz166_1
                          try clear hcz166_2
                          try clear hcz166_3
                          try clear hcz166_4
                          try clear hcz169_0
                          try clear hcz169_1
                          try clear hcz169_2
                          try clear hcz171_0
                          try clear hcz171_1
                          try clear hcz171_10
                          try clear hcz171_11
                          try clear hcz171_12
                          try clear hcz171_2
                          try clear hcz171_3
                          try clear hcz171_4
                          try clear hcz171_5
                          try clear hcz171_6
                          try clear hcz171_7
                          try clear hcz171_8
                          try clear hcz171_9
                          try clear hcz173_0
                          try clear hcz173_1
                          try clear hcz173_2
                          try clear hcz178_0
                          try clear hcz178_1
                          try clear hcz178_2
                          try clear hcz178_3
                          try clear hcz178_4
                          try clear hcz181_0
                          try clear hcz181_1
                          try clear hcz181_2
                          try clear hcz183_0
                          try clear hcz183_1
                          try clear hcz183_10
                          try clear hcz183_11
                          try clear hcz183_12
                          try clear hcz183_2
                          try clear hcz183_3
                          try clear hcz183_4
                          try clear hcz183_5
                          try clear hcz183_6
                          try clear hcz183_7
                          try clear hcz183_8
                          try clear hcz183_9
                          try clear hcz185_0
                          try clear hcz185_1
                          try clear hcz185_2
                          try clear hcz186_0
                          try clear hcz186_1
                          try clear hcz186_2
                          try clear hcz186_3
                          try clear hcz186_4
                          try clear hcz187_0
                          try clear hcz187_1
                          try clear hcz187_2
                          try clear hcz188_0
                          try clear hcz188_1
                          try clear hcz188_10
                          try clear hcz188_11
                          try clear hcz188_12
                          try clear hcz188_2
                          try clear hcz188_3
                          try clear hcz188_4
                          try clear hcz188_5
                          try clear hcz188_6
                          try clear hcz188_7
                          try clear hcz188_8
                          try clear hcz188_9
                          try clear hcz193_0
                          try clear hcz193_1
                          try clear hcz193_2
                          try clear hcz193_3
                          try clear hcz193_4
                          try clear hcz196_0
                          try clear hcz196_1
                          try clear hcz196_2
                          try clear hcz198_0
                          try clear hcz198_1
                          try clear hcz198_10
                          try clear hcz198_11
                          try clear hcz198_12
                          try clear hcz198_2
                          try clear hcz198_3
                          try clear hcz198_4
                          try clear hcz198_5
                          try clear hcz198_6
                          try clear hcz198_7
                          try clear hcz198_8
                          try clear hcz198_9
                          try clear hcz200_0
                          try clear hcz200_1
                          try clear hcz200_2
                          try clear hcz204_0
                          try clear hcz204_1
                          try clear hcz204_2
                          try clear hcz204_3
                          try clear hcz204_4
                          try clear hcz207_0
                          try clear hcz207_1
                          try clear hcz207_2
                          try clear hcz209_0
                          try clear hcz209_1
                          try clear hcz209_10
                          try clear hcz209_11
                          try clear hcz209_12
                          try clear hcz209_2
                          try clear hcz209_3
                          try clear hcz209_4
                          try clear hcz209_5
                          try clear hcz209_6
                          try clear hcz209_7
                          try clear hcz209_8
                          try clear hcz209_9
                          try clear hcz211_0
                          try clear hcz211_1
                          try clear hcz211_2
                          try clear hcz215_0
                          try clear hcz215_1
                          try clear hcz215_2
                          try clear hcz215_3
                          try clear hcz215_4
                          try clear hcz218_0
                          try clear hcz218_1
                          try clear hcz218_2
                          try clear hcz220_0
                          try clear hcz220_1
                          try clear hcz220_10
                          try clear hcz220_11
                          try clear hcz220_12
                          try clear hcz220_2
                          try clear hcz220_3
                          try clear hcz220_4
                          try clear hcz220_5
                          try clear hcz220_6
                          try clear hcz220_7
                          try clear hcz220_8
                          try clear hcz220_9
                          try clear hcz227_0
                          try clear hcz227_1
                          try clear hcz227_2
                          try clear hcz227_3
                          try clear hcz227_4
                          try clear hcz230_0
                          try clear hcz230_1
                          try clear hcz230_2
                          try clear hcz232_0
                          try clear hcz232_1
                          try clear hcz232_10
                          try clear hcz232_11
                          try clear hcz232_12
                          try clear hcz232_2
                          try clear hcz232_3
                          try clear hcz232_4
                          try clear hcz232_5
                          try clear hcz232_6
                          try clear hcz232_7
                          try clear hcz232_8
                          try clear hcz232_9
                          try clear hfz122_0
                          try clear hfz122_1
                          try clear hfz122_2
                          try clear hfz122_3
                          try clear hfz122_4
                          try clear hfz124_0
                          try clear hfz124_1
                          try clear hfz124_2
                          try clear hfz125_0
                          try clear hfz125_1
                          try clear hfz125_10
                          try clear hfz125_11
                          try clear hfz125_12
                          try clear hfz125_2
                          try clear hfz125_3
                          try clear hfz125_4
                          try clear hfz125_5
                          try clear hfz125_6
                          try clear hfz125_7
                          try clear hfz125_8
                          try clear hfz125_9
                          try clear hfz130_0
                          try clear hfz130_1
                          try clear hfz130_2
                          try clear hfz134_0
                          try clear hfz134_1
                          try clear hfz134_2
                          try clear hfz147_0
                          try clear hfz147_1
                          try clear hfz147_2
                          try clear hfz147_3
                          try clear hfz147_4
                          try clear hfz150_0
                          try clear hfz150_1
                          try clear hfz150_2
                          try clear hfz152_0
                          try clear hfz152_1
                          try clear hfz152_10
                          try clear hfz152_11
                          try clear hfz152_12
                          try clear hfz152_2
                          try clear hfz152_3
                          try clear hfz152_4
                          try clear hfz152_5
                          try clear hfz152_6
                          try clear hfz152_7
                          try clear hfz152_8
                          try clear hfz152_9
                          try clear hfz154_0
                          try clear hfz154_1
                          try clear hfz154_2
                          try clear hfz155_0
                          try clear hfz155_1
                          try clear hfz155_2
                          try clear hfz155_3
                          try clear hfz155_4
                          try clear hfz156_0
                          try clear hfz156_1
                          try clear hfz156_2
                          try clear hfz157_0
                          try clear hfz157_1
                          try clear hfz157_10
                          try clear hfz157_11
                          try clear hfz157_12
                          try clear hfz157_2
                          try clear hfz157_3
                          try clear hfz157_4
                          try clear hfz157_5
                          try clear hfz157_6
                          try clear hfz157_7
                          try clear hfz157_8
                          try clear hfz157_9
                          try clear hfz166_0
                          try clear hfz166_1
                          try clear hfz166_2
                          try clear hfz166_3
                          try clear hfz166_4
                          try clear hfz169_0
                          try clear hfz169_1
                          try clear hfz169_2
                          try clear hfz171_0
                          try clear hfz171_1
                          try clear hfz171_10
                          try clear hfz171_11
                          try clear hfz171_12
                          try clear hfz171_2
                          try clear hfz171_3
                          try clear hfz171_4
                          try clear hfz171_5
                          try clear hfz171_6
                          try clear hfz171_7
                          try clear hfz171_8
                          try clear hfz171_9
                          try clear hfz173_0
                          try clear hfz173_1
                          try clear hfz173_2
                          try clear hfz178_0
                          try clear hfz178_1
                          try clear hfz178_2
                          try clear hfz178_3
                          try clear hfz178_4
                          try clear hfz181_0
                          try clear hfz181_1
                          try clear hfz181_2
                          try clear hfz183_0
                          try clear hfz183_1
                          try clear hfz183_10
                          try clear hfz183_11
                          try clear hfz183_12
                          try clear hfz183_2
                          try clear hfz183_3
                          try clear hfz183_4
                          try clear hfz183_5
                          try clear hfz183_6
                          try clear hfz183_7
                          try clear hfz183_8
                          try clear hfz183_9
                          try clear hfz185_0
                          try clear hfz185_1
                          try clear hfz185_2
                          try clear hfz186_0
                          try clear hfz186_1
                          try clear hfz186_2
                          try clear hfz186_3
                          try clear hfz186_4
                          try clear hfz187_0
                          try clear hfz187_1
                          try clear hfz187_2
                          try clear hfz188_0
                          try clear hfz188_1
                          try clear hfz188_10
                          try clear hfz188_11
                          try clear hfz188_12
                          try clear hfz188_2
                          try clear hfz188_3
                          try clear hfz188_4
                          try clear hfz188_5
                          try clear hfz188_6
                          try clear hfz188_7
                          try clear hfz188_8
                          try clear hfz188_9
                          try clear hfz193_0
                          try clear hfz193_1
                          try clear hfz193_2
                          try clear hfz193_3
                          try clear hfz193_4
                          try clear hfz196_0
                          try clear hfz196_1
                          try clear hfz196_2
                          try clear hfz198_0
                          try clear hfz198_1
                          try clear hfz198_10
                          try clear hfz198_11
                          try clear hfz198_12
                          try clear hfz198_2
                          try clear hfz198_3
                          try clear hfz198_4
                          try clear hfz198_5
                          try clear hfz198_6
                          try clear hfz198_7
                          try clear hfz198_8
                          try clear hfz198_9
                          try clear hfz200_0
                          try clear hfz200_1
                          try clear hfz200_2
                          try clear hfz204_0
                          try clear hfz204_1
                          try clear hfz204_2
                          try clear hfz204_3
                          try clear hfz204_4
                          try clear hfz207_0
                          try clear hfz207_1
                          try clear hfz207_2
                          try clear hfz209_0
                          try clear hfz209_1
                          try clear hfz209_10
                          try clear hfz209_11
                          try clear hfz209_12
                          try clear hfz209_2
                          try clear hfz209_3
                          try clear hfz209_4
                          try clear hfz209_5
                          try clear hfz209_6
                          try clear hfz209_7
                          try clear hfz209_8
                          try clear hfz209_9
                          try clear hfz211_0
                          try clear hfz211_1
                          try clear hfz211_2
                          try clear hfz215_0
                          try clear hfz215_1
                          try clear hfz215_2
                          try clear hfz215_3
                          try clear hfz215_4
                          try clear hfz218_0
                          try clear hfz218_1
                          try clear hfz218_2
                          try clear hfz220_0
                          try clear hfz220_1
                          try clear hfz220_10
                          try clear hfz220_11
                          try clear hfz220_12
                          try clear hfz220_2
                          try clear hfz220_3
                          try clear hfz220_4
                          try clear hfz220_5
                          try clear hfz220_6
                          try clear hfz220_7
                          try clear hfz220_8
                          try clear hfz220_9
                          try clear hfz227_0
                          try clear hfz227_1
                          try clear hfz227_2
                          try clear hfz227_3
                          try clear hfz227_4
                          try clear hfz230_0
                          try clear hfz230_1
                          try clear hfz230_2
                          try clear hfz232_0
                          try clear hfz232_1
                          try clear hfz232_10
                          try clear hfz232_11
                          try clear hfz232_12
                          try clear hfz232_2
                          try clear hfz232_3
                          try clear hfz232_4
                          try clear hfz232_5
                          try clear hfz232_6
                          try clear hfz232_7
                          try clear hfz232_8
                          try clear hfz232_9
                          obtain ⟨kq, x11_221, x12_221, x13_221, rfl, rfl, rfl, HA, HJ221, BK415, BK417, BK418, BK424, HB⟩ := hcut
                          cases kq with
                          | zero => exact absurd HA.out (by simp [turnstilelaw06_PolicyFace.j5])
                          | succ kj221 =>
                            have H := HA.out
                            clear HA
                            simp only [turnstilelaw06_PolicyFace.j5] at H
                            by_cases c233 : x13_221 = true
                            · subst c233
                              have H1 : (if (t419 == 0 && (t420 == x11_221 && (t421 == x12_221))) = true then (if (t422 == true) = true then (if t423 = 0 then ((window_Left.f a0_3 a0_4 a0_6 a0_7 a0_11).bind fun t437 => (some (x8_7 == t437))) else (if t422 = true then (some false) else ((window_Left.f a0_3 a0_4 a0_6 a0_7 a0_11).bind fun t438 => (some (x8_7 == t438))))) else (some false)) else (some false)) = some r := by rw [if_pos rfl] at H; exact H
                              clear H
                              have H := H1
                              clear H1
                              by_cases c234 : (t419 == 0 && (t420 == x11_221 && (t421 == x12_221))) = true
                              · rw [if_pos c234] at H
                                have c234b0 : (t419 == 0 && (t420 == x11_221 && (t421 == x12_221))) = true := c234
                                (try (have c234b1 : decide (t419 = 0 && (t420 == x11_221 && (t421 == x12_221))) = true := by simpa using c234))
                                (try (have c234b2 : (t419 == 0 && (t420 == x11_221 && (t421 == x12_221))) = true := by simpa using c234))
                                clear c234
                                by_cases c235 : (t422 == true) = true
                                · rw [if_pos c235] at H
                                  have c235b0 : (t422 == true) = true := c235
                                  (try (have c235b1 : decide (t422 = true) = true := by simpa using c235))
                                  (try (have c235b2 : (t422 == true) = true := by simpa using c235))
                                  clear c235
                                  by_cases c236 : t423 = 0
                                  · rw [if_pos c236] at H
                                    have c236b0 : (t423 == 0) = true := beq_iff_eq.mpr c236
                                    have c236b1 : (t423 != 0) = false := bne_eq_false_iff_eq.mpr c236
                                    clear c236
                                    (try (have hd237 := c234b0; rw [c236b0] at hd237; (first | rw [Bool.true_and] at hd237 | rw [Bool.and_true] at hd237 | (rw [Bool.not_true] at hd237; rw [Bool.false_or] at hd237) | skip)))
                                    (try (have hd238 := c234b1; rw [c236b0] at hd238; (first | rw [Bool.true_and] at hd238 | rw [Bool.and_true] at hd238 | (rw [Bool.not_true] at hd238; rw [Bool.false_or] at hd238) | skip)))
                                    (try (have hd239 := c234b2; rw [c236b0] at hd239; (first | rw [Bool.true_and] at hd239 | rw [Bool.and_true] at hd239 | (rw [Bool.not_true] at hd239; rw [Bool.false_or] at hd239) | skip)))
                                    replace H := Option.bind_eq_some_iff.mp H
                                    obtain ⟨t437, A2400, H⟩ := H
                                    replace H : (some (x8_7 == t437)) = some r := H
                                    have A240 := Aside0.mk A2400
                                    clear A2400
                                    obtain rfl := Option.some.inj H
                                    have hnb241 := NB424_415.out
                                    have hnc241 := NB415_424.out
                                    have hnb242 := NB424_417.out
                                    have hnc242 := NB417_424.out
                                    have hnb243 := NB424_418.out
                                    have hnc243 := NB418_424.out
                                    obtain ⟨hcz244_0, hcz244_1, hcz244_2, hfz244_0, hfz244_1, hfz244_2⟩ := bc3 BK424
                                    have hnb245 := NB417_415.out
                                    have hnc245 := NB415_417.out
                                    have hnb246 := NB417_418.out
                                    have hnc246 := NB418_417.out
                                    obtain ⟨hcz247_0, hcz247_1, hcz247_2, hcz247_3, hcz247_4, hfz247_0, hfz247_1, hfz247_2, hfz247_3, hfz247_4⟩ := bc5 BK417
                                    have hnb248 := NB418_415.out
                                    have hnc248 := NB415_418.out
                                    obtain ⟨hcz249_0, hcz249_1, hcz249_2, hfz249_0, hfz249_1, hfz249_2⟩ := bc3 BK418
                                    have hcz250_0 : wc.cell? ⟨gb415, 0, none⟩ = some (.int .i64 a0_0) := (blk_cell BK415.out 0).trans rfl
                                    have hcz250_1 : wc.cell? ⟨gb415, 1, none⟩ = some (.int .u64 a0_1) := (blk_cell BK415.out 1).trans rfl
                                    have hcz250_2 : wc.cell? ⟨gb415, 2, none⟩ = some (.int .u64 a0_2) := (blk_cell BK415.out 2).trans rfl
                                    have hcz250_3 : wc.cell? ⟨gb415, 3, none⟩ = some (.int .u64 a0_3) := (blk_cell BK415.out 3).trans rfl
                                    have hcz250_4 : wc.cell? ⟨gb415, 4, none⟩ = some (.int .u64 a0_4) := (blk_cell BK415.out 4).trans rfl
                                    have hcz250_5 : wc.cell? ⟨gb415, 5, none⟩ = some (.int .u64 a0_5) := (blk_cell BK415.out 5).trans rfl
                                    have hcz250_6 : wc.cell? ⟨gb415, 6, none⟩ = some (.int .u64 a0_6) := (blk_cell BK415.out 6).trans rfl
                                    have hcz250_7 : wc.cell? ⟨gb415, 7, none⟩ = some (.int .u64 a0_7) := (blk_cell BK415.out 7).trans rfl
                                    have hcz250_8 : wc.cell? ⟨gb415, 8, none⟩ = some (.int .u64 a0_8) := (blk_cell BK415.out 8).trans rfl
                                    have hcz250_9 : wc.cell? ⟨gb415, 9, none⟩ = some (.int .u64 a0_9) := (blk_cell BK415.out 9).trans rfl
                                    have hcz250_10 : wc.cell? ⟨gb415, 10, none⟩ = some (.int .u64 a0_10) := (blk_cell BK415.out 10).trans rfl
                                    have hcz250_11 : wc.cell? ⟨gb415, 11, none⟩ = some (.int .u64 a0_11) := (blk_cell BK415.out 11).trans rfl
                                    have hcz250_12 : wc.cell? ⟨gb415, 12, none⟩ = some (.int .u64 a0_12) := (blk_cell BK415.out 12).trans rfl
                                    have hfz250_0 := blk_frozen BK415.out 0
                                    have hfz250_1 := blk_frozen BK415.out 1
                                    have hfz250_2 := blk_frozen BK415.out 2
                                    have hfz250_3 := blk_frozen BK415.out 3
                                    have hfz250_4 := blk_frozen BK415.out 4
                                    have hfz250_5 := blk_frozen BK415.out 5
                                    have hfz250_6 := blk_frozen BK415.out 6
                                    have hfz250_7 := blk_frozen BK415.out 7
                                    have hfz250_8 := blk_frozen BK415.out 8
                                    have hfz250_9 := blk_frozen BK415.out 9
                                    have hfz250_10 := blk_frozen BK415.out 10
                                    have hfz250_11 := blk_frozen BK415.out 11
                                    have hfz250_12 := blk_frozen BK415.out 12
                                    go_wp2_with (first | (go_at_call 24; (with_reducible refine (window_Left.calls a0_3 a0_4 a0_6 a0_7 a0_11 t437 _ A240.out).mono ?_); rintro e w' ⟨rfl, ⟨nd, rfl⟩⟩))
                                    go_ret
                                    exact ⟨re, bw HB⟩
                                  · rw [if_neg c236] at H
                                    have c236b0 : (t423 == 0) = false := beq_eq_false_iff_ne.mpr c236
                                    have c236b1 : (t423 != 0) = true := bne_iff_ne.mpr c236
                                    (try (have hd251 := c234b0; rw [c236b0] at hd251; (first | rw [Bool.true_and] at hd251 | rw [Bool.and_true] at hd251 | (rw [Bool.not_true] at hd251; rw [Bool.false_or] at hd251) | skip)))
                                    (try (have hd252 := c234b1; rw [c236b0] at hd252; (first | rw [Bool.true_and] at hd252 | rw [Bool.and_true] at hd252 | (rw [Bool.not_true] at hd252; rw [Bool.false_or] at hd252) | skip)))
                                    (try (have hd253 := c234b2; rw [c236b0] at hd253; (first | rw [Bool.true_and] at hd253 | rw [Bool.and_true] at hd253 | (rw [Bool.not_true] at hd253; rw [Bool.false_or] at hd253) | skip)))
                                    by_cases c254 : t422 = true
                                    · subst c254
                                      have H1 : (some false) = some r := by rw [if_pos rfl] at H; exact H
                                      clear H
                                      have H := H1
                                      clear H1
                                      obtain rfl := Option.some.inj H
                                      have hnb255 := NB424_415.out
                                      have hnc255 := NB415_424.out
                                      have hnb256 := NB424_417.out
                                      have hnc256 := NB417_424.out
                                      have hnb257 := NB424_418.out
                                      have hnc257 := NB418_424.out
                                      obtain ⟨hcz258_0, hcz258_1, hcz258_2, hfz258_0, hfz258_1, hfz258_2⟩ := bc3 BK424
                                      go_wp2
                                      go_ret
                                      exact ⟨re, bw HB⟩
                                    · replace c254 := Bool.eq_false_iff.mpr c254
                                      subst c254
                                      have H1 : ((window_Left.f a0_3 a0_4 a0_6 a0_7 a0_11).bind fun t438 => (some (x8_7 == t438))) = some r := by rw [if_neg (show ¬ (false = true) by decide)] at H; exact H
                                      clear H
                                      have H := H1
                                      clear H1
                                      replace H := Option.bind_eq_some_iff.mp H
                                      obtain ⟨t438, A2590, H⟩ := H
                                      replace H : (some (x8_7 == t438)) = some r := H
                                      have A259 := Aside0.mk A2590
                                      clear A2590
                                      obtain rfl := Option.some.inj H
                                      have hnb260 := NB424_415.out
                                      have hnc260 := NB415_424.out
                                      have hnb261 := NB424_417.out
                                      have hnc261 := NB417_424.out
                                      have hnb262 := NB424_418.out
                                      have hnc262 := NB418_424.out
                                      obtain ⟨hcz263_0, hcz263_1, hcz263_2, hfz263_0, hfz263_1, hfz263_2⟩ := bc3 BK424
                                      have hnb264 := NB417_415.out
                                      have hnc264 := NB415_417.out
                                      have hnb265 := NB417_418.out
                                      have hnc265 := NB418_417.out
                                      obtain ⟨hcz266_0, hcz266_1, hcz266_2, hcz266_3, hcz266_4, hfz266_0, hfz266_1, hfz266_2, hfz266_3, hfz266_4⟩ := bc5 BK417
                                      have hnb267 := NB418_415.out
                                      have hnc267 := NB415_418.out
                                      obtain ⟨hcz268_0, hcz268_1, hcz268_2, hfz268_0, hfz268_1, hfz268_2⟩ := bc3 BK418
                                      have hcz269_0 : wc.cell? ⟨gb415, 0, none⟩ = some (.int .i64 a0_0) := (blk_cell BK415.out 0).trans rfl
                                      have hcz269_1 : wc.cell? ⟨gb415, 1, none⟩ = some (.int .u64 a0_1) := (blk_cell BK415.out 1).trans rfl
                                      have hcz269_2 : wc.cell? ⟨gb415, 2, none⟩ = some (.int .u64 a0_2) := (blk_cell BK415.out 2).trans rfl
                                      have hcz269_3 : wc.cell? ⟨gb415, 3, none⟩ = some (.int .u64 a0_3) := (blk_cell BK415.out 3).trans rfl
                                      have hcz269_4 : wc.cell? ⟨gb415, 4, none⟩ = some (.int .u64 a0_4) := (blk_cell BK415.out 4).trans rfl
                                      have hcz269_5 : wc.cell? ⟨gb415, 5, none⟩ = some (.int .u64 a0_5) := (blk_cell BK415.out 5).trans rfl
                                      have hcz269_6 : wc.cell? ⟨gb415, 6, none⟩ = some (.int .u64 a0_6) := (blk_cell BK415.out 6).trans rfl
                                      have hcz269_7 : wc.cell? ⟨gb415, 7, none⟩ = some (.int .u64 a0_7) := (blk_cell BK415.out 7).trans rfl
                                      have hcz269_8 : wc.cell? ⟨gb415, 8, none⟩ = some (.int .u64 a0_8) := (blk_cell BK415.out 8).trans rfl
                                      have hcz269_9 : wc.cell? ⟨gb415, 9, none⟩ = some (.int .u64 a0_9) := (blk_cell BK415.out 9).trans rfl
                                      have hcz269_10 : wc.cell? ⟨gb415, 10, none⟩ = some (.int .u64 a0_10) := (blk_cell BK415.out 10).trans rfl
                                      have hcz269_11 : wc.cell? ⟨gb415, 11, none⟩ = some (.int .u64 a0_11) := (blk_cell BK415.out 11).trans rfl
                                      have hcz269_12 : wc.cell? ⟨gb415, 12, none⟩ = some (.int .u64 a0_12) := (blk_cell BK415.out 12).trans rfl
                                      have hfz269_0 := blk_frozen BK415.out 0
                                      have hfz269_1 := blk_frozen BK415.out 1
                                      have hfz269_2 := blk_frozen BK415.out 2
                                      have hfz269_3 := blk_frozen BK415.out 3
                                      have hfz269_4 := blk_frozen BK415.out 4
                                      have hfz269_5 := blk_frozen BK415.out 5
                                      have hfz269_6 := blk_frozen BK415.out 6
                                      have hfz269_7 := blk_frozen BK415.out 7
                                      have hfz269_8 := blk_frozen BK415.out 8
                                      have hfz269_9 := blk_frozen BK415.out 9
                                      have hfz269_10 := blk_frozen BK415.out 10
                                      have hfz269_11 := blk_frozen BK415.out 11
                                      have hfz269_12 := blk_frozen BK415.out 12
                                      go_wp2_with (first | (go_at_call 24; (with_reducible refine (window_Left.calls a0_3 a0_4 a0_6 a0_7 a0_11 t438 _ A259.out).mono ?_); rintro e w' ⟨rfl, ⟨nd, rfl⟩⟩))
                                      go_ret
                                      exact ⟨re, bw HB⟩
                                · rw [if_neg c235] at H
                                  have c235b0 : (t422 == true) = false := by simpa using c235
                                  (try (have c235b1 : decide (t422 = true) = false := by simpa using c235))
                                  (try (have c235b2 : (t422 == true) = false := by simpa using c235))
                                  (try (have c235b3 : ¬ (t422 = true) := by simpa using c235))
                                  clear c235
                                  obtain rfl := Option.some.inj H
                                  have hnb270 := NB424_415.out
                                  have hnc270 := NB415_424.out
                                  have hnb271 := NB424_417.out
                                  have hnc271 := NB417_424.out
                                  have hnb272 := NB424_418.out
                                  have hnc272 := NB418_424.out
                                  obtain ⟨hcz273_0, hcz273_1, hcz273_2, hfz273_0, hfz273_1, hfz273_2⟩ := bc3 BK424
                                  go_wp2
                                  go_ret
                                  exact ⟨re, bw HB⟩
                              · rw [if_neg c234] at H
                                have c234b0 : (t419 == 0 && (t420 == x11_221 && (t421 == x12_221))) = false := by simpa using c234
                                (try (have c234b1 : decide (t419 = 0 && (t420 == x11_221 && (t421 == x12_221))) = false := by simpa using c234))
                                (try (have c234b2 : (t419 == 0 && (t420 == x11_221 && (t421 == x12_221))) = false := by simpa using c234))
                                (try (have c234b3 : ¬ (t419 = 0 && (t420 == x11_221 && (t421 == x12_221))) := by simpa using c234))
                                clear c234
                                obtain rfl := Option.some.inj H
                                have hnb274 := NB424_415.out
                                have hnc274 := NB415_424.out
                                have hnb275 := NB424_417.out
                                have hnc275 := NB417_424.out
                                have hnb276 := NB424_418.out
                                have hnc276 := NB418_424.out
                                obtain ⟨hcz277_0, hcz277_1, hcz277_2, hfz277_0, hfz277_1, hfz277_2⟩ := bc3 BK424
                                go_wp2
                                go_ret
                                exact ⟨re, bw HB⟩
                            · replace c233 := Bool.eq_false_iff.mpr c233
                              subst c233
                              have H1 : ((window_Retry.f kj221 a0_3 a0_4 a0_6 a0_7 a0_11 a0_12).bind fun t439 => (if t423 = t439 then (if (t419 == 0 && (t420 == x11_221 && (t421 == x12_221))) = true then (if (t422 == false) = true then (if t423 = 0 then ((window_Left.f a0_3 a0_4 a0_6 a0_7 a0_11).bind fun t440 => (some (x8_7 == t440))) else (if t422 = true then (some false) else ((window_Left.f a0_3 a0_4 a0_6 a0_7 a0_11).bind fun t441 => (some (x8_7 == t441))))) else (some false)) else (some false)) else (some false))) = some r := by rw [if_neg (show ¬ (false = true) by decide)] at H; exact H
                              clear H
                              have H := H1
                              clear H1
                              replace H := Option.bind_eq_some_iff.mp H
                              obtain ⟨t439, A2780, H⟩ := H
                              replace H : (if t423 = t439 then (if (t419 == 0 && (t420 == x11_221 && (t421 == x12_221))) = true then (if (t422 == false) = true then (if t423 = 0 then ((window_Left.f a0_3 a0_4 a0_6 a0_7 a0_11).bind fun t440 => (some (x8_7 == t440))) else (if t422 = true then (some false) else ((window_Left.f a0_3 a0_4 a0_6 a0_7 a0_11).bind fun t441 => (some (x8_7 == t441))))) else (some false)) else (some false)) else (some false)) = some r := H
                              have A278 := Aside0.mk A2780
                              clear A2780
                              by_cases c279 : t423 = t439
                              · rw [if_pos c279] at H
                                have c279b0 : (t423 == t439) = true := beq_iff_eq.mpr c279
                                have c279b1 : (t423 != t439) = false := bne_eq_false_iff_eq.mpr c279
                                clear c279
                                by_cases c280 : (t419 == 0 && (t420 == x11_221 && (t421 == x12_221))) = true
                                · rw [if_pos c280] at H
                                  have c280b0 : (t419 == 0 && (t420 == x11_221 && (t421 == x12_221))) = true := c280
                                  (try (have c280b1 : decide (t419 = 0 && (t420 == x11_221 && (t421 == x12_221))) = true := by simpa using c280))
                                  (try (have c280b2 : (t419 == 0 && (t420 == x11_221 && (t421 == x12_221))) = true := by simpa using c280))
                                  clear c280
                                  by_cases c281 : (t422 == false) = true
                                  · rw [if_pos c281] at H
                                    have c281b0 : (t422 == false) = true := c281
                                    (try (have c281b1 : decide (t422 = false) = true := by simpa using c281))
                                    (try (have c281b2 : (t422 == false) = true := by simpa using c281))
                                    clear c281
                                    by_cases c282 : t423 = 0
                                    · rw [if_pos c282] at H
                                      have c282b0 : (t423 == 0) = true := beq_iff_eq.mpr c282
                                      have c282b1 : (t423 != 0) = false := bne_eq_false_iff_eq.mpr c282
                                      clear c282
                                      (try (have hd283 := c280b0; rw [c282b0] at hd283; (first | rw [Bool.true_and] at hd283 | rw [Bool.and_true] at hd283 | (rw [Bool.not_true] at hd283; rw [Bool.false_or] at hd283) | skip)))
                                      (try (have hd284 := c280b1; rw [c282b0] at hd284; (first | rw [Bool.true_and] at hd284 | rw [Bool.and_true] at hd284 | (rw [Bool.not_true] at hd284; rw [Bool.false_or] at hd284) | skip)))
                                      (try (have hd285 := c280b2; rw [c282b0] at hd285; (first | rw [Bool.true_and] at hd285 | rw [Bool.and_true] at hd285 | (rw [Bool.not_true] at hd285; rw [Bool.false_or] at hd285) | skip)))
                                      replace H := Option.bind_eq_some_iff.mp H
                                      obtain ⟨t440, A2860, H⟩ := H
                                      replace H : (some (x8_7 == t440)) = some r := H
                                      have A286 := Aside0.mk A2860
                                      clear A2860
                                      obtain rfl := Option.some.inj H
                                      have hnb287 := NB417_415.out
                                      have hnc287 := NB415_417.out
                                      have hnb288 := NB417_418.out
                                      have hnc288 := NB418_417.out
                                      have hnb289 := NB417_424.out
                                      have hnc289 := NB424_417.out
                                      obtain ⟨hcz290_0, hcz290_1, hcz290_2, hcz290_3, hcz290_4, hfz290_0, hfz290_1, hfz290_2, hfz290_3, hfz290_4⟩ := bc5 BK417
                                      have hnb291 := NB418_415.out
                                      have hnc291 := NB415_418.out
                                      have hnb292 := NB418_424.out
                                      have hnc292 := NB424_418.out
                                      obtain ⟨hcz293_0, hcz293_1, hcz293_2, hfz293_0, hfz293_1, hfz293_2⟩ := bc3 BK418
                                      have hnb294 := NB415_424.out
                                      have hnc294 := NB424_415.out
                                      have hcz295_0 : wc.cell? ⟨gb415, 0, none⟩ = some (.int .i64 a0_0) := (blk_cell BK415.out 0).trans rfl
                                      have hcz295_1 : wc.cell? ⟨gb415, 1, none⟩ = some (.int .u64 a0_1) := (blk_cell BK415.out 1).trans rfl
                                      have hcz295_2 : wc.cell? ⟨gb415, 2, none⟩ = some (.int .u64 a0_2) := (blk_cell BK415.out 2).trans rfl
                                      have hcz295_3 : wc.cell? ⟨gb415, 3, none⟩ = some (.int .u64 a0_3) := (blk_cell BK415.out 3).trans rfl
                                      have hcz295_4 : wc.cell? ⟨gb415, 4, none⟩ = some (.int .u64 a0_4) := (blk_cell BK415.out 4).trans rfl
                                      have hcz295_5 : wc.cell? ⟨gb415, 5, none⟩ = some (.int .u64 a0_5) := (blk_cell BK415.out 5).trans rfl
                                      have hcz295_6 : wc.cell? ⟨gb415, 6, none⟩ = some (.int .u64 a0_6) := (blk_cell BK415.out 6).trans rfl
                                      have hcz295_7 : wc.cell? ⟨gb415, 7, none⟩ = some (.int .u64 a0_7) := (blk_cell BK415.out 7).trans rfl
                                      have hcz295_8 : wc.cell? ⟨gb415, 8, none⟩ = some (.int .u64 a0_8) := (blk_cell BK415.out 8).trans rfl
                                      have hcz295_9 : wc.cell? ⟨gb415, 9, none⟩ = some (.int .u64 a0_9) := (blk_cell BK415.out 9).trans rfl
                                      have hcz295_10 : wc.cell? ⟨gb415, 10, none⟩ = some (.int .u64 a0_10) := (blk_cell BK415.out 10).trans rfl
                                      have hcz295_11 : wc.cell? ⟨gb415, 11, none⟩ = some (.int .u64 a0_11) := (blk_cell BK415.out 11).trans rfl
                                      have hcz295_12 : wc.cell? ⟨gb415, 12, none⟩ = some (.int .u64 a0_12) := (blk_cell BK415.out 12).trans rfl
                                      have hfz295_0 := blk_frozen BK415.out 0
                                      have hfz295_1 := blk_frozen BK415.out 1
                                      have hfz295_2 := blk_frozen BK415.out 2
                                      have hfz295_3 := blk_frozen BK415.out 3
                                      have hfz295_4 := blk_frozen BK415.out 4
                                      have hfz295_5 := blk_frozen BK415.out 5
                                      have hfz295_6 := blk_frozen BK415.out 6
                                      have hfz295_7 := blk_frozen BK415.out 7
                                      have hfz295_8 := blk_frozen BK415.out 8
                                      have hfz295_9 := blk_frozen BK415.out 9
                                      have hfz295_10 := blk_frozen BK415.out 10
                                      have hfz295_11 := blk_frozen BK415.out 11
                                      have hfz295_12 := blk_frozen BK415.out 12
                                      go_wp2_with (first | (go_at_call 23; (with_reducible refine (window_Retry.calls kj221 a0_3 a0_4 a0_6 a0_7 a0_11 a0_12 t439 _ A278.out).mono ?_); rintro e w' ⟨rfl, ⟨nd, rfl⟩⟩; obtain ⟨hcz296_0, hcz296_1, hcz296_2, hfz296_0, hfz296_1, hfz296_2⟩ := bc3 BK424) | (go_at_call 24; (with_reducible refine (window_Left.calls a0_3 a0_4 a0_6 a0_7 a0_11 t440 _ A286.out).mono ?_); rintro e w' ⟨rfl, ⟨nd, rfl⟩⟩))
                                      go_ret
                                      exact ⟨re, bw HB⟩
                                    · rw [if_neg c282] at H
                                      have c282b0 : (t423 == 0) = false := beq_eq_false_iff_ne.mpr c282
                                      have c282b1 : (t423 != 0) = true := bne_iff_ne.mpr c282
                                      (try (have hd297 := c280b0; rw [c282b0] at hd297; (first | rw [Bool.true_and] at hd297 | rw [Bool.and_true] at hd297 | (rw [Bool.not_true] at hd297; rw [Bool.false_or] at hd297) | skip)))
                                      (try (have hd298 := c280b1; rw [c282b0] at hd298; (first | rw [Bool.true_and] at hd298 | rw [Bool.and_true] at hd298 | (rw [Bool.not_true] at hd298; rw [Bool.false_or] at hd298) | skip)))
                                      (try (have hd299 := c280b2; rw [c282b0] at hd299; (first | rw [Bool.true_and] at hd299 | rw [Bool.and_true] at hd299 | (rw [Bool.not_true] at hd299; rw [Bool.false_or] at hd299) | skip)))
                                      by_cases c300 : t422 = true
                                      · subst c300
                                        have H1 : (some false) = some r := by rw [if_pos rfl] at H; exact H
                                        clear H
                                        have H := H1
                                        clear H1
                                        obtain rfl := Option.some.inj H
                                        have hnb301 := NB417_415.out
                                        have hnc301 := NB415_417.out
                                        have hnb302 := NB417_418.out
                                        have hnc302 := NB418_417.out
                                        have hnb303 := NB417_424.out
                                        have hnc303 := NB424_417.out
                                        obtain ⟨hcz304_0, hcz304_1, hcz304_2, hcz304_3, hcz304_4, hfz304_0, hfz304_1, hfz304_2, hfz304_3, hfz304_4⟩ := bc5 BK417
                                        have hnb305 := NB418_415.out
                                        have hnc305 := NB415_418.out
                                        have hnb306 := NB418_424.out
                                        have hnc306 := NB424_418.out
                                        obtain ⟨hcz307_0, hcz307_1, hcz307_2, hfz307_0, hfz307_1, hfz307_2⟩ := bc3 BK418
                                        have hnb308 := NB415_424.out
                                        have hnc308 := NB424_415.out
                                        have hcz309_0 : wc.cell? ⟨gb415, 0, none⟩ = some (.int .i64 a0_0) := (blk_cell BK415.out 0).trans rfl
                                        have hcz309_1 : wc.cell? ⟨gb415, 1, none⟩ = some (.int .u64 a0_1) := (blk_cell BK415.out 1).trans rfl
                                        have hcz309_2 : wc.cell? ⟨gb415, 2, none⟩ = some (.int .u64 a0_2) := (blk_cell BK415.out 2).trans rfl
                                        have hcz309_3 : wc.cell? ⟨gb415, 3, none⟩ = some (.int .u64 a0_3) := (blk_cell BK415.out 3).trans rfl
                                        have hcz309_4 : wc.cell? ⟨gb415, 4, none⟩ = some (.int .u64 a0_4) := (blk_cell BK415.out 4).trans rfl
                                        have hcz309_5 : wc.cell? ⟨gb415, 5, none⟩ = some (.int .u64 a0_5) := (blk_cell BK415.out 5).trans rfl
                                        have hcz309_6 : wc.cell? ⟨gb415, 6, none⟩ = some (.int .u64 a0_6) := (blk_cell BK415.out 6).trans rfl
                                        have hcz309_7 : wc.cell? ⟨gb415, 7, none⟩ = some (.int .u64 a0_7) := (blk_cell BK415.out 7).trans rfl
                                        have hcz309_8 : wc.cell? ⟨gb415, 8, none⟩ = some (.int .u64 a0_8) := (blk_cell BK415.out 8).trans rfl
                                        have hcz309_9 : wc.cell? ⟨gb415, 9, none⟩ = some (.int .u64 a0_9) := (blk_cell BK415.out 9).trans rfl
                                        have hcz309_10 : wc.cell? ⟨gb415, 10, none⟩ = some (.int .u64 a0_10) := (blk_cell BK415.out 10).trans rfl
                                        have hcz309_11 : wc.cell? ⟨gb415, 11, none⟩ = some (.int .u64 a0_11) := (blk_cell BK415.out 11).trans rfl
                                        have hcz309_12 : wc.cell? ⟨gb415, 12, none⟩ = some (.int .u64 a0_12) := (blk_cell BK415.out 12).trans rfl
                                        have hfz309_0 := blk_frozen BK415.out 0
                                        have hfz309_1 := blk_frozen BK415.out 1
                                        have hfz309_2 := blk_frozen BK415.out 2
                                        have hfz309_3 := blk_frozen BK415.out 3
                                        have hfz309_4 := blk_frozen BK415.out 4
                                        have hfz309_5 := blk_frozen BK415.out 5
                                        have hfz309_6 := blk_frozen BK415.out 6
                                        have hfz309_7 := blk_frozen BK415.out 7
                                        have hfz309_8 := blk_frozen BK415.out 8
                                        have hfz309_9 := blk_frozen BK415.out 9
                                        have hfz309_10 := blk_frozen BK415.out 10
                                        have hfz309_11 := blk_frozen BK415.out 11
                                        have hfz309_12 := blk_frozen BK415.out 12
                                        go_wp2_with (first | (go_at_call 23; (with_reducible refine (window_Retry.calls kj221 a0_3 a0_4 a0_6 a0_7 a0_11 a0_12 t439 _ A278.out).mono ?_); rintro e w' ⟨rfl, ⟨nd, rfl⟩⟩; obtain ⟨hcz310_0, hcz310_1, hcz310_2, hfz310_0, hfz310_1, hfz310_2⟩ := bc3 BK424))
                                        go_ret
                                        exact ⟨re, bw HB⟩
                                      · replace c300 := Bool.eq_false_iff.mpr c300
                                        subst c300
                                        have H1 : ((window_Left.f a0_3 a0_4 a0_6 a0_7 a0_11).bind fun t441 => (some (x8_7 == t441))) = some r := by rw [if_neg (show ¬ (false = true) by decide)] at H; exact H
                                        clear H
                                        have H := H1
                                        clear H1
                                        replace H := Option.bind_eq_some_iff.mp H
                                        obtain ⟨t441, A3110, H⟩ := H
                                        replace H : (some (x8_7 == t441)) = some r := H
                                        have A311 := Aside0.mk A3110
                                        clear A3110
                                        obtain rfl := Option.some.inj H
                                        have hnb312 := NB417_415.out
                                        have hnc312 := NB415_417.out
                                        have hnb313 := NB417_418.out
                                        have hnc313 := NB418_417.out
                                        have hnb314 := NB417_424.out
                                        have hnc314 := NB424_417.out
                                        obtain ⟨hcz315_0, hcz315_1, hcz315_2, hcz315_3, hcz315_4, hfz315_0, hfz315_1, hfz315_2, hfz315_3, hfz315_4⟩ := bc5 BK417
                                        have hnb316 := NB418_415.out
                                        have hnc316 := NB415_418.out
                                        have hnb317 := NB418_424.out
                                        have hnc317 := NB424_418.out
                                        obtain ⟨hcz318_0, hcz318_1, hcz318_2, hfz318_0, hfz318_1, hfz318_2⟩ := bc3 BK418
                                        have hnb319 := NB415_424.out
                                        have hnc319 := NB424_415.out
                                        have hcz320_0 : wc.cell? ⟨gb415, 0, none⟩ = some (.int .i64 a0_0) := (blk_cell BK415.out 0).trans rfl
                                        have hcz320_1 : wc.cell? ⟨gb415, 1, none⟩ = some (.int .u64 a0_1) := (blk_cell BK415.out 1).trans rfl
                                        have hcz320_2 : wc.cell? ⟨gb415, 2, none⟩ = some (.int .u64 a0_2) := (blk_cell BK415.out 2).trans rfl
                                        have hcz320_3 : wc.cell? ⟨gb415, 3, none⟩ = some (.int .u64 a0_3) := (blk_cell BK415.out 3).trans rfl
                                        have hcz320_4 : wc.cell? ⟨gb415, 4, none⟩ = some (.int .u64 a0_4) := (blk_cell BK415.out 4).trans rfl
                                        have hcz320_5 : wc.cell? ⟨gb415, 5, none⟩ = some (.int .u64 a0_5) := (blk_cell BK415.out 5).trans rfl
                                        have hcz320_6 : wc.cell? ⟨gb415, 6, none⟩ = some (.int .u64 a0_6) := (blk_cell BK415.out 6).trans rfl
                                        have hcz320_7 : wc.cell? ⟨gb415, 7, none⟩ = some (.int .u64 a0_7) := (blk_cell BK415.out 7).trans rfl
                                        have hcz320_8 : wc.cell? ⟨gb415, 8, none⟩ = some (.int .u64 a0_8) := (blk_cell BK415.out 8).trans rfl
                                        have hcz320_9 : wc.cell? ⟨gb415, 9, none⟩ = some (.int .u64 a0_9) := (blk_cell BK415.out 9).trans rfl
                                        have hcz320_10 : wc.cell? ⟨gb415, 10, none⟩ = some (.int .u64 a0_10) := (blk_cell BK415.out 10).trans rfl
                                        have hcz320_11 : wc.cell? ⟨gb415, 11, none⟩ = some (.int .u64 a0_11) := (blk_cell BK415.out 11).trans rfl
                                        have hcz320_12 : wc.cell? ⟨gb415, 12, none⟩ = some (.int .u64 a0_12) := (blk_cell BK415.out 12).trans rfl
                                        have hfz320_0 := blk_frozen BK415.out 0
                                        have hfz320_1 := blk_frozen BK415.out 1
                                        have hfz320_2 := blk_frozen BK415.out 2
                                        have hfz320_3 := blk_frozen BK415.out 3
                                        have hfz320_4 := blk_frozen BK415.out 4
                                        have hfz320_5 := blk_frozen BK415.out 5
                                        have hfz320_6 := blk_frozen BK415.out 6
                                        have hfz320_7 := blk_frozen BK415.out 7
                                        have hfz320_8 := blk_frozen BK415.out 8
                                        have hfz320_9 := blk_frozen BK415.out 9
                                        have hfz320_10 := blk_frozen BK415.out 10
                                        have hfz320_11 := blk_frozen BK415.out 11
                                        have hfz320_12 := blk_frozen BK415.out 12
                                        go_wp2_with (first | (go_at_call 23; (with_reducible refine (window_Retry.calls kj221 a0_3 a0_4 a0_6 a0_7 a0_11 a0_12 t439 _ A278.out).mono ?_); rintro e w' ⟨rfl, ⟨nd, rfl⟩⟩; obtain ⟨hcz321_0, hcz321_1, hcz321_2, hfz321_0, hfz321_1, hfz321_2⟩ := bc3 BK424) | (go_at_call 24; (with_reducible refine (window_Left.calls a0_3 a0_4 a0_6 a0_7 a0_11 t441 _ A311.out).mono ?_); rintro e w' ⟨rfl, ⟨nd, rfl⟩⟩))
                                        go_ret
                                        exact ⟨re, bw HB⟩
                                  · rw [if_neg c281] at H
                                    have c281b0 : (t422 == false) = false := by simpa using c281
                                    (try (have c281b1 : decide (t422 = false) = false := by simpa using c281))
                                    (try (have c281b2 : (t422 == false) = false := by simpa using c281))
                                    (try (have c281b3 : ¬ (t422 = false) := by simpa using c281))
                                    clear c281
                                    obtain rfl := Option.some.inj H
                                    have hnb322 := NB417_415.out
                                    have hnc322 := NB415_417.out
                                    have hnb323 := NB417_418.out
                                    have hnc323 := NB418_417.out
                                    have hnb324 := NB417_424.out
                                    have hnc324 := NB424_417.out
                                    obtain ⟨hcz325_0, hcz325_1, hcz325_2, hcz325_3, hcz325_4, hfz325_0, hfz325_1, hfz325_2, hfz325_3, hfz325_4⟩ := bc5 BK417
                                    have hnb326 := NB418_415.out
                                    have hnc326 := NB415_418.out
                                    have hnb327 := NB418_424.out
                                    have hnc327 := NB424_418.out
                                    obtain ⟨hcz328_0, hcz328_1, hcz328_2, hfz328_0, hfz328_1, hfz328_2⟩ := bc3 BK418
                                    have hnb329 := NB415_424.out
                                    have hnc329 := NB424_415.out
                                    have hcz330_0 : wc.cell? ⟨gb415, 0, none⟩ = some (.int .i64 a0_0) := (blk_cell BK415.out 0).trans rfl
                                    have hcz330_1 : wc.cell? ⟨gb415, 1, none⟩ = some (.int .u64 a0_1) := (blk_cell BK415.out 1).trans rfl
                                    have hcz330_2 : wc.cell? ⟨gb415, 2, none⟩ = some (.int .u64 a0_2) := (blk_cell BK415.out 2).trans rfl
                                    have hcz330_3 : wc.cell? ⟨gb415, 3, none⟩ = some (.int .u64 a0_3) := (blk_cell BK415.out 3).trans rfl
                                    have hcz330_4 : wc.cell? ⟨gb415, 4, none⟩ = some (.int .u64 a0_4) := (blk_cell BK415.out 4).trans rfl
                                    have hcz330_5 : wc.cell? ⟨gb415, 5, none⟩ = some (.int .u64 a0_5) := (blk_cell BK415.out 5).trans rfl
                                    have hcz330_6 : wc.cell? ⟨gb415, 6, none⟩ = some (.int .u64 a0_6) := (blk_cell BK415.out 6).trans rfl
                                    have hcz330_7 : wc.cell? ⟨gb415, 7, none⟩ = some (.int .u64 a0_7) := (blk_cell BK415.out 7).trans rfl
                                    have hcz330_8 : wc.cell? ⟨gb415, 8, none⟩ = some (.int .u64 a0_8) := (blk_cell BK415.out 8).trans rfl
                                    have hcz330_9 : wc.cell? ⟨gb415, 9, none⟩ = some (.int .u64 a0_9) := (blk_cell BK415.out 9).trans rfl
                                    have hcz330_10 : wc.cell? ⟨gb415, 10, none⟩ = some (.int .u64 a0_10) := (blk_cell BK415.out 10).trans rfl
                                    have hcz330_11 : wc.cell? ⟨gb415, 11, none⟩ = some (.int .u64 a0_11) := (blk_cell BK415.out 11).trans rfl
                                    have hcz330_12 : wc.cell? ⟨gb415, 12, none⟩ = some (.int .u64 a0_12) := (blk_cell BK415.out 12).trans rfl
                                    have hfz330_0 := blk_frozen BK415.out 0
                                    have hfz330_1 := blk_frozen BK415.out 1
                                    have hfz330_2 := blk_frozen BK415.out 2
                                    have hfz330_3 := blk_frozen BK415.out 3
                                    have hfz330_4 := blk_frozen BK415.out 4
                                    have hfz330_5 := blk_frozen BK415.out 5
                                    have hfz330_6 := blk_frozen BK415.out 6
                                    have hfz330_7 := blk_frozen BK415.out 7
                                    have hfz330_8 := blk_frozen BK415.out 8
                                    have hfz330_9 := blk_frozen BK415.out 9
                                    have hfz330_10 := blk_frozen BK415.out 10
                                    have hfz330_11 := blk_frozen BK415.out 11
                                    have hfz330_12 := blk_frozen BK415.out 12
                                    go_wp2_with (first | (go_at_call 23; (with_reducible refine (window_Retry.calls kj221 a0_3 a0_4 a0_6 a0_7 a0_11 a0_12 t439 _ A278.out).mono ?_); rintro e w' ⟨rfl, ⟨nd, rfl⟩⟩; obtain ⟨hcz331_0, hcz331_1, hcz331_2, hfz331_0, hfz331_1, hfz331_2⟩ := bc3 BK424))
                                    go_ret
                                    exact ⟨re, bw HB⟩
                                · rw [if_neg c280] at H
                                  have c280b0 : (t419 == 0 && (t420 == x11_221 && (t421 == x12_221))) = false := by simpa using c280
                                  (try (have c280b1 : decide (t419 = 0 && (t420 == x11_221 && (t421 == x12_221))) = false := by simpa using c280))
                                  (try (have c280b2 : (t419 == 0 && (t420 == x11_221 && (t421 == x12_221))) = false := by simpa using c280))
                                  (try (have c280b3 : ¬ (t419 = 0 && (t420 == x11_221 && (t421 == x12_221))) := by simpa using c280))
                                  clear c280
                                  obtain rfl := Option.some.inj H
                                  have hnb332 := NB417_415.out
                                  have hnc332 := NB415_417.out
                                  have hnb333 := NB417_418.out
                                  have hnc333 := NB418_417.out
                                  have hnb334 := NB417_424.out
                                  have hnc334 := NB424_417.out
                                  obtain ⟨hcz335_0, hcz335_1, hcz335_2, hcz335_3, hcz335_4, hfz335_0, hfz335_1, hfz335_2, hfz335_3, hfz335_4⟩ := bc5 BK417
                                  have hnb336 := NB418_415.out
                                  have hnc336 := NB415_418.out
                                  have hnb337 := NB418_424.out
                                  have hnc337 := NB424_418.out
                                  obtain ⟨hcz338_0, hcz338_1, hcz338_2, hfz338_0, hfz338_1, hfz338_2⟩ := bc3 BK418
                                  have hnb339 := NB415_424.out
                                  have hnc339 := NB424_415.out
                                  have hcz340_0 : wc.cell? ⟨gb415, 0, none⟩ = some (.int .i64 a0_0) := (blk_cell BK415.out 0).trans rfl
                                  have hcz340_1 : wc.cell? ⟨gb415, 1, none⟩ = some (.int .u64 a0_1) := (blk_cell BK415.out 1).trans rfl
                                  have hcz340_2 : wc.cell? ⟨gb415, 2, none⟩ = some (.int .u64 a0_2) := (blk_cell BK415.out 2).trans rfl
                                  have hcz340_3 : wc.cell? ⟨gb415, 3, none⟩ = some (.int .u64 a0_3) := (blk_cell BK415.out 3).trans rfl
                                  have hcz340_4 : wc.cell? ⟨gb415, 4, none⟩ = some (.int .u64 a0_4) := (blk_cell BK415.out 4).trans rfl
                                  have hcz340_5 : wc.cell? ⟨gb415, 5, none⟩ = some (.int .u64 a0_5) := (blk_cell BK415.out 5).trans rfl
                                  have hcz340_6 : wc.cell? ⟨gb415, 6, none⟩ = some (.int .u64 a0_6) := (blk_cell BK415.out 6).trans rfl
                                  have hcz340_7 : wc.cell? ⟨gb415, 7, none⟩ = some (.int .u64 a0_7) := (blk_cell BK415.out 7).trans rfl
                                  have hcz340_8 : wc.cell? ⟨gb415, 8, none⟩ = some (.int .u64 a0_8) := (blk_cell BK415.out 8).trans rfl
                                  have hcz340_9 : wc.cell? ⟨gb415, 9, none⟩ = some (.int .u64 a0_9) := (blk_cell BK415.out 9).trans rfl
                                  have hcz340_10 : wc.cell? ⟨gb415, 10, none⟩ = some (.int .u64 a0_10) := (blk_cell BK415.out 10).trans rfl
                                  have hcz340_11 : wc.cell? ⟨gb415, 11, none⟩ = some (.int .u64 a0_11) := (blk_cell BK415.out 11).trans rfl
                                  have hcz340_12 : wc.cell? ⟨gb415, 12, none⟩ = some (.int .u64 a0_12) := (blk_cell BK415.out 12).trans rfl
                                  have hfz340_0 := blk_frozen BK415.out 0
                                  have hfz340_1 := blk_frozen BK415.out 1
                                  have hfz340_2 := blk_frozen BK415.out 2
                                  have hfz340_3 := blk_frozen BK415.out 3
                                  have hfz340_4 := blk_frozen BK415.out 4
                                  have hfz340_5 := blk_frozen BK415.out 5
                                  have hfz340_6 := blk_frozen BK415.out 6
                                  have hfz340_7 := blk_frozen BK415.out 7
                                  have hfz340_8 := blk_frozen BK415.out 8
                                  have hfz340_9 := blk_frozen BK415.out 9
                                  have hfz340_10 := blk_frozen BK415.out 10
                                  have hfz340_11 := blk_frozen BK415.out 11
                                  have hfz340_12 := blk_frozen BK415.out 12
                                  go_wp2_with (first | (go_at_call 23; (with_reducible refine (window_Retry.calls kj221 a0_3 a0_4 a0_6 a0_7 a0_11 a0_12 t439 _ A278.out).mono ?_); rintro e w' ⟨rfl, ⟨nd, rfl⟩⟩; obtain ⟨hcz341_0, hcz341_1, hcz341_2, hfz341_0, hfz341_1, hfz341_2⟩ := bc3 BK424))
                                  go_ret
                                  exact ⟨re, bw HB⟩
                              · rw [if_neg c279] at H
                                have c279b0 : (t423 == t439) = false := beq_eq_false_iff_ne.mpr c279
                                have c279b1 : (t423 != t439) = true := bne_iff_ne.mpr c279
                                obtain rfl := Option.some.inj H
                                have hnb342 := NB417_415.out
                                have hnc342 := NB415_417.out
                                have hnb343 := NB417_418.out
                                have hnc343 := NB418_417.out
                                have hnb344 := NB417_424.out
                                have hnc344 := NB424_417.out
                                obtain ⟨hcz345_0, hcz345_1, hcz345_2, hcz345_3, hcz345_4, hfz345_0, hfz345_1, hfz345_2, hfz345_3, hfz345_4⟩ := bc5 BK417
                                have hnb346 := NB418_415.out
                                have hnc346 := NB415_418.out
                                have hnb347 := NB418_424.out
                                have hnc347 := NB424_418.out
                                obtain ⟨hcz348_0, hcz348_1, hcz348_2, hfz348_0, hfz348_1, hfz348_2⟩ := bc3 BK418
                                have hnb349 := NB415_424.out
                                have hnc349 := NB424_415.out
                                have hcz350_0 : wc.cell? ⟨gb415, 0, none⟩ = some (.int .i64 a0_0) := (blk_cell BK415.out 0).trans rfl
                                have hcz350_1 : wc.cell? ⟨gb415, 1, none⟩ = some (.int .u64 a0_1) := (blk_cell BK415.out 1).trans rfl
                                have hcz350_2 : wc.cell? ⟨gb415, 2, none⟩ = some (.int .u64 a0_2) := (blk_cell BK415.out 2).trans rfl
                                have hcz350_3 : wc.cell? ⟨gb415, 3, none⟩ = some (.int .u64 a0_3) := (blk_cell BK415.out 3).trans rfl
                                have hcz350_4 : wc.cell? ⟨gb415, 4, none⟩ = some (.int .u64 a0_4) := (blk_cell BK415.out 4).trans rfl
                                have hcz350_5 : wc.cell? ⟨gb415, 5, none⟩ = some (.int .u64 a0_5) := (blk_cell BK415.out 5).trans rfl
                                have hcz350_6 : wc.cell? ⟨gb415, 6, none⟩ = some (.int .u64 a0_6) := (blk_cell BK415.out 6).trans rfl
                                have hcz350_7 : wc.cell? ⟨gb415, 7, none⟩ = some (.int .u64 a0_7) := (blk_cell BK415.out 7).trans rfl
                                have hcz350_8 : wc.cell? ⟨gb415, 8, none⟩ = some (.int .u64 a0_8) := (blk_cell BK415.out 8).trans rfl
                                have hcz350_9 : wc.cell? ⟨gb415, 9, none⟩ = some (.int .u64 a0_9) := (blk_cell BK415.out 9).trans rfl
                                have hcz350_10 : wc.cell? ⟨gb415, 10, none⟩ = some (.int .u64 a0_10) := (blk_cell BK415.out 10).trans rfl
                                have hcz350_11 : wc.cell? ⟨gb415, 11, none⟩ = some (.int .u64 a0_11) := (blk_cell BK415.out 11).trans rfl
                                have hcz350_12 : wc.cell? ⟨gb415, 12, none⟩ = some (.int .u64 a0_12) := (blk_cell BK415.out 12).trans rfl
                                have hfz350_0 := blk_frozen BK415.out 0
                                have hfz350_1 := blk_frozen BK415.out 1
                                have hfz350_2 := blk_frozen BK415.out 2
                                have hfz350_3 := blk_frozen BK415.out 3
                                have hfz350_4 := blk_frozen BK415.out 4
                                have hfz350_5 := blk_frozen BK415.out 5
                                have hfz350_6 := blk_frozen BK415.out 6
                                have hfz350_7 := blk_frozen BK415.out 7
                                have hfz350_8 := blk_frozen BK415.out 8
                                have hfz350_9 := blk_frozen BK415.out 9
                                have hfz350_10 := blk_frozen BK415.out 10
                                have hfz350_11 := blk_frozen BK415.out 11
                                have hfz350_12 := blk_frozen BK415.out 12
                                go_wp2_with (first | (go_at_call 23; (with_reducible refine (window_Retry.calls kj221 a0_3 a0_4 a0_6 a0_7 a0_11 a0_12 t439 _ A278.out).mono ?_); rintro e w' ⟨rfl, ⟨nd, rfl⟩⟩))
                                go_ret
                                exact ⟨re, bw HB⟩


end Go.Proofs.Ytokfhdpokemekaa.Q
