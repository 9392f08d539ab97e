/- Written by the session's own program hyb.py: what functions of the program compute; Lean checks it. -/
import Derived.Test.YtokfhdpokemekaaQx0
import Derived.Test.YtokfhdpokemekaaQx1
import Derived.Test.YtokfhdpokemekaaQx16
import Derived.Test.YtokfhdpokemekaaQx17
import Derived.Test.YtokfhdpokemekaaQx18
import Derived.Test.YtokfhdpokemekaaQx19
import Derived.Test.YtokfhdpokemekaaQx20
import Derived.Test.YtokfhdpokemekaaQx21
namespace Go.Proofs.Ytokfhdpokemekaa.Q
open Go.RowKit Go.Proofs.YtokfhdpokemekaaW.PrintWords Go.Proofs.YtokfhdpokemekaaW.PrintLast Go.Proofs.YtokfhdpokemekaaW.PrintMore Go.Proofs.YtokfhdpokemekaaW.PrintShort
attribute [local go_sem] run_Add64 run_Sub64
attribute [local go_sem] max2_int min2_int max_two min_two max_three min_three max_four min_four   -- for this text's walks alone
set_option linter.unusedVariables false
set_option linter.unusedSimpArgs false

attribute [local go_sem high] eqA29
/-! ### turnstilelaw06_PolicyForm: function 5 -/
mutual
def turnstilelaw06_PolicyForm.j0 : Nat → Int → Int → Bool → Int → Int → Int → Int → Int → Int → Int → Int → Int → Int → Int → Int → Int → Option (Bool)
  | 0, _, _, _, _, _, _, _, _, _, _, _, _, _, _, _, _ => none
  | k + 1, x1, x2, x16, x443000, x443001, x443002, x443003, x443004, x443005, x443006, x443007, x443008, x443009, x443010, x443011, x443012 => if x16 = true then (some false) else (turnstilelaw06_PolicyForm.j1 k x1 x2 (x443000 == 1) x443000 x443001 x443002 x443003 x443004 x443005 x443006 x443007 x443008 x443009 x443010 x443011 x443012 x443005 x443006 x443007)
def turnstilelaw06_PolicyForm.j1 : Nat → Int → Int → Bool → Int → Int → Int → Int → Int → Int → Int → Int → Int → Int → Int → Int → Int → Int → Int → Int → Option (Bool)
  | 0, _, _, _, _, _, _, _, _, _, _, _, _, _, _, _, _, _, _, _ => none
  | k + 1, x1, x2, x22, x443000, x443001, x443002, x443003, x443004, x443005, x443006, x443007, x443008, x443009, x443010, x443011, x443012, x445000, x445001, x445002 => if x22 = true then (turnstilelaw06_PolicyForm.j2 k x443000 x443001 x443002 x443003 x443004 x443005 x443006 x443007 x443008 x443009 x443010 x443011 x443012 x445000 x1 x2) else (turnstilelaw06_PolicyForm.j2 k x443000 x443001 x443002 x443003 x443004 x443005 x443006 x443007 x443008 x443009 x443010 x443011 x443012 x1 x445001 x445002)
def turnstilelaw06_PolicyForm.j2 : Nat → Int → Int → Int → Int → Int → Int → Int → Int → Int → Int → Int → Int → Int → Int → Int → Int → Option (Bool)
  | 0, _, _, _, _, _, _, _, _, _, _, _, _, _, _, _, _ => none
  | k + 1, x443000, x443001, x443002, x443003, x443004, x443005, x443006, x443007, x443008, x443009, x443010, x443011, x443012, x445000, x445001, x445002 => (policy_Admit.f k x443000 x443001 x443002 x443003 x443004 x443005 x443006 x443007 x443011 x443012).bind fun bt445 => ((policy_Admit.f k x443000 x443001 x443002 x443003 x443004 x445000 x445001 x445002 x443011 x443012).bind fun bt451 => ((policy_Valid.f x443000 x443001 x443002 x443003 x443004).bind fun t457 => (turnstilelaw06_PolicyForm.j3 k bt445.2.2.2.1 bt445.2.2.2.2 bt451.2.2.2.1 bt451.2.2.2.2 (!t457) x443000 x443001 x443002 x443003 x443004 x443005 x443006 x443007 x443008 x443009 x443010 x443011 x443012 x445000 x445001 x445002 bt445.1 bt445.2.1 bt445.2.2.1 bt451.1 bt451.2.1 bt451.2.2.1)))
def turnstilelaw06_PolicyForm.j3 : Nat → Bool → Int → Bool → Int → Bool → Int → Int → Int → Int → Int → Int → Int → Int → Int → Int → Int → Int → Int → Int → Int → Int → Int → Int → Int → Int → Int → Int → Option (Bool)
  | 0, _, _, _, _, _, _, _, _, _, _, _, _, _, _, _, _, _, _, _, _, _, _, _, _, _, _, _ => none
  | k + 1, x9, x10, x12, x13, x57, x443000, x443001, x443002, x443003, x443004, x443005, x443006, x443007, x443008, x443009, x443010, x443011, x443012, x445000, x445001, x445002, x451000, x451001, x451002, x457000, x457001, x457002 => if x57 = true then (if (x451000 == x457000 && (x451001 == x457001 && (x451002 == x457002))) = true then (if x9 = true then (some false) else (if x12 = true then (some false) else (if x10 = x13 then ((policy_Fits.f x443000 x443001 x443002 x443003 x443004 x451000 x451001 x451002).bind fun t458 => (if t458 = true then (some false) else ((policy_Max.f x443000 x443001 x443002 x443003 x443004 x443005 x443006 x443007 x443008 x443009 x443010).bind fun bt459 => (some (bt459.1 == 0 && (bt459.2.1 == 0 && (bt459.2.2 == 0))))))) else (some false)))) else (some false)) else ((policy_Max.f x443000 x443001 x443002 x443003 x443004 x443005 x443006 x443007 x443008 x443009 x443010).bind fun bt462 => (if (!(x451000 == x457000) || (!(x451001 == x457001) || (!(x451002 == x457002)))) = true then (turnstilelaw06_PolicyForm.j4 k true x443000 x443001 x443002 x443003 x443004 x443005 x443006 x443007 x443008 x443009 x443010 x443011 x443012 x445000 x445001 x445002) else (if (x9 != x12) = true then (turnstilelaw06_PolicyForm.j4 k true x443000 x443001 x443002 x443003 x443004 x443005 x443006 x443007 x443008 x443009 x443010 x443011 x443012 x445000 x445001 x445002) else (if x10 = x13 then ((policy_Fits.f x443000 x443001 x443002 x443003 x443004 x451000 x451001 x451002).bind fun t466 => (if t466 = true then ((policy_Fits.f x443000 x443001 x443002 x443003 x443004 bt462.1 bt462.2.1 bt462.2.2).bind fun t467 => (if t467 = true then ((policy_Max.f x443000 x443001 x443002 x443003 x443004 x445000 x445001 x445002 x443008 x443009 x443010).bind fun bt468 => (if (!(bt462.1 == bt468.1) || (!(bt462.2.1 == bt468.2.1) || (!(bt462.2.2 == bt468.2.2)))) = true then (turnstilelaw06_PolicyForm.j4 k true x443000 x443001 x443002 x443003 x443004 x443005 x443006 x443007 x443008 x443009 x443010 x443011 x443012 x445000 x445001 x445002) else ((policy_Max.f x443000 x443001 x443002 x443003 x443004 x443008 x443009 x443010 x445000 x445001 x445002).bind fun bt471 => (turnstilelaw06_PolicyForm.j4 k (!(bt462.1 == bt471.1) || (!(bt462.2.1 == bt471.2.1) || (!(bt462.2.2 == bt471.2.2)))) x443000 x443001 x443002 x443003 x443004 x443005 x443006 x443007 x443008 x443009 x443010 x443011 x443012 x445000 x445001 x445002)))) else (turnstilelaw06_PolicyForm.j4 k true x443000 x443001 x443002 x443003 x443004 x443005 x443006 x443007 x443008 x443009 x443010 x443011 x443012 x445000 x445001 x445002))) else (turnstilelaw06_PolicyForm.j4 k true x443000 x443001 x443002 x443003 x443004 x443005 x443006 x443007 x443008 x443009 x443010 x443011 x443012 x445000 x445001 x445002))) else (turnstilelaw06_PolicyForm.j4 k true x443000 x443001 x443002 x443003 x443004 x443005 x443006 x443007 x443008 x443009 x443010 x443011 x443012 x445000 x445001 x445002)))))
def turnstilelaw06_PolicyForm.j4 : Nat → Bool → Int → Int → Int → Int → Int → Int → Int → Int → Int → Int → Int → Int → Int → Int → Int → Int → Option (Bool)
  | 0, _, _, _, _, _, _, _, _, _, _, _, _, _, _, _, _, _ => none
  | k + 1, x145, x443000, x443001, x443002, x443003, x443004, x443005, x443006, x443007, x443008, x443009, x443010, x443011, x443012, x445000, x445001, x445002 => if x145 = true then (some false) else ((policy_Left.f k x443000 x443001 x443002 x443003 x443004 x445000 x445001 x445002 x443011).bind fun t474 => ((policy_Left.f k x443000 x443001 x443002 x443003 x443004 x443005 x443006 x443007 x443011).bind fun t475 => (if t474 = t475 then ((policy_Covers.f x443000 x443001 x443002 x443003 x443004 x445000 x445001 x445002 x443008 x443009 x443010).bind fun t476 => ((policy_Covers.f x443000 x443001 x443002 x443003 x443004 x443005 x443006 x443007 x443008 x443009 x443010).bind fun t477 => (if (t476 == t477) = true then ((policy_Covers.f x443000 x443001 x443002 x443003 x443004 x443008 x443009 x443010 x445000 x445001 x445002).bind fun t478 => ((policy_Covers.f x443000 x443001 x443002 x443003 x443004 x443008 x443009 x443010 x443005 x443006 x443007).bind fun t479 => (some (t478 == t479)))) else (some false)))) else (some false))))
end
def turnstilelaw06_PolicyForm.f (k : Nat) (a0_0 : Int) (a0_1 : Int) (a0_2 : Int) (a0_3 : Int) (a0_4 : Int) (a0_5 : Int) (a0_6 : Int) (a0_7 : Int) (a0_8 : Int) (a0_9 : Int) (a0_10 : Int) (a0_11 : Int) (a0_12 : Int) (a1 : Int) (a2 : Int) : Option (Bool) := (turnstilelaw06_awake.f k).bind fun t443 => (turnstilelaw06_PolicyForm.j0 k a1 a2 (!t443) a0_0 a0_1 a0_2 a0_3 a0_4 a0_5 a0_6 a0_7 a0_8 a0_9 a0_10 a0_11 a0_12)
theorem turnstilelaw06_PolicyForm.mono_l : ∀ k, (∀ y0 y1 y2 y3 y4 y5 y6 y7 y8 y9 y10 y11 y12 y13 y14 y15, LeO (turnstilelaw06_PolicyForm.j0 k y0 y1 y2 y3 y4 y5 y6 y7 y8 y9 y10 y11 y12 y13 y14 y15) (turnstilelaw06_PolicyForm.j0 (k + 1) y0 y1 y2 y3 y4 y5 y6 y7 y8 y9 y10 y11 y12 y13 y14 y15)) ∧ (∀ y0 y1 y2 y3 y4 y5 y6 y7 y8 y9 y10 y11 y12 y13 y14 y15 y16 y17 y18, LeO (turnstilelaw06_PolicyForm.j1 k y0 y1 y2 y3 y4 y5 y6 y7 y8 y9 y10 y11 y12 y13 y14 y15 y16 y17 y18) (turnstilelaw06_PolicyForm.j1 (k + 1) y0 y1 y2 y3 y4 y5 y6 y7 y8 y9 y10 y11 y12 y13 y14 y15 y16 y17 y18)) ∧ (∀ y0 y1 y2 y3 y4 y5 y6 y7 y8 y9 y10 y11 y12 y13 y14 y15, LeO (turnstilelaw06_PolicyForm.j2 k y0 y1 y2 y3 y4 y5 y6 y7 y8 y9 y10 y11 y12 y13 y14 y15) (turnstilelaw06_PolicyForm.j2 (k + 1) y0 y1 y2 y3 y4 y5 y6 y7 y8 y9 y10 y11 y12 y13 y14 y15)) ∧ (∀ y0 y1 y2 y3 y4 y5 y6 y7 y8 y9 y10 y11 y12 y13 y14 y15 y16 y17 y18 y19 y20 y21 y22 y23 y24 y25 y26, LeO (turnstilelaw06_PolicyForm.j3 k y0 y1 y2 y3 y4 y5 y6 y7 y8 y9 y10 y11 y12 y13 y14 y15 y16 y17 y18 y19 y20 y21 y22 y23 y24 y25 y26) (turnstilelaw06_PolicyForm.j3 (k + 1) y0 y1 y2 y3 y4 y5 y6 y7 y8 y9 y10 y11 y12 y13 y14 y15 y16 y17 y18 y19 y20 y21 y22 y23 y24 y25 y26)) ∧ (∀ y0 y1 y2 y3 y4 y5 y6 y7 y8 y9 y10 y11 y12 y13 y14 y15 y16, LeO (turnstilelaw06_PolicyForm.j4 k y0 y1 y2 y3 y4 y5 y6 y7 y8 y9 y10 y11 y12 y13 y14 y15 y16) (turnstilelaw06_PolicyForm.j4 (k + 1) y0 y1 y2 y3 y4 y5 y6 y7 y8 y9 y10 y11 y12 y13 y14 y15 y16))
  | 0 => ⟨fun _ _ _ _ _ _ _ _ _ _ _ _ _ _ _ _ r h => by simp [turnstilelaw06_PolicyForm.j0] at h, fun _ _ _ _ _ _ _ _ _ _ _ _ _ _ _ _ _ _ _ r h => by simp [turnstilelaw06_PolicyForm.j1] at h, fun _ _ _ _ _ _ _ _ _ _ _ _ _ _ _ _ r h => by simp [turnstilelaw06_PolicyForm.j2] at h, fun _ _ _ _ _ _ _ _ _ _ _ _ _ _ _ _ _ _ _ _ _ _ _ _ _ _ _ r h => by simp [turnstilelaw06_PolicyForm.j3] at h, fun _ _ _ _ _ _ _ _ _ _ _ _ _ _ _ _ _ r h => by simp [turnstilelaw06_PolicyForm.j4] at h⟩
  | k + 1 => by
    obtain ⟨ih0, ih1, ih2, ih3, ih4⟩ := turnstilelaw06_PolicyForm.mono_l k
    refine ⟨?_, ?_, ?_, ?_, ?_⟩
    · intro y0 y1 y2 y3 y4 y5 y6 y7 y8 y9 y10 y11 y12 y13 y14 y15
      unfold turnstilelaw06_PolicyForm.j0
      repeat' first
      | (with_reducible exact ih0 _ _ _ _ _ _ _ _ _ _ _ _ _ _ _ _)
      | (with_reducible exact ih1 _ _ _ _ _ _ _ _ _ _ _ _ _ _ _ _ _ _ _)
      | (with_reducible exact ih2 _ _ _ _ _ _ _ _ _ _ _ _ _ _ _ _)
      | (with_reducible exact ih3 _ _ _ _ _ _ _ _ _ _ _ _ _ _ _ _ _ _ _ _ _ _ _ _ _ _ _)
      | (with_reducible exact ih4 _ _ _ _ _ _ _ _ _ _ _ _ _ _ _ _ _)
      | (with_reducible exact policy_Admit.mono _ _ _ _ _ _ _ _ _ _ _)
      | (with_reducible exact policy_Left.mono _ _ _ _ _ _ _ _ _ _)
      | (with_reducible exact turnstilelaw06_awake.mono _)
      | (with_reducible exact LeO.refl _)
      | (with_reducible exact LeO.none _)
      | (with_reducible refine LeO.ite ?_ ?_)
      | (with_reducible refine LeO.bind ?_ (fun _ => ?_))
      | exact ih0 _ _ _ _ _ _ _ _ _ _ _ _ _ _ _ _
      | exact ih1 _ _ _ _ _ _ _ _ _ _ _ _ _ _ _ _ _ _ _
      | exact ih2 _ _ _ _ _ _ _ _ _ _ _ _ _ _ _ _
      | exact ih3 _ _ _ _ _ _ _ _ _ _ _ _ _ _ _ _ _ _ _ _ _ _ _ _ _ _ _
      | exact ih4 _ _ _ _ _ _ _ _ _ _ _ _ _ _ _ _ _
      | exact policy_Admit.mono _ _ _ _ _ _ _ _ _ _ _
      | exact policy_Left.mono _ _ _ _ _ _ _ _ _ _
      | exact turnstilelaw06_awake.mono _
      | exact LeO.none _
      | refine LeO.ite ?_ ?_
      | refine LeO.bind ?_ (fun _ => ?_)
    · intro y0 y1 y2 y3 y4 y5 y6 y7 y8 y9 y10 y11 y12 y13 y14 y15 y16 y17 y18
      unfold turnstilelaw06_PolicyForm.j1
      repeat' first
      | (with_reducible exact ih0 _ _ _ _ _ _ _ _ _ _ _ _ _ _ _ _)
      | (with_reducible exact ih1 _ _ _ _ _ _ _ _ _ _ _ _ _ _ _ _ _ _ _)
      | (with_reducible exact ih2 _ _ _ _ _ _ _ _ _ _ _ _ _ _ _ _)
      | (with_reducible exact ih3 _ _ _ _ _ _ _ _ _ _ _ _ _ _ _ _ _ _ _ _ _ _ _ _ _ _ _)
      | (with_reducible exact ih4 _ _ _ _ _ _ _ _ _ _ _ _ _ _ _ _ _)
      | (with_reducible exact policy_Admit.mono _ _ _ _ _ _ _ _ _ _ _)
      | (with_reducible exact policy_Left.mono _ _ _ _ _ _ _ _ _ _)
      | (with_reducible exact turnstilelaw06_awake.mono _)
      | (with_reducible exact LeO.refl _)
      | (with_reducible exact LeO.none _)
      | (with_reducible refine LeO.ite ?_ ?_)
      | (with_reducible refine LeO.bind ?_ (fun _ => ?_))
      | exact ih0 _ _ _ _ _ _ _ _ _ _ _ _ _ _ _ _
      | exact ih1 _ _ _ _ _ _ _ _ _ _ _ _ _ _ _ _ _ _ _
      | exact ih2 _ _ _ _ _ _ _ _ _ _ _ _ _ _ _ _
      | exact ih3 _ _ _ _ _ _ _ _ _ _ _ _ _ _ _ _ _ _ _ _ _ _ _ _ _ _ _
      | exact ih4 _ _ _ _ _ _ _ _ _ _ _ _ _ _ _ _ _
      | exact policy_Admit.mono _ _ _ _ _ _ _ _ _ _ _
      | exact policy_Left.mono _ _ _ _ _ _ _ _ _ _
      | exact turnstilelaw06_awake.mono _
      | exact LeO.none _
      | refine LeO.ite ?_ ?_
      | refine LeO.bind ?_ (fun _ => ?_)
    · intro y0 y1 y2 y3 y4 y5 y6 y7 y8 y9 y10 y11 y12 y13 y14 y15
      unfold turnstilelaw06_PolicyForm.j2
      repeat' first
      | (with_reducible exact ih0 _ _ _ _ _ _ _ _ _ _ _ _ _ _ _ _)
      | (with_reducible exact ih1 _ _ _ _ _ _ _ _ _ _ _ _ _ _ _ _ _ _ _)
      | (with_reducible exact ih2 _ _ _ _ _ _ _ _ _ _ _ _ _ _ _ _)
      | (with_reducible exact ih3 _ _ _ _ _ _ _ _ _ _ _ _ _ _ _ _ _ _ _ _ _ _ _ _ _ _ _)
      | (with_reducible exact ih4 _ _ _ _ _ _ _ _ _ _ _ _ _ _ _ _ _)
      | (with_reducible exact policy_Admit.mono _ _ _ _ _ _ _ _ _ _ _)
      | (with_reducible exact policy_Left.mono _ _ _ _ _ _ _ _ _ _)
      | (with_reducible exact turnstilelaw06_awake.mono _)
      | (with_reducible exact LeO.refl _)
      | (with_reducible exact LeO.none _)
      | (with_reducible refine LeO.ite ?_ ?_)
      | (with_reducible refine LeO.bind ?_ (fun _ => ?_))
      | exact ih0 _ _ _ _ _ _ _ _ _ _ _ _ _ _ _ _
      | exact ih1 _ _ _ _ _ _ _ _ _ _ _ _ _ _ _ _ _ _ _
      | exact ih2 _ _ _ _ _ _ _ _ _ _ _ _ _ _ _ _
      | exact ih3 _ _ _ _ _ _ _ _ _ _ _ _ _ _ _ _ _ _ _ _ _ _ _ _ _ _ _
      | exact ih4 _ _ _ _ _ _ _ _ _ _ _ _ _ _ _ _ _
      | exact policy_Admit.mono _ _ _ _ _ _ _ _ _ _ _
      | exact policy_Left.mono _ _ _ _ _ _ _ _ _ _
      | exact turnstilelaw06_awake.mono _
      | exact LeO.none _
      | refine LeO.ite ?_ ?_
      | refine LeO.bind ?_ (fun _ => ?_)
    · intro y0 y1 y2 y3 y4 y5 y6 y7 y8 y9 y10 y11 y12 y13 y14 y15 y16 y17 y18 y19 y20 y21 y22 y23 y24 y25 y26
      unfold turnstilelaw06_PolicyForm.j3
      repeat' first
      | (with_reducible exact ih0 _ _ _ _ _ _ _ _ _ _ _ _ _ _ _ _)
      | (with_reducible exact ih1 _ _ _ _ _ _ _ _ _ _ _ _ _ _ _ _ _ _ _)
      | (with_reducible exact ih2 _ _ _ _ _ _ _ _ _ _ _ _ _ _ _ _)
      | (with_reducible exact ih3 _ _ _ _ _ _ _ _ _ _ _ _ _ _ _ _ _ _ _ _ _ _ _ _ _ _ _)
      | (with_reducible exact ih4 _ _ _ _ _ _ _ _ _ _ _ _ _ _ _ _ _)
      | (with_reducible exact policy_Admit.mono _ _ _ _ _ _ _ _ _ _ _)
      | (with_reducible exact policy_Left.mono _ _ _ _ _ _ _ _ _ _)
      | (with_reducible exact turnstilelaw06_awake.mono _)
      | (with_reducible exact LeO.refl _)
      | (with_reducible exact LeO.none _)
      | (with_reducible refine LeO.ite ?_ ?_)
      | (with_reducible refine LeO.bind ?_ (fun _ => ?_))
      | exact ih0 _ _ _ _ _ _ _ _ _ _ _ _ _ _ _ _
      | exact ih1 _ _ _ _ _ _ _ _ _ _ _ _ _ _ _ _ _ _ _
      | exact ih2 _ _ _ _ _ _ _ _ _ _ _ _ _ _ _ _
      | exact ih3 _ _ _ _ _ _ _ _ _ _ _ _ _ _ _ _ _ _ _ _ _ _ _ _ _ _ _
      | exact ih4 _ _ _ _ _ _ _ _ _ _ _ _ _ _ _ _ _
      | exact policy_Admit.mono _ _ _ _ _ _ _ _ _ _ _
      | exact policy_Left.mono _ _ _ _ _ _ _ _ _ _
      | exact turnstilelaw06_awake.mono _
      | exact LeO.none _
      | refine LeO.ite ?_ ?_
      | refine LeO.bind ?_ (fun _ => ?_)
    · intro y0 y1 y2 y3 y4 y5 y6 y7 y8 y9 y10 y11 y12 y13 y14 y15 y16
      unfold turnstilelaw06_PolicyForm.j4
      repeat' first
      | (with_reducible exact ih0 _ _ _ _ _ _ _ _ _ _ _ _ _ _ _ _)
      | (with_reducible exact ih1 _ _ _ _ _ _ _ _ _ _ _ _ _ _ _ _ _ _ _)
      | (with_reducible exact ih2 _ _ _ _ _ _ _ _ _ _ _ _ _ _ _ _)
      | (with_reducible exact ih3 _ _ _ _ _ _ _ _ _ _ _ _ _ _ _ _ _ _ _ _ _ _ _ _ _ _ _)
      | (with_reducible exact ih4 _ _ _ _ _ _ _ _ _ _ _ _ _ _ _ _ _)
      | (with_reducible exact policy_Admit.mono _ _ _ _ _ _ _ _ _ _ _)
      | (with_reducible exact policy_Left.mono _ _ _ _ _ _ _ _ _ _)
      | (with_reducible exact turnstilelaw06_awake.mono _)
      | (with_reducible exact LeO.refl _)
      | (with_reducible exact LeO.none _)
      | (with_reducible refine LeO.ite ?_ ?_)
      | (with_reducible refine LeO.bind ?_ (fun _ => ?_))
      | exact ih0 _ _ _ _ _ _ _ _ _ _ _ _ _ _ _ _
      | exact ih1 _ _ _ _ _ _ _ _ _ _ _ _ _ _ _ _ _ _ _
      | exact ih2 _ _ _ _ _ _ _ _ _ _ _ _ _ _ _ _
      | exact ih3 _ _ _ _ _ _ _ _ _ _ _ _ _ _ _ _ _ _ _ _ _ _ _ _ _ _ _
      | exact ih4 _ _ _ _ _ _ _ _ _ _ _ _ _ _ _ _ _
      | exact policy_Admit.mono _ _ _ _ _ _ _ _ _ _ _
      | exact policy_Left.mono _ _ _ _ _ _ _ _ _ _
      | exact turnstilelaw06_awake.mono _
      | exact LeO.none _
      | refine LeO.ite ?_ ?_
      | refine LeO.bind ?_ (fun _ => ?_)
theorem turnstilelaw06_PolicyForm.mono : ∀ a0 a1 a2 a3 a4 a5 a6 a7 a8 a9 a10 a11 a12 a13 a14 k, LeO (turnstilelaw06_PolicyForm.f k a0 a1 a2 a3 a4 a5 a6 a7 a8 a9 a10 a11 a12 a13 a14) (turnstilelaw06_PolicyForm.f (k + 1) a0 a1 a2 a3 a4 a5 a6 a7 a8 a9 a10 a11 a12 a13 a14) := by
  intro a0 a1 a2 a3 a4 a5 a6 a7 a8 a9 a10 a11 a12 a13 a14 k
  obtain ⟨ih0, ih1, ih2, ih3, ih4⟩ := turnstilelaw06_PolicyForm.mono_l k
  unfold turnstilelaw06_PolicyForm.f
  repeat' first
      | (with_reducible exact ih0 _ _ _ _ _ _ _ _ _ _ _ _ _ _ _ _)
      | (with_reducible exact ih1 _ _ _ _ _ _ _ _ _ _ _ _ _ _ _ _ _ _ _)
      | (with_reducible exact ih2 _ _ _ _ _ _ _ _ _ _ _ _ _ _ _ _)
      | (with_reducible exact ih3 _ _ _ _ _ _ _ _ _ _ _ _ _ _ _ _ _ _ _ _ _ _ _ _ _ _ _)
      | (with_reducible exact ih4 _ _ _ _ _ _ _ _ _ _ _ _ _ _ _ _ _)
      | (with_reducible exact policy_Admit.mono _ _ _ _ _ _ _ _ _ _ _)
      | (with_reducible exact policy_Left.mono _ _ _ _ _ _ _ _ _ _)
      | (with_reducible exact turnstilelaw06_awake.mono _)
      | (with_reducible exact LeO.refl _)
      | (with_reducible exact LeO.none _)
      | (with_reducible refine LeO.ite ?_ ?_)
      | (with_reducible refine LeO.bind ?_ (fun _ => ?_))
      | exact ih0 _ _ _ _ _ _ _ _ _ _ _ _ _ _ _ _
      | exact ih1 _ _ _ _ _ _ _ _ _ _ _ _ _ _ _ _ _ _ _
      | exact ih2 _ _ _ _ _ _ _ _ _ _ _ _ _ _ _ _
      | exact ih3 _ _ _ _ _ _ _ _ _ _ _ _ _ _ _ _ _ _ _ _ _ _ _ _ _ _ _
      | exact ih4 _ _ _ _ _ _ _ _ _ _ _ _ _ _ _ _ _
      | exact policy_Admit.mono _ _ _ _ _ _ _ _ _ _ _
      | exact policy_Left.mono _ _ _ _ _ _ _ _ _ _
      | exact turnstilelaw06_awake.mono _
      | exact LeO.none _
      | refine LeO.ite ?_ ?_
      | refine LeO.bind ?_ (fun _ => ?_)
def turnstilelaw06_PolicyForm.T13 : Bool × List (List Nat × List Nat) := (true, [([], []), ([], []), ([0, 1], [0, 1]), ([2], [2]), ([3], [3]), ([3], [3]), ([4, 5, 3], [3, 4, 5]), ([3, 6], [3, 6]), ([7, 3], [7]), ([8], [8]), ([8], [8]), ([9, 10, 8], [8, 9, 10]), ([8, 11], [8, 11]), ([12, 8], [12]), ([13], [13]), ([14, 13], [13, 14]), ([13], [13]), ([15, 16, 13, 13], [13, 15, 16]), ([17, 13], [13, 17]), ([13, 18], [13, 18]), ([19, 17], [19]), ([20], [20]), ([21, 20], [20, 21]), ([20], [20]), ([22, 23, 20, 20], [20, 22, 23]), ([24, 20], [20, 24]), ([20, 25], [20, 25]), ([26, 24], [26]), ([27], [27]), ([27], [27]), ([29, 27], [27, 29]), ([27], [27]), ([27], [27]), ([32, 27], [27, 32]), ([30, 31, 33, 27, 27], [27, 30, 31, 33]), ([28, 34, 27], [27, 28, 34]), ([27, 35], [27, 35]), ([36, 34], [36]), ([37], [37]), ([37], [37]), ([39, 37], [37, 39]), ([37], [37]), ([41, 37], [37, 41]), ([37], [37]), ([40, 42, 43, 37, 37], [37, 40, 42, 43]), ([38, 44, 37], [37, 38, 44]), ([37, 45], [37, 45])])
def turnstilelaw06_PolicyForm.B13 : List Nat := [0, 0, 3, 7, 15, 15, 63, 127, 255, 511, 511, 2047, 4095, 8191, 16383, 32767, 16383, 131071, 262143, 524287, 1048575, 2097151, 4194303, 2097151, 16777215, 33554431, 67108863, 134217727, 268435455, 268435455, 805306367, 268435455, 268435455, 4563402751, 16911433727, 34359738367, 68719476735, 137438953471, 274877906943, 274877906943, 824633720831, 274877906943, 2473901162495, 274877906943, 17317308137471, 35184372088831, 70368744177663]
theorem turnstilelaw06_PolicyForm.tab13 : rtab .any (opsOf Try.f5 13) = turnstilelaw06_PolicyForm.T13 := by kernel_rfl
theorem turnstilelaw06_PolicyForm.bits13 : waitsOk turnstilelaw06_PolicyForm.T13.2 turnstilelaw06_PolicyForm.B13 = true := by kernel_rfl
def turnstilelaw06_PolicyForm.T15 : Bool × List (List Nat × List Nat) := (true, [([], []), ([0], [0]), ([], []), ([], []), ([3], [3]), ([1, 2, 4], [1, 2, 4]), ([], []), ([6], [6]), ([], []), ([8], [8]), ([], []), ([10], [10]), ([7, 9, 11, 5], [7, 9, 11]), ([5, 12], [5, 12]), ([13, 12], [13]), ([14], [14]), ([15, 14], [14, 15]), ([14], [14]), ([14], [14]), ([18, 14], [14, 18]), ([16, 17, 19, 14, 14], [14, 16, 17, 19]), ([14], [14]), ([21, 14], [14, 21]), ([14], [14]), ([23, 14], [14, 23]), ([14], [14]), ([25, 14], [14, 25]), ([22, 24, 26, 20, 14], [14, 22, 24, 26]), ([20, 27, 14], [14, 20, 27]), ([14, 28], [14, 28]), ([29, 27], [29]), ([30], [30]), ([31, 30], [30, 31]), ([30], [30]), ([33, 30], [30, 33]), ([30], [30]), ([32, 34, 35, 30, 30], [30, 32, 34, 35]), ([30], [30]), ([37, 30], [30, 37]), ([30], [30]), ([39, 30], [30, 39]), ([30], [30]), ([41, 30], [30, 41]), ([38, 40, 42, 36, 30], [30, 38, 40, 42]), ([36, 43, 30], [30, 36, 43]), ([30, 44], [30, 44]), ([45, 43, 0, 1, 2, 3, 4, 5, 6, 7, 8, 9, 10, 11, 12, 13, 14, 15, 16, 17, 18, 19, 20, 21, 22, 23, 24, 25, 26, 27, 28, 29, 30, 31, 32, 33, 34, 35, 36, 37, 38, 39, 40, 41, 42, 43, 44, 45], [45])])
def turnstilelaw06_PolicyForm.B15 : List Nat := [0, 1, 0, 0, 8, 31, 0, 64, 0, 256, 0, 1024, 4095, 8191, 16383, 32767, 65535, 32767, 32767, 294911, 1048575, 32767, 2129919, 32767, 8421375, 32767, 33587199, 134217727, 268435455, 536870911, 1073741823, 2147483647, 4294967295, 2147483647, 10737418239, 2147483647, 68719476735, 2147483647, 139586437119, 2147483647, 551903297535, 2147483647, 2201170739199, 8796093022207, 17592186044415, 35184372088831, 70368744177663]
theorem turnstilelaw06_PolicyForm.tab15 : rtab .any (opsOf Try.f5 15) = turnstilelaw06_PolicyForm.T15 := by kernel_rfl
theorem turnstilelaw06_PolicyForm.bits15 : waitsOk turnstilelaw06_PolicyForm.T15.2 turnstilelaw06_PolicyForm.B15 = true := by kernel_rfl
set_option maxHeartbeats 8000000 in
set_option maxRecDepth 100000 in
theorem turnstilelaw06_PolicyForm.calls (k : Nat) (a0_0 : Int) (a0_1 : Int) (a0_2 : Int) (a0_3 : Int) (a0_4 : Int) (a0_5 : Int) (a0_6 : Int) (a0_7 : Int) (a0_8 : Int) (a0_9 : Int) (a0_10 : Int) (a0_11 : Int) (a0_12 : Int) (a1 : Int) (a2 : Int) (r : Bool) (w : World) (h : turnstilelaw06_PolicyForm.f k a0_0 a0_1 a0_2 a0_3 a0_4 a0_5 a0_6 a0_7 a0_8 a0_9 a0_10 a0_11 a0_12 a1 a2 = some r) :
    Calls Try.prog 5 #[.agg #[.int .i64 a0_0, .int .u64 a0_1, .int .u64 a0_2, .int .u64 a0_3, .int .u64 a0_4, .int .u64 a0_5, .int .u64 a0_6, .int .u64 a0_7, .int .u64 a0_8, .int .u64 a0_9, .int .u64 a0_10, .int .u64 a0_11, .int .u64 a0_12], .int .u64 a1, .int .u64 a2] w fun e w' => e = .returned (.bool r) ∧ Below w.heap.size w w' := by
  have hu31 := Try.underlying31
  have hu29 := Try.underlying29
  have hu27 := Try.underlying27
  have HB := Aside0.mk (Below.refl w.heap.size w)
  have H : ((turnstilelaw06_awake.f k).bind fun t443 => (turnstilelaw06_PolicyForm.j0 k a1 a2 (!t443) a0_0 a0_1 a0_2 a0_3 a0_4 a0_5 a0_6 a0_7 a0_8 a0_9 a0_10 a0_11 a0_12)) = some r := h
  clear h
  have HC4 := Aside0.mk H
  clear H
  go_enter Try.func5, Try.ntmps5
  go_upto_region 1 with (first | ((with_reducible refine gate_dst (N := 3) rfl ?_); refine bx 3 #[.int .i64 a0_0, .int .u64 a0_1, .int .u64 a0_2, .int .u64 a0_3, .int .u64 a0_4, .int .u64 a0_5, .int .u64 a0_6, .int .u64 a0_7, .int .u64 a0_8, .int .u64 a0_9, .int .u64 a0_10, .int .u64 a0_11, .int .u64 a0_12] 31 ?_; intro gb442 hg w5 hbox hb; have n0_ := bs HB hb; have n1_ := Aside0.mk (hbox); have n2_ := sz HB hg; have n3_ := sz HB hg; clear HB; have HB := n0_; have BK442 := n1_; have GW442 := n2_; have GE442 := n3_; clear n0_ n1_ n2_ n3_; clear hb hbox hg))
  (try simp only [Act.put, List.setIfInBounds_toArray, List.set_cons_zero, List.set_cons_succ])
  go_cut [16] (fun v16 wc => ∃ (kq : Nat) (x16_3 : Bool), v16 = .bool x16_3 ∧ Aside0 (turnstilelaw06_PolicyForm.j0 kq a1 a2 x16_3 a0_0 a0_1 a0_2 a0_3 a0_4 a0_5 a0_6 a0_7 a0_8 a0_9 a0_10 a0_11 a0_12 = some r) ∧ Aside0 (kq ≤ k) ∧ Aside0 (wc.heap[gb442]? = some (.cells #[.int .i64 a0_0, .int .u64 a0_1, .int .u64 a0_2, .int .u64 a0_3, .int .u64 a0_4, .int .u64 a0_5, .int .u64 a0_6, .int .u64 a0_7, .int .u64 a0_8, .int .u64 a0_9, .int .u64 a0_10, .int .u64 a0_11, .int .u64 a0_12] 31 (0, 0))) ∧ Aside0 (Below w.heap.size w wc))
  case first =>
    have H := HC4.out
    clear HC4
    replace H := Option.bind_eq_some_iff.mp H
    obtain ⟨t443, A60, H⟩ := H
    replace H : (turnstilelaw06_PolicyForm.j0 k a1 a2 (!t443) a0_0 a0_1 a0_2 a0_3 a0_4 a0_5 a0_6 a0_7 a0_8 a0_9 a0_10 a0_11 a0_12) = some r := H
    have A6 := Aside0.mk A60
    clear A60
    have H' := Aside0.mk H
    clear H
    go_wp2_with (first | ((with_reducible refine gate_callee (f := 14) rfl ?_); refine gm (some 15) Try.func14 #[] (turnstilelaw06_awake.calls k  t443 _ A6.out) ?_; intro w7 hb; have n0_ := bb BK442 hb; have n1_ := bs HB hb; clear BK442; clear HB; have BK442 := n0_; have HB := n1_; clear n0_ n1_; (try clear hb); (try clear hb2); (try clear hk); (try clear hi)))
    go_meet
    case rel => exact ⟨_, (!t443), rs, H', ⟨by first | omega | exact Nat.le_refl _⟩, ⟨bk BK442⟩, ⟨bw HB⟩⟩
  case rest => as_aux_lemma =>
    clear HC4
    try clear c1
    try clear p2
    try clear c5
    obtain ⟨kq, x16_3, rfl, HA, HJ3, BK442, HB⟩ := hcut
    cases kq with
    | zero => exact absurd HA.out (by simp [turnstilelaw06_PolicyForm.j0])
    | succ kj3 =>
      have H := HA.out
      clear HA
      simp only [turnstilelaw06_PolicyForm.j0] at H
      by_cases c8 : x16_3 = true
      · subst c8
        have H1 : (some false) = some r := by rw [if_pos rfl] at H; exact H
        clear H
        have H := H1
        clear H1
        obtain rfl := Option.some.inj H
        go_wp2
        go_ret
        exact ⟨re, bw HB⟩
      · replace c8 := Bool.eq_false_iff.mpr c8
        subst c8
        have H1 : (turnstilelaw06_PolicyForm.j1 kj3 a1 a2 (a0_0 == 1) a0_0 a0_1 a0_2 a0_3 a0_4 a0_5 a0_6 a0_7 a0_8 a0_9 a0_10 a0_11 a0_12 a0_5 a0_6 a0_7) = some r := by rw [if_neg (show ¬ (false = true) by decide)] at H; exact H
        clear H
        have H := H1
        clear H1
        have HC9 := Aside0.mk H
        clear H
        have hcz10_0 : wc.cell? ⟨gb442, 0, none⟩ = some (.int .i64 a0_0) := (blk_cell BK442.out 0).trans rfl
        have hcz10_1 : wc.cell? ⟨gb442, 1, none⟩ = some (.int .u64 a0_1) := (blk_cell BK442.out 1).trans rfl
        have hcz10_2 : wc.cell? ⟨gb442, 2, none⟩ = some (.int .u64 a0_2) := (blk_cell BK442.out 2).trans rfl
        have hcz10_3 : wc.cell? ⟨gb442, 3, none⟩ = some (.int .u64 a0_3) := (blk_cell BK442.out 3).trans rfl
        have hcz10_4 : wc.cell? ⟨gb442, 4, none⟩ = some (.int .u64 a0_4) := (blk_cell BK442.out 4).trans rfl
        have hcz10_5 : wc.cell? ⟨gb442, 5, none⟩ = some (.int .u64 a0_5) := (blk_cell BK442.out 5).trans rfl
        have hcz10_6 : wc.cell? ⟨gb442, 6, none⟩ = some (.int .u64 a0_6) := (blk_cell BK442.out 6).trans rfl
        have hcz10_7 : wc.cell? ⟨gb442, 7, none⟩ = some (.int .u64 a0_7) := (blk_cell BK442.out 7).trans rfl
        have hcz10_8 : wc.cell? ⟨gb442, 8, none⟩ = some (.int .u64 a0_8) := (blk_cell BK442.out 8).trans rfl
        have hcz10_9 : wc.cell? ⟨gb442, 9, none⟩ = some (.int .u64 a0_9) := (blk_cell BK442.out 9).trans rfl
        have hcz10_10 : wc.cell? ⟨gb442, 10, none⟩ = some (.int .u64 a0_10) := (blk_cell BK442.out 10).trans rfl
        have hcz10_11 : wc.cell? ⟨gb442, 11, none⟩ = some (.int .u64 a0_11) := (blk_cell BK442.out 11).trans rfl
        have hcz10_12 : wc.cell? ⟨gb442, 12, none⟩ = some (.int .u64 a0_12) := (blk_cell BK442.out 12).trans rfl
        have hfz10_0 := blk_frozen BK442.out 0
        have hfz10_1 := blk_frozen BK442.out 1
        have hfz10_2 := blk_frozen BK442.out 2
        have hfz10_3 := blk_frozen BK442.out 3
        have hfz10_4 := blk_frozen BK442.out 4
        have hfz10_5 := blk_frozen BK442.out 5
        have hfz10_6 := blk_frozen BK442.out 6
        have hfz10_7 := blk_frozen BK442.out 7
        have hfz10_8 := blk_frozen BK442.out 8
        have hfz10_9 := blk_frozen BK442.out 9
        have hfz10_10 := blk_frozen BK442.out 10
        have hfz10_11 := blk_frozen BK442.out 11
        have hfz10_12 := blk_frozen BK442.out 12
        go_upto_region 4 with (first | ((with_reducible refine gate_dst (N := 7) rfl ?_); refine bx 7 #[.int .u64 0, .int .u64 0, .int .u64 0] 29 ?_; intro gb444 hg w11 hbox hb; have n0_ := bb BK442 hb; have n1_ := bs HB hb; have n2_ := Aside0.mk (hbox); have n3_ := sz HB hg; have n4_ := sz HB hg; have n5_ := nl BK442 hg; have n6_ := nr BK442 hg; clear BK442; clear HB; have BK442 := n0_; have HB := n1_; have BK444 := n2_; have GW444 := n3_; have GE444 := n4_; have NB442_444 := n5_; have NB444_442 := n6_; clear n0_ n1_ n2_ n3_ n4_ n5_ n6_; clear hb hbox hg; have hnb12 := NB444_442.out; have hnc12 := NB442_444.out; obtain ⟨hcz13_0, hcz13_1, hcz13_2, hfz13_0, hfz13_1, hfz13_2⟩ := bc3 BK444))
        (try simp only [Act.put, List.setIfInBounds_toArray, List.set_cons_zero, List.set_cons_succ])
        go_cut [22] (fun v22 wc => ∃ (kq : Nat) (x22_8 : Bool), v22 = .bool x22_8 ∧ Aside0 (turnstilelaw06_PolicyForm.j1 kq a1 a2 x22_8 a0_0 a0_1 a0_2 a0_3 a0_4 a0_5 a0_6 a0_7 a0_8 a0_9 a0_10 a0_11 a0_12 a0_5 a0_6 a0_7 = some r) ∧ Aside0 (kq ≤ kj3) ∧ Aside0 (wc.heap[gb442]? = some (.cells #[.int .i64 a0_0, .int .u64 a0_1, .int .u64 a0_2, .int .u64 a0_3, .int .u64 a0_4, .int .u64 a0_5, .int .u64 a0_6, .int .u64 a0_7, .int .u64 a0_8, .int .u64 a0_9, .int .u64 a0_10, .int .u64 a0_11, .int .u64 a0_12] 31 (0, 0))) ∧ Aside0 (wc.heap[gb444]? = some (.cells #[.int .u64 a0_5, .int .u64 a0_6, .int .u64 a0_7] 29 (0, 0))) ∧ Aside0 (Below w.heap.size w wc))
        case first =>
          have H := HC9.out
          clear HC9
          have H' := Aside0.mk H
          clear H
          have hnb14 := NB442_444.out
          have hnc14 := NB444_442.out
          have hcz15_0 : w11.cell? ⟨gb442, 0, none⟩ = some (.int .i64 a0_0) := (blk_cell BK442.out 0).trans rfl
          have hcz15_1 : w11.cell? ⟨gb442, 1, none⟩ = some (.int .u64 a0_1) := (blk_cell BK442.out 1).trans rfl
          have hcz15_2 : w11.cell? ⟨gb442, 2, none⟩ = some (.int .u64 a0_2) := (blk_cell BK442.out 2).trans rfl
          have hcz15_3 : w11.cell? ⟨gb442, 3, none⟩ = some (.int .u64 a0_3) := (blk_cell BK442.out 3).trans rfl
          have hcz15_4 : w11.cell? ⟨gb442, 4, none⟩ = some (.int .u64 a0_4) := (blk_cell BK442.out 4).trans rfl
          have hcz15_5 : w11.cell? ⟨gb442, 5, none⟩ = some (.int .u64 a0_5) := (blk_cell BK442.out 5).trans rfl
          have hcz15_6 : w11.cell? ⟨gb442, 6, none⟩ = some (.int .u64 a0_6) := (blk_cell BK442.out 6).trans rfl
          have hcz15_7 : w11.cell? ⟨gb442, 7, none⟩ = some (.int .u64 a0_7) := (blk_cell BK442.out 7).trans rfl
          have hcz15_8 : w11.cell? ⟨gb442, 8, none⟩ = some (.int .u64 a0_8) := (blk_cell BK442.out 8).trans rfl
          have hcz15_9 : w11.cell? ⟨gb442, 9, none⟩ = some (.int .u64 a0_9) := (blk_cell BK442.out 9).trans rfl
          have hcz15_10 : w11.cell? ⟨gb442, 10, none⟩ = some (.int .u64 a0_10) := (blk_cell BK442.out 10).trans rfl
          have hcz15_11 : w11.cell? ⟨gb442, 11, none⟩ = some (.int .u64 a0_11) := (blk_cell BK442.out 11).trans rfl
          have hcz15_12 : w11.cell? ⟨gb442, 12, none⟩ = some (.int .u64 a0_12) := (blk_cell BK442.out 12).trans rfl
          have hfz15_0 := blk_frozen BK442.out 0
          have hfz15_1 := blk_frozen BK442.out 1
          have hfz15_2 := blk_frozen BK442.out 2
          have hfz15_3 := blk_frozen BK442.out 3
          have hfz15_4 := blk_frozen BK442.out 4
          have hfz15_5 := blk_frozen BK442.out 5
          have hfz15_6 := blk_frozen BK442.out 6
          have hfz15_7 := blk_frozen BK442.out 7
          have hfz15_8 := blk_frozen BK442.out 8
          have hfz15_9 := blk_frozen BK442.out 9
          have hfz15_10 := blk_frozen BK442.out 10
          have hfz15_11 := blk_frozen BK442.out 11
          have hfz15_12 := blk_frozen BK442.out 12
          go_wp2
          go_meet
          case rel => exact ⟨_, ((a0_0 == 1)), rs, H', ⟨by have := HJ3.out; first | omega | exact Nat.le_refl _⟩, ⟨bk BK442⟩, ⟨bk BK444⟩, ⟨bw HB⟩⟩
        case rest => as_aux_lemma =>
          clear HC9
          try clear c1
          try clear p2
          try clear c5
          try clear c8
          try clear c12
          try clear c14
          try clear hcz10_0
          try clear hcz10_1
          try clear hcz10_10
          try clear hcz10_11
          try clear hcz10_12
          try clear hcz10_2
          try clear hcz10_3
          try clear hcz10_4
          try clear hcz10_5
          try clear hcz10_6
          try clear hcz10_7
          try clear hcz10_8
          try clear hcz10_9
          try clear hcz13_0
          try clear hcz13_1
          try clear hcz13_2
          try clear hcz15_0
          try clear hcz15_1
          try clear hcz15_10
          try clear hcz15_11
          try clear hcz15_12
          try clear hcz15_2
          try clear hcz15_3
          try clear hcz15_4
          try clear hcz15_5
          try clear hcz15_6
          try clear hcz15_7
          try clear hcz15_8
          try clear hcz15_9
          try clear hfz10_0
          try clear hfz10_1
          try clear hfz10_10
          try clear hfz10_11
          try clear hfz10_12
          try clear hfz10_2
          try clear hfz10_3
          try clear hfz10_4
          try clear hfz10_5
          try clear hfz10_6
          try clear hfz10_7
          try clear hfz10_8
          try clear hfz10_9
          try clear hfz13_0
          try clear hfz13_1
          try clear hfz13_2
          try clear hfz15_0
          try clear hfz15_1
          try clear hfz15_10
          try clear hfz15_11
          try clear hfz15_12
          try clear hfz15_2
          try clear hfz15_3
          try clear hfz15_4
          try clear hfz15_5
          try clear hfz15_6
          try clear hfz15_7
          try clear hfz15_8
          try clear hfz15_9
          try clear p2
          obtain ⟨kq, x22_8, rfl, HA, HJ8, BK442, BK444, HB⟩ := hcut
          cases kq with
          | zero => exact absurd HA.out (by simp [turnstilelaw06_PolicyForm.j1])
          | succ kj8 =>
            have H := HA.out
            clear HA
            simp only [turnstilelaw06_PolicyForm.j1] at H
            have HC16 := Aside0.mk H
            clear H
            go_upto_if 22 with (fail)
            go_cut [] (fun wc => ∃ (kq : Nat) (x445000_15 : Int) (x445001_15 : Int) (x445002_15 : Int), Aside0 (turnstilelaw06_PolicyForm.j2 kq a0_0 a0_1 a0_2 a0_3 a0_4 a0_5 a0_6 a0_7 a0_8 a0_9 a0_10 a0_11 a0_12 x445000_15 x445001_15 x445002_15 = some r) ∧ Aside0 (kq ≤ kj8) ∧ Aside0 (wc.heap[gb442]? = some (.cells #[.int .i64 a0_0, .int .u64 a0_1, .int .u64 a0_2, .int .u64 a0_3, .int .u64 a0_4, .int .u64 a0_5, .int .u64 a0_6, .int .u64 a0_7, .int .u64 a0_8, .int .u64 a0_9, .int .u64 a0_10, .int .u64 a0_11, .int .u64 a0_12] 31 (0, 0))) ∧ Aside0 (wc.heap[gb444]? = some (.cells #[.int .u64 x445000_15, .int .u64 x445001_15, .int .u64 x445002_15] 29 (0, 0))) ∧ Aside0 (Below w.heap.size w wc))
            case first =>
              have H := HC16.out
              clear HC16
              by_cases c17 : x22_8 = true
              · subst c17
                have H1 : (turnstilelaw06_PolicyForm.j2 kj8 a0_0 a0_1 a0_2 a0_3 a0_4 a0_5 a0_6 a0_7 a0_8 a0_9 a0_10 a0_11 a0_12 a0_5 a1 a2) = some r := by rw [if_pos rfl] at H; exact H
                clear H
                have H := H1
                clear H1
                have H' := Aside0.mk H
                clear H
                have hnb18 := NB444_442.out
                have hnc18 := NB442_444.out
                obtain ⟨hcz19_0, hcz19_1, hcz19_2, hfz19_0, hfz19_1, hfz19_2⟩ := bc3 BK444
                go_wp2
                go_meet
                case rel => exact ⟨_, (a0_5), (a1), (a2), H', ⟨by have := HJ3.out; have := HJ8.out; first | omega | exact Nat.le_refl _⟩, ⟨bk BK442⟩, ⟨bk BK444⟩, ⟨bw HB⟩⟩
              · replace c17 := Bool.eq_false_iff.mpr c17
                subst c17
                have H1 : (turnstilelaw06_PolicyForm.j2 kj8 a0_0 a0_1 a0_2 a0_3 a0_4 a0_5 a0_6 a0_7 a0_8 a0_9 a0_10 a0_11 a0_12 a1 a0_6 a0_7) = some r := by rw [if_neg (show ¬ (false = true) by decide)] at H; exact H
                clear H
                have H := H1
                clear H1
                have H' := Aside0.mk H
                clear H
                have hnb20 := NB444_442.out
                have hnc20 := NB442_444.out
                obtain ⟨hcz21_0, hcz21_1, hcz21_2, hfz21_0, hfz21_1, hfz21_2⟩ := bc3 BK444
                go_wp2
                go_meet
                case rel => exact ⟨_, (a1), (a0_6), (a0_7), H', ⟨by have := HJ3.out; have := HJ8.out; first | omega | exact Nat.le_refl _⟩, ⟨bk BK442⟩, ⟨bk BK444⟩, ⟨bw HB⟩⟩
            case rest => as_aux_lemma =>
              clear HC16
              try clear c1
              try clear c2
              try clear p2
              try clear c5
              try clear c8
              try clear c12
              try clear c14
              try clear c17
              try clear c18
              try clear c20
              try clear hcz10_0
              try clear hcz10_1
              try clear hcz10_10
              try clear hcz10_11
              try clear hcz10_12
              try clear hcz10_2
              try clear hcz10_3
              try clear hcz10_4
              try clear hcz10_5
              try clear hcz10_6
              try clear hcz10_7
              try clear hcz10_8
              try clear hcz10_9
              try clear hcz13_0
              try clear hcz13_1
              try clear hcz13_2
              try clear hcz15_0
              try clear hcz15_1
              try clear hcz15_10
              try clear hcz15_11
              try clear hcz15_12
              try clear hcz15_2
              try clear hcz15_3
              try clear hcz15_4
              try clear hcz15_5
              try clear hcz15_6
              try clear hcz15_7
              try clear hcz15_8
              try clear hcz15_9
              try clear hcz19_0
              try clear hcz19_1
              try clear hcz19_2
              try clear hcz21_0
              try clear hcz21_1
              try clear hcz21_2
              try clear hfz10_0
              try clear hfz10_1
              try clear hfz10_10
              try clear hfz10_11
              try clear hfz10_12
              try clear hfz10_2
              try clear hfz10_3
              try clear hfz10_4
              try clear hfz10_5
              try clear hfz10_6
              try clear hfz10_7
              try clear hfz10_8
              try clear hfz10_9
              try clear hfz13_0
              try clear hfz13_1
              try clear hfz13_2
              try clear hfz15_0
              try clear hfz15_1
              try clear hfz15_10
              try clear hfz15_11
              try clear hfz15_12
              try clear hfz15_2
              try clear hfz15_3
              try clear hfz15_4
              try clear hfz15_5
              try clear hfz15_6
              try clear hfz15_7
              try clear hfz15_8
              try clear hfz15_9
              try clear hfz19_0
              try clear hfz19_1
              try clear hfz19_2
              try clear hfz21_0
              try clear hfz21_1
              try clear hfz21_2
              try clear p2
              obtain ⟨kq, x445000_15, x445001_15, x445002_15, HA, HJ15, BK442, BK444, HB⟩ := hcut
              cases kq with
              | zero => exact absurd HA.out (by simp [turnstilelaw06_PolicyForm.j2])
              | succ kj15 =>
                have H := HA.out
                clear HA
                simp only [turnstilelaw06_PolicyForm.j2] at H
                replace H := Option.bind_eq_some_iff.mp H
                obtain ⟨⟨t445, t446, t447, t448, t449⟩, A220, H⟩ := H
                replace H : ((policy_Admit.f kj15 a0_0 a0_1 a0_2 a0_3 a0_4 x445000_15 x445001_15 x445002_15 a0_11 a0_12).bind fun bt451 => ((policy_Valid.f a0_0 a0_1 a0_2 a0_3 a0_4).bind fun t457 => (turnstilelaw06_PolicyForm.j3 kj15 t448 t449 bt451.2.2.2.1 bt451.2.2.2.2 (!t457) a0_0 a0_1 a0_2 a0_3 a0_4 a0_5 a0_6 a0_7 a0_8 a0_9 a0_10 a0_11 a0_12 x445000_15 x445001_15 x445002_15 t445 t446 t447 bt451.1 bt451.2.1 bt451.2.2.1))) = some r := H
                have A22 := Aside0.mk A220
                clear A220
                replace H := Option.bind_eq_some_iff.mp H
                obtain ⟨⟨t451, t452, t453, t454, t455⟩, A230, H⟩ := H
                replace H : ((policy_Valid.f a0_0 a0_1 a0_2 a0_3 a0_4).bind fun t457 => (turnstilelaw06_PolicyForm.j3 kj15 t448 t449 t454 t455 (!t457) a0_0 a0_1 a0_2 a0_3 a0_4 a0_5 a0_6 a0_7 a0_8 a0_9 a0_10 a0_11 a0_12 x445000_15 x445001_15 x445002_15 t445 t446 t447 t451 t452 t453)) = some r := H
                have A23 := Aside0.mk A230
                clear A230
                have HC24 := Aside0.mk H
                clear H
                have hnb25 := NB442_444.out
                have hnc25 := NB444_442.out
                have hcz26_0 : wc.cell? ⟨gb442, 0, none⟩ = some (.int .i64 a0_0) := (blk_cell BK442.out 0).trans rfl
                have hcz26_1 : wc.cell? ⟨gb442, 1, none⟩ = some (.int .u64 a0_1) := (blk_cell BK442.out 1).trans rfl
                have hcz26_2 : wc.cell? ⟨gb442, 2, none⟩ = some (.int .u64 a0_2) := (blk_cell BK442.out 2).trans rfl
                have hcz26_3 : wc.cell? ⟨gb442, 3, none⟩ = some (.int .u64 a0_3) := (blk_cell BK442.out 3).trans rfl
                have hcz26_4 : wc.cell? ⟨gb442, 4, none⟩ = some (.int .u64 a0_4) := (blk_cell BK442.out 4).trans rfl
                have hcz26_5 : wc.cell? ⟨gb442, 5, none⟩ = some (.int .u64 a0_5) := (blk_cell BK442.out 5).trans rfl
                have hcz26_6 : wc.cell? ⟨gb442, 6, none⟩ = some (.int .u64 a0_6) := (blk_cell BK442.out 6).trans rfl
                have hcz26_7 : wc.cell? ⟨gb442, 7, none⟩ = some (.int .u64 a0_7) := (blk_cell BK442.out 7).trans rfl
                have hcz26_8 : wc.cell? ⟨gb442, 8, none⟩ = some (.int .u64 a0_8) := (blk_cell BK442.out 8).trans rfl
                have hcz26_9 : wc.cell? ⟨gb442, 9, none⟩ = some (.int .u64 a0_9) := (blk_cell BK442.out 9).trans rfl
                have hcz26_10 : wc.cell? ⟨gb442, 10, none⟩ = some (.int .u64 a0_10) := (blk_cell BK442.out 10).trans rfl
                have hcz26_11 : wc.cell? ⟨gb442, 11, none⟩ = some (.int .u64 a0_11) := (blk_cell BK442.out 11).trans rfl
                have hcz26_12 : wc.cell? ⟨gb442, 12, none⟩ = some (.int .u64 a0_12) := (blk_cell BK442.out 12).trans rfl
                have hfz26_0 := blk_frozen BK442.out 0
                have hfz26_1 := blk_frozen BK442.out 1
                have hfz26_2 := blk_frozen BK442.out 2
                have hfz26_3 := blk_frozen BK442.out 3
                have hfz26_4 := blk_frozen BK442.out 4
                have hfz26_5 := blk_frozen BK442.out 5
                have hfz26_6 := blk_frozen BK442.out 6
                have hfz26_7 := blk_frozen BK442.out 7
                have hfz26_8 := blk_frozen BK442.out 8
                have hfz26_9 := blk_frozen BK442.out 9
                have hfz26_10 := blk_frozen BK442.out 10
                have hfz26_11 := blk_frozen BK442.out 11
                have hfz26_12 := blk_frozen BK442.out 12
                go_upto_region 10 with (first | ((with_reducible refine gate_callee (f := 16) rfl ?_); refine gm (some 38) Try.func16 #[.agg #[.int .i64 a0_0, .int .u64 a0_1, .int .u64 a0_2, .int .u64 a0_3, .int .u64 a0_4], .agg #[.int .u64 a0_5, .int .u64 a0_6, .int .u64 a0_7], .int .u64 a0_11, .int .u64 a0_12] (policy_Admit.calls kj15 a0_0 a0_1 a0_2 a0_3 a0_4 a0_5 a0_6 a0_7 a0_11 a0_12 t445 t446 t447 t448 t449 _ A22.out) ?_; intro w27 hb; have n0_ := bb BK442 hb; have n1_ := bb BK444 hb; have n2_ := bs HB hb; clear BK442; clear BK444; clear HB; have BK442 := n0_; have BK444 := n1_; have HB := n2_; clear n0_ n1_ n2_; (try clear hb); (try clear hb2); (try clear hk); (try clear hi)) | ((with_reducible refine gate_dst (N := 8) rfl ?_); refine bx 8 #[.int .u64 0, .int .u64 0, .int .u64 0] 29 ?_; intro gb450 hg w28 hbox hb; have n0_ := bb BK442 hb; have n1_ := bb BK444 hb; have n2_ := bs HB hb; have n3_ := Aside0.mk (hbox); have n4_ := sz HB hg; have n5_ := sz HB hg; have n6_ := nl BK442 hg; have n7_ := nr BK442 hg; have n8_ := nl BK444 hg; have n9_ := nr BK444 hg; clear BK442; clear BK444; clear HB; have BK442 := n0_; have BK444 := n1_; have HB := n2_; have BK450 := n3_; have GW450 := n4_; have GE450 := n5_; have NB442_450 := n6_; have NB450_442 := n7_; have NB444_450 := n8_; have NB450_444 := n9_; clear n0_ n1_ n2_ n3_ n4_ n5_ n6_ n7_ n8_ n9_; clear hb hbox hg; have hnb29 := NB450_442.out; have hnc29 := NB442_450.out; have hnb30 := NB450_444.out; have hnc30 := NB444_450.out; obtain ⟨hcz31_0, hcz31_1, hcz31_2, hfz31_0, hfz31_1, hfz31_2⟩ := bc3 BK450; have hcz32_0 : w28.cell? ⟨gb442, 0, none⟩ = some (.int .i64 a0_0) := (blk_cell BK442.out 0).trans rfl; have hcz32_1 : w28.cell? ⟨gb442, 1, none⟩ = some (.int .u64 a0_1) := (blk_cell BK442.out 1).trans rfl; have hcz32_2 : w28.cell? ⟨gb442, 2, none⟩ = some (.int .u64 a0_2) := (blk_cell BK442.out 2).trans rfl; have hcz32_3 : w28.cell? ⟨gb442, 3, none⟩ = some (.int .u64 a0_3) := (blk_cell BK442.out 3).trans rfl; have hcz32_4 : w28.cell? ⟨gb442, 4, none⟩ = some (.int .u64 a0_4) := (blk_cell BK442.out 4).trans rfl; have hcz32_5 : w28.cell? ⟨gb442, 5, none⟩ = some (.int .u64 a0_5) := (blk_cell BK442.out 5).trans rfl; have hcz32_6 : w28.cell? ⟨gb442, 6, none⟩ = some (.int .u64 a0_6) := (blk_cell BK442.out 6).trans rfl; have hcz32_7 : w28.cell? ⟨gb442, 7, none⟩ = some (.int .u64 a0_7) := (blk_cell BK442.out 7).trans rfl; have hcz32_8 : w28.cell? ⟨gb442, 8, none⟩ = some (.int .u64 a0_8) := (blk_cell BK442.out 8).trans rfl; have hcz32_9 : w28.cell? ⟨gb442, 9, none⟩ = some (.int .u64 a0_9) := (blk_cell BK442.out 9).trans rfl; have hcz32_10 : w28.cell? ⟨gb442, 10, none⟩ = some (.int .u64 a0_10) := (blk_cell BK442.out 10).trans rfl; have hcz32_11 : w28.cell? ⟨gb442, 11, none⟩ = some (.int .u64 a0_11) := (blk_cell BK442.out 11).trans rfl; have hcz32_12 : w28.cell? ⟨gb442, 12, none⟩ = some (.int .u64 a0_12) := (blk_cell BK442.out 12).trans rfl; have hfz32_0 := blk_frozen BK442.out 0; have hfz32_1 := blk_frozen BK442.out 1; have hfz32_2 := blk_frozen BK442.out 2; have hfz32_3 := blk_frozen BK442.out 3; have hfz32_4 := blk_frozen BK442.out 4; have hfz32_5 := blk_frozen BK442.out 5; have hfz32_6 := blk_frozen BK442.out 6; have hfz32_7 := blk_frozen BK442.out 7; have hfz32_8 := blk_frozen BK442.out 8; have hfz32_9 := blk_frozen BK442.out 9; have hfz32_10 := blk_frozen BK442.out 10; have hfz32_11 := blk_frozen BK442.out 11; have hfz32_12 := blk_frozen BK442.out 12; obtain ⟨hcz33_0, hcz33_1, hcz33_2, hfz33_0, hfz33_1, hfz33_2⟩ := bc3 BK444) | ((with_reducible refine gate_callee (f := 16) rfl ?_); refine gm (some 50) Try.func16 #[.agg #[.int .i64 a0_0, .int .u64 a0_1, .int .u64 a0_2, .int .u64 a0_3, .int .u64 a0_4], .agg #[.int .u64 x445000_15, .int .u64 x445001_15, .int .u64 x445002_15], .int .u64 a0_11, .int .u64 a0_12] (policy_Admit.calls kj15 a0_0 a0_1 a0_2 a0_3 a0_4 x445000_15 x445001_15 x445002_15 a0_11 a0_12 t451 t452 t453 t454 t455 _ A23.out) ?_; intro w34 hb; have n0_ := bb BK442 hb; have n1_ := bb BK444 hb; have n2_ := bbp (.cells #[.int .u64 t445, .int .u64 t446, .int .u64 t447] 29 (0, 0)) BK450 hb; have n3_ := bs HB hb; clear BK442; clear BK444; clear BK450; clear HB; have BK442 := n0_; have BK444 := n1_; have BK450 := n2_; have HB := n3_; clear n0_ n1_ n2_ n3_; (try clear hb); (try clear hb2); (try clear hk); (try clear hi)) | ((with_reducible refine gate_dst (N := 11) rfl ?_); refine bx 11 #[.int .u64 0, .int .u64 0, .int .u64 0] 29 ?_; intro gb456 hg w35 hbox hb; have n0_ := bb BK442 hb; have n1_ := bb BK444 hb; have n2_ := bb BK450 hb; have n3_ := bs HB hb; have n4_ := Aside0.mk (hbox); have n5_ := sz HB hg; have n6_ := sz HB hg; have n7_ := nl BK442 hg; have n8_ := nr BK442 hg; have n9_ := nl BK444 hg; have n10_ := nr BK444 hg; have n11_ := nl BK450 hg; have n12_ := nr BK450 hg; clear BK442; clear BK444; clear BK450; clear HB; have BK442 := n0_; have BK444 := n1_; have BK450 := n2_; have HB := n3_; have BK456 := n4_; have GW456 := n5_; have GE456 := n6_; have NB442_456 := n7_; have NB456_442 := n8_; have NB444_456 := n9_; have NB456_444 := n10_; have NB450_456 := n11_; have NB456_450 := n12_; clear n0_ n1_ n2_ n3_ n4_ n5_ n6_ n7_ n8_ n9_ n10_ n11_ n12_; clear hb hbox hg; have hnb36 := NB456_442.out; have hnc36 := NB442_456.out; have hnb37 := NB456_444.out; have hnc37 := NB444_456.out; have hnb38 := NB456_450.out; have hnc38 := NB450_456.out; obtain ⟨hcz39_0, hcz39_1, hcz39_2, hfz39_0, hfz39_1, hfz39_2⟩ := bc3 BK456))
                (try simp only [Act.put, List.setIfInBounds_toArray, List.set_cons_zero, List.set_cons_succ])
                go_cut [57] (fun v57 wc => ∃ (kq : Nat) (x57_23 : Bool), v57 = .bool x57_23 ∧ Aside0 (turnstilelaw06_PolicyForm.j3 kq t448 t449 t454 t455 x57_23 a0_0 a0_1 a0_2 a0_3 a0_4 a0_5 a0_6 a0_7 a0_8 a0_9 a0_10 a0_11 a0_12 x445000_15 x445001_15 x445002_15 t445 t446 t447 t451 t452 t453 = some r) ∧ Aside0 (kq ≤ kj15) ∧ Aside0 (wc.heap[gb442]? = some (.cells #[.int .i64 a0_0, .int .u64 a0_1, .int .u64 a0_2, .int .u64 a0_3, .int .u64 a0_4, .int .u64 a0_5, .int .u64 a0_6, .int .u64 a0_7, .int .u64 a0_8, .int .u64 a0_9, .int .u64 a0_10, .int .u64 a0_11, .int .u64 a0_12] 31 (0, 0))) ∧ Aside0 (wc.heap[gb444]? = some (.cells #[.int .u64 x445000_15, .int .u64 x445001_15, .int .u64 x445002_15] 29 (0, 0))) ∧ Aside0 (wc.heap[gb450]? = some (.cells #[.int .u64 t445, .int .u64 t446, .int .u64 t447] 29 (0, 0))) ∧ Aside0 (wc.heap[gb456]? = some (.cells #[.int .u64 t451, .int .u64 t452, .int .u64 t453] 29 (0, 0))) ∧ Aside0 (Below w.heap.size w wc))
                case first =>
                  have H := HC24.out
                  clear HC24
                  replace H := Option.bind_eq_some_iff.mp H
                  obtain ⟨t457, A400, H⟩ := H
                  replace H : (turnstilelaw06_PolicyForm.j3 kj15 t448 t449 t454 t455 (!t457) a0_0 a0_1 a0_2 a0_3 a0_4 a0_5 a0_6 a0_7 a0_8 a0_9 a0_10 a0_11 a0_12 x445000_15 x445001_15 x445002_15 t445 t446 t447 t451 t452 t453) = some r := H
                  have A40 := Aside0.mk A400
                  clear A400
                  have H' := Aside0.mk H
                  clear H
                  have hnb41 := NB442_444.out
                  have hnc41 := NB444_442.out
                  have hnb42 := NB442_450.out
                  have hnc42 := NB450_442.out
                  have hnb43 := NB442_456.out
                  have hnc43 := NB456_442.out
                  have hcz44_0 : w35.cell? ⟨gb442, 0, none⟩ = some (.int .i64 a0_0) := (blk_cell BK442.out 0).trans rfl
                  have hcz44_1 : w35.cell? ⟨gb442, 1, none⟩ = some (.int .u64 a0_1) := (blk_cell BK442.out 1).trans rfl
                  have hcz44_2 : w35.cell? ⟨gb442, 2, none⟩ = some (.int .u64 a0_2) := (blk_cell BK442.out 2).trans rfl
                  have hcz44_3 : w35.cell? ⟨gb442, 3, none⟩ = some (.int .u64 a0_3) := (blk_cell BK442.out 3).trans rfl
                  have hcz44_4 : w35.cell? ⟨gb442, 4, none⟩ = some (.int .u64 a0_4) := (blk_cell BK442.out 4).trans rfl
                  have hcz44_5 : w35.cell? ⟨gb442, 5, none⟩ = some (.int .u64 a0_5) := (blk_cell BK442.out 5).trans rfl
                  have hcz44_6 : w35.cell? ⟨gb442, 6, none⟩ = some (.int .u64 a0_6) := (blk_cell BK442.out 6).trans rfl
                  have hcz44_7 : w35.cell? ⟨gb442, 7, none⟩ = some (.int .u64 a0_7) := (blk_cell BK442.out 7).trans rfl
                  have hcz44_8 : w35.cell? ⟨gb442, 8, none⟩ = some (.int .u64 a0_8) := (blk_cell BK442.out 8).trans rfl
                  have hcz44_9 : w35.cell? ⟨gb442, 9, none⟩ = some (.int .u64 a0_9) := (blk_cell BK442.out 9).trans rfl
                  have hcz44_10 : w35.cell? ⟨gb442, 10, none⟩ = some (.int .u64 a0_10) := (blk_cell BK442.out 10).trans rfl
                  have hcz44_11 : w35.cell? ⟨gb442, 11, none⟩ = some (.int .u64 a0_11) := (blk_cell BK442.out 11).trans rfl
                  have hcz44_12 : w35.cell? ⟨gb442, 12, none⟩ = some (.int .u64 a0_12) := (blk_cell BK442.out 12).trans rfl
                  have hfz44_0 := blk_frozen BK442.out 0
                  have hfz44_1 := blk_frozen BK442.out 1
                  have hfz44_2 := blk_frozen BK442.out 2
                  have hfz44_3 := blk_frozen BK442.out 3
                  have hfz44_4 := blk_frozen BK442.out 4
                  have hfz44_5 := blk_frozen BK442.out 5
                  have hfz44_6 := blk_frozen BK442.out 6
                  have hfz44_7 := blk_frozen BK442.out 7
                  have hfz44_8 := blk_frozen BK442.out 8
                  have hfz44_9 := blk_frozen BK442.out 9
                  have hfz44_10 := blk_frozen BK442.out 10
                  have hfz44_11 := blk_frozen BK442.out 11
                  have hfz44_12 := blk_frozen BK442.out 12
                  go_wp2_with (first | ((with_reducible refine gate_callee (f := 18) rfl ?_); refine gm (some 56) Try.func18 #[.agg #[.int .i64 a0_0, .int .u64 a0_1, .int .u64 a0_2, .int .u64 a0_3, .int .u64 a0_4]] (policy_Valid.calls a0_0 a0_1 a0_2 a0_3 a0_4 t457 _ A40.out) ?_; intro w45 hb; have n0_ := bb BK442 hb; have n1_ := bb BK444 hb; have n2_ := bb BK450 hb; have n3_ := bbp (.cells #[.int .u64 t451, .int .u64 t452, .int .u64 t453] 29 (0, 0)) BK456 hb; have n4_ := bs HB hb; clear BK442; clear BK444; clear BK450; clear BK456; clear HB; have BK442 := n0_; have BK444 := n1_; have BK450 := n2_; have BK456 := n3_; have HB := n4_; clear n0_ n1_ n2_ n3_ n4_; (try clear hb); (try clear hb2); (try clear hk); (try clear hi)))
                  go_meet
                  case rel => exact ⟨_, (!t457), rs, H', ⟨by have := HJ3.out; have := HJ8.out; have := HJ15.out; first | omega | exact Nat.le_refl _⟩, ⟨bk BK442⟩, ⟨bk BK444⟩, ⟨bk BK450⟩, ⟨bk BK456⟩, ⟨bw HB⟩⟩
                case rest => as_aux_lemma =>
                  clear HC24
                  try clear c1
                  try clear c2
                  try clear p2
                  try clear c3
                  try clear c4
                  try clear c5
                  try clear c8
                  try clear c12
                  try clear c14
                  try clear c16
                  try clear c17
                  try clear c18
                  try clear c20
                  try clear c25
                  try clear c29
                  try clear c30
                  try clear c36
                  try clear c37
                  try clear c38
                  try clear c41
                  try clear c42
                  try clear c43
                  try clear hcz10_0
                  try clear hcz10_1
                  try clear hcz10_10
                  try clear hcz10_11
                  try clear hcz10_12
                  try clear hcz10_2
                  try clear hcz10_3
                  try clear hcz10_4
                  try clear hcz10_5
                  try clear hcz10_6
                  try clear hcz10_7
                  try clear hcz10_8
                  try clear hcz10_9
                  try clear hcz13_0
                  try clear hcz13_1
                  try clear hcz13_2
                  try clear hcz15_0
                  try clear hcz15_1
                  try clear hcz15_10
                  try clear hcz15_11
                  try clear hcz15_12
                  try clear hcz15_2
                  try clear hcz15_3
                  try clear hcz15_4
                  try clear hcz15_5
                  try clear hcz15_6
                  try clear hcz15_7
                  try clear hcz15_8
                  try clear hcz15_9
                  try clear hcz19_0
                  try clear hcz19_1
                  try clear hcz19_2
                  try clear hcz21_0
                  try clear hcz21_1
                  try clear hcz21_2
                  try clear hcz26_0
                  try clear hcz26_1
                  try clear hcz26_10
                  try clear hcz26_11
                  try clear hcz26_12
                  try clear hcz26_2
                  try clear hcz26_3
                  try clear hcz26_4
                  try clear hcz26_5
                  try clear hcz26_6
                  try clear hcz26_7
                  try clear hcz26_8
                  try clear hcz26_9
                  try clear hcz31_0
                  try clear hcz31_1
                  try clear hcz31_2
                  try clear hcz32_0
                  try clear hcz32_1
                  try clear hcz32_10
                  try clear hcz32_11
                  try clear hcz32_12
                  try clear hcz32_2
                  try clear hcz32_3
                  try clear hcz32_4
                  try clear hcz32_5
                  try clear hcz32_6
                  try clear hcz32_7
                  try clear hcz32_8
                  try clear hcz32_9
                  try clear hcz33_0
                  try clear hcz33_1
                  try clear hcz33_2
                  try clear hcz39_0
                  try clear hcz39_1
                  try clear hcz39_2
                  try clear hcz44_0
                  try clear hcz44_1
                  try clear hcz44_10
                  try clear hcz44_11
                  try clear hcz44_12
                  try clear hcz44_2
                  try clear hcz44_3
                  try clear hcz44_4
                  try clear hcz44_5
                  try clear hcz44_6
                  try clear hcz44_7
                  try clear hcz44_8
                  try clear hcz44_9
                  try clear hfz10_0
                  try clear hfz10_1
                  try clear hfz10_10
                  try clear hfz10_11
                  try clear hfz10_12
                  try clear hfz10_2
                  try clear hfz10_3
                  try clear hfz10_4
                  try clear hfz10_5
                  try clear hfz10_6
                  try clear hfz10_7
                  try clear hfz10_8
                  try clear hfz10_9
                  try clear hfz13_0
                  try clear hfz13_1
                  try clear hfz13_2
                  try clear hfz15_0
                  try clear hfz15_1
                  try clear hfz15_10
                  try clear hfz15_11
                  try clear hfz15_12
                  try clear hfz15_2
                  try clear hfz15_3
                  try clear hfz15_4
                  try clear hfz15_5
                  try clear hfz15_6
                  try clear hfz15_7
                  try clear hfz15_8
                  try clear hfz15_9
                  try clear hfz19_0
                  try clear hfz19_1
                  try clear hfz19_2
                  try clear hfz21_0
                  try clear hfz21_1
                  try clear hfz21_2
                  try clear hfz26_0
                  try clear hfz26_1
                  try clear hfz26_10
                  try clear hfz26_11
                  try clear hfz26_12
                  try clear hfz26_2
                  try clear hfz26_3
                  try clear hfz26_4
                  try clear hfz26_5
                  try clear hfz26_6
                  try clear hfz26_7
                  try clear hfz26_8
                  try clear hfz26_9
                  try clear hfz31_0
                  try clear hfz31_1
                  try clear hfz31_2
                  try clear hfz32_0
                  try clear hfz32_1
                  try clear hfz32_10
                  try clear hfz32_11
                  try clear hfz32_12
                  try clear hfz32_2
                  try clear hfz32_3
                  try clear hfz32_4
                  try clear hfz32_5
                  try clear hfz32_6
                  try clear hfz32_7
                  try clear hfz32_8
                  try clear hfz32_9
                  try clear hfz33_0
                  try clear hfz33_1
                  try clear hfz33_2
                  try clear hfz39_0
                  try clear hfz39_1
                  try clear hfz39_2
                  try clear hfz44_0
                  try clear hfz44_1
                  try clear hfz44_10
                  try clear hfz44_11
                  try clear hfz44_12
                  try clear hfz44_2
                  try clear hfz44_3
                  try clear hfz44_4
                  try clear hfz44_5
                  try clear hfz44_6
                  try clear hfz44_7
                  try clear hfz44_8
                  try clear hfz44_9
                  try clear p2
                  obtain ⟨kq, x57_23, rfl, HA, HJ23, BK442, BK444, BK450, BK456, HB⟩ := hcut
                  cases kq with
                  | zero => exact absurd HA.out (by simp [turnstilelaw06_PolicyForm.j3])
                  | succ kj23 =>
                    have H := HA.out
                    clear HA
                    simp only [turnstilelaw06_PolicyForm.j3] at H
                    by_cases c46 : x57_23 = true
                    · subst c46
                      have H1 : (if (t445 == t451 && (t446 == t452 && (t447 == t453))) = true then (if t448 = true then (some false) else (if t454 = true then (some false) else (if t449 = t455 then ((policy_Fits.f a0_0 a0_1 a0_2 a0_3 a0_4 t445 t446 t447).bind fun t458 => (if t458 = true then (some false) else ((policy_Max.f a0_0 a0_1 a0_2 a0_3 a0_4 a0_5 a0_6 a0_7 a0_8 a0_9 a0_10).bind fun bt459 => (some (bt459.1 == 0 && (bt459.2.1 == 0 && (bt459.2.2 == 0))))))) else (some false)))) else (some false)) = some r := by rw [if_pos rfl] at H; exact H
                      clear H
                      have H := H1
                      clear H1
                      by_cases c47 : (t445 == t451 && (t446 == t452 && (t447 == t453))) = true
                      · rw [if_pos c47] at H
                        have c47b0 : (t445 == t451 && (t446 == t452 && (t447 == t453))) = true := c47
                        (try (have c47b1 : decide (t445 = t451 && (t446 == t452 && (t447 == t453))) = true := by simpa using c47))
                        (try (have c47b2 : (t445 == t451 && (t446 == t452 && (t447 == t453))) = true := by simpa using c47))
                        clear c47
                        by_cases c48 : t448 = true
                        · subst c48
                          have H1 : (some false) = some r := by rw [if_pos rfl] at H; exact H
                          clear H
                          have H := H1
                          clear H1
                          obtain rfl := Option.some.inj H
                          have hnb49 := NB450_442.out
                          have hnc49 := NB442_450.out
                          have hnb50 := NB450_444.out
                          have hnc50 := NB444_450.out
                          have hnb51 := NB450_456.out
                          have hnc51 := NB456_450.out
                          obtain ⟨hcz52_0, hcz52_1, hcz52_2, hfz52_0, hfz52_1, hfz52_2⟩ := bc3 BK450
                          have hnb53 := NB456_442.out
                          have hnc53 := NB442_456.out
                          have hnb54 := NB456_444.out
                          have hnc54 := NB444_456.out
                          obtain ⟨hcz55_0, hcz55_1, hcz55_2, hfz55_0, hfz55_1, hfz55_2⟩ := bc3 BK456
                          go_wp2
                          go_ret
                          exact ⟨re, bw HB⟩
                        · replace c48 := Bool.eq_false_iff.mpr c48
                          subst c48
                          have H1 : (if t454 = true then (some false) else (if t449 = t455 then ((policy_Fits.f a0_0 a0_1 a0_2 a0_3 a0_4 t445 t446 t447).bind fun t458 => (if t458 = true then (some false) else ((policy_Max.f a0_0 a0_1 a0_2 a0_3 a0_4 a0_5 a0_6 a0_7 a0_8 a0_9 a0_10).bind fun bt459 => (some (bt459.1 == 0 && (bt459.2.1 == 0 && (bt459.2.2 == 0))))))) else (some false))) = some r := by rw [if_neg (show ¬ (false = true) by decide)] at H; exact H
                          clear H
                          have H := H1
                          clear H1
                          by_cases c56 : t454 = true
                          · subst c56
                            have H1 : (some false) = some r := by rw [if_pos rfl] at H; exact H
                            clear H
                            have H := H1
                            clear H1
                            obtain rfl := Option.some.inj H
                            have hnb57 := NB450_442.out
                            have hnc57 := NB442_450.out
                            have hnb58 := NB450_444.out
                            have hnc58 := NB444_450.out
                            have hnb59 := NB450_456.out
                            have hnc59 := NB456_450.out
                            obtain ⟨hcz60_0, hcz60_1, hcz60_2, hfz60_0, hfz60_1, hfz60_2⟩ := bc3 BK450
                            have hnb61 := NB456_442.out
                            have hnc61 := NB442_456.out
                            have hnb62 := NB456_444.out
                            have hnc62 := NB444_456.out
                            obtain ⟨hcz63_0, hcz63_1, hcz63_2, hfz63_0, hfz63_1, hfz63_2⟩ := bc3 BK456
                            go_wp2
                            go_ret
                            exact ⟨re, bw HB⟩
                          · replace c56 := Bool.eq_false_iff.mpr c56
                            subst c56
                            have H1 : (if t449 = t455 then ((policy_Fits.f a0_0 a0_1 a0_2 a0_3 a0_4 t445 t446 t447).bind fun t458 => (if t458 = true then (some false) else ((policy_Max.f a0_0 a0_1 a0_2 a0_3 a0_4 a0_5 a0_6 a0_7 a0_8 a0_9 a0_10).bind fun bt459 => (some (bt459.1 == 0 && (bt459.2.1 == 0 && (bt459.2.2 == 0))))))) else (some false)) = some r := by rw [if_neg (show ¬ (false = true) by decide)] at H; exact H
                            clear H
                            have H := H1
                            clear H1
                            by_cases c64 : t449 = t455
                            · rw [if_pos c64] at H
                              have c64b0 : (t449 == t455) = true := beq_iff_eq.mpr c64
                              have c64b1 : (t449 != t455) = false := bne_eq_false_iff_eq.mpr c64
                              clear c64
                              (try (have hd65 := c47b0; rw [c64b0] at hd65; (first | rw [Bool.true_and] at hd65 | rw [Bool.and_true] at hd65 | (rw [Bool.not_true] at hd65; rw [Bool.false_or] at hd65) | skip)))
                              (try (have hd66 := c47b1; rw [c64b0] at hd66; (first | rw [Bool.true_and] at hd66 | rw [Bool.and_true] at hd66 | (rw [Bool.not_true] at hd66; rw [Bool.false_or] at hd66) | skip)))
                              (try (have hd67 := c47b2; rw [c64b0] at hd67; (first | rw [Bool.true_and] at hd67 | rw [Bool.and_true] at hd67 | (rw [Bool.not_true] at hd67; rw [Bool.false_or] at hd67) | skip)))
                              replace H := Option.bind_eq_some_iff.mp H
                              obtain ⟨t458, A680, H⟩ := H
                              replace H : (if t458 = true then (some false) else ((policy_Max.f a0_0 a0_1 a0_2 a0_3 a0_4 a0_5 a0_6 a0_7 a0_8 a0_9 a0_10).bind fun bt459 => (some (bt459.1 == 0 && (bt459.2.1 == 0 && (bt459.2.2 == 0)))))) = some r := H
                              have A68 := Aside0.mk A680
                              clear A680
                              by_cases c69 : t458 = true
                              · subst c69
                                have H1 : (some false) = some r := by rw [if_pos rfl] at H; exact H
                                clear H
                                have H := H1
                                clear H1
                                obtain rfl := Option.some.inj H
                                have hnb70 := NB450_442.out
                                have hnc70 := NB442_450.out
                                have hnb71 := NB450_444.out
                                have hnc71 := NB444_450.out
                                have hnb72 := NB450_456.out
                                have hnc72 := NB456_450.out
                                obtain ⟨hcz73_0, hcz73_1, hcz73_2, hfz73_0, hfz73_1, hfz73_2⟩ := bc3 BK450
                                have hnb74 := NB456_442.out
                                have hnc74 := NB442_456.out
                                have hnb75 := NB456_444.out
                                have hnc75 := NB444_456.out
                                obtain ⟨hcz76_0, hcz76_1, hcz76_2, hfz76_0, hfz76_1, hfz76_2⟩ := bc3 BK456
                                have hnb77 := NB442_444.out
                                have hnc77 := NB444_442.out
                                have hcz78_0 : wc.cell? ⟨gb442, 0, none⟩ = some (.int .i64 a0_0) := (blk_cell BK442.out 0).trans rfl
                                have hcz78_1 : wc.cell? ⟨gb442, 1, none⟩ = some (.int .u64 a0_1) := (blk_cell BK442.out 1).trans rfl
                                have hcz78_2 : wc.cell? ⟨gb442, 2, none⟩ = some (.int .u64 a0_2) := (blk_cell BK442.out 2).trans rfl
                                have hcz78_3 : wc.cell? ⟨gb442, 3, none⟩ = some (.int .u64 a0_3) := (blk_cell BK442.out 3).trans rfl
                                have hcz78_4 : wc.cell? ⟨gb442, 4, none⟩ = some (.int .u64 a0_4) := (blk_cell BK442.out 4).trans rfl
                                have hcz78_5 : wc.cell? ⟨gb442, 5, none⟩ = some (.int .u64 a0_5) := (blk_cell BK442.out 5).trans rfl
                                have hcz78_6 : wc.cell? ⟨gb442, 6, none⟩ = some (.int .u64 a0_6) := (blk_cell BK442.out 6).trans rfl
                                have hcz78_7 : wc.cell? ⟨gb442, 7, none⟩ = some (.int .u64 a0_7) := (blk_cell BK442.out 7).trans rfl
                                have hcz78_8 : wc.cell? ⟨gb442, 8, none⟩ = some (.int .u64 a0_8) := (blk_cell BK442.out 8).trans rfl
                                have hcz78_9 : wc.cell? ⟨gb442, 9, none⟩ = some (.int .u64 a0_9) := (blk_cell BK442.out 9).trans rfl
                                have hcz78_10 : wc.cell? ⟨gb442, 10, none⟩ = some (.int .u64 a0_10) := (blk_cell BK442.out 10).trans rfl
                                have hcz78_11 : wc.cell? ⟨gb442, 11, none⟩ = some (.int .u64 a0_11) := (blk_cell BK442.out 11).trans rfl
                                have hcz78_12 : wc.cell? ⟨gb442, 12, none⟩ = some (.int .u64 a0_12) := (blk_cell BK442.out 12).trans rfl
                                have hfz78_0 := blk_frozen BK442.out 0
                                have hfz78_1 := blk_frozen BK442.out 1
                                have hfz78_2 := blk_frozen BK442.out 2
                                have hfz78_3 := blk_frozen BK442.out 3
                                have hfz78_4 := blk_frozen BK442.out 4
                                have hfz78_5 := blk_frozen BK442.out 5
                                have hfz78_6 := blk_frozen BK442.out 6
                                have hfz78_7 := blk_frozen BK442.out 7
                                have hfz78_8 := blk_frozen BK442.out 8
                                have hfz78_9 := blk_frozen BK442.out 9
                                have hfz78_10 := blk_frozen BK442.out 10
                                have hfz78_11 := blk_frozen BK442.out 11
                                have hfz78_12 := blk_frozen BK442.out 12
                                go_wp2_with (first | (go_at_call 25; (with_reducible refine (policy_Fits.calls a0_0 a0_1 a0_2 a0_3 a0_4 t445 t446 t447 true _ A68.out).mono ?_); rintro e w79 ⟨rfl, hb⟩; have n0_ := bb BK442 hb; have n1_ := bb BK444 hb; have n2_ := bb BK450 hb; have n3_ := bb BK456 hb; have n4_ := bs HB hb; clear BK442; clear BK444; clear BK450; clear BK456; clear HB; have BK442 := n0_; have BK444 := n1_; have BK450 := n2_; have BK456 := n3_; have HB := n4_; clear n0_ n1_ n2_ n3_ n4_; (try clear hb); (try clear hb2); (try clear hk); (try clear hi)))
                                go_ret
                                exact ⟨re, bw HB⟩
                              · replace c69 := Bool.eq_false_iff.mpr c69
                                subst c69
                                have H1 : ((policy_Max.f a0_0 a0_1 a0_2 a0_3 a0_4 a0_5 a0_6 a0_7 a0_8 a0_9 a0_10).bind fun bt459 => (some (bt459.1 == 0 && (bt459.2.1 == 0 && (bt459.2.2 == 0))))) = some r := by rw [if_neg (show ¬ (false = true) by decide)] at H; exact H
                                clear H
                                have H := H1
                                clear H1
                                replace H := Option.bind_eq_some_iff.mp H
                                obtain ⟨⟨t459, t460, t461⟩, A800, H⟩ := H
                                replace H : (some (t459 == 0 && (t460 == 0 && (t461 == 0)))) = some r := H
                                have A80 := Aside0.mk A800
                                clear A800
                                obtain rfl := Option.some.inj H
                                have hnb81 := NB450_442.out
                                have hnc81 := NB442_450.out
                                have hnb82 := NB450_444.out
                                have hnc82 := NB444_450.out
                                have hnb83 := NB450_456.out
                                have hnc83 := NB456_450.out
                                obtain ⟨hcz84_0, hcz84_1, hcz84_2, hfz84_0, hfz84_1, hfz84_2⟩ := bc3 BK450
                                have hnb85 := NB456_442.out
                                have hnc85 := NB442_456.out
                                have hnb86 := NB456_444.out
                                have hnc86 := NB444_456.out
                                obtain ⟨hcz87_0, hcz87_1, hcz87_2, hfz87_0, hfz87_1, hfz87_2⟩ := bc3 BK456
                                have hnb88 := NB442_444.out
                                have hnc88 := NB444_442.out
                                have hcz89_0 : wc.cell? ⟨gb442, 0, none⟩ = some (.int .i64 a0_0) := (blk_cell BK442.out 0).trans rfl
                                have hcz89_1 : wc.cell? ⟨gb442, 1, none⟩ = some (.int .u64 a0_1) := (blk_cell BK442.out 1).trans rfl
                                have hcz89_2 : wc.cell? ⟨gb442, 2, none⟩ = some (.int .u64 a0_2) := (blk_cell BK442.out 2).trans rfl
                                have hcz89_3 : wc.cell? ⟨gb442, 3, none⟩ = some (.int .u64 a0_3) := (blk_cell BK442.out 3).trans rfl
                                have hcz89_4 : wc.cell? ⟨gb442, 4, none⟩ = some (.int .u64 a0_4) := (blk_cell BK442.out 4).trans rfl
                                have hcz89_5 : wc.cell? ⟨gb442, 5, none⟩ = some (.int .u64 a0_5) := (blk_cell BK442.out 5).trans rfl
                                have hcz89_6 : wc.cell? ⟨gb442, 6, none⟩ = some (.int .u64 a0_6) := (blk_cell BK442.out 6).trans rfl
                                have hcz89_7 : wc.cell? ⟨gb442, 7, none⟩ = some (.int .u64 a0_7) := (blk_cell BK442.out 7).trans rfl
                                have hcz89_8 : wc.cell? ⟨gb442, 8, none⟩ = some (.int .u64 a0_8) := (blk_cell BK442.out 8).trans rfl
                                have hcz89_9 : wc.cell? ⟨gb442, 9, none⟩ = some (.int .u64 a0_9) := (blk_cell BK442.out 9).trans rfl
                                have hcz89_10 : wc.cell? ⟨gb442, 10, none⟩ = some (.int .u64 a0_10) := (blk_cell BK442.out 10).trans rfl
                                have hcz89_11 : wc.cell? ⟨gb442, 11, none⟩ = some (.int .u64 a0_11) := (blk_cell BK442.out 11).trans rfl
                                have hcz89_12 : wc.cell? ⟨gb442, 12, none⟩ = some (.int .u64 a0_12) := (blk_cell BK442.out 12).trans rfl
                                have hfz89_0 := blk_frozen BK442.out 0
                                have hfz89_1 := blk_frozen BK442.out 1
                                have hfz89_2 := blk_frozen BK442.out 2
                                have hfz89_3 := blk_frozen BK442.out 3
                                have hfz89_4 := blk_frozen BK442.out 4
                                have hfz89_5 := blk_frozen BK442.out 5
                                have hfz89_6 := blk_frozen BK442.out 6
                                have hfz89_7 := blk_frozen BK442.out 7
                                have hfz89_8 := blk_frozen BK442.out 8
                                have hfz89_9 := blk_frozen BK442.out 9
                                have hfz89_10 := blk_frozen BK442.out 10
                                have hfz89_11 := blk_frozen BK442.out 11
                                have hfz89_12 := blk_frozen BK442.out 12
                                go_wp2_with (first | (go_at_call 25; (with_reducible refine (policy_Fits.calls a0_0 a0_1 a0_2 a0_3 a0_4 t445 t446 t447 false _ A68.out).mono ?_); rintro e w90 ⟨rfl, hb⟩; have n0_ := bb BK442 hb; have n1_ := bb BK444 hb; have n2_ := bb BK450 hb; have n3_ := bb BK456 hb; have n4_ := bs HB hb; clear BK442; clear BK444; clear BK450; clear BK456; clear HB; have BK442 := n0_; have BK444 := n1_; have BK450 := n2_; have BK456 := n3_; have HB := n4_; clear n0_ n1_ n2_ n3_ n4_; (try clear hb); (try clear hb2); (try clear hk); (try clear hi); have hcz91_0 : w90.cell? ⟨gb442, 0, none⟩ = some (.int .i64 a0_0) := (blk_cell BK442.out 0).trans rfl; have hcz91_1 : w90.cell? ⟨gb442, 1, none⟩ = some (.int .u64 a0_1) := (blk_cell BK442.out 1).trans rfl; have hcz91_2 : w90.cell? ⟨gb442, 2, none⟩ = some (.int .u64 a0_2) := (blk_cell BK442.out 2).trans rfl; have hcz91_3 : w90.cell? ⟨gb442, 3, none⟩ = some (.int .u64 a0_3) := (blk_cell BK442.out 3).trans rfl; have hcz91_4 : w90.cell? ⟨gb442, 4, none⟩ = some (.int .u64 a0_4) := (blk_cell BK442.out 4).trans rfl; have hcz91_5 : w90.cell? ⟨gb442, 5, none⟩ = some (.int .u64 a0_5) := (blk_cell BK442.out 5).trans rfl; have hcz91_6 : w90.cell? ⟨gb442, 6, none⟩ = some (.int .u64 a0_6) := (blk_cell BK442.out 6).trans rfl; have hcz91_7 : w90.cell? ⟨gb442, 7, none⟩ = some (.int .u64 a0_7) := (blk_cell BK442.out 7).trans rfl; have hcz91_8 : w90.cell? ⟨gb442, 8, none⟩ = some (.int .u64 a0_8) := (blk_cell BK442.out 8).trans rfl; have hcz91_9 : w90.cell? ⟨gb442, 9, none⟩ = some (.int .u64 a0_9) := (blk_cell BK442.out 9).trans rfl; have hcz91_10 : w90.cell? ⟨gb442, 10, none⟩ = some (.int .u64 a0_10) := (blk_cell BK442.out 10).trans rfl; have hcz91_11 : w90.cell? ⟨gb442, 11, none⟩ = some (.int .u64 a0_11) := (blk_cell BK442.out 11).trans rfl; have hcz91_12 : w90.cell? ⟨gb442, 12, none⟩ = some (.int .u64 a0_12) := (blk_cell BK442.out 12).trans rfl; have hfz91_0 := blk_frozen BK442.out 0; have hfz91_1 := blk_frozen BK442.out 1; have hfz91_2 := blk_frozen BK442.out 2; have hfz91_3 := blk_frozen BK442.out 3; have hfz91_4 := blk_frozen BK442.out 4; have hfz91_5 := blk_frozen BK442.out 5; have hfz91_6 := blk_frozen BK442.out 6; have hfz91_7 := blk_frozen BK442.out 7; have hfz91_8 := blk_frozen BK442.out 8; have hfz91_9 := blk_frozen BK442.out 9; have hfz91_10 := blk_frozen BK442.out 10; have hfz91_11 := blk_frozen BK442.out 11; have hfz91_12 := blk_frozen BK442.out 12) | (go_at_call 26; (with_reducible refine (policy_Max.calls a0_0 a0_1 a0_2 a0_3 a0_4 a0_5 a0_6 a0_7 a0_8 a0_9 a0_10 t459 t460 t461 _ A80.out).mono ?_); rintro e w92 ⟨rfl, hb⟩; have n0_ := bb BK442 hb; have n1_ := bb BK444 hb; have n2_ := bb BK450 hb; have n3_ := bb BK456 hb; have n4_ := bs HB hb; clear BK442; clear BK444; clear BK450; clear BK456; clear HB; have BK442 := n0_; have BK444 := n1_; have BK450 := n2_; have BK456 := n3_; have HB := n4_; clear n0_ n1_ n2_ n3_ n4_; (try clear hb); (try clear hb2); (try clear hk); (try clear hi)))
                                go_ret
                                exact ⟨re, bw HB⟩
                            · rw [if_neg c64] at H
                              have c64b0 : (t449 == t455) = false := beq_eq_false_iff_ne.mpr c64
                              have c64b1 : (t449 != t455) = true := bne_iff_ne.mpr c64
                              (try (have hd93 := c47b0; rw [c64b0] at hd93; (first | rw [Bool.true_and] at hd93 | rw [Bool.and_true] at hd93 | (rw [Bool.not_true] at hd93; rw [Bool.false_or] at hd93) | skip)))
                              (try (have hd94 := c47b1; rw [c64b0] at hd94; (first | rw [Bool.true_and] at hd94 | rw [Bool.and_true] at hd94 | (rw [Bool.not_true] at hd94; rw [Bool.false_or] at hd94) | skip)))
                              (try (have hd95 := c47b2; rw [c64b0] at hd95; (first | rw [Bool.true_and] at hd95 | rw [Bool.and_true] at hd95 | (rw [Bool.not_true] at hd95; rw [Bool.false_or] at hd95) | skip)))
                              obtain rfl := Option.some.inj H
                              have hnb96 := NB450_442.out
                              have hnc96 := NB442_450.out
                              have hnb97 := NB450_444.out
                              have hnc97 := NB444_450.out
                              have hnb98 := NB450_456.out
                              have hnc98 := NB456_450.out
                              obtain ⟨hcz99_0, hcz99_1, hcz99_2, hfz99_0, hfz99_1, hfz99_2⟩ := bc3 BK450
                              have hnb100 := NB456_442.out
                              have hnc100 := NB442_456.out
                              have hnb101 := NB456_444.out
                              have hnc101 := NB444_456.out
                              obtain ⟨hcz102_0, hcz102_1, hcz102_2, hfz102_0, hfz102_1, hfz102_2⟩ := bc3 BK456
                              go_wp2
                              go_ret
                              exact ⟨re, bw HB⟩
                      · rw [if_neg c47] at H
                        have c47b0 : (t445 == t451 && (t446 == t452 && (t447 == t453))) = false := by simpa using c47
                        (try (have c47b1 : decide (t445 = t451 && (t446 == t452 && (t447 == t453))) = false := by simpa using c47))
                        (try (have c47b2 : (t445 == t451 && (t446 == t452 && (t447 == t453))) = false := by simpa using c47))
                        (try (have c47b3 : ¬ (t445 = t451 && (t446 == t452 && (t447 == t453))) := by simpa using c47))
                        clear c47
                        obtain rfl := Option.some.inj H
                        have hnb103 := NB450_442.out
                        have hnc103 := NB442_450.out
                        have hnb104 := NB450_444.out
                        have hnc104 := NB444_450.out
                        have hnb105 := NB450_456.out
                        have hnc105 := NB456_450.out
                        obtain ⟨hcz106_0, hcz106_1, hcz106_2, hfz106_0, hfz106_1, hfz106_2⟩ := bc3 BK450
                        have hnb107 := NB456_442.out
                        have hnc107 := NB442_456.out
                        have hnb108 := NB456_444.out
                        have hnc108 := NB444_456.out
                        obtain ⟨hcz109_0, hcz109_1, hcz109_2, hfz109_0, hfz109_1, hfz109_2⟩ := bc3 BK456
                        go_wp2
                        go_ret
                        exact ⟨re, bw HB⟩
                    · replace c46 := Bool.eq_false_iff.mpr c46
                      subst c46
                      have H1 : ((policy_Max.f a0_0 a0_1 a0_2 a0_3 a0_4 a0_5 a0_6 a0_7 a0_8 a0_9 a0_10).bind fun bt462 => (if (!(t445 == t451) || (!(t446 == t452) || (!(t447 == t453)))) = true then (turnstilelaw06_PolicyForm.j4 kj23 true a0_0 a0_1 a0_2 a0_3 a0_4 a0_5 a0_6 a0_7 a0_8 a0_9 a0_10 a0_11 a0_12 x445000_15 x445001_15 x445002_15) else (if (t448 != t454) = true then (turnstilelaw06_PolicyForm.j4 kj23 true a0_0 a0_1 a0_2 a0_3 a0_4 a0_5 a0_6 a0_7 a0_8 a0_9 a0_10 a0_11 a0_12 x445000_15 x445001_15 x445002_15) else (if t449 = t455 then ((policy_Fits.f a0_0 a0_1 a0_2 a0_3 a0_4 t445 t446 t447).bind fun t466 => (if t466 = true then ((policy_Fits.f a0_0 a0_1 a0_2 a0_3 a0_4 bt462.1 bt462.2.1 bt462.2.2).bind fun t467 => (if t467 = true then ((policy_Max.f a0_0 a0_1 a0_2 a0_3 a0_4 x445000_15 x445001_15 x445002_15 a0_8 a0_9 a0_10).bind fun bt468 => (if (!(bt462.1 == bt468.1) || (!(bt462.2.1 == bt468.2.1) || (!(bt462.2.2 == bt468.2.2)))) = true then (turnstilelaw06_PolicyForm.j4 kj23 true a0_0 a0_1 a0_2 a0_3 a0_4 a0_5 a0_6 a0_7 a0_8 a0_9 a0_10 a0_11 a0_12 x445000_15 x445001_15 x445002_15) else ((policy_Max.f a0_0 a0_1 a0_2 a0_3 a0_4 a0_8 a0_9 a0_10 x445000_15 x445001_15 x445002_15).bind fun bt471 => (turnstilelaw06_PolicyForm.j4 kj23 (!(bt462.1 == bt471.1) || (!(bt462.2.1 == bt471.2.1) || (!(bt462.2.2 == bt471.2.2)))) a0_0 a0_1 a0_2 a0_3 a0_4 a0_5 a0_6 a0_7 a0_8 a0_9 a0_10 a0_11 a0_12 x445000_15 x445001_15 x445002_15)))) else (turnstilelaw06_PolicyForm.j4 kj23 true a0_0 a0_1 a0_2 a0_3 a0_4 a0_5 a0_6 a0_7 a0_8 a0_9 a0_10 a0_11 a0_12 x445000_15 x445001_15 x445002_15))) else (turnstilelaw06_PolicyForm.j4 kj23 true a0_0 a0_1 a0_2 a0_3 a0_4 a0_5 a0_6 a0_7 a0_8 a0_9 a0_10 a0_11 a0_12 x445000_15 x445001_15 x445002_15))) else (turnstilelaw06_PolicyForm.j4 kj23 true a0_0 a0_1 a0_2 a0_3 a0_4 a0_5 a0_6 a0_7 a0_8 a0_9 a0_10 a0_11 a0_12 x445000_15 x445001_15 x445002_15))))) = some r := by rw [if_neg (show ¬ (false = true) by decide)] at H; exact H
                      clear H
                      have H := H1
                      clear H1
                      replace H := Option.bind_eq_some_iff.mp H
                      obtain ⟨⟨t462, t463, t464⟩, A1100, H⟩ := H
                      replace H : (if (!(t445 == t451) || (!(t446 == t452) || (!(t447 == t453)))) = true then (turnstilelaw06_PolicyForm.j4 kj23 true a0_0 a0_1 a0_2 a0_3 a0_4 a0_5 a0_6 a0_7 a0_8 a0_9 a0_10 a0_11 a0_12 x445000_15 x445001_15 x445002_15) else (if (t448 != t454) = true then (turnstilelaw06_PolicyForm.j4 kj23 true a0_0 a0_1 a0_2 a0_3 a0_4 a0_5 a0_6 a0_7 a0_8 a0_9 a0_10 a0_11 a0_12 x445000_15 x445001_15 x445002_15) else (if t449 = t455 then ((policy_Fits.f a0_0 a0_1 a0_2 a0_3 a0_4 t445 t446 t447).bind fun t466 => (if t466 = true then ((policy_Fits.f a0_0 a0_1 a0_2 a0_3 a0_4 t462 t463 t464).bind fun t467 => (if t467 = true then ((policy_Max.f a0_0 a0_1 a0_2 a0_3 a0_4 x445000_15 x445001_15 x445002_15 a0_8 a0_9 a0_10).bind fun bt468 => (if (!(t462 == bt468.1) || (!(t463 == bt468.2.1) || (!(t464 == bt468.2.2)))) = true then (turnstilelaw06_PolicyForm.j4 kj23 true a0_0 a0_1 a0_2 a0_3 a0_4 a0_5 a0_6 a0_7 a0_8 a0_9 a0_10 a0_11 a0_12 x445000_15 x445001_15 x445002_15) else ((policy_Max.f a0_0 a0_1 a0_2 a0_3 a0_4 a0_8 a0_9 a0_10 x445000_15 x445001_15 x445002_15).bind fun bt471 => (turnstilelaw06_PolicyForm.j4 kj23 (!(t462 == bt471.1) || (!(t463 == bt471.2.1) || (!(t464 == bt471.2.2)))) a0_0 a0_1 a0_2 a0_3 a0_4 a0_5 a0_6 a0_7 a0_8 a0_9 a0_10 a0_11 a0_12 x445000_15 x445001_15 x445002_15)))) else (turnstilelaw06_PolicyForm.j4 kj23 true a0_0 a0_1 a0_2 a0_3 a0_4 a0_5 a0_6 a0_7 a0_8 a0_9 a0_10 a0_11 a0_12 x445000_15 x445001_15 x445002_15))) else (turnstilelaw06_PolicyForm.j4 kj23 true a0_0 a0_1 a0_2 a0_3 a0_4 a0_5 a0_6 a0_7 a0_8 a0_9 a0_10 a0_11 a0_12 x445000_15 x445001_15 x445002_15))) else (turnstilelaw06_PolicyForm.j4 kj23 true a0_0 a0_1 a0_2 a0_3 a0_4 a0_5 a0_6 a0_7 a0_8 a0_9 a0_10 a0_11 a0_12 x445000_15 x445001_15 x445002_15)))) = some r := H
                      have A110 := Aside0.mk A1100
                      clear A1100
                      have HC111 := Aside0.mk H
                      clear H
                      have hnb112 := NB442_444.out
                      have hnc112 := NB444_442.out
                      have hnb113 := NB442_450.out
                      have hnc113 := NB450_442.out
                      have hnb114 := NB442_456.out
                      have hnc114 := NB456_442.out
                      have hcz115_0 : wc.cell? ⟨gb442, 0, none⟩ = some (.int .i64 a0_0) := (blk_cell BK442.out 0).trans rfl
                      have hcz115_1 : wc.cell? ⟨gb442, 1, none⟩ = some (.int .u64 a0_1) := (blk_cell BK442.out 1).trans rfl
                      have hcz115_2 : wc.cell? ⟨gb442, 2, none⟩ = some (.int .u64 a0_2) := (blk_cell BK442.out 2).trans rfl
                      have hcz115_3 : wc.cell? ⟨gb442, 3, none⟩ = some (.int .u64 a0_3) := (blk_cell BK442.out 3).trans rfl
                      have hcz115_4 : wc.cell? ⟨gb442, 4, none⟩ = some (.int .u64 a0_4) := (blk_cell BK442.out 4).trans rfl
                      have hcz115_5 : wc.cell? ⟨gb442, 5, none⟩ = some (.int .u64 a0_5) := (blk_cell BK442.out 5).trans rfl
                      have hcz115_6 : wc.cell? ⟨gb442, 6, none⟩ = some (.int .u64 a0_6) := (blk_cell BK442.out 6).trans rfl
                      have hcz115_7 : wc.cell? ⟨gb442, 7, none⟩ = some (.int .u64 a0_7) := (blk_cell BK442.out 7).trans rfl
                      have hcz115_8 : wc.cell? ⟨gb442, 8, none⟩ = some (.int .u64 a0_8) := (blk_cell BK442.out 8).trans rfl
                      have hcz115_9 : wc.cell? ⟨gb442, 9, none⟩ = some (.int .u64 a0_9) := (blk_cell BK442.out 9).trans rfl
                      have hcz115_10 : wc.cell? ⟨gb442, 10, none⟩ = some (.int .u64 a0_10) := (blk_cell BK442.out 10).trans rfl
                      have hcz115_11 : wc.cell? ⟨gb442, 11, none⟩ = some (.int .u64 a0_11) := (blk_cell BK442.out 11).trans rfl
                      have hcz115_12 : wc.cell? ⟨gb442, 12, none⟩ = some (.int .u64 a0_12) := (blk_cell BK442.out 12).trans rfl
                      have hfz115_0 := blk_frozen BK442.out 0
                      have hfz115_1 := blk_frozen BK442.out 1
                      have hfz115_2 := blk_frozen BK442.out 2
                      have hfz115_3 := blk_frozen BK442.out 3
                      have hfz115_4 := blk_frozen BK442.out 4
                      have hfz115_5 := blk_frozen BK442.out 5
                      have hfz115_6 := blk_frozen BK442.out 6
                      have hfz115_7 := blk_frozen BK442.out 7
                      have hfz115_8 := blk_frozen BK442.out 8
                      have hfz115_9 := blk_frozen BK442.out 9
                      have hfz115_10 := blk_frozen BK442.out 10
                      have hfz115_11 := blk_frozen BK442.out 11
                      have hfz115_12 := blk_frozen BK442.out 12
                      go_upto_region 13 with (first | ((with_reducible refine gate_callee (f := 26) rfl ?_); refine gm (some 98) Try.func26 #[.agg #[.int .i64 a0_0, .int .u64 a0_1, .int .u64 a0_2, .int .u64 a0_3, .int .u64 a0_4], .agg #[.int .u64 a0_5, .int .u64 a0_6, .int .u64 a0_7], .agg #[.int .u64 a0_8, .int .u64 a0_9, .int .u64 a0_10]] (policy_Max.calls a0_0 a0_1 a0_2 a0_3 a0_4 a0_5 a0_6 a0_7 a0_8 a0_9 a0_10 t462 t463 t464 _ A110.out) ?_; intro w116 hb; have n0_ := bb BK442 hb; have n1_ := bb BK444 hb; have n2_ := bb BK450 hb; have n3_ := bb BK456 hb; have n4_ := bs HB hb; clear BK442; clear BK444; clear BK450; clear BK456; clear HB; have BK442 := n0_; have BK444 := n1_; have BK450 := n2_; have BK456 := n3_; have HB := n4_; clear n0_ n1_ n2_ n3_ n4_; (try clear hb); (try clear hb2); (try clear hk); (try clear hi)) | ((with_reducible refine gate_dst (N := 14) rfl ?_); refine bx 14 #[.int .u64 0, .int .u64 0, .int .u64 0] 29 ?_; intro gb465 hg w117 hbox hb; have n0_ := bb BK442 hb; have n1_ := bb BK444 hb; have n2_ := bb BK450 hb; have n3_ := bb BK456 hb; have n4_ := bs HB hb; have n5_ := Aside0.mk (hbox); have n6_ := sz HB hg; have n7_ := sz HB hg; have n8_ := nl BK442 hg; have n9_ := nr BK442 hg; have n10_ := nl BK444 hg; have n11_ := nr BK444 hg; have n12_ := nl BK450 hg; have n13_ := nr BK450 hg; have n14_ := nl BK456 hg; have n15_ := nr BK456 hg; clear BK442; clear BK444; clear BK450; clear BK456; clear HB; have BK442 := n0_; have BK444 := n1_; have BK450 := n2_; have BK456 := n3_; have HB := n4_; have BK465 := n5_; have GW465 := n6_; have GE465 := n7_; have NB442_465 := n8_; have NB465_442 := n9_; have NB444_465 := n10_; have NB465_444 := n11_; have NB450_465 := n12_; have NB465_450 := n13_; have NB456_465 := n14_; have NB465_456 := n15_; clear n0_ n1_ n2_ n3_ n4_ n5_ n6_ n7_ n8_ n9_ n10_ n11_ n12_ n13_ n14_ n15_; clear hb hbox hg; have hnb118 := NB465_442.out; have hnc118 := NB442_465.out; have hnb119 := NB465_444.out; have hnc119 := NB444_465.out; have hnb120 := NB465_450.out; have hnc120 := NB450_465.out; have hnb121 := NB465_456.out; have hnc121 := NB456_465.out; obtain ⟨hcz122_0, hcz122_1, hcz122_2, hfz122_0, hfz122_1, hfz122_2⟩ := bc3 BK465))
                      (try simp only [Act.put, List.setIfInBounds_toArray, List.set_cons_zero, List.set_cons_succ])
                      go_cut [145] (fun v145 wc => ∃ (kq : Nat) (x145_110 : Bool), v145 = .bool x145_110 ∧ Aside0 (turnstilelaw06_PolicyForm.j4 kq x145_110 a0_0 a0_1 a0_2 a0_3 a0_4 a0_5 a0_6 a0_7 a0_8 a0_9 a0_10 a0_11 a0_12 x445000_15 x445001_15 x445002_15 = some r) ∧ Aside0 (kq ≤ kj23) ∧ Aside0 (wc.heap[gb442]? = some (.cells #[.int .i64 a0_0, .int .u64 a0_1, .int .u64 a0_2, .int .u64 a0_3, .int .u64 a0_4, .int .u64 a0_5, .int .u64 a0_6, .int .u64 a0_7, .int .u64 a0_8, .int .u64 a0_9, .int .u64 a0_10, .int .u64 a0_11, .int .u64 a0_12] 31 (0, 0))) ∧ Aside0 (wc.heap[gb444]? = some (.cells #[.int .u64 x445000_15, .int .u64 x445001_15, .int .u64 x445002_15] 29 (0, 0))) ∧ Aside0 (wc.heap[gb450]? = some (.cells #[.int .u64 t445, .int .u64 t446, .int .u64 t447] 29 (0, 0))) ∧ Aside0 (wc.heap[gb456]? = some (.cells #[.int .u64 t451, .int .u64 t452, .int .u64 t453] 29 (0, 0))) ∧ Aside0 (wc.heap[gb465]? = some (.cells #[.int .u64 t462, .int .u64 t463, .int .u64 t464] 29 (0, 0))) ∧ Aside0 (Below w.heap.size w wc))
                      case first =>
                        have H := HC111.out
                        clear HC111
                        by_cases c123 : (!(t445 == t451) || (!(t446 == t452) || (!(t447 == t453)))) = true
                        · rw [if_pos c123] at H
                          have c123b0 : (!(t445 == t451) || (!(t446 == t452) || (!(t447 == t453)))) = true := c123
                          clear c123
                          (first | rw [c123b0] | (simp only [i64_w, i32_w]; rw [c123b0]) | skip)
                          have H' := Aside0.mk H
                          clear H
                          try go_wp2
                          have n0_ : Aside0 ((((w117.setCell ⟨gb465, 0, none⟩ (.int .u64 t462)).setCell ⟨gb465, 1, none⟩ (.int .u64 t463)).setCell ⟨gb465, 2, none⟩ (.int .u64 t464)).heap[gb442]? = some (.cells #[.int .i64 a0_0, .int .u64 a0_1, .int .u64 a0_2, .int .u64 a0_3, .int .u64 a0_4, .int .u64 a0_5, .int .u64 a0_6, .int .u64 a0_7, .int .u64 a0_8, .int .u64 a0_9, .int .u64 a0_10, .int .u64 a0_11, .int .u64 a0_12] 31 (0, 0))) := ⟨bk BK442⟩
                          have n1_ : Aside0 ((((w117.setCell ⟨gb465, 0, none⟩ (.int .u64 t462)).setCell ⟨gb465, 1, none⟩ (.int .u64 t463)).setCell ⟨gb465, 2, none⟩ (.int .u64 t464)).heap[gb444]? = some (.cells #[.int .u64 x445000_15, .int .u64 x445001_15, .int .u64 x445002_15] 29 (0, 0))) := ⟨bk BK444⟩
                          have n2_ : Aside0 ((((w117.setCell ⟨gb465, 0, none⟩ (.int .u64 t462)).setCell ⟨gb465, 1, none⟩ (.int .u64 t463)).setCell ⟨gb465, 2, none⟩ (.int .u64 t464)).heap[gb450]? = some (.cells #[.int .u64 t445, .int .u64 t446, .int .u64 t447] 29 (0, 0))) := ⟨bk BK450⟩
                          have n3_ : Aside0 ((((w117.setCell ⟨gb465, 0, none⟩ (.int .u64 t462)).setCell ⟨gb465, 1, none⟩ (.int .u64 t463)).setCell ⟨gb465, 2, none⟩ (.int .u64 t464)).heap[gb456]? = some (.cells #[.int .u64 t451, .int .u64 t452, .int .u64 t453] 29 (0, 0))) := ⟨bk BK456⟩
                          have n4_ : Aside0 ((((w117.setCell ⟨gb465, 0, none⟩ (.int .u64 t462)).setCell ⟨gb465, 1, none⟩ (.int .u64 t463)).setCell ⟨gb465, 2, none⟩ (.int .u64 t464)).heap[gb465]? = some (.cells #[.int .u64 t462, .int .u64 t463, .int .u64 t464] 29 (0, 0))) := ⟨bk BK465⟩
                          have n5_ : Aside0 (Below w.heap.size w (((w117.setCell ⟨gb465, 0, none⟩ (.int .u64 t462)).setCell ⟨gb465, 1, none⟩ (.int .u64 t463)).setCell ⟨gb465, 2, none⟩ (.int .u64 t464))) := ⟨bw HB⟩
                          (try clear BK442)
                          (try clear BK444)
                          (try clear BK450)
                          (try clear BK456)
                          (try clear BK465)
                          (try clear HB)
                          generalize (((w117.setCell ⟨gb465, 0, none⟩ (.int .u64 t462)).setCell ⟨gb465, 1, none⟩ (.int .u64 t463)).setCell ⟨gb465, 2, none⟩ (.int .u64 t464)) = w124 at n0_ n1_ n2_ n3_ n4_ n5_ ⊢
                          have BK442 := n0_
                          have BK444 := n1_
                          have BK450 := n2_
                          have BK456 := n3_
                          have BK465 := n4_
                          have HB := n5_
                          clear n0_ n1_ n2_ n3_ n4_ n5_
                          have n0_ := Aside0.mk (blk_drew BK442.out)
                          have n1_ := Aside0.mk (blk_drew BK444.out)
                          have n2_ := Aside0.mk (blk_drew BK450.out)
                          have n3_ := Aside0.mk (blk_drew BK456.out)
                          have n4_ := Aside0.mk (blk_drew BK465.out)
                          have n5_ := Aside0.mk (below_drew1 HB.out)
                          clear BK442
                          clear BK444
                          clear BK450
                          clear BK456
                          clear BK465
                          clear HB
                          have BK442 := n0_
                          have BK444 := n1_
                          have BK450 := n2_
                          have BK456 := n3_
                          have BK465 := n4_
                          have HB := n5_
                          clear n0_ n1_ n2_ n3_ n4_ n5_
                          refine start_ (n := 47) (S := fun w' => w'.cell? ⟨gb450, 0, none⟩ = some (.int .u64 t445) ∧ w'.cell? ⟨gb450, 1, none⟩ = some (.int .u64 t446) ∧ w'.cell? ⟨gb450, 2, none⟩ = some (.int .u64 t447) ∧ w'.cell? ⟨gb456, 0, none⟩ = some (.int .u64 t451) ∧ w'.cell? ⟨gb456, 1, none⟩ = some (.int .u64 t452) ∧ w'.cell? ⟨gb456, 2, none⟩ = some (.int .u64 t453)) (ds := []) #[false, false, false, false, false, false, false, false, false, false, false, false, false, false, false, false, false, false, false, false, false, false, false, false, false, false, false, false, false, false, false, false, false, false, false, false, false, false, false, false, false, false, false, false, false, false, false] (by kernel_rfl) rfl rfl ⟨(blk_cell BK450.out 0).trans rfl, (blk_cell BK450.out 1).trans rfl, (blk_cell BK450.out 2).trans rfl, (blk_cell BK456.out 0).trans rfl, (blk_cell BK456.out 1).trans rfl, (blk_cell BK456.out 2).trans rfl⟩ (fun hHeld => ?_); refine with_tabW turnstilelaw06_PolicyForm.tab13 turnstilelaw06_PolicyForm.bits13 (fun HT_ HW_ => ?_)
                          generalize w124.drew = w125 at BK442 BK444 BK450 BK456 BK465 HB hHeld ⊢
                          refine chain_ (fuel := 0) [(0, 1, some 99), (1, 1, some 100), (2, 0, some 101), (3, 0, some 102), (4, 2, some 103), (5, 2, some 104), (6, 2, some 105), (7, 0, some 106), (8, 0, some 107), (9, 2, some 108), (10, 2, some 109), (11, 2, some 110), (12, 0, some 111), (13, 0, some 112), (14, 2, some 113), (15, 2, some 114), (16, 2, some 115), (17, 2, some 116), (18, 2, some 117), (19, 0, some 118), (20, 0, some 119), (21, 2, some 120), (22, 2, some 121), (23, 2, some 122), (24, 2, some 123), (25, 2, some 124), (26, 0, some 125), (27, 0, some 126), (28, 2, some 127), (29, 2, some 128), (30, 2, some 129), (31, 2, some 130), (32, 2, some 131), (33, 2, some 132), (34, 2, some 133), (35, 2, some 134), (36, 0, some 135), (37, 0, some 136), (38, 2, some 137), (39, 2, some 138), (40, 2, some 139), (41, 2, some 140), (42, 2, some 141), (43, 2, some 142), (44, 2, some 143), (45, 2, some 144), (46, 0, some 145)] #[true, true, true, true, true, true, true, true, true, true, true, true, true, true, true, true, true, true, true, true, true, true, true, true, true, true, true, true, true, true, true, true, true, true, true, true, true, true, true, true, true, true, true, true, true, true, true] HT_.out HW_.out (by kernel_rfl) (fun _ _ _ _ _ h => h) (Or.inr hHeld) rfl ?_
                          (iterate 2 refine lkT ?_); (iterate 2 refine lkP ?_); (iterate 3 refine lkO ?_); (iterate 2 refine lkP ?_); (iterate 3 refine lkO ?_); (iterate 2 refine lkP ?_); (iterate 5 refine lkO ?_); (iterate 2 refine lkP ?_); (iterate 5 refine lkO ?_); (iterate 2 refine lkP ?_); (iterate 8 refine lkO ?_); (iterate 2 refine lkP ?_); (iterate 8 refine lkO ?_); refine lkP ?_; refine .nil ?_
                          refine done_ (done_of HT_.out (by kernel_rfl)) ?_
                          try go_wp2
                          go_meet
                          case rel => exact ⟨_, (true), rs, H', ⟨by have := HJ3.out; have := HJ8.out; have := HJ15.out; have := HJ23.out; first | omega | exact Nat.le_refl _⟩, ⟨bk BK442⟩, ⟨bk BK444⟩, ⟨bk BK450⟩, ⟨bk BK456⟩, ⟨bk BK465⟩, ⟨bw HB⟩⟩
                        · rw [if_neg c123] at H
                          have c123b0 : (!(t445 == t451) || (!(t446 == t452) || (!(t447 == t453)))) = false := by simpa using c123
                          clear c123
                          (first | rw [c123b0] | (simp only [i64_w, i32_w]; rw [c123b0]) | skip)
                          by_cases c126 : (t448 != t454) = true
                          · rw [if_pos c126] at H
                            have c126b0 : (t448 != t454) = true := c126
                            (try (have c126b1 : decide (t448 = t454) = false := by simpa using c126))
                            (try (have c126b2 : (t448 == t454) = false := by simpa using c126))
                            (try (have c126b3 : ¬ (t448 = t454) := by simpa using c126))
                            clear c126
                            have H' := Aside0.mk H
                            clear H
                            try go_wp2
                            have n0_ : Aside0 ((((w117.setCell ⟨gb465, 0, none⟩ (.int .u64 t462)).setCell ⟨gb465, 1, none⟩ (.int .u64 t463)).setCell ⟨gb465, 2, none⟩ (.int .u64 t464)).heap[gb442]? = some (.cells #[.int .i64 a0_0, .int .u64 a0_1, .int .u64 a0_2, .int .u64 a0_3, .int .u64 a0_4, .int .u64 a0_5, .int .u64 a0_6, .int .u64 a0_7, .int .u64 a0_8, .int .u64 a0_9, .int .u64 a0_10, .int .u64 a0_11, .int .u64 a0_12] 31 (0, 0))) := ⟨bk BK442⟩
                            have n1_ : Aside0 ((((w117.setCell ⟨gb465, 0, none⟩ (.int .u64 t462)).setCell ⟨gb465, 1, none⟩ (.int .u64 t463)).setCell ⟨gb465, 2, none⟩ (.int .u64 t464)).heap[gb444]? = some (.cells #[.int .u64 x445000_15, .int .u64 x445001_15, .int .u64 x445002_15] 29 (0, 0))) := ⟨bk BK444⟩
                            have n2_ : Aside0 ((((w117.setCell ⟨gb465, 0, none⟩ (.int .u64 t462)).setCell ⟨gb465, 1, none⟩ (.int .u64 t463)).setCell ⟨gb465, 2, none⟩ (.int .u64 t464)).heap[gb450]? = some (.cells #[.int .u64 t445, .int .u64 t446, .int .u64 t447] 29 (0, 0))) := ⟨bk BK450⟩
                            have n3_ : Aside0 ((((w117.setCell ⟨gb465, 0, none⟩ (.int .u64 t462)).setCell ⟨gb465, 1, none⟩ (.int .u64 t463)).setCell ⟨gb465, 2, none⟩ (.int .u64 t464)).heap[gb456]? = some (.cells #[.int .u64 t451, .int .u64 t452, .int .u64 t453] 29 (0, 0))) := ⟨bk BK456⟩
                            have n4_ : Aside0 ((((w117.setCell ⟨gb465, 0, none⟩ (.int .u64 t462)).setCell ⟨gb465, 1, none⟩ (.int .u64 t463)).setCell ⟨gb465, 2, none⟩ (.int .u64 t464)).heap[gb465]? = some (.cells #[.int .u64 t462, .int .u64 t463, .int .u64 t464] 29 (0, 0))) := ⟨bk BK465⟩
                            have n5_ : Aside0 (Below w.heap.size w (((w117.setCell ⟨gb465, 0, none⟩ (.int .u64 t462)).setCell ⟨gb465, 1, none⟩ (.int .u64 t463)).setCell ⟨gb465, 2, none⟩ (.int .u64 t464))) := ⟨bw HB⟩
                            (try clear BK442)
                            (try clear BK444)
                            (try clear BK450)
                            (try clear BK456)
                            (try clear BK465)
                            (try clear HB)
                            generalize (((w117.setCell ⟨gb465, 0, none⟩ (.int .u64 t462)).setCell ⟨gb465, 1, none⟩ (.int .u64 t463)).setCell ⟨gb465, 2, none⟩ (.int .u64 t464)) = w127 at n0_ n1_ n2_ n3_ n4_ n5_ ⊢
                            have BK442 := n0_
                            have BK444 := n1_
                            have BK450 := n2_
                            have BK456 := n3_
                            have BK465 := n4_
                            have HB := n5_
                            clear n0_ n1_ n2_ n3_ n4_ n5_
                            have n0_ := Aside0.mk (blk_drew BK442.out)
                            have n1_ := Aside0.mk (blk_drew BK444.out)
                            have n2_ := Aside0.mk (blk_drew BK450.out)
                            have n3_ := Aside0.mk (blk_drew BK456.out)
                            have n4_ := Aside0.mk (blk_drew BK465.out)
                            have n5_ := Aside0.mk (below_drew1 HB.out)
                            clear BK442
                            clear BK444
                            clear BK450
                            clear BK456
                            clear BK465
                            clear HB
                            have BK442 := n0_
                            have BK444 := n1_
                            have BK450 := n2_
                            have BK456 := n3_
                            have BK465 := n4_
                            have HB := n5_
                            clear n0_ n1_ n2_ n3_ n4_ n5_
                            refine start_ (n := 47) (S := fun w' => w'.cell? ⟨gb450, 0, none⟩ = some (.int .u64 t445) ∧ w'.cell? ⟨gb450, 1, none⟩ = some (.int .u64 t446) ∧ w'.cell? ⟨gb450, 2, none⟩ = some (.int .u64 t447) ∧ w'.cell? ⟨gb456, 0, none⟩ = some (.int .u64 t451) ∧ w'.cell? ⟨gb456, 1, none⟩ = some (.int .u64 t452) ∧ w'.cell? ⟨gb456, 2, none⟩ = some (.int .u64 t453)) (ds := []) #[false, false, false, false, false, false, false, false, false, false, false, false, false, false, false, false, false, false, false, false, false, false, false, false, false, false, false, false, false, false, false, false, false, false, false, false, false, false, false, false, false, false, false, false, false, false, false] (by kernel_rfl) rfl rfl ⟨(blk_cell BK450.out 0).trans rfl, (blk_cell BK450.out 1).trans rfl, (blk_cell BK450.out 2).trans rfl, (blk_cell BK456.out 0).trans rfl, (blk_cell BK456.out 1).trans rfl, (blk_cell BK456.out 2).trans rfl⟩ (fun hHeld => ?_); refine with_tabW turnstilelaw06_PolicyForm.tab13 turnstilelaw06_PolicyForm.bits13 (fun HT_ HW_ => ?_)
                            generalize w127.drew = w128 at BK442 BK444 BK450 BK456 BK465 HB hHeld ⊢
                            refine chain_ (fuel := 0) [(0, 1, some 99), (1, 1, some 100), (2, 0, some 101), (3, 0, some 102), (4, 0, some 103), (5, 0, some 104), (6, 0, some 105), (7, 0, some 106), (8, 0, some 107), (9, 2, some 108), (10, 2, some 109), (11, 2, some 110), (12, 0, some 111), (13, 0, some 112), (14, 2, some 113), (15, 2, some 114), (16, 2, some 115), (17, 2, some 116), (18, 2, some 117), (19, 0, some 118), (20, 0, some 119), (21, 2, some 120), (22, 2, some 121), (23, 2, some 122), (24, 2, some 123), (25, 2, some 124), (26, 0, some 125), (27, 0, some 126), (28, 2, some 127), (29, 2, some 128), (30, 2, some 129), (31, 2, some 130), (32, 2, some 131), (33, 2, some 132), (34, 2, some 133), (35, 2, some 134), (36, 0, some 135), (37, 0, some 136), (38, 2, some 137), (39, 2, some 138), (40, 2, some 139), (41, 2, some 140), (42, 2, some 141), (43, 2, some 142), (44, 2, some 143), (45, 2, some 144), (46, 0, some 145)] #[true, true, true, true, true, true, true, true, true, true, true, true, true, true, true, true, true, true, true, true, true, true, true, true, true, true, true, true, true, true, true, true, true, true, true, true, true, true, true, true, true, true, true, true, true, true, true] HT_.out HW_.out (by kernel_rfl) (fun _ _ _ _ _ h => h) (Or.inr hHeld) rfl ?_
                            (iterate 2 refine lkT ?_); (iterate 7 refine lkP ?_); (iterate 3 refine lkO ?_); (iterate 2 refine lkP ?_); (iterate 5 refine lkO ?_); (iterate 2 refine lkP ?_); (iterate 5 refine lkO ?_); (iterate 2 refine lkP ?_); (iterate 8 refine lkO ?_); (iterate 2 refine lkP ?_); (iterate 8 refine lkO ?_); refine lkP ?_; refine .nil ?_
                            refine done_ (done_of HT_.out (by kernel_rfl)) ?_
                            try go_wp2
                            go_meet
                            case rel => exact ⟨_, (true), rs, H', ⟨by have := HJ3.out; have := HJ8.out; have := HJ15.out; have := HJ23.out; first | omega | exact Nat.le_refl _⟩, ⟨bk BK442⟩, ⟨bk BK444⟩, ⟨bk BK450⟩, ⟨bk BK456⟩, ⟨bk BK465⟩, ⟨bw HB⟩⟩
                          · rw [if_neg c126] at H
                            have c126b0 : (t448 != t454) = false := by simpa using c126
                            (try (have c126b1 : decide (t448 = t454) = true := by simpa using c126))
                            (try (have c126b2 : (t448 == t454) = true := by simpa using c126))
                            clear c126
                            by_cases c129 : t449 = t455
                            · rw [if_pos c129] at H
                              have c129b0 : (t449 == t455) = true := beq_iff_eq.mpr c129
                              have c129b1 : (t449 != t455) = false := bne_eq_false_iff_eq.mpr c129
                              clear c129
                              (try (have hd130 := c123b0; rw [c129b0] at hd130; (first | rw [Bool.true_and] at hd130 | rw [Bool.and_true] at hd130 | (rw [Bool.not_true] at hd130; rw [Bool.false_or] at hd130) | skip)))
                              replace H := Option.bind_eq_some_iff.mp H
                              obtain ⟨t466, A1310, H⟩ := H
                              replace H : (if t466 = true then ((policy_Fits.f a0_0 a0_1 a0_2 a0_3 a0_4 t462 t463 t464).bind fun t467 => (if t467 = true then ((policy_Max.f a0_0 a0_1 a0_2 a0_3 a0_4 x445000_15 x445001_15 x445002_15 a0_8 a0_9 a0_10).bind fun bt468 => (if (!(t462 == bt468.1) || (!(t463 == bt468.2.1) || (!(t464 == bt468.2.2)))) = true then (turnstilelaw06_PolicyForm.j4 kj23 true a0_0 a0_1 a0_2 a0_3 a0_4 a0_5 a0_6 a0_7 a0_8 a0_9 a0_10 a0_11 a0_12 x445000_15 x445001_15 x445002_15) else ((policy_Max.f a0_0 a0_1 a0_2 a0_3 a0_4 a0_8 a0_9 a0_10 x445000_15 x445001_15 x445002_15).bind fun bt471 => (turnstilelaw06_PolicyForm.j4 kj23 (!(t462 == bt471.1) || (!(t463 == bt471.2.1) || (!(t464 == bt471.2.2)))) a0_0 a0_1 a0_2 a0_3 a0_4 a0_5 a0_6 a0_7 a0_8 a0_9 a0_10 a0_11 a0_12 x445000_15 x445001_15 x445002_15)))) else (turnstilelaw06_PolicyForm.j4 kj23 true a0_0 a0_1 a0_2 a0_3 a0_4 a0_5 a0_6 a0_7 a0_8 a0_9 a0_10 a0_11 a0_12 x445000_15 x445001_15 x445002_15))) else (turnstilelaw06_PolicyForm.j4 kj23 true a0_0 a0_1 a0_2 a0_3 a0_4 a0_5 a0_6 a0_7 a0_8 a0_9 a0_10 a0_11 a0_12 x445000_15 x445001_15 x445002_15)) = some r := H
                              have A131 := Aside0.mk A1310
                              clear A1310
                              by_cases c132 : t466 = true
                              · subst c132
                                have H1 : ((policy_Fits.f a0_0 a0_1 a0_2 a0_3 a0_4 t462 t463 t464).bind fun t467 => (if t467 = true then ((policy_Max.f a0_0 a0_1 a0_2 a0_3 a0_4 x445000_15 x445001_15 x445002_15 a0_8 a0_9 a0_10).bind fun bt468 => (if (!(t462 == bt468.1) || (!(t463 == bt468.2.1) || (!(t464 == bt468.2.2)))) = true then (turnstilelaw06_PolicyForm.j4 kj23 true a0_0 a0_1 a0_2 a0_3 a0_4 a0_5 a0_6 a0_7 a0_8 a0_9 a0_10 a0_11 a0_12 x445000_15 x445001_15 x445002_15) else ((policy_Max.f a0_0 a0_1 a0_2 a0_3 a0_4 a0_8 a0_9 a0_10 x445000_15 x445001_15 x445002_15).bind fun bt471 => (turnstilelaw06_PolicyForm.j4 kj23 (!(t462 == bt471.1) || (!(t463 == bt471.2.1) || (!(t464 == bt471.2.2)))) a0_0 a0_1 a0_2 a0_3 a0_4 a0_5 a0_6 a0_7 a0_8 a0_9 a0_10 a0_11 a0_12 x445000_15 x445001_15 x445002_15)))) else (turnstilelaw06_PolicyForm.j4 kj23 true a0_0 a0_1 a0_2 a0_3 a0_4 a0_5 a0_6 a0_7 a0_8 a0_9 a0_10 a0_11 a0_12 x445000_15 x445001_15 x445002_15))) = some r := by rw [if_pos rfl] at H; exact H
                                clear H
                                have H := H1
                                clear H1
                                replace H := Option.bind_eq_some_iff.mp H
                                obtain ⟨t467, A1330, H⟩ := H
                                replace H : (if t467 = true then ((policy_Max.f a0_0 a0_1 a0_2 a0_3 a0_4 x445000_15 x445001_15 x445002_15 a0_8 a0_9 a0_10).bind fun bt468 => (if (!(t462 == bt468.1) || (!(t463 == bt468.2.1) || (!(t464 == bt468.2.2)))) = true then (turnstilelaw06_PolicyForm.j4 kj23 true a0_0 a0_1 a0_2 a0_3 a0_4 a0_5 a0_6 a0_7 a0_8 a0_9 a0_10 a0_11 a0_12 x445000_15 x445001_15 x445002_15) else ((policy_Max.f a0_0 a0_1 a0_2 a0_3 a0_4 a0_8 a0_9 a0_10 x445000_15 x445001_15 x445002_15).bind fun bt471 => (turnstilelaw06_PolicyForm.j4 kj23 (!(t462 == bt471.1) || (!(t463 == bt471.2.1) || (!(t464 == bt471.2.2)))) a0_0 a0_1 a0_2 a0_3 a0_4 a0_5 a0_6 a0_7 a0_8 a0_9 a0_10 a0_11 a0_12 x445000_15 x445001_15 x445002_15)))) else (turnstilelaw06_PolicyForm.j4 kj23 true a0_0 a0_1 a0_2 a0_3 a0_4 a0_5 a0_6 a0_7 a0_8 a0_9 a0_10 a0_11 a0_12 x445000_15 x445001_15 x445002_15)) = some r := H
                                have A133 := Aside0.mk A1330
                                clear A1330
                                by_cases c134 : t467 = true
                                · subst c134
                                  have H1 : ((policy_Max.f a0_0 a0_1 a0_2 a0_3 a0_4 x445000_15 x445001_15 x445002_15 a0_8 a0_9 a0_10).bind fun bt468 => (if (!(t462 == bt468.1) || (!(t463 == bt468.2.1) || (!(t464 == bt468.2.2)))) = true then (turnstilelaw06_PolicyForm.j4 kj23 true a0_0 a0_1 a0_2 a0_3 a0_4 a0_5 a0_6 a0_7 a0_8 a0_9 a0_10 a0_11 a0_12 x445000_15 x445001_15 x445002_15) else ((policy_Max.f a0_0 a0_1 a0_2 a0_3 a0_4 a0_8 a0_9 a0_10 x445000_15 x445001_15 x445002_15).bind fun bt471 => (turnstilelaw06_PolicyForm.j4 kj23 (!(t462 == bt471.1) || (!(t463 == bt471.2.1) || (!(t464 == bt471.2.2)))) a0_0 a0_1 a0_2 a0_3 a0_4 a0_5 a0_6 a0_7 a0_8 a0_9 a0_10 a0_11 a0_12 x445000_15 x445001_15 x445002_15)))) = some r := by rw [if_pos rfl] at H; exact H
                                  clear H
                                  have H := H1
                                  clear H1
                                  replace H := Option.bind_eq_some_iff.mp H
                                  obtain ⟨⟨t468, t469, t470⟩, A1350, H⟩ := H
                                  replace H : (if (!(t462 == t468) || (!(t463 == t469) || (!(t464 == t470)))) = true then (turnstilelaw06_PolicyForm.j4 kj23 true a0_0 a0_1 a0_2 a0_3 a0_4 a0_5 a0_6 a0_7 a0_8 a0_9 a0_10 a0_11 a0_12 x445000_15 x445001_15 x445002_15) else ((policy_Max.f a0_0 a0_1 a0_2 a0_3 a0_4 a0_8 a0_9 a0_10 x445000_15 x445001_15 x445002_15).bind fun bt471 => (turnstilelaw06_PolicyForm.j4 kj23 (!(t462 == bt471.1) || (!(t463 == bt471.2.1) || (!(t464 == bt471.2.2)))) a0_0 a0_1 a0_2 a0_3 a0_4 a0_5 a0_6 a0_7 a0_8 a0_9 a0_10 a0_11 a0_12 x445000_15 x445001_15 x445002_15))) = some r := H
                                  have A135 := Aside0.mk A1350
                                  clear A1350
                                  by_cases c136 : (!(t462 == t468) || (!(t463 == t469) || (!(t464 == t470)))) = true
                                  · rw [if_pos c136] at H
                                    have c136b0 : (!(t462 == t468) || (!(t463 == t469) || (!(t464 == t470)))) = true := c136
                                    clear c136
                                    have H' := Aside0.mk H
                                    clear H
                                    try go_wp2
                                    have n0_ : Aside0 ((((w117.setCell ⟨gb465, 0, none⟩ (.int .u64 t462)).setCell ⟨gb465, 1, none⟩ (.int .u64 t463)).setCell ⟨gb465, 2, none⟩ (.int .u64 t464)).heap[gb442]? = some (.cells #[.int .i64 a0_0, .int .u64 a0_1, .int .u64 a0_2, .int .u64 a0_3, .int .u64 a0_4, .int .u64 a0_5, .int .u64 a0_6, .int .u64 a0_7, .int .u64 a0_8, .int .u64 a0_9, .int .u64 a0_10, .int .u64 a0_11, .int .u64 a0_12] 31 (0, 0))) := ⟨bk BK442⟩
                                    have n1_ : Aside0 ((((w117.setCell ⟨gb465, 0, none⟩ (.int .u64 t462)).setCell ⟨gb465, 1, none⟩ (.int .u64 t463)).setCell ⟨gb465, 2, none⟩ (.int .u64 t464)).heap[gb444]? = some (.cells #[.int .u64 x445000_15, .int .u64 x445001_15, .int .u64 x445002_15] 29 (0, 0))) := ⟨bk BK444⟩
                                    have n2_ : Aside0 ((((w117.setCell ⟨gb465, 0, none⟩ (.int .u64 t462)).setCell ⟨gb465, 1, none⟩ (.int .u64 t463)).setCell ⟨gb465, 2, none⟩ (.int .u64 t464)).heap[gb450]? = some (.cells #[.int .u64 t445, .int .u64 t446, .int .u64 t447] 29 (0, 0))) := ⟨bk BK450⟩
                                    have n3_ : Aside0 ((((w117.setCell ⟨gb465, 0, none⟩ (.int .u64 t462)).setCell ⟨gb465, 1, none⟩ (.int .u64 t463)).setCell ⟨gb465, 2, none⟩ (.int .u64 t464)).heap[gb456]? = some (.cells #[.int .u64 t451, .int .u64 t452, .int .u64 t453] 29 (0, 0))) := ⟨bk BK456⟩
                                    have n4_ : Aside0 ((((w117.setCell ⟨gb465, 0, none⟩ (.int .u64 t462)).setCell ⟨gb465, 1, none⟩ (.int .u64 t463)).setCell ⟨gb465, 2, none⟩ (.int .u64 t464)).heap[gb465]? = some (.cells #[.int .u64 t462, .int .u64 t463, .int .u64 t464] 29 (0, 0))) := ⟨bk BK465⟩
                                    have n5_ : Aside0 (Below w.heap.size w (((w117.setCell ⟨gb465, 0, none⟩ (.int .u64 t462)).setCell ⟨gb465, 1, none⟩ (.int .u64 t463)).setCell ⟨gb465, 2, none⟩ (.int .u64 t464))) := ⟨bw HB⟩
                                    (try clear BK442)
                                    (try clear BK444)
                                    (try clear BK450)
                                    (try clear BK456)
                                    (try clear BK465)
                                    (try clear HB)
                                    generalize (((w117.setCell ⟨gb465, 0, none⟩ (.int .u64 t462)).setCell ⟨gb465, 1, none⟩ (.int .u64 t463)).setCell ⟨gb465, 2, none⟩ (.int .u64 t464)) = w137 at n0_ n1_ n2_ n3_ n4_ n5_ ⊢
                                    have BK442 := n0_
                                    have BK444 := n1_
                                    have BK450 := n2_
                                    have BK456 := n3_
                                    have BK465 := n4_
                                    have HB := n5_
                                    clear n0_ n1_ n2_ n3_ n4_ n5_
                                    have n0_ := Aside0.mk (blk_drew BK442.out)
                                    have n1_ := Aside0.mk (blk_drew BK444.out)
                                    have n2_ := Aside0.mk (blk_drew BK450.out)
                                    have n3_ := Aside0.mk (blk_drew BK456.out)
                                    have n4_ := Aside0.mk (blk_drew BK465.out)
                                    have n5_ := Aside0.mk (below_drew1 HB.out)
                                    clear BK442
                                    clear BK444
                                    clear BK450
                                    clear BK456
                                    clear BK465
                                    clear HB
                                    have BK442 := n0_
                                    have BK444 := n1_
                                    have BK450 := n2_
                                    have BK456 := n3_
                                    have BK465 := n4_
                                    have HB := n5_
                                    clear n0_ n1_ n2_ n3_ n4_ n5_
                                    refine start_ (n := 47) (S := fun w' => w'.cell? ⟨gb450, 0, none⟩ = some (.int .u64 t445) ∧ w'.cell? ⟨gb450, 1, none⟩ = some (.int .u64 t446) ∧ w'.cell? ⟨gb450, 2, none⟩ = some (.int .u64 t447) ∧ w'.cell? ⟨gb456, 0, none⟩ = some (.int .u64 t451) ∧ w'.cell? ⟨gb456, 1, none⟩ = some (.int .u64 t452) ∧ w'.cell? ⟨gb456, 2, none⟩ = some (.int .u64 t453) ∧ w'.cell? ⟨gb442, 0, none⟩ = some (.int .i64 a0_0) ∧ w'.cell? ⟨gb442, 1, none⟩ = some (.int .u64 a0_1) ∧ w'.cell? ⟨gb442, 2, none⟩ = some (.int .u64 a0_2) ∧ w'.cell? ⟨gb442, 3, none⟩ = some (.int .u64 a0_3) ∧ w'.cell? ⟨gb442, 4, none⟩ = some (.int .u64 a0_4) ∧ w'.cell? ⟨gb442, 5, none⟩ = some (.int .u64 a0_5) ∧ w'.cell? ⟨gb442, 6, none⟩ = some (.int .u64 a0_6) ∧ w'.cell? ⟨gb442, 7, none⟩ = some (.int .u64 a0_7) ∧ w'.cell? ⟨gb442, 8, none⟩ = some (.int .u64 a0_8) ∧ w'.cell? ⟨gb442, 9, none⟩ = some (.int .u64 a0_9) ∧ w'.cell? ⟨gb442, 10, none⟩ = some (.int .u64 a0_10) ∧ w'.cell? ⟨gb442, 11, none⟩ = some (.int .u64 a0_11) ∧ w'.cell? ⟨gb442, 12, none⟩ = some (.int .u64 a0_12) ∧ w'.cell? ⟨gb465, 0, none⟩ = some (.int .u64 t462) ∧ w'.cell? ⟨gb465, 1, none⟩ = some (.int .u64 t463) ∧ w'.cell? ⟨gb465, 2, none⟩ = some (.int .u64 t464) ∧ w'.cell? ⟨gb444, 0, none⟩ = some (.int .u64 x445000_15) ∧ w'.cell? ⟨gb444, 1, none⟩ = some (.int .u64 x445001_15) ∧ w'.cell? ⟨gb444, 2, none⟩ = some (.int .u64 x445002_15)) (ds := []) #[false, false, false, false, false, false, false, false, false, false, false, false, false, false, false, false, false, false, false, false, false, false, false, false, false, false, false, false, false, false, false, false, false, false, false, false, false, false, false, false, false, false, false, false, false, false, false] (by kernel_rfl) rfl rfl ⟨(blk_cell BK450.out 0).trans rfl, (blk_cell BK450.out 1).trans rfl, (blk_cell BK450.out 2).trans rfl, (blk_cell BK456.out 0).trans rfl, (blk_cell BK456.out 1).trans rfl, (blk_cell BK456.out 2).trans rfl, (blk_cell BK442.out 0).trans rfl, (blk_cell BK442.out 1).trans rfl, (blk_cell BK442.out 2).trans rfl, (blk_cell BK442.out 3).trans rfl, (blk_cell BK442.out 4).trans rfl, (blk_cell BK442.out 5).trans rfl, (blk_cell BK442.out 6).trans rfl, (blk_cell BK442.out 7).trans rfl, (blk_cell BK442.out 8).trans rfl, (blk_cell BK442.out 9).trans rfl, (blk_cell BK442.out 10).trans rfl, (blk_cell BK442.out 11).trans rfl, (blk_cell BK442.out 12).trans rfl, (blk_cell BK465.out 0).trans rfl, (blk_cell BK465.out 1).trans rfl, (blk_cell BK465.out 2).trans rfl, (blk_cell BK444.out 0).trans rfl, (blk_cell BK444.out 1).trans rfl, (blk_cell BK444.out 2).trans rfl⟩ (fun hHeld => ?_); refine with_tabW turnstilelaw06_PolicyForm.tab13 turnstilelaw06_PolicyForm.bits13 (fun HT_ HW_ => ?_)
                                    generalize w137.drew = w138 at BK442 BK444 BK450 BK456 BK465 HB hHeld ⊢
                                    refine chain_ (fuel := 30) [(0, 1, some 99), (1, 1, some 100), (2, 0, some 101), (3, 0, some 102), (4, 0, some 103), (5, 0, some 104), (6, 0, some 105), (7, 0, some 106), (8, 0, some 107), (9, 0, some 108), (10, 0, some 109), (11, 0, some 110), (12, 0, some 111), (13, 0, some 112), (14, 0, some 113), (15, 1, some 114), (16, 1, some 115)] #[true, true, true, true, true, true, true, true, true, true, true, true, true, true, true, true, true, false, false, false, false, false, false, false, false, false, false, false, false, false, false, false, false, false, false, false, false, false, false, false, false, false, false, false, false, false, false] HT_.out HW_.out (by kernel_rfl) (fun _ _ _ _ _ h => h) (Or.inr hHeld) rfl ?_
                                    (iterate 2 refine lkT ?_); (iterate 13 refine lkP ?_); (iterate 2 refine lkT ?_); refine .nil ?_
                                    refine one_ (i := 17) (N := some 116) #[true, true, true, true, true, true, true, true, true, true, true, true, true, true, true, true, true, true, false, false, false, false, false, false, false, false, false, false, false, false, false, false, false, false, false, false, false, false, false, false, false, false, false, false, false, false, false] rfl rfl (one_of HT_.out (by kernel_rfl)) (by decide) (fun K hK => ?_)
                                    refine ge Try.func25 #[.agg #[.int .i64 a0_0, .int .u64 a0_1, .int .u64 a0_2, .int .u64 a0_3, .int .u64 a0_4], .agg #[.int .u64 t445, .int .u64 t446, .int .u64 t447]] ?_
                                    with_reducible refine (policy_Fits.calls a0_0 a0_1 a0_2 a0_3 a0_4 t445 t446 t447 true _ A131.out).mono ?_
                                    rintro e w139 ⟨rfl, hb⟩
                                    refine ⟨_, rfl, ?_⟩
                                    have n0_ := bb BK442 hb
                                    have n1_ := bb BK444 hb
                                    have n2_ := bb BK450 hb
                                    have n3_ := bb BK456 hb
                                    have n4_ := bb BK465 hb
                                    have n5_ := bs HB hb
                                    clear BK442
                                    clear BK444
                                    clear BK450
                                    clear BK456
                                    clear BK465
                                    clear HB
                                    have BK442 := n0_
                                    have BK444 := n1_
                                    have BK450 := n2_
                                    have BK456 := n3_
                                    have BK465 := n4_
                                    have HB := n5_
                                    clear n0_ n1_ n2_ n3_ n4_ n5_
                                    (try clear hb)
                                    (try clear hb2)
                                    (try clear hk)
                                    (try clear hi)
                                    refine hK.out _ _ ⟨(blk_cell BK450.out 0).trans rfl, (blk_cell BK450.out 1).trans rfl, (blk_cell BK450.out 2).trans rfl, (blk_cell BK456.out 0).trans rfl, (blk_cell BK456.out 1).trans rfl, (blk_cell BK456.out 2).trans rfl, (blk_cell BK442.out 0).trans rfl, (blk_cell BK442.out 1).trans rfl, (blk_cell BK442.out 2).trans rfl, (blk_cell BK442.out 3).trans rfl, (blk_cell BK442.out 4).trans rfl, (blk_cell BK442.out 5).trans rfl, (blk_cell BK442.out 6).trans rfl, (blk_cell BK442.out 7).trans rfl, (blk_cell BK442.out 8).trans rfl, (blk_cell BK442.out 9).trans rfl, (blk_cell BK442.out 10).trans rfl, (blk_cell BK442.out 11).trans rfl, (blk_cell BK442.out 12).trans rfl, (blk_cell BK465.out 0).trans rfl, (blk_cell BK465.out 1).trans rfl, (blk_cell BK465.out 2).trans rfl, (blk_cell BK444.out 0).trans rfl, (blk_cell BK444.out 1).trans rfl, (blk_cell BK444.out 2).trans rfl⟩ (fun hHeld => ?_)
                                    clear hK K
                                    refine norm_ (a' := ?_) ?_ ?_
                                    rotate_left
                                    · show Act.put _ (some 116) _ = _
                                      simp only [Act.put, List.setIfInBounds_toArray, List.set_cons_zero, List.set_cons_succ, i64_w, i32_w]
                                      rfl
                                    refine chain_ (fuel := 23) [(18, 0, some 117), (19, 0, some 118), (20, 0, some 119), (21, 0, some 120), (22, 1, some 121), (23, 1, some 122)] #[true, true, true, true, true, true, true, true, true, true, true, true, true, true, true, true, true, true, true, true, true, true, true, true, false, false, false, false, false, false, false, false, false, false, false, false, false, false, false, false, false, false, false, false, false, false, false] HT_.out HW_.out (by kernel_rfl) (fun _ _ _ _ _ h => h) (Or.inr hHeld) rfl ?_
                                    (iterate 4 refine lkP ?_); (iterate 2 refine lkT ?_); refine .nil ?_
                                    refine one_ (i := 24) (N := some 123) #[true, true, true, true, true, true, true, true, true, true, true, true, true, true, true, true, true, true, true, true, true, true, true, true, true, false, false, false, false, false, false, false, false, false, false, false, false, false, false, false, false, false, false, false, false, false, false] rfl rfl (one_of HT_.out (by kernel_rfl)) (by decide) (fun K hK => ?_)
                                    refine ge Try.func25 #[.agg #[.int .i64 a0_0, .int .u64 a0_1, .int .u64 a0_2, .int .u64 a0_3, .int .u64 a0_4], .agg #[.int .u64 t462, .int .u64 t463, .int .u64 t464]] ?_
                                    with_reducible refine (policy_Fits.calls a0_0 a0_1 a0_2 a0_3 a0_4 t462 t463 t464 true _ A133.out).mono ?_
                                    rintro e w140 ⟨rfl, hb⟩
                                    refine ⟨_, rfl, ?_⟩
                                    have n0_ := bb BK442 hb
                                    have n1_ := bb BK444 hb
                                    have n2_ := bb BK450 hb
                                    have n3_ := bb BK456 hb
                                    have n4_ := bb BK465 hb
                                    have n5_ := bs HB hb
                                    clear BK442
                                    clear BK444
                                    clear BK450
                                    clear BK456
                                    clear BK465
                                    clear HB
                                    have BK442 := n0_
                                    have BK444 := n1_
                                    have BK450 := n2_
                                    have BK456 := n3_
                                    have BK465 := n4_
                                    have HB := n5_
                                    clear n0_ n1_ n2_ n3_ n4_ n5_
                                    (try clear hb)
                                    (try clear hb2)
                                    (try clear hk)
                                    (try clear hi)
                                    refine hK.out _ _ ⟨(blk_cell BK450.out 0).trans rfl, (blk_cell BK450.out 1).trans rfl, (blk_cell BK450.out 2).trans rfl, (blk_cell BK456.out 0).trans rfl, (blk_cell BK456.out 1).trans rfl, (blk_cell BK456.out 2).trans rfl, (blk_cell BK442.out 0).trans rfl, (blk_cell BK442.out 1).trans rfl, (blk_cell BK442.out 2).trans rfl, (blk_cell BK442.out 3).trans rfl, (blk_cell BK442.out 4).trans rfl, (blk_cell BK442.out 5).trans rfl, (blk_cell BK442.out 6).trans rfl, (blk_cell BK442.out 7).trans rfl, (blk_cell BK442.out 8).trans rfl, (blk_cell BK442.out 9).trans rfl, (blk_cell BK442.out 10).trans rfl, (blk_cell BK442.out 11).trans rfl, (blk_cell BK442.out 12).trans rfl, (blk_cell BK465.out 0).trans rfl, (blk_cell BK465.out 1).trans rfl, (blk_cell BK465.out 2).trans rfl, (blk_cell BK444.out 0).trans rfl, (blk_cell BK444.out 1).trans rfl, (blk_cell BK444.out 2).trans rfl⟩ (fun hHeld => ?_)
                                    clear hK K
                                    refine norm_ (a' := ?_) ?_ ?_
                                    rotate_left
                                    · show Act.put _ (some 123) _ = _
                                      simp only [Act.put, List.setIfInBounds_toArray, List.set_cons_zero, List.set_cons_succ, i64_w, i32_w]
                                      rfl
                                    refine chain_ (fuel := 13) [(25, 0, some 124), (26, 0, some 125), (27, 0, some 126), (29, 0, some 128), (32, 0, some 131), (28, 1, some 127), (30, 1, some 129), (31, 1, some 130), (33, 1, some 132)] #[true, true, true, true, true, true, true, true, true, true, true, true, true, true, true, true, true, true, true, true, true, true, true, true, true, true, true, true, true, true, true, true, true, true, false, false, false, false, false, false, false, false, false, false, false, false, false] HT_.out HW_.out (by kernel_rfl) (fun _ _ _ _ _ h => h) (Or.inr hHeld) rfl ?_
                                    (iterate 5 refine lkP ?_); (iterate 4 refine lkT ?_); refine .nil ?_
                                    refine one_ (i := 34) (N := some 133) #[true, true, true, true, true, true, true, true, true, true, true, true, true, true, true, true, true, true, true, true, true, true, true, true, true, true, true, true, true, true, true, true, true, true, true, false, false, false, false, false, false, false, false, false, false, false, false] rfl rfl (one_of HT_.out (by kernel_rfl)) (by decide) (fun K hK => ?_)
                                    refine ge Try.func26 #[.agg #[.int .i64 a0_0, .int .u64 a0_1, .int .u64 a0_2, .int .u64 a0_3, .int .u64 a0_4], .agg #[.int .u64 x445000_15, .int .u64 x445001_15, .int .u64 x445002_15], .agg #[.int .u64 a0_8, .int .u64 a0_9, .int .u64 a0_10]] ?_
                                    with_reducible refine (policy_Max.calls a0_0 a0_1 a0_2 a0_3 a0_4 x445000_15 x445001_15 x445002_15 a0_8 a0_9 a0_10 t468 t469 t470 _ A135.out).mono ?_
                                    rintro e w141 ⟨rfl, hb⟩
                                    refine ⟨_, rfl, ?_⟩
                                    have n0_ := bb BK442 hb
                                    have n1_ := bb BK444 hb
                                    have n2_ := bb BK450 hb
                                    have n3_ := bb BK456 hb
                                    have n4_ := bb BK465 hb
                                    have n5_ := bs HB hb
                                    clear BK442
                                    clear BK444
                                    clear BK450
                                    clear BK456
                                    clear BK465
                                    clear HB
                                    have BK442 := n0_
                                    have BK444 := n1_
                                    have BK450 := n2_
                                    have BK456 := n3_
                                    have BK465 := n4_
                                    have HB := n5_
                                    clear n0_ n1_ n2_ n3_ n4_ n5_
                                    (try clear hb)
                                    (try clear hb2)
                                    (try clear hk)
                                    (try clear hi)
                                    refine hK.out _ _ ⟨(blk_cell BK450.out 0).trans rfl, (blk_cell BK450.out 1).trans rfl, (blk_cell BK450.out 2).trans rfl, (blk_cell BK456.out 0).trans rfl, (blk_cell BK456.out 1).trans rfl, (blk_cell BK456.out 2).trans rfl, (blk_cell BK442.out 0).trans rfl, (blk_cell BK442.out 1).trans rfl, (blk_cell BK442.out 2).trans rfl, (blk_cell BK442.out 3).trans rfl, (blk_cell BK442.out 4).trans rfl, (blk_cell BK442.out 5).trans rfl, (blk_cell BK442.out 6).trans rfl, (blk_cell BK442.out 7).trans rfl, (blk_cell BK442.out 8).trans rfl, (blk_cell BK442.out 9).trans rfl, (blk_cell BK442.out 10).trans rfl, (blk_cell BK442.out 11).trans rfl, (blk_cell BK442.out 12).trans rfl, (blk_cell BK465.out 0).trans rfl, (blk_cell BK465.out 1).trans rfl, (blk_cell BK465.out 2).trans rfl, (blk_cell BK444.out 0).trans rfl, (blk_cell BK444.out 1).trans rfl, (blk_cell BK444.out 2).trans rfl⟩ (fun hHeld => ?_)
                                    clear hK K
                                    refine norm_ (a' := ?_) ?_ ?_
                                    rotate_left
                                    · show Act.put _ (some 133) _ = _
                                      simp only [Act.put, List.setIfInBounds_toArray, List.set_cons_zero, List.set_cons_succ, i64_w, i32_w]
                                      rfl
                                    refine chain_ (fuel := 0) [(35, 0, some 134), (36, 0, some 135), (37, 0, some 136), (38, 2, some 137), (39, 2, some 138), (40, 2, some 139), (41, 2, some 140), (42, 2, some 141), (43, 2, some 142), (44, 2, some 143), (45, 2, some 144), (46, 0, some 145)] #[true, true, true, true, true, true, true, true, true, true, true, true, true, true, true, true, true, true, true, true, true, true, true, true, true, true, true, true, true, true, true, true, true, true, true, true, true, true, true, true, true, true, true, true, true, true, true] HT_.out HW_.out (by kernel_rfl) (fun _ _ _ _ _ h => h) (Or.inl (by decide)) rfl ?_
                                    (iterate 3 refine lkP ?_); (iterate 8 refine lkO ?_); refine lkP ?_; refine .nil ?_
                                    refine done_ (done_of HT_.out (by kernel_rfl)) ?_
                                    try go_wp2
                                    go_meet
                                    case rel => exact ⟨_, (true), rs, H', ⟨by have := HJ3.out; have := HJ8.out; have := HJ15.out; have := HJ23.out; first | omega | exact Nat.le_refl _⟩, ⟨bk BK442⟩, ⟨bk BK444⟩, ⟨bk BK450⟩, ⟨bk BK456⟩, ⟨bk BK465⟩, ⟨bw HB⟩⟩
                                  · rw [if_neg c136] at H
                                    have c136b0 : (!(t462 == t468) || (!(t463 == t469) || (!(t464 == t470)))) = false := by simpa using c136
                                    clear c136
                                    replace H := Option.bind_eq_some_iff.mp H
                                    obtain ⟨⟨t471, t472, t473⟩, A1420, H⟩ := H
                                    replace H : (turnstilelaw06_PolicyForm.j4 kj23 (!(t462 == t471) || (!(t463 == t472) || (!(t464 == t473)))) a0_0 a0_1 a0_2 a0_3 a0_4 a0_5 a0_6 a0_7 a0_8 a0_9 a0_10 a0_11 a0_12 x445000_15 x445001_15 x445002_15) = some r := H
                                    have A142 := Aside0.mk A1420
                                    clear A1420
                                    have H' := Aside0.mk H
                                    clear H
                                    try go_wp2
                                    have n0_ : Aside0 ((((w117.setCell ⟨gb465, 0, none⟩ (.int .u64 t462)).setCell ⟨gb465, 1, none⟩ (.int .u64 t463)).setCell ⟨gb465, 2, none⟩ (.int .u64 t464)).heap[gb442]? = some (.cells #[.int .i64 a0_0, .int .u64 a0_1, .int .u64 a0_2, .int .u64 a0_3, .int .u64 a0_4, .int .u64 a0_5, .int .u64 a0_6, .int .u64 a0_7, .int .u64 a0_8, .int .u64 a0_9, .int .u64 a0_10, .int .u64 a0_11, .int .u64 a0_12] 31 (0, 0))) := ⟨bk BK442⟩
                                    have n1_ : Aside0 ((((w117.setCell ⟨gb465, 0, none⟩ (.int .u64 t462)).setCell ⟨gb465, 1, none⟩ (.int .u64 t463)).setCell ⟨gb465, 2, none⟩ (.int .u64 t464)).heap[gb444]? = some (.cells #[.int .u64 x445000_15, .int .u64 x445001_15, .int .u64 x445002_15] 29 (0, 0))) := ⟨bk BK444⟩
                                    have n2_ : Aside0 ((((w117.setCell ⟨gb465, 0, none⟩ (.int .u64 t462)).setCell ⟨gb465, 1, none⟩ (.int .u64 t463)).setCell ⟨gb465, 2, none⟩ (.int .u64 t464)).heap[gb450]? = some (.cells #[.int .u64 t445, .int .u64 t446, .int .u64 t447] 29 (0, 0))) := ⟨bk BK450⟩
                                    have n3_ : Aside0 ((((w117.setCell ⟨gb465, 0, none⟩ (.int .u64 t462)).setCell ⟨gb465, 1, none⟩ (.int .u64 t463)).setCell ⟨gb465, 2, none⟩ (.int .u64 t464)).heap[gb456]? = some (.cells #[.int .u64 t451, .int .u64 t452, .int .u64 t453] 29 (0, 0))) := ⟨bk BK456⟩
                                    have n4_ : Aside0 ((((w117.setCell ⟨gb465, 0, none⟩ (.int .u64 t462)).setCell ⟨gb465, 1, none⟩ (.int .u64 t463)).setCell ⟨gb465, 2, none⟩ (.int .u64 t464)).heap[gb465]? = some (.cells #[.int .u64 t462, .int .u64 t463, .int .u64 t464] 29 (0, 0))) := ⟨bk BK465⟩
                                    have n5_ : Aside0 (Below w.heap.size w (((w117.setCell ⟨gb465, 0, none⟩ (.int .u64 t462)).setCell ⟨gb465, 1, none⟩ (.int .u64 t463)).setCell ⟨gb465, 2, none⟩ (.int .u64 t464))) := ⟨bw HB⟩
                                    (try clear BK442)
                                    (try clear BK444)
                                    (try clear BK450)
                                    (try clear BK456)
                                    (try clear BK465)
                                    (try clear HB)
                                    generalize (((w117.setCell ⟨gb465, 0, none⟩ (.int .u64 t462)).setCell ⟨gb465, 1, none⟩ (.int .u64 t463)).setCell ⟨gb465, 2, none⟩ (.int .u64 t464)) = w143 at n0_ n1_ n2_ n3_ n4_ n5_ ⊢
                                    have BK442 := n0_
                                    have BK444 := n1_
                                    have BK450 := n2_
                                    have BK456 := n3_
                                    have BK465 := n4_
                                    have HB := n5_
                                    clear n0_ n1_ n2_ n3_ n4_ n5_
                                    have n0_ := Aside0.mk (blk_drew BK442.out)
                                    have n1_ := Aside0.mk (blk_drew BK444.out)
                                    have n2_ := Aside0.mk (blk_drew BK450.out)
                                    have n3_ := Aside0.mk (blk_drew BK456.out)
                                    have n4_ := Aside0.mk (blk_drew BK465.out)
                                    have n5_ := Aside0.mk (below_drew1 HB.out)
                                    clear BK442
                                    clear BK444
                                    clear BK450
                                    clear BK456
                                    clear BK465
                                    clear HB
                                    have BK442 := n0_
                                    have BK444 := n1_
                                    have BK450 := n2_
                                    have BK456 := n3_
                                    have BK465 := n4_
                                    have HB := n5_
                                    clear n0_ n1_ n2_ n3_ n4_ n5_
                                    refine start_ (n := 47) (S := fun w' => w'.cell? ⟨gb450, 0, none⟩ = some (.int .u64 t445) ∧ w'.cell? ⟨gb450, 1, none⟩ = some (.int .u64 t446) ∧ w'.cell? ⟨gb450, 2, none⟩ = some (.int .u64 t447) ∧ w'.cell? ⟨gb456, 0, none⟩ = some (.int .u64 t451) ∧ w'.cell? ⟨gb456, 1, none⟩ = some (.int .u64 t452) ∧ w'.cell? ⟨gb456, 2, none⟩ = some (.int .u64 t453) ∧ w'.cell? ⟨gb442, 0, none⟩ = some (.int .i64 a0_0) ∧ w'.cell? ⟨gb442, 1, none⟩ = some (.int .u64 a0_1) ∧ w'.cell? ⟨gb442, 2, none⟩ = some (.int .u64 a0_2) ∧ w'.cell? ⟨gb442, 3, none⟩ = some (.int .u64 a0_3) ∧ w'.cell? ⟨gb442, 4, none⟩ = some (.int .u64 a0_4) ∧ w'.cell? ⟨gb442, 5, none⟩ = some (.int .u64 a0_5) ∧ w'.cell? ⟨gb442, 6, none⟩ = some (.int .u64 a0_6) ∧ w'.cell? ⟨gb442, 7, none⟩ = some (.int .u64 a0_7) ∧ w'.cell? ⟨gb442, 8, none⟩ = some (.int .u64 a0_8) ∧ w'.cell? ⟨gb442, 9, none⟩ = some (.int .u64 a0_9) ∧ w'.cell? ⟨gb442, 10, none⟩ = some (.int .u64 a0_10) ∧ w'.cell? ⟨gb442, 11, none⟩ = some (.int .u64 a0_11) ∧ w'.cell? ⟨gb442, 12, none⟩ = some (.int .u64 a0_12) ∧ w'.cell? ⟨gb465, 0, none⟩ = some (.int .u64 t462) ∧ w'.cell? ⟨gb465, 1, none⟩ = some (.int .u64 t463) ∧ w'.cell? ⟨gb465, 2, none⟩ = some (.int .u64 t464) ∧ w'.cell? ⟨gb444, 0, none⟩ = some (.int .u64 x445000_15) ∧ w'.cell? ⟨gb444, 1, none⟩ = some (.int .u64 x445001_15) ∧ w'.cell? ⟨gb444, 2, none⟩ = some (.int .u64 x445002_15)) (ds := []) #[false, false, false, false, false, false, false, false, false, false, false, false, false, false, false, false, false, false, false, false, false, false, false, false, false, false, false, false, false, false, false, false, false, false, false, false, false, false, false, false, false, false, false, false, false, false, false] (by kernel_rfl) rfl rfl ⟨(blk_cell BK450.out 0).trans rfl, (blk_cell BK450.out 1).trans rfl, (blk_cell BK450.out 2).trans rfl, (blk_cell BK456.out 0).trans rfl, (blk_cell BK456.out 1).trans rfl, (blk_cell BK456.out 2).trans rfl, (blk_cell BK442.out 0).trans rfl, (blk_cell BK442.out 1).trans rfl, (blk_cell BK442.out 2).trans rfl, (blk_cell BK442.out 3).trans rfl, (blk_cell BK442.out 4).trans rfl, (blk_cell BK442.out 5).trans rfl, (blk_cell BK442.out 6).trans rfl, (blk_cell BK442.out 7).trans rfl, (blk_cell BK442.out 8).trans rfl, (blk_cell BK442.out 9).trans rfl, (blk_cell BK442.out 10).trans rfl, (blk_cell BK442.out 11).trans rfl, (blk_cell BK442.out 12).trans rfl, (blk_cell BK465.out 0).trans rfl, (blk_cell BK465.out 1).trans rfl, (blk_cell BK465.out 2).trans rfl, (blk_cell BK444.out 0).trans rfl, (blk_cell BK444.out 1).trans rfl, (blk_cell BK444.out 2).trans rfl⟩ (fun hHeld => ?_); refine with_tabW turnstilelaw06_PolicyForm.tab13 turnstilelaw06_PolicyForm.bits13 (fun HT_ HW_ => ?_)
                                    generalize w143.drew = w144 at BK442 BK444 BK450 BK456 BK465 HB hHeld ⊢
                                    refine chain_ (fuel := 30) [(0, 1, some 99), (1, 1, some 100), (2, 0, some 101), (3, 0, some 102), (4, 0, some 103), (5, 0, some 104), (6, 0, some 105), (7, 0, some 106), (8, 0, some 107), (9, 0, some 108), (10, 0, some 109), (11, 0, some 110), (12, 0, some 111), (13, 0, some 112), (14, 0, some 113), (15, 1, some 114), (16, 1, some 115)] #[true, true, true, true, true, true, true, true, true, true, true, true, true, true, true, true, true, false, false, false, false, false, false, false, false, false, false, false, false, false, false, false, false, false, false, false, false, false, false, false, false, false, false, false, false, false, false] HT_.out HW_.out (by kernel_rfl) (fun _ _ _ _ _ h => h) (Or.inr hHeld) rfl ?_
                                    (iterate 2 refine lkT ?_); (iterate 13 refine lkP ?_); (iterate 2 refine lkT ?_); refine .nil ?_
                                    refine one_ (i := 17) (N := some 116) #[true, true, true, true, true, true, true, true, true, true, true, true, true, true, true, true, true, true, false, false, false, false, false, false, false, false, false, false, false, false, false, false, false, false, false, false, false, false, false, false, false, false, false, false, false, false, false] rfl rfl (one_of HT_.out (by kernel_rfl)) (by decide) (fun K hK => ?_)
                                    refine ge Try.func25 #[.agg #[.int .i64 a0_0, .int .u64 a0_1, .int .u64 a0_2, .int .u64 a0_3, .int .u64 a0_4], .agg #[.int .u64 t445, .int .u64 t446, .int .u64 t447]] ?_
                                    with_reducible refine (policy_Fits.calls a0_0 a0_1 a0_2 a0_3 a0_4 t445 t446 t447 true _ A131.out).mono ?_
                                    rintro e w145 ⟨rfl, hb⟩
                                    refine ⟨_, rfl, ?_⟩
                                    have n0_ := bb BK442 hb
                                    have n1_ := bb BK444 hb
                                    have n2_ := bb BK450 hb
                                    have n3_ := bb BK456 hb
                                    have n4_ := bb BK465 hb
                                    have n5_ := bs HB hb
                                    clear BK442
                                    clear BK444
                                    clear BK450
                                    clear BK456
                                    clear BK465
                                    clear HB
                                    have BK442 := n0_
                                    have BK444 := n1_
                                    have BK450 := n2_
                                    have BK456 := n3_
                                    have BK465 := n4_
                                    have HB := n5_
                                    clear n0_ n1_ n2_ n3_ n4_ n5_
                                    (try clear hb)
                                    (try clear hb2)
                                    (try clear hk)
                                    (try clear hi)
                                    refine hK.out _ _ ⟨(blk_cell BK450.out 0).trans rfl, (blk_cell BK450.out 1).trans rfl, (blk_cell BK450.out 2).trans rfl, (blk_cell BK456.out 0).trans rfl, (blk_cell BK456.out 1).trans rfl, (blk_cell BK456.out 2).trans rfl, (blk_cell BK442.out 0).trans rfl, (blk_cell BK442.out 1).trans rfl, (blk_cell BK442.out 2).trans rfl, (blk_cell BK442.out 3).trans rfl, (blk_cell BK442.out 4).trans rfl, (blk_cell BK442.out 5).trans rfl, (blk_cell BK442.out 6).trans rfl, (blk_cell BK442.out 7).trans rfl, (blk_cell BK442.out 8).trans rfl, (blk_cell BK442.out 9).trans rfl, (blk_cell BK442.out 10).trans rfl, (blk_cell BK442.out 11).trans rfl, (blk_cell BK442.out 12).trans rfl, (blk_cell BK465.out 0).trans rfl, (blk_cell BK465.out 1).trans rfl, (blk_cell BK465.out 2).trans rfl, (blk_cell BK444.out 0).trans rfl, (blk_cell BK444.out 1).trans rfl, (blk_cell BK444.out 2).trans rfl⟩ (fun hHeld => ?_)
                                    clear hK K
                                    refine norm_ (a' := ?_) ?_ ?_
                                    rotate_left
                                    · show Act.put _ (some 116) _ = _
                                      simp only [Act.put, List.setIfInBounds_toArray, List.set_cons_zero, List.set_cons_succ, i64_w, i32_w]
                                      rfl
                                    refine chain_ (fuel := 23) [(18, 0, some 117), (19, 0, some 118), (20, 0, some 119), (21, 0, some 120), (22, 1, some 121), (23, 1, some 122)] #[true, true, true, true, true, true, true, true, true, true, true, true, true, true, true, true, true, true, true, true, true, true, true, true, false, false, false, false, false, false, false, false, false, false, false, false, false, false, false, false, false, false, false, false, false, false, false] HT_.out HW_.out (by kernel_rfl) (fun _ _ _ _ _ h => h) (Or.inr hHeld) rfl ?_
                                    (iterate 4 refine lkP ?_); (iterate 2 refine lkT ?_); refine .nil ?_
                                    refine one_ (i := 24) (N := some 123) #[true, true, true, true, true, true, true, true, true, true, true, true, true, true, true, true, true, true, true, true, true, true, true, true, true, false, false, false, false, false, false, false, false, false, false, false, false, false, false, false, false, false, false, false, false, false, false] rfl rfl (one_of HT_.out (by kernel_rfl)) (by decide) (fun K hK => ?_)
                                    refine ge Try.func25 #[.agg #[.int .i64 a0_0, .int .u64 a0_1, .int .u64 a0_2, .int .u64 a0_3, .int .u64 a0_4], .agg #[.int .u64 t462, .int .u64 t463, .int .u64 t464]] ?_
                                    with_reducible refine (policy_Fits.calls a0_0 a0_1 a0_2 a0_3 a0_4 t462 t463 t464 true _ A133.out).mono ?_
                                    rintro e w146 ⟨rfl, hb⟩
                                    refine ⟨_, rfl, ?_⟩
                                    have n0_ := bb BK442 hb
                                    have n1_ := bb BK444 hb
                                    have n2_ := bb BK450 hb
                                    have n3_ := bb BK456 hb
                                    have n4_ := bb BK465 hb
                                    have n5_ := bs HB hb
                                    clear BK442
                                    clear BK444
                                    clear BK450
                                    clear BK456
                                    clear BK465
                                    clear HB
                                    have BK442 := n0_
                                    have BK444 := n1_
                                    have BK450 := n2_
                                    have BK456 := n3_
                                    have BK465 := n4_
                                    have HB := n5_
                                    clear n0_ n1_ n2_ n3_ n4_ n5_
                                    (try clear hb)
                                    (try clear hb2)
                                    (try clear hk)
                                    (try clear hi)
                                    refine hK.out _ _ ⟨(blk_cell BK450.out 0).trans rfl, (blk_cell BK450.out 1).trans rfl, (blk_cell BK450.out 2).trans rfl, (blk_cell BK456.out 0).trans rfl, (blk_cell BK456.out 1).trans rfl, (blk_cell BK456.out 2).trans rfl, (blk_cell BK442.out 0).trans rfl, (blk_cell BK442.out 1).trans rfl, (blk_cell BK442.out 2).trans rfl, (blk_cell BK442.out 3).trans rfl, (blk_cell BK442.out 4).trans rfl, (blk_cell BK442.out 5).trans rfl, (blk_cell BK442.out 6).trans rfl, (blk_cell BK442.out 7).trans rfl, (blk_cell BK442.out 8).trans rfl, (blk_cell BK442.out 9).trans rfl, (blk_cell BK442.out 10).trans rfl, (blk_cell BK442.out 11).trans rfl, (blk_cell BK442.out 12).trans rfl, (blk_cell BK465.out 0).trans rfl, (blk_cell BK465.out 1).trans rfl, (blk_cell BK465.out 2).trans rfl, (blk_cell BK444.out 0).trans rfl, (blk_cell BK444.out 1).trans rfl, (blk_cell BK444.out 2).trans rfl⟩ (fun hHeld => ?_)
                                    clear hK K
                                    refine norm_ (a' := ?_) ?_ ?_
                                    rotate_left
                                    · show Act.put _ (some 123) _ = _
                                      simp only [Act.put, List.setIfInBounds_toArray, List.set_cons_zero, List.set_cons_succ, i64_w, i32_w]
                                      rfl
                                    refine chain_ (fuel := 13) [(25, 0, some 124), (26, 0, some 125), (27, 0, some 126), (29, 0, some 128), (32, 0, some 131), (28, 1, some 127), (30, 1, some 129), (31, 1, some 130), (33, 1, some 132)] #[true, true, true, true, true, true, true, true, true, true, true, true, true, true, true, true, true, true, true, true, true, true, true, true, true, true, true, true, true, true, true, true, true, true, false, false, false, false, false, false, false, false, false, false, false, false, false] HT_.out HW_.out (by kernel_rfl) (fun _ _ _ _ _ h => h) (Or.inr hHeld) rfl ?_
                                    (iterate 5 refine lkP ?_); (iterate 4 refine lkT ?_); refine .nil ?_
                                    refine one_ (i := 34) (N := some 133) #[true, true, true, true, true, true, true, true, true, true, true, true, true, true, true, true, true, true, true, true, true, true, true, true, true, true, true, true, true, true, true, true, true, true, true, false, false, false, false, false, false, false, false, false, false, false, false] rfl rfl (one_of HT_.out (by kernel_rfl)) (by decide) (fun K hK => ?_)
                                    refine ge Try.func26 #[.agg #[.int .i64 a0_0, .int .u64 a0_1, .int .u64 a0_2, .int .u64 a0_3, .int .u64 a0_4], .agg #[.int .u64 x445000_15, .int .u64 x445001_15, .int .u64 x445002_15], .agg #[.int .u64 a0_8, .int .u64 a0_9, .int .u64 a0_10]] ?_
                                    with_reducible refine (policy_Max.calls a0_0 a0_1 a0_2 a0_3 a0_4 x445000_15 x445001_15 x445002_15 a0_8 a0_9 a0_10 t468 t469 t470 _ A135.out).mono ?_
                                    rintro e w147 ⟨rfl, hb⟩
                                    refine ⟨_, rfl, ?_⟩
                                    have n0_ := bb BK442 hb
                                    have n1_ := bb BK444 hb
                                    have n2_ := bb BK450 hb
                                    have n3_ := bb BK456 hb
                                    have n4_ := bb BK465 hb
                                    have n5_ := bs HB hb
                                    clear BK442
                                    clear BK444
                                    clear BK450
                                    clear BK456
                                    clear BK465
                                    clear HB
                                    have BK442 := n0_
                                    have BK444 := n1_
                                    have BK450 := n2_
                                    have BK456 := n3_
                                    have BK465 := n4_
                                    have HB := n5_
                                    clear n0_ n1_ n2_ n3_ n4_ n5_
                                    (try clear hb)
                                    (try clear hb2)
                                    (try clear hk)
                                    (try clear hi)
                                    refine hK.out _ _ ⟨(blk_cell BK450.out 0).trans rfl, (blk_cell BK450.out 1).trans rfl, (blk_cell BK450.out 2).trans rfl, (blk_cell BK456.out 0).trans rfl, (blk_cell BK456.out 1).trans rfl, (blk_cell BK456.out 2).trans rfl, (blk_cell BK442.out 0).trans rfl, (blk_cell BK442.out 1).trans rfl, (blk_cell BK442.out 2).trans rfl, (blk_cell BK442.out 3).trans rfl, (blk_cell BK442.out 4).trans rfl, (blk_cell BK442.out 5).trans rfl, (blk_cell BK442.out 6).trans rfl, (blk_cell BK442.out 7).trans rfl, (blk_cell BK442.out 8).trans rfl, (blk_cell BK442.out 9).trans rfl, (blk_cell BK442.out 10).trans rfl, (blk_cell BK442.out 11).trans rfl, (blk_cell BK442.out 12).trans rfl, (blk_cell BK465.out 0).trans rfl, (blk_cell BK465.out 1).trans rfl, (blk_cell BK465.out 2).trans rfl, (blk_cell BK444.out 0).trans rfl, (blk_cell BK444.out 1).trans rfl, (blk_cell BK444.out 2).trans rfl⟩ (fun hHeld => ?_)
                                    clear hK K
                                    refine norm_ (a' := ?_) ?_ ?_
                                    rotate_left
                                    · show Act.put _ (some 133) _ = _
                                      simp only [Act.put, List.setIfInBounds_toArray, List.set_cons_zero, List.set_cons_succ, i64_w, i32_w]
                                      rfl
                                    refine chain_ (fuel := 3) [(35, 0, some 134), (36, 0, some 135), (37, 0, some 136), (39, 0, some 138), (41, 0, some 140), (38, 1, some 137), (40, 1, some 139), (42, 1, some 141), (43, 1, some 142)] #[true, true, true, true, true, true, true, true, true, true, true, true, true, true, true, true, true, true, true, true, true, true, true, true, true, true, true, true, true, true, true, true, true, true, true, true, true, true, true, true, true, true, true, true, false, false, false] HT_.out HW_.out (by kernel_rfl) (fun _ _ _ _ _ h => h) (Or.inr hHeld) rfl ?_
                                    (iterate 5 refine lkP ?_); (iterate 4 refine lkT ?_); refine .nil ?_
                                    refine one_ (i := 44) (N := some 143) #[true, true, true, true, true, true, true, true, true, true, true, true, true, true, true, true, true, true, true, true, true, true, true, true, true, true, true, true, true, true, true, true, true, true, true, true, true, true, true, true, true, true, true, true, true, false, false] rfl rfl (one_of HT_.out (by kernel_rfl)) (by decide) (fun K hK => ?_)
                                    refine ge Try.func26 #[.agg #[.int .i64 a0_0, .int .u64 a0_1, .int .u64 a0_2, .int .u64 a0_3, .int .u64 a0_4], .agg #[.int .u64 a0_8, .int .u64 a0_9, .int .u64 a0_10], .agg #[.int .u64 x445000_15, .int .u64 x445001_15, .int .u64 x445002_15]] ?_
                                    with_reducible refine (policy_Max.calls a0_0 a0_1 a0_2 a0_3 a0_4 a0_8 a0_9 a0_10 x445000_15 x445001_15 x445002_15 t471 t472 t473 _ A142.out).mono ?_
                                    rintro e w148 ⟨rfl, hb⟩
                                    refine ⟨_, rfl, ?_⟩
                                    have n0_ := bb BK442 hb
                                    have n1_ := bb BK444 hb
                                    have n2_ := bb BK450 hb
                                    have n3_ := bb BK456 hb
                                    have n4_ := bb BK465 hb
                                    have n5_ := bs HB hb
                                    clear BK442
                                    clear BK444
                                    clear BK450
                                    clear BK456
                                    clear BK465
                                    clear HB
                                    have BK442 := n0_
                                    have BK444 := n1_
                                    have BK450 := n2_
                                    have BK456 := n3_
                                    have BK465 := n4_
                                    have HB := n5_
                                    clear n0_ n1_ n2_ n3_ n4_ n5_
                                    (try clear hb)
                                    (try clear hb2)
                                    (try clear hk)
                                    (try clear hi)
                                    refine hK.out _ _ ⟨(blk_cell BK450.out 0).trans rfl, (blk_cell BK450.out 1).trans rfl, (blk_cell BK450.out 2).trans rfl, (blk_cell BK456.out 0).trans rfl, (blk_cell BK456.out 1).trans rfl, (blk_cell BK456.out 2).trans rfl, (blk_cell BK442.out 0).trans rfl, (blk_cell BK442.out 1).trans rfl, (blk_cell BK442.out 2).trans rfl, (blk_cell BK442.out 3).trans rfl, (blk_cell BK442.out 4).trans rfl, (blk_cell BK442.out 5).trans rfl, (blk_cell BK442.out 6).trans rfl, (blk_cell BK442.out 7).trans rfl, (blk_cell BK442.out 8).trans rfl, (blk_cell BK442.out 9).trans rfl, (blk_cell BK442.out 10).trans rfl, (blk_cell BK442.out 11).trans rfl, (blk_cell BK442.out 12).trans rfl, (blk_cell BK465.out 0).trans rfl, (blk_cell BK465.out 1).trans rfl, (blk_cell BK465.out 2).trans rfl, (blk_cell BK444.out 0).trans rfl, (blk_cell BK444.out 1).trans rfl, (blk_cell BK444.out 2).trans rfl⟩ (fun hHeld => ?_)
                                    clear hK K
                                    refine norm_ (a' := ?_) ?_ ?_
                                    rotate_left
                                    · show Act.put _ (some 143) _ = _
                                      simp only [Act.put, List.setIfInBounds_toArray, List.set_cons_zero, List.set_cons_succ, i64_w, i32_w]
                                      rfl
                                    refine chain_ (fuel := 0) [(45, 0, some 144), (46, 0, some 145)] #[true, true, true, true, true, true, true, true, true, true, true, true, true, true, true, true, true, true, true, true, true, true, true, true, true, true, true, true, true, true, true, true, true, true, true, true, true, true, true, true, true, true, true, true, true, true, true] HT_.out HW_.out (by kernel_rfl) (fun _ _ _ _ _ h => h) (Or.inl (by decide)) rfl ?_
                                    (iterate 2 refine lkP ?_); refine .nil ?_
                                    refine done_ (done_of HT_.out (by kernel_rfl)) ?_
                                    try go_wp2
                                    go_meet
                                    case rel => exact ⟨_, ((!(t462 == t471) || (!(t463 == t472) || (!(t464 == t473))))), rs, H', ⟨by have := HJ3.out; have := HJ8.out; have := HJ15.out; have := HJ23.out; first | omega | exact Nat.le_refl _⟩, ⟨bk BK442⟩, ⟨bk BK444⟩, ⟨bk BK450⟩, ⟨bk BK456⟩, ⟨bk BK465⟩, ⟨bw HB⟩⟩
                                · replace c134 := Bool.eq_false_iff.mpr c134
                                  subst c134
                                  have H1 : (turnstilelaw06_PolicyForm.j4 kj23 true a0_0 a0_1 a0_2 a0_3 a0_4 a0_5 a0_6 a0_7 a0_8 a0_9 a0_10 a0_11 a0_12 x445000_15 x445001_15 x445002_15) = some r := by rw [if_neg (show ¬ (false = true) by decide)] at H; exact H
                                  clear H
                                  have H := H1
                                  clear H1
                                  have H' := Aside0.mk H
                                  clear H
                                  try go_wp2
                                  have n0_ : Aside0 ((((w117.setCell ⟨gb465, 0, none⟩ (.int .u64 t462)).setCell ⟨gb465, 1, none⟩ (.int .u64 t463)).setCell ⟨gb465, 2, none⟩ (.int .u64 t464)).heap[gb442]? = some (.cells #[.int .i64 a0_0, .int .u64 a0_1, .int .u64 a0_2, .int .u64 a0_3, .int .u64 a0_4, .int .u64 a0_5, .int .u64 a0_6, .int .u64 a0_7, .int .u64 a0_8, .int .u64 a0_9, .int .u64 a0_10, .int .u64 a0_11, .int .u64 a0_12] 31 (0, 0))) := ⟨bk BK442⟩
                                  have n1_ : Aside0 ((((w117.setCell ⟨gb465, 0, none⟩ (.int .u64 t462)).setCell ⟨gb465, 1, none⟩ (.int .u64 t463)).setCell ⟨gb465, 2, none⟩ (.int .u64 t464)).heap[gb444]? = some (.cells #[.int .u64 x445000_15, .int .u64 x445001_15, .int .u64 x445002_15] 29 (0, 0))) := ⟨bk BK444⟩
                                  have n2_ : Aside0 ((((w117.setCell ⟨gb465, 0, none⟩ (.int .u64 t462)).setCell ⟨gb465, 1, none⟩ (.int .u64 t463)).setCell ⟨gb465, 2, none⟩ (.int .u64 t464)).heap[gb450]? = some (.cells #[.int .u64 t445, .int .u64 t446, .int .u64 t447] 29 (0, 0))) := ⟨bk BK450⟩
                                  have n3_ : Aside0 ((((w117.setCell ⟨gb465, 0, none⟩ (.int .u64 t462)).setCell ⟨gb465, 1, none⟩ (.int .u64 t463)).setCell ⟨gb465, 2, none⟩ (.int .u64 t464)).heap[gb456]? = some (.cells #[.int .u64 t451, .int .u64 t452, .int .u64 t453] 29 (0, 0))) := ⟨bk BK456⟩
                                  have n4_ : Aside0 ((((w117.setCell ⟨gb465, 0, none⟩ (.int .u64 t462)).setCell ⟨gb465, 1, none⟩ (.int .u64 t463)).setCell ⟨gb465, 2, none⟩ (.int .u64 t464)).heap[gb465]? = some (.cells #[.int .u64 t462, .int .u64 t463, .int .u64 t464] 29 (0, 0))) := ⟨bk BK465⟩
                                  have n5_ : Aside0 (Below w.heap.size w (((w117.setCell ⟨gb465, 0, none⟩ (.int .u64 t462)).setCell ⟨gb465, 1, none⟩ (.int .u64 t463)).setCell ⟨gb465, 2, none⟩ (.int .u64 t464))) := ⟨bw HB⟩
                                  (try clear BK442)
                                  (try clear BK444)
                                  (try clear BK450)
                                  (try clear BK456)
                                  (try clear BK465)
                                  (try clear HB)
                                  generalize (((w117.setCell ⟨gb465, 0, none⟩ (.int .u64 t462)).setCell ⟨gb465, 1, none⟩ (.int .u64 t463)).setCell ⟨gb465, 2, none⟩ (.int .u64 t464)) = w149 at n0_ n1_ n2_ n3_ n4_ n5_ ⊢
                                  have BK442 := n0_
                                  have BK444 := n1_
                                  have BK450 := n2_
                                  have BK456 := n3_
                                  have BK465 := n4_
                                  have HB := n5_
                                  clear n0_ n1_ n2_ n3_ n4_ n5_
                                  have n0_ := Aside0.mk (blk_drew BK442.out)
                                  have n1_ := Aside0.mk (blk_drew BK444.out)
                                  have n2_ := Aside0.mk (blk_drew BK450.out)
                                  have n3_ := Aside0.mk (blk_drew BK456.out)
                                  have n4_ := Aside0.mk (blk_drew BK465.out)
                                  have n5_ := Aside0.mk (below_drew1 HB.out)
                                  clear BK442
                                  clear BK444
                                  clear BK450
                                  clear BK456
                                  clear BK465
                                  clear HB
                                  have BK442 := n0_
                                  have BK444 := n1_
                                  have BK450 := n2_
                                  have BK456 := n3_
                                  have BK465 := n4_
                                  have HB := n5_
                                  clear n0_ n1_ n2_ n3_ n4_ n5_
                                  refine start_ (n := 47) (S := fun w' => w'.cell? ⟨gb450, 0, none⟩ = some (.int .u64 t445) ∧ w'.cell? ⟨gb450, 1, none⟩ = some (.int .u64 t446) ∧ w'.cell? ⟨gb450, 2, none⟩ = some (.int .u64 t447) ∧ w'.cell? ⟨gb456, 0, none⟩ = some (.int .u64 t451) ∧ w'.cell? ⟨gb456, 1, none⟩ = some (.int .u64 t452) ∧ w'.cell? ⟨gb456, 2, none⟩ = some (.int .u64 t453) ∧ w'.cell? ⟨gb442, 0, none⟩ = some (.int .i64 a0_0) ∧ w'.cell? ⟨gb442, 1, none⟩ = some (.int .u64 a0_1) ∧ w'.cell? ⟨gb442, 2, none⟩ = some (.int .u64 a0_2) ∧ w'.cell? ⟨gb442, 3, none⟩ = some (.int .u64 a0_3) ∧ w'.cell? ⟨gb442, 4, none⟩ = some (.int .u64 a0_4) ∧ w'.cell? ⟨gb442, 5, none⟩ = some (.int .u64 a0_5) ∧ w'.cell? ⟨gb442, 6, none⟩ = some (.int .u64 a0_6) ∧ w'.cell? ⟨gb442, 7, none⟩ = some (.int .u64 a0_7) ∧ w'.cell? ⟨gb442, 8, none⟩ = some (.int .u64 a0_8) ∧ w'.cell? ⟨gb442, 9, none⟩ = some (.int .u64 a0_9) ∧ w'.cell? ⟨gb442, 10, none⟩ = some (.int .u64 a0_10) ∧ w'.cell? ⟨gb442, 11, none⟩ = some (.int .u64 a0_11) ∧ w'.cell? ⟨gb442, 12, none⟩ = some (.int .u64 a0_12) ∧ w'.cell? ⟨gb465, 0, none⟩ = some (.int .u64 t462) ∧ w'.cell? ⟨gb465, 1, none⟩ = some (.int .u64 t463) ∧ w'.cell? ⟨gb465, 2, none⟩ = some (.int .u64 t464)) (ds := []) #[false, false, false, false, false, false, false, false, false, false, false, false, false, false, false, false, false, false, false, false, false, false, false, false, false, false, false, false, false, false, false, false, false, false, false, false, false, false, false, false, false, false, false, false, false, false, false] (by kernel_rfl) rfl rfl ⟨(blk_cell BK450.out 0).trans rfl, (blk_cell BK450.out 1).trans rfl, (blk_cell BK450.out 2).trans rfl, (blk_cell BK456.out 0).trans rfl, (blk_cell BK456.out 1).trans rfl, (blk_cell BK456.out 2).trans rfl, (blk_cell BK442.out 0).trans rfl, (blk_cell BK442.out 1).trans rfl, (blk_cell BK442.out 2).trans rfl, (blk_cell BK442.out 3).trans rfl, (blk_cell BK442.out 4).trans rfl, (blk_cell BK442.out 5).trans rfl, (blk_cell BK442.out 6).trans rfl, (blk_cell BK442.out 7).trans rfl, (blk_cell BK442.out 8).trans rfl, (blk_cell BK442.out 9).trans rfl, (blk_cell BK442.out 10).trans rfl, (blk_cell BK442.out 11).trans rfl, (blk_cell BK442.out 12).trans rfl, (blk_cell BK465.out 0).trans rfl, (blk_cell BK465.out 1).trans rfl, (blk_cell BK465.out 2).trans rfl⟩ (fun hHeld => ?_); refine with_tabW turnstilelaw06_PolicyForm.tab13 turnstilelaw06_PolicyForm.bits13 (fun HT_ HW_ => ?_)
                                  generalize w149.drew = w150 at BK442 BK444 BK450 BK456 BK465 HB hHeld ⊢
                                  refine chain_ (fuel := 30) [(0, 1, some 99), (1, 1, some 100), (2, 0, some 101), (3, 0, some 102), (4, 0, some 103), (5, 0, some 104), (6, 0, some 105), (7, 0, some 106), (8, 0, some 107), (9, 0, some 108), (10, 0, some 109), (11, 0, some 110), (12, 0, some 111), (13, 0, some 112), (14, 0, some 113), (15, 1, some 114), (16, 1, some 115)] #[true, true, true, true, true, true, true, true, true, true, true, true, true, true, true, true, true, false, false, false, false, false, false, false, false, false, false, false, false, false, false, false, false, false, false, false, false, false, false, false, false, false, false, false, false, false, false] HT_.out HW_.out (by kernel_rfl) (fun _ _ _ _ _ h => h) (Or.inr hHeld) rfl ?_
                                  (iterate 2 refine lkT ?_); (iterate 13 refine lkP ?_); (iterate 2 refine lkT ?_); refine .nil ?_
                                  refine one_ (i := 17) (N := some 116) #[true, true, true, true, true, true, true, true, true, true, true, true, true, true, true, true, true, true, false, false, false, false, false, false, false, false, false, false, false, false, false, false, false, false, false, false, false, false, false, false, false, false, false, false, false, false, false] rfl rfl (one_of HT_.out (by kernel_rfl)) (by decide) (fun K hK => ?_)
                                  refine ge Try.func25 #[.agg #[.int .i64 a0_0, .int .u64 a0_1, .int .u64 a0_2, .int .u64 a0_3, .int .u64 a0_4], .agg #[.int .u64 t445, .int .u64 t446, .int .u64 t447]] ?_
                                  with_reducible refine (policy_Fits.calls a0_0 a0_1 a0_2 a0_3 a0_4 t445 t446 t447 true _ A131.out).mono ?_
                                  rintro e w151 ⟨rfl, hb⟩
                                  refine ⟨_, rfl, ?_⟩
                                  have n0_ := bb BK442 hb
                                  have n1_ := bb BK444 hb
                                  have n2_ := bb BK450 hb
                                  have n3_ := bb BK456 hb
                                  have n4_ := bb BK465 hb
                                  have n5_ := bs HB hb
                                  clear BK442
                                  clear BK444
                                  clear BK450
                                  clear BK456
                                  clear BK465
                                  clear HB
                                  have BK442 := n0_
                                  have BK444 := n1_
                                  have BK450 := n2_
                                  have BK456 := n3_
                                  have BK465 := n4_
                                  have HB := n5_
                                  clear n0_ n1_ n2_ n3_ n4_ n5_
                                  (try clear hb)
                                  (try clear hb2)
                                  (try clear hk)
                                  (try clear hi)
                                  refine hK.out _ _ ⟨(blk_cell BK450.out 0).trans rfl, (blk_cell BK450.out 1).trans rfl, (blk_cell BK450.out 2).trans rfl, (blk_cell BK456.out 0).trans rfl, (blk_cell BK456.out 1).trans rfl, (blk_cell BK456.out 2).trans rfl, (blk_cell BK442.out 0).trans rfl, (blk_cell BK442.out 1).trans rfl, (blk_cell BK442.out 2).trans rfl, (blk_cell BK442.out 3).trans rfl, (blk_cell BK442.out 4).trans rfl, (blk_cell BK442.out 5).trans rfl, (blk_cell BK442.out 6).trans rfl, (blk_cell BK442.out 7).trans rfl, (blk_cell BK442.out 8).trans rfl, (blk_cell BK442.out 9).trans rfl, (blk_cell BK442.out 10).trans rfl, (blk_cell BK442.out 11).trans rfl, (blk_cell BK442.out 12).trans rfl, (blk_cell BK465.out 0).trans rfl, (blk_cell BK465.out 1).trans rfl, (blk_cell BK465.out 2).trans rfl⟩ (fun hHeld => ?_)
                                  clear hK K
                                  refine norm_ (a' := ?_) ?_ ?_
                                  rotate_left
                                  · show Act.put _ (some 116) _ = _
                                    simp only [Act.put, List.setIfInBounds_toArray, List.set_cons_zero, List.set_cons_succ, i64_w, i32_w]
                                    rfl
                                  refine chain_ (fuel := 23) [(18, 0, some 117), (19, 0, some 118), (20, 0, some 119), (21, 0, some 120), (22, 1, some 121), (23, 1, some 122)] #[true, true, true, true, true, true, true, true, true, true, true, true, true, true, true, true, true, true, true, true, true, true, true, true, false, false, false, false, false, false, false, false, false, false, false, false, false, false, false, false, false, false, false, false, false, false, false] HT_.out HW_.out (by kernel_rfl) (fun _ _ _ _ _ h => h) (Or.inr hHeld) rfl ?_
                                  (iterate 4 refine lkP ?_); (iterate 2 refine lkT ?_); refine .nil ?_
                                  refine one_ (i := 24) (N := some 123) #[true, true, true, true, true, true, true, true, true, true, true, true, true, true, true, true, true, true, true, true, true, true, true, true, true, false, false, false, false, false, false, false, false, false, false, false, false, false, false, false, false, false, false, false, false, false, false] rfl rfl (one_of HT_.out (by kernel_rfl)) (by decide) (fun K hK => ?_)
                                  refine ge Try.func25 #[.agg #[.int .i64 a0_0, .int .u64 a0_1, .int .u64 a0_2, .int .u64 a0_3, .int .u64 a0_4], .agg #[.int .u64 t462, .int .u64 t463, .int .u64 t464]] ?_
                                  with_reducible refine (policy_Fits.calls a0_0 a0_1 a0_2 a0_3 a0_4 t462 t463 t464 false _ A133.out).mono ?_
                                  rintro e w152 ⟨rfl, hb⟩
                                  refine ⟨_, rfl, ?_⟩
                                  have n0_ := bb BK442 hb
                                  have n1_ := bb BK444 hb
                                  have n2_ := bb BK450 hb
                                  have n3_ := bb BK456 hb
                                  have n4_ := bb BK465 hb
                                  have n5_ := bs HB hb
                                  clear BK442
                                  clear BK444
                                  clear BK450
                                  clear BK456
                                  clear BK465
                                  clear HB
                                  have BK442 := n0_
                                  have BK444 := n1_
                                  have BK450 := n2_
                                  have BK456 := n3_
                                  have BK465 := n4_
                                  have HB := n5_
                                  clear n0_ n1_ n2_ n3_ n4_ n5_
                                  (try clear hb)
                                  (try clear hb2)
                                  (try clear hk)
                                  (try clear hi)
                                  refine hK.out _ _ ⟨(blk_cell BK450.out 0).trans rfl, (blk_cell BK450.out 1).trans rfl, (blk_cell BK450.out 2).trans rfl, (blk_cell BK456.out 0).trans rfl, (blk_cell BK456.out 1).trans rfl, (blk_cell BK456.out 2).trans rfl, (blk_cell BK442.out 0).trans rfl, (blk_cell BK442.out 1).trans rfl, (blk_cell BK442.out 2).trans rfl, (blk_cell BK442.out 3).trans rfl, (blk_cell BK442.out 4).trans rfl, (blk_cell BK442.out 5).trans rfl, (blk_cell BK442.out 6).trans rfl, (blk_cell BK442.out 7).trans rfl, (blk_cell BK442.out 8).trans rfl, (blk_cell BK442.out 9).trans rfl, (blk_cell BK442.out 10).trans rfl, (blk_cell BK442.out 11).trans rfl, (blk_cell BK442.out 12).trans rfl, (blk_cell BK465.out 0).trans rfl, (blk_cell BK465.out 1).trans rfl, (blk_cell BK465.out 2).trans rfl⟩ (fun hHeld => ?_)
                                  clear hK K
                                  refine norm_ (a' := ?_) ?_ ?_
                                  rotate_left
                                  · show Act.put _ (some 123) _ = _
                                    simp only [Act.put, List.setIfInBounds_toArray, List.set_cons_zero, List.set_cons_succ, i64_w, i32_w]
                                    rfl
                                  refine chain_ (fuel := 0) [(25, 0, some 124), (26, 0, some 125), (27, 0, some 126), (28, 2, some 127), (29, 2, some 128), (30, 2, some 129), (31, 2, some 130), (32, 2, some 131), (33, 2, some 132), (34, 2, some 133), (35, 2, some 134), (36, 0, some 135), (37, 0, some 136), (38, 2, some 137), (39, 2, some 138), (40, 2, some 139), (41, 2, some 140), (42, 2, some 141), (43, 2, some 142), (44, 2, some 143), (45, 2, some 144), (46, 0, some 145)] #[true, true, true, true, true, true, true, true, true, true, true, true, true, true, true, true, true, true, true, true, true, true, true, true, true, true, true, true, true, true, true, true, true, true, true, true, true, true, true, true, true, true, true, true, true, true, true] HT_.out HW_.out (by kernel_rfl) (fun _ _ _ _ _ h => h) (Or.inl (by decide)) rfl ?_
                                  (iterate 3 refine lkP ?_); (iterate 8 refine lkO ?_); (iterate 2 refine lkP ?_); (iterate 8 refine lkO ?_); refine lkP ?_; refine .nil ?_
                                  refine done_ (done_of HT_.out (by kernel_rfl)) ?_
                                  try go_wp2
                                  go_meet
                                  case rel => exact ⟨_, (true), rs, H', ⟨by have := HJ3.out; have := HJ8.out; have := HJ15.out; have := HJ23.out; first | omega | exact Nat.le_refl _⟩, ⟨bk BK442⟩, ⟨bk BK444⟩, ⟨bk BK450⟩, ⟨bk BK456⟩, ⟨bk BK465⟩, ⟨bw HB⟩⟩
                              · replace c132 := Bool.eq_false_iff.mpr c132
                                subst c132
                                have H1 : (turnstilelaw06_PolicyForm.j4 kj23 true a0_0 a0_1 a0_2 a0_3 a0_4 a0_5 a0_6 a0_7 a0_8 a0_9 a0_10 a0_11 a0_12 x445000_15 x445001_15 x445002_15) = some r := by rw [if_neg (show ¬ (false = true) by decide)] at H; exact H
                                clear H
                                have H := H1
                                clear H1
                                have H' := Aside0.mk H
                                clear H
                                try go_wp2
                                have n0_ : Aside0 ((((w117.setCell ⟨gb465, 0, none⟩ (.int .u64 t462)).setCell ⟨gb465, 1, none⟩ (.int .u64 t463)).setCell ⟨gb465, 2, none⟩ (.int .u64 t464)).heap[gb442]? = some (.cells #[.int .i64 a0_0, .int .u64 a0_1, .int .u64 a0_2, .int .u64 a0_3, .int .u64 a0_4, .int .u64 a0_5, .int .u64 a0_6, .int .u64 a0_7, .int .u64 a0_8, .int .u64 a0_9, .int .u64 a0_10, .int .u64 a0_11, .int .u64 a0_12] 31 (0, 0))) := ⟨bk BK442⟩
                                have n1_ : Aside0 ((((w117.setCell ⟨gb465, 0, none⟩ (.int .u64 t462)).setCell ⟨gb465, 1, none⟩ (.int .u64 t463)).setCell ⟨gb465, 2, none⟩ (.int .u64 t464)).heap[gb444]? = some (.cells #[.int .u64 x445000_15, .int .u64 x445001_15, .int .u64 x445002_15] 29 (0, 0))) := ⟨bk BK444⟩
                                have n2_ : Aside0 ((((w117.setCell ⟨gb465, 0, none⟩ (.int .u64 t462)).setCell ⟨gb465, 1, none⟩ (.int .u64 t463)).setCell ⟨gb465, 2, none⟩ (.int .u64 t464)).heap[gb450]? = some (.cells #[.int .u64 t445, .int .u64 t446, .int .u64 t447] 29 (0, 0))) := ⟨bk BK450⟩
                                have n3_ : Aside0 ((((w117.setCell ⟨gb465, 0, none⟩ (.int .u64 t462)).setCell ⟨gb465, 1, none⟩ (.int .u64 t463)).setCell ⟨gb465, 2, none⟩ (.int .u64 t464)).heap[gb456]? = some (.cells #[.int .u64 t451, .int .u64 t452, .int .u64 t453] 29 (0, 0))) := ⟨bk BK456⟩
                                have n4_ : Aside0 ((((w117.setCell ⟨gb465, 0, none⟩ (.int .u64 t462)).setCell ⟨gb465, 1, none⟩ (.int .u64 t463)).setCell ⟨gb465, 2, none⟩ (.int .u64 t464)).heap[gb465]? = some (.cells #[.int .u64 t462, .int .u64 t463, .int .u64 t464] 29 (0, 0))) := ⟨bk BK465⟩
                                have n5_ : Aside0 (Below w.heap.size w (((w117.setCell ⟨gb465, 0, none⟩ (.int .u64 t462)).setCell ⟨gb465, 1, none⟩ (.int .u64 t463)).setCell ⟨gb465, 2, none⟩ (.int .u64 t464))) := ⟨bw HB⟩
                                (try clear BK442)
                                (try clear BK444)
                                (try clear BK450)
                                (try clear BK456)
                                (try clear BK465)
                                (try clear HB)
                                generalize (((w117.setCell ⟨gb465, 0, none⟩ (.int .u64 t462)).setCell ⟨gb465, 1, none⟩ (.int .u64 t463)).setCell ⟨gb465, 2, none⟩ (.int .u64 t464)) = w153 at n0_ n1_ n2_ n3_ n4_ n5_ ⊢
                                have BK442 := n0_
                                have BK444 := n1_
                                have BK450 := n2_
                                have BK456 := n3_
                                have BK465 := n4_
                                have HB := n5_
                                clear n0_ n1_ n2_ n3_ n4_ n5_
                                have n0_ := Aside0.mk (blk_drew BK442.out)
                                have n1_ := Aside0.mk (blk_drew BK444.out)
                                have n2_ := Aside0.mk (blk_drew BK450.out)
                                have n3_ := Aside0.mk (blk_drew BK456.out)
                                have n4_ := Aside0.mk (blk_drew BK465.out)
                                have n5_ := Aside0.mk (below_drew1 HB.out)
                                clear BK442
                                clear BK444
                                clear BK450
                                clear BK456
                                clear BK465
                                clear HB
                                have BK442 := n0_
                                have BK444 := n1_
                                have BK450 := n2_
                                have BK456 := n3_
                                have BK465 := n4_
                                have HB := n5_
                                clear n0_ n1_ n2_ n3_ n4_ n5_
                                refine start_ (n := 47) (S := fun w' => w'.cell? ⟨gb450, 0, none⟩ = some (.int .u64 t445) ∧ w'.cell? ⟨gb450, 1, none⟩ = some (.int .u64 t446) ∧ w'.cell? ⟨gb450, 2, none⟩ = some (.int .u64 t447) ∧ w'.cell? ⟨gb456, 0, none⟩ = some (.int .u64 t451) ∧ w'.cell? ⟨gb456, 1, none⟩ = some (.int .u64 t452) ∧ w'.cell? ⟨gb456, 2, none⟩ = some (.int .u64 t453) ∧ w'.cell? ⟨gb442, 0, none⟩ = some (.int .i64 a0_0) ∧ w'.cell? ⟨gb442, 1, none⟩ = some (.int .u64 a0_1) ∧ w'.cell? ⟨gb442, 2, none⟩ = some (.int .u64 a0_2) ∧ w'.cell? ⟨gb442, 3, none⟩ = some (.int .u64 a0_3) ∧ w'.cell? ⟨gb442, 4, none⟩ = some (.int .u64 a0_4) ∧ w'.cell? ⟨gb442, 5, none⟩ = some (.int .u64 a0_5) ∧ w'.cell? ⟨gb442, 6, none⟩ = some (.int .u64 a0_6) ∧ w'.cell? ⟨gb442, 7, none⟩ = some (.int .u64 a0_7) ∧ w'.cell? ⟨gb442, 8, none⟩ = some (.int .u64 a0_8) ∧ w'.cell? ⟨gb442, 9, none⟩ = some (.int .u64 a0_9) ∧ w'.cell? ⟨gb442, 10, none⟩ = some (.int .u64 a0_10) ∧ w'.cell? ⟨gb442, 11, none⟩ = some (.int .u64 a0_11) ∧ w'.cell? ⟨gb442, 12, none⟩ = some (.int .u64 a0_12)) (ds := []) #[false, false, false, false, false, false, false, false, false, false, false, false, false, false, false, false, false, false, false, false, false, false, false, false, false, false, false, false, false, false, false, false, false, false, false, false, false, false, false, false, false, false, false, false, false, false, false] (by kernel_rfl) rfl rfl ⟨(blk_cell BK450.out 0).trans rfl, (blk_cell BK450.out 1).trans rfl, (blk_cell BK450.out 2).trans rfl, (blk_cell BK456.out 0).trans rfl, (blk_cell BK456.out 1).trans rfl, (blk_cell BK456.out 2).trans rfl, (blk_cell BK442.out 0).trans rfl, (blk_cell BK442.out 1).trans rfl, (blk_cell BK442.out 2).trans rfl, (blk_cell BK442.out 3).trans rfl, (blk_cell BK442.out 4).trans rfl, (blk_cell BK442.out 5).trans rfl, (blk_cell BK442.out 6).trans rfl, (blk_cell BK442.out 7).trans rfl, (blk_cell BK442.out 8).trans rfl, (blk_cell BK442.out 9).trans rfl, (blk_cell BK442.out 10).trans rfl, (blk_cell BK442.out 11).trans rfl, (blk_cell BK442.out 12).trans rfl⟩ (fun hHeld => ?_); refine with_tabW turnstilelaw06_PolicyForm.tab13 turnstilelaw06_PolicyForm.bits13 (fun HT_ HW_ => ?_)
                                generalize w153.drew = w154 at BK442 BK444 BK450 BK456 BK465 HB hHeld ⊢
                                refine chain_ (fuel := 30) [(0, 1, some 99), (1, 1, some 100), (2, 0, some 101), (3, 0, some 102), (4, 0, some 103), (5, 0, some 104), (6, 0, some 105), (7, 0, some 106), (8, 0, some 107), (9, 0, some 108), (10, 0, some 109), (11, 0, some 110), (12, 0, some 111), (13, 0, some 112), (14, 0, some 113), (15, 1, some 114), (16, 1, some 115)] #[true, true, true, true, true, true, true, true, true, true, true, true, true, true, true, true, true, false, false, false, false, false, false, false, false, false, false, false, false, false, false, false, false, false, false, false, false, false, false, false, false, false, false, false, false, false, false] HT_.out HW_.out (by kernel_rfl) (fun _ _ _ _ _ h => h) (Or.inr hHeld) rfl ?_
                                (iterate 2 refine lkT ?_); (iterate 13 refine lkP ?_); (iterate 2 refine lkT ?_); refine .nil ?_
                                refine one_ (i := 17) (N := some 116) #[true, true, true, true, true, true, true, true, true, true, true, true, true, true, true, true, true, true, false, false, false, false, false, false, false, false, false, false, false, false, false, false, false, false, false, false, false, false, false, false, false, false, false, false, false, false, false] rfl rfl (one_of HT_.out (by kernel_rfl)) (by decide) (fun K hK => ?_)
                                refine ge Try.func25 #[.agg #[.int .i64 a0_0, .int .u64 a0_1, .int .u64 a0_2, .int .u64 a0_3, .int .u64 a0_4], .agg #[.int .u64 t445, .int .u64 t446, .int .u64 t447]] ?_
                                with_reducible refine (policy_Fits.calls a0_0 a0_1 a0_2 a0_3 a0_4 t445 t446 t447 false _ A131.out).mono ?_
                                rintro e w155 ⟨rfl, hb⟩
                                refine ⟨_, rfl, ?_⟩
                                have n0_ := bb BK442 hb
                                have n1_ := bb BK444 hb
                                have n2_ := bb BK450 hb
                                have n3_ := bb BK456 hb
                                have n4_ := bb BK465 hb
                                have n5_ := bs HB hb
                                clear BK442
                                clear BK444
                                clear BK450
                                clear BK456
                                clear BK465
                                clear HB
                                have BK442 := n0_
                                have BK444 := n1_
                                have BK450 := n2_
                                have BK456 := n3_
                                have BK465 := n4_
                                have HB := n5_
                                clear n0_ n1_ n2_ n3_ n4_ n5_
                                (try clear hb)
                                (try clear hb2)
                                (try clear hk)
                                (try clear hi)
                                refine hK.out _ _ ⟨(blk_cell BK450.out 0).trans rfl, (blk_cell BK450.out 1).trans rfl, (blk_cell BK450.out 2).trans rfl, (blk_cell BK456.out 0).trans rfl, (blk_cell BK456.out 1).trans rfl, (blk_cell BK456.out 2).trans rfl, (blk_cell BK442.out 0).trans rfl, (blk_cell BK442.out 1).trans rfl, (blk_cell BK442.out 2).trans rfl, (blk_cell BK442.out 3).trans rfl, (blk_cell BK442.out 4).trans rfl, (blk_cell BK442.out 5).trans rfl, (blk_cell BK442.out 6).trans rfl, (blk_cell BK442.out 7).trans rfl, (blk_cell BK442.out 8).trans rfl, (blk_cell BK442.out 9).trans rfl, (blk_cell BK442.out 10).trans rfl, (blk_cell BK442.out 11).trans rfl, (blk_cell BK442.out 12).trans rfl⟩ (fun hHeld => ?_)
                                clear hK K
                                refine norm_ (a' := ?_) ?_ ?_
                                rotate_left
                                · show Act.put _ (some 116) _ = _
                                  simp only [Act.put, List.setIfInBounds_toArray, List.set_cons_zero, List.set_cons_succ, i64_w, i32_w]
                                  rfl
                                refine chain_ (fuel := 0) [(18, 0, some 117), (19, 0, some 118), (20, 0, some 119), (21, 2, some 120), (22, 2, some 121), (23, 2, some 122), (24, 2, some 123), (25, 2, some 124), (26, 0, some 125), (27, 0, some 126), (28, 2, some 127), (29, 2, some 128), (30, 2, some 129), (31, 2, some 130), (32, 2, some 131), (33, 2, some 132), (34, 2, some 133), (35, 2, some 134), (36, 0, some 135), (37, 0, some 136), (38, 2, some 137), (39, 2, some 138), (40, 2, some 139), (41, 2, some 140), (42, 2, some 141), (43, 2, some 142), (44, 2, some 143), (45, 2, some 144), (46, 0, some 145)] #[true, true, true, true, true, true, true, true, true, true, true, true, true, true, true, true, true, true, true, true, true, true, true, true, true, true, true, true, true, true, true, true, true, true, true, true, true, true, true, true, true, true, true, true, true, true, true] HT_.out HW_.out (by kernel_rfl) (fun _ _ _ _ _ h => h) (Or.inl (by decide)) rfl ?_
                                (iterate 3 refine lkP ?_); (iterate 5 refine lkO ?_); (iterate 2 refine lkP ?_); (iterate 8 refine lkO ?_); (iterate 2 refine lkP ?_); (iterate 8 refine lkO ?_); refine lkP ?_; refine .nil ?_
                                refine done_ (done_of HT_.out (by kernel_rfl)) ?_
                                try go_wp2
                                go_meet
                                case rel => exact ⟨_, (true), rs, H', ⟨by have := HJ3.out; have := HJ8.out; have := HJ15.out; have := HJ23.out; first | omega | exact Nat.le_refl _⟩, ⟨bk BK442⟩, ⟨bk BK444⟩, ⟨bk BK450⟩, ⟨bk BK456⟩, ⟨bk BK465⟩, ⟨bw HB⟩⟩
                            · rw [if_neg c129] at H
                              have c129b0 : (t449 == t455) = false := beq_eq_false_iff_ne.mpr c129
                              have c129b1 : (t449 != t455) = true := bne_iff_ne.mpr c129
                              (try (have hd156 := c123b0; rw [c129b0] at hd156; (first | rw [Bool.true_and] at hd156 | rw [Bool.and_true] at hd156 | (rw [Bool.not_true] at hd156; rw [Bool.false_or] at hd156) | skip)))
                              have H' := Aside0.mk H
                              clear H
                              try go_wp2
                              have n0_ : Aside0 ((((w117.setCell ⟨gb465, 0, none⟩ (.int .u64 t462)).setCell ⟨gb465, 1, none⟩ (.int .u64 t463)).setCell ⟨gb465, 2, none⟩ (.int .u64 t464)).heap[gb442]? = some (.cells #[.int .i64 a0_0, .int .u64 a0_1, .int .u64 a0_2, .int .u64 a0_3, .int .u64 a0_4, .int .u64 a0_5, .int .u64 a0_6, .int .u64 a0_7, .int .u64 a0_8, .int .u64 a0_9, .int .u64 a0_10, .int .u64 a0_11, .int .u64 a0_12] 31 (0, 0))) := ⟨bk BK442⟩
                              have n1_ : Aside0 ((((w117.setCell ⟨gb465, 0, none⟩ (.int .u64 t462)).setCell ⟨gb465, 1, none⟩ (.int .u64 t463)).setCell ⟨gb465, 2, none⟩ (.int .u64 t464)).heap[gb444]? = some (.cells #[.int .u64 x445000_15, .int .u64 x445001_15, .int .u64 x445002_15] 29 (0, 0))) := ⟨bk BK444⟩
                              have n2_ : Aside0 ((((w117.setCell ⟨gb465, 0, none⟩ (.int .u64 t462)).setCell ⟨gb465, 1, none⟩ (.int .u64 t463)).setCell ⟨gb465, 2, none⟩ (.int .u64 t464)).heap[gb450]? = some (.cells #[.int .u64 t445, .int .u64 t446, .int .u64 t447] 29 (0, 0))) := ⟨bk BK450⟩
                              have n3_ : Aside0 ((((w117.setCell ⟨gb465, 0, none⟩ (.int .u64 t462)).setCell ⟨gb465, 1, none⟩ (.int .u64 t463)).setCell ⟨gb465, 2, none⟩ (.int .u64 t464)).heap[gb456]? = some (.cells #[.int .u64 t451, .int .u64 t452, .int .u64 t453] 29 (0, 0))) := ⟨bk BK456⟩
                              have n4_ : Aside0 ((((w117.setCell ⟨gb465, 0, none⟩ (.int .u64 t462)).setCell ⟨gb465, 1, none⟩ (.int .u64 t463)).setCell ⟨gb465, 2, none⟩ (.int .u64 t464)).heap[gb465]? = some (.cells #[.int .u64 t462, .int .u64 t463, .int .u64 t464] 29 (0, 0))) := ⟨bk BK465⟩
                              have n5_ : Aside0 (Below w.heap.size w (((w117.setCell ⟨gb465, 0, none⟩ (.int .u64 t462)).setCell ⟨gb465, 1, none⟩ (.int .u64 t463)).setCell ⟨gb465, 2, none⟩ (.int .u64 t464))) := ⟨bw HB⟩
                              (try clear BK442)
                              (try clear BK444)
                              (try clear BK450)
                              (try clear BK456)
                              (try clear BK465)
                              (try clear HB)
                              generalize (((w117.setCell ⟨gb465, 0, none⟩ (.int .u64 t462)).setCell ⟨gb465, 1, none⟩ (.int .u64 t463)).setCell ⟨gb465, 2, none⟩ (.int .u64 t464)) = w157 at n0_ n1_ n2_ n3_ n4_ n5_ ⊢
                              have BK442 := n0_
                              have BK444 := n1_
                              have BK450 := n2_
                              have BK456 := n3_
                              have BK465 := n4_
                              have HB := n5_
                              clear n0_ n1_ n2_ n3_ n4_ n5_
                              have n0_ := Aside0.mk (blk_drew BK442.out)
                              have n1_ := Aside0.mk (blk_drew BK444.out)
                              have n2_ := Aside0.mk (blk_drew BK450.out)
                              have n3_ := Aside0.mk (blk_drew BK456.out)
                              have n4_ := Aside0.mk (blk_drew BK465.out)
                              have n5_ := Aside0.mk (below_drew1 HB.out)
                              clear BK442
                              clear BK444
                              clear BK450
                              clear BK456
                              clear BK465
                              clear HB
                              have BK442 := n0_
                              have BK444 := n1_
                              have BK450 := n2_
                              have BK456 := n3_
                              have BK465 := n4_
                              have HB := n5_
                              clear n0_ n1_ n2_ n3_ n4_ n5_
                              refine start_ (n := 47) (S := fun w' => w'.cell? ⟨gb450, 0, none⟩ = some (.int .u64 t445) ∧ w'.cell? ⟨gb450, 1, none⟩ = some (.int .u64 t446) ∧ w'.cell? ⟨gb450, 2, none⟩ = some (.int .u64 t447) ∧ w'.cell? ⟨gb456, 0, none⟩ = some (.int .u64 t451) ∧ w'.cell? ⟨gb456, 1, none⟩ = some (.int .u64 t452) ∧ w'.cell? ⟨gb456, 2, none⟩ = some (.int .u64 t453)) (ds := []) #[false, false, false, false, false, false, false, false, false, false, false, false, false, false, false, false, false, false, false, false, false, false, false, false, false, false, false, false, false, false, false, false, false, false, false, false, false, false, false, false, false, false, false, false, false, false, false] (by kernel_rfl) rfl rfl ⟨(blk_cell BK450.out 0).trans rfl, (blk_cell BK450.out 1).trans rfl, (blk_cell BK450.out 2).trans rfl, (blk_cell BK456.out 0).trans rfl, (blk_cell BK456.out 1).trans rfl, (blk_cell BK456.out 2).trans rfl⟩ (fun hHeld => ?_); refine with_tabW turnstilelaw06_PolicyForm.tab13 turnstilelaw06_PolicyForm.bits13 (fun HT_ HW_ => ?_)
                              generalize w157.drew = w158 at BK442 BK444 BK450 BK456 BK465 HB hHeld ⊢
                              refine chain_ (fuel := 0) [(0, 1, some 99), (1, 1, some 100), (2, 0, some 101), (3, 0, some 102), (4, 0, some 103), (5, 0, some 104), (6, 0, some 105), (7, 0, some 106), (8, 0, some 107), (9, 0, some 108), (10, 0, some 109), (11, 0, some 110), (12, 0, some 111), (13, 0, some 112), (14, 2, some 113), (15, 2, some 114), (16, 2, some 115), (17, 2, some 116), (18, 2, some 117), (19, 0, some 118), (20, 0, some 119), (21, 2, some 120), (22, 2, some 121), (23, 2, some 122), (24, 2, some 123), (25, 2, some 124), (26, 0, some 125), (27, 0, some 126), (28, 2, some 127), (29, 2, some 128), (30, 2, some 129), (31, 2, some 130), (32, 2, some 131), (33, 2, some 132), (34, 2, some 133), (35, 2, some 134), (36, 0, some 135), (37, 0, some 136), (38, 2, some 137), (39, 2, some 138), (40, 2, some 139), (41, 2, some 140), (42, 2, some 141), (43, 2, some 142), (44, 2, some 143), (45, 2, some 144), (46, 0, some 145)] #[true, true, true, true, true, true, true, true, true, true, true, true, true, true, true, true, true, true, true, true, true, true, true, true, true, true, true, true, true, true, true, true, true, true, true, true, true, true, true, true, true, true, true, true, true, true, true] HT_.out HW_.out (by kernel_rfl) (fun _ _ _ _ _ h => h) (Or.inr hHeld) rfl ?_
                              (iterate 2 refine lkT ?_); (iterate 12 refine lkP ?_); (iterate 5 refine lkO ?_); (iterate 2 refine lkP ?_); (iterate 5 refine lkO ?_); (iterate 2 refine lkP ?_); (iterate 8 refine lkO ?_); (iterate 2 refine lkP ?_); (iterate 8 refine lkO ?_); refine lkP ?_; refine .nil ?_
                              refine done_ (done_of HT_.out (by kernel_rfl)) ?_
                              try go_wp2
                              go_meet
                              case rel => exact ⟨_, (true), rs, H', ⟨by have := HJ3.out; have := HJ8.out; have := HJ15.out; have := HJ23.out; first | omega | exact Nat.le_refl _⟩, ⟨bk BK442⟩, ⟨bk BK444⟩, ⟨bk BK450⟩, ⟨bk BK456⟩, ⟨bk BK465⟩, ⟨bw HB⟩⟩
                      case rest => as_aux_lemma =>
                        clear HC111
                        try clear c1
                        try clear c2
                        try clear p2
                        try clear c12
                        try clear c25
                        try clear c123
                        try clear c123b0
                        try clear c129
                        try clear c129b0
                        try clear c129b1
                        obtain ⟨kq, x145_110, rfl, HA, HJ110, BK442, BK444, BK450, BK456, BK465, HB⟩ := hcut
                        cases kq with
                        | zero => exact absurd HA.out (by simp [turnstilelaw06_PolicyForm.j4])
                        | succ kj110 =>
                          have H := HA.out
                          clear HA
                          simp only [turnstilelaw06_PolicyForm.j4] at H
                          by_cases c159 : x145_110 = true
                          · subst c159
                            have H1 : (some false) = some r := by rw [if_pos rfl] at H; exact H
                            clear H
                            have H := H1
                            clear H1
                            obtain rfl := Option.some.inj H
                            go_wp2
                            go_ret
                            exact ⟨re, bw HB⟩
                          · replace c159 := Bool.eq_false_iff.mpr c159
                            subst c159
                            have H1 : ((policy_Left.f kj110 a0_0 a0_1 a0_2 a0_3 a0_4 x445000_15 x445001_15 x445002_15 a0_11).bind fun t474 => ((policy_Left.f kj110 a0_0 a0_1 a0_2 a0_3 a0_4 a0_5 a0_6 a0_7 a0_11).bind fun t475 => (if t474 = t475 then ((policy_Covers.f a0_0 a0_1 a0_2 a0_3 a0_4 x445000_15 x445001_15 x445002_15 a0_8 a0_9 a0_10).bind fun t476 => ((policy_Covers.f a0_0 a0_1 a0_2 a0_3 a0_4 a0_5 a0_6 a0_7 a0_8 a0_9 a0_10).bind fun t477 => (if (t476 == t477) = true then ((policy_Covers.f a0_0 a0_1 a0_2 a0_3 a0_4 a0_8 a0_9 a0_10 x445000_15 x445001_15 x445002_15).bind fun t478 => ((policy_Covers.f a0_0 a0_1 a0_2 a0_3 a0_4 a0_8 a0_9 a0_10 a0_5 a0_6 a0_7).bind fun t479 => (some (t478 == t479)))) else (some false)))) else (some false)))) = some r := by rw [if_neg (show ¬ (false = true) by decide)] at H; exact H
                            clear H
                            have H := H1
                            clear H1
                            replace H := Option.bind_eq_some_iff.mp H
                            obtain ⟨t474, A1600, H⟩ := H
                            replace H : ((policy_Left.f kj110 a0_0 a0_1 a0_2 a0_3 a0_4 a0_5 a0_6 a0_7 a0_11).bind fun t475 => (if t474 = t475 then ((policy_Covers.f a0_0 a0_1 a0_2 a0_3 a0_4 x445000_15 x445001_15 x445002_15 a0_8 a0_9 a0_10).bind fun t476 => ((policy_Covers.f a0_0 a0_1 a0_2 a0_3 a0_4 a0_5 a0_6 a0_7 a0_8 a0_9 a0_10).bind fun t477 => (if (t476 == t477) = true then ((policy_Covers.f a0_0 a0_1 a0_2 a0_3 a0_4 a0_8 a0_9 a0_10 x445000_15 x445001_15 x445002_15).bind fun t478 => ((policy_Covers.f a0_0 a0_1 a0_2 a0_3 a0_4 a0_8 a0_9 a0_10 a0_5 a0_6 a0_7).bind fun t479 => (some (t478 == t479)))) else (some false)))) else (some false))) = some r := H
                            have A160 := Aside0.mk A1600
                            clear A1600
                            replace H := Option.bind_eq_some_iff.mp H
                            obtain ⟨t475, A1610, H⟩ := H
                            replace H : (if t474 = t475 then ((policy_Covers.f a0_0 a0_1 a0_2 a0_3 a0_4 x445000_15 x445001_15 x445002_15 a0_8 a0_9 a0_10).bind fun t476 => ((policy_Covers.f a0_0 a0_1 a0_2 a0_3 a0_4 a0_5 a0_6 a0_7 a0_8 a0_9 a0_10).bind fun t477 => (if (t476 == t477) = true then ((policy_Covers.f a0_0 a0_1 a0_2 a0_3 a0_4 a0_8 a0_9 a0_10 x445000_15 x445001_15 x445002_15).bind fun t478 => ((policy_Covers.f a0_0 a0_1 a0_2 a0_3 a0_4 a0_8 a0_9 a0_10 a0_5 a0_6 a0_7).bind fun t479 => (some (t478 == t479)))) else (some false)))) else (some false)) = some r := H
                            have A161 := Aside0.mk A1610
                            clear A1610
                            by_cases c162 : t474 = t475
                            · rw [if_pos c162] at H
                              have c162b0 : (t474 == t475) = true := beq_iff_eq.mpr c162
                              have c162b1 : (t474 != t475) = false := bne_eq_false_iff_eq.mpr c162
                              clear c162
                              replace H := Option.bind_eq_some_iff.mp H
                              obtain ⟨t476, A1630, H⟩ := H
                              replace H : ((policy_Covers.f a0_0 a0_1 a0_2 a0_3 a0_4 a0_5 a0_6 a0_7 a0_8 a0_9 a0_10).bind fun t477 => (if (t476 == t477) = true then ((policy_Covers.f a0_0 a0_1 a0_2 a0_3 a0_4 a0_8 a0_9 a0_10 x445000_15 x445001_15 x445002_15).bind fun t478 => ((policy_Covers.f a0_0 a0_1 a0_2 a0_3 a0_4 a0_8 a0_9 a0_10 a0_5 a0_6 a0_7).bind fun t479 => (some (t478 == t479)))) else (some false))) = some r := H
                              have A163 := Aside0.mk A1630
                              clear A1630
                              replace H := Option.bind_eq_some_iff.mp H
                              obtain ⟨t477, A1640, H⟩ := H
                              replace H : (if (t476 == t477) = true then ((policy_Covers.f a0_0 a0_1 a0_2 a0_3 a0_4 a0_8 a0_9 a0_10 x445000_15 x445001_15 x445002_15).bind fun t478 => ((policy_Covers.f a0_0 a0_1 a0_2 a0_3 a0_4 a0_8 a0_9 a0_10 a0_5 a0_6 a0_7).bind fun t479 => (some (t478 == t479)))) else (some false)) = some r := H
                              have A164 := Aside0.mk A1640
                              clear A1640
                              by_cases c165 : (t476 == t477) = true
                              · rw [if_pos c165] at H
                                have c165b0 : (t476 == t477) = true := c165
                                (try (have c165b1 : decide (t476 = t477) = true := by simpa using c165))
                                (try (have c165b2 : (t476 == t477) = true := by simpa using c165))
                                clear c165
                                replace H := Option.bind_eq_some_iff.mp H
                                obtain ⟨t478, A1660, H⟩ := H
                                replace H : ((policy_Covers.f a0_0 a0_1 a0_2 a0_3 a0_4 a0_8 a0_9 a0_10 a0_5 a0_6 a0_7).bind fun t479 => (some (t478 == t479))) = some r := H
                                have A166 := Aside0.mk A1660
                                clear A1660
                                replace H := Option.bind_eq_some_iff.mp H
                                obtain ⟨t479, A1670, H⟩ := H
                                replace H : (some (t478 == t479)) = some r := H
                                have A167 := Aside0.mk A1670
                                clear A1670
                                obtain rfl := Option.some.inj H
                                try go_wp2
                                have n0_ := Aside0.mk (blk_drew BK442.out)
                                have n1_ := Aside0.mk (blk_drew BK444.out)
                                have n2_ := Aside0.mk (blk_drew BK450.out)
                                have n3_ := Aside0.mk (blk_drew BK456.out)
                                have n4_ := Aside0.mk (blk_drew BK465.out)
                                have n5_ := Aside0.mk (below_drew1 HB.out)
                                clear BK442
                                clear BK444
                                clear BK450
                                clear BK456
                                clear BK465
                                clear HB
                                have BK442 := n0_
                                have BK444 := n1_
                                have BK450 := n2_
                                have BK456 := n3_
                                have BK465 := n4_
                                have HB := n5_
                                clear n0_ n1_ n2_ n3_ n4_ n5_
                                refine start_ (n := 47) (S := fun w' => w'.cell? ⟨gb442, 0, none⟩ = some (.int .i64 a0_0) ∧ w'.cell? ⟨gb442, 1, none⟩ = some (.int .u64 a0_1) ∧ w'.cell? ⟨gb442, 2, none⟩ = some (.int .u64 a0_2) ∧ w'.cell? ⟨gb442, 3, none⟩ = some (.int .u64 a0_3) ∧ w'.cell? ⟨gb442, 4, none⟩ = some (.int .u64 a0_4) ∧ w'.cell? ⟨gb442, 5, none⟩ = some (.int .u64 a0_5) ∧ w'.cell? ⟨gb442, 6, none⟩ = some (.int .u64 a0_6) ∧ w'.cell? ⟨gb442, 7, none⟩ = some (.int .u64 a0_7) ∧ w'.cell? ⟨gb442, 8, none⟩ = some (.int .u64 a0_8) ∧ w'.cell? ⟨gb442, 9, none⟩ = some (.int .u64 a0_9) ∧ w'.cell? ⟨gb442, 10, none⟩ = some (.int .u64 a0_10) ∧ w'.cell? ⟨gb442, 11, none⟩ = some (.int .u64 a0_11) ∧ w'.cell? ⟨gb442, 12, none⟩ = some (.int .u64 a0_12) ∧ w'.cell? ⟨gb444, 0, none⟩ = some (.int .u64 x445000_15) ∧ w'.cell? ⟨gb444, 1, none⟩ = some (.int .u64 x445001_15) ∧ w'.cell? ⟨gb444, 2, none⟩ = some (.int .u64 x445002_15)) (ds := []) #[false, false, false, false, false, false, false, false, false, false, false, false, false, false, false, false, false, false, false, false, false, false, false, false, false, false, false, false, false, false, false, false, false, false, false, false, false, false, false, false, false, false, false, false, false, false, false] (by kernel_rfl) rfl rfl ⟨(blk_cell BK442.out 0).trans rfl, (blk_cell BK442.out 1).trans rfl, (blk_cell BK442.out 2).trans rfl, (blk_cell BK442.out 3).trans rfl, (blk_cell BK442.out 4).trans rfl, (blk_cell BK442.out 5).trans rfl, (blk_cell BK442.out 6).trans rfl, (blk_cell BK442.out 7).trans rfl, (blk_cell BK442.out 8).trans rfl, (blk_cell BK442.out 9).trans rfl, (blk_cell BK442.out 10).trans rfl, (blk_cell BK442.out 11).trans rfl, (blk_cell BK442.out 12).trans rfl, (blk_cell BK444.out 0).trans rfl, (blk_cell BK444.out 1).trans rfl, (blk_cell BK444.out 2).trans rfl⟩ (fun hHeld => ?_); refine with_tabW turnstilelaw06_PolicyForm.tab15 turnstilelaw06_PolicyForm.bits15 (fun HT_ HW_ => ?_)
                                generalize wc.drew = w168 at BK442 BK444 BK450 BK456 BK465 HB hHeld ⊢
                                refine chain_ (fuel := 36) [(0, 0, some 146), (3, 0, some 149), (6, 0, some 152), (8, 0, some 154), (10, 0, some 156), (1, 1, some 147), (2, 1, some 148), (4, 1, some 150), (7, 1, some 153), (9, 1, some 155), (11, 1, some 157)] #[true, true, true, true, true, false, true, true, true, true, true, true, false, false, false, false, false, false, false, false, false, false, false, false, false, false, false, false, false, false, false, false, false, false, false, false, false, false, false, false, false, false, false, false, false, false, false] HT_.out HW_.out (by kernel_rfl) (fun _ _ _ _ _ h => h) (Or.inr hHeld) rfl ?_
                                (iterate 5 refine lkP ?_); (iterate 6 refine lkT ?_); refine .nil ?_
                                refine one_ (i := 5) (N := some 151) #[true, true, true, true, true, true, true, true, true, true, true, true, false, false, false, false, false, false, false, false, false, false, false, false, false, false, false, false, false, false, false, false, false, false, false, false, false, false, false, false, false, false, false, false, false, false, false] rfl rfl (one_of HT_.out (by kernel_rfl)) (by decide) (fun K hK => ?_)
                                refine ge Try.func17 #[.agg #[.int .i64 a0_0, .int .u64 a0_1, .int .u64 a0_2, .int .u64 a0_3, .int .u64 a0_4], .agg #[.int .u64 x445000_15, .int .u64 x445001_15, .int .u64 x445002_15], .int .u64 a0_11] ?_
                                with_reducible refine (policy_Left.calls kj110 a0_0 a0_1 a0_2 a0_3 a0_4 x445000_15 x445001_15 x445002_15 a0_11 t474 _ A160.out).mono ?_
                                rintro e w169 ⟨rfl, hb⟩
                                refine ⟨_, rfl, ?_⟩
                                have n0_ := bb BK442 hb
                                have n1_ := bb BK444 hb
                                have n2_ := bb BK450 hb
                                have n3_ := bb BK456 hb
                                have n4_ := bb BK465 hb
                                have n5_ := bs HB hb
                                clear BK442
                                clear BK444
                                clear BK450
                                clear BK456
                                clear BK465
                                clear HB
                                have BK442 := n0_
                                have BK444 := n1_
                                have BK450 := n2_
                                have BK456 := n3_
                                have BK465 := n4_
                                have HB := n5_
                                clear n0_ n1_ n2_ n3_ n4_ n5_
                                (try clear hb)
                                (try clear hb2)
                                (try clear hk)
                                (try clear hi)
                                refine hK.out _ _ ⟨(blk_cell BK442.out 0).trans rfl, (blk_cell BK442.out 1).trans rfl, (blk_cell BK442.out 2).trans rfl, (blk_cell BK442.out 3).trans rfl, (blk_cell BK442.out 4).trans rfl, (blk_cell BK442.out 5).trans rfl, (blk_cell BK442.out 6).trans rfl, (blk_cell BK442.out 7).trans rfl, (blk_cell BK442.out 8).trans rfl, (blk_cell BK442.out 9).trans rfl, (blk_cell BK442.out 10).trans rfl, (blk_cell BK442.out 11).trans rfl, (blk_cell BK442.out 12).trans rfl, (blk_cell BK444.out 0).trans rfl, (blk_cell BK444.out 1).trans rfl, (blk_cell BK444.out 2).trans rfl⟩ (fun hHeld => ?_)
                                clear hK K
                                refine norm_ (a' := ?_) ?_ ?_
                                rotate_left
                                · show Act.put _ (some 151) _ = _
                                  simp only [Act.put, List.setIfInBounds_toArray, List.set_cons_zero, List.set_cons_succ, i64_w, i32_w]
                                  rfl
                                refine one_ (i := 12) (N := some 158) #[true, true, true, true, true, true, true, true, true, true, true, true, true, false, false, false, false, false, false, false, false, false, false, false, false, false, false, false, false, false, false, false, false, false, false, false, false, false, false, false, false, false, false, false, false, false, false] rfl rfl (one_of HT_.out (by kernel_rfl)) (by decide) (fun K hK => ?_)
                                refine ge Try.func17 #[.agg #[.int .i64 a0_0, .int .u64 a0_1, .int .u64 a0_2, .int .u64 a0_3, .int .u64 a0_4], .agg #[.int .u64 a0_5, .int .u64 a0_6, .int .u64 a0_7], .int .u64 a0_11] ?_
                                with_reducible refine (policy_Left.calls kj110 a0_0 a0_1 a0_2 a0_3 a0_4 a0_5 a0_6 a0_7 a0_11 t475 _ A161.out).mono ?_
                                rintro e w170 ⟨rfl, hb⟩
                                refine ⟨_, rfl, ?_⟩
                                have n0_ := bb BK442 hb
                                have n1_ := bb BK444 hb
                                have n2_ := bb BK450 hb
                                have n3_ := bb BK456 hb
                                have n4_ := bb BK465 hb
                                have n5_ := bs HB hb
                                clear BK442
                                clear BK444
                                clear BK450
                                clear BK456
                                clear BK465
                                clear HB
                                have BK442 := n0_
                                have BK444 := n1_
                                have BK450 := n2_
                                have BK456 := n3_
                                have BK465 := n4_
                                have HB := n5_
                                clear n0_ n1_ n2_ n3_ n4_ n5_
                                (try clear hb)
                                (try clear hb2)
                                (try clear hk)
                                (try clear hi)
                                refine hK.out _ _ ⟨(blk_cell BK442.out 0).trans rfl, (blk_cell BK442.out 1).trans rfl, (blk_cell BK442.out 2).trans rfl, (blk_cell BK442.out 3).trans rfl, (blk_cell BK442.out 4).trans rfl, (blk_cell BK442.out 5).trans rfl, (blk_cell BK442.out 6).trans rfl, (blk_cell BK442.out 7).trans rfl, (blk_cell BK442.out 8).trans rfl, (blk_cell BK442.out 9).trans rfl, (blk_cell BK442.out 10).trans rfl, (blk_cell BK442.out 11).trans rfl, (blk_cell BK442.out 12).trans rfl, (blk_cell BK444.out 0).trans rfl, (blk_cell BK444.out 1).trans rfl, (blk_cell BK444.out 2).trans rfl⟩ (fun hHeld => ?_)
                                clear hK K
                                refine norm_ (a' := ?_) ?_ ?_
                                rotate_left
                                · show Act.put _ (some 158) _ = _
                                  simp only [Act.put, List.setIfInBounds_toArray, List.set_cons_zero, List.set_cons_succ, i64_w, i32_w]
                                  rfl
                                refine chain_ (fuel := 21) [(13, 0, some 159), (14, 0, some 160), (15, 0, some 161), (18, 0, some 164), (21, 0, some 167), (23, 0, some 169), (25, 0, some 171), (16, 1, some 162), (17, 1, some 163), (19, 1, some 165), (22, 1, some 168), (24, 1, some 170), (26, 1, some 172)] #[true, true, true, true, true, true, true, true, true, true, true, true, true, true, true, true, true, true, true, true, false, true, true, true, true, true, true, false, false, false, false, false, false, false, false, false, false, false, false, false, false, false, false, false, false, false, false] HT_.out HW_.out (by kernel_rfl) (fun _ _ _ _ _ h => h) (Or.inr hHeld) rfl ?_
                                (iterate 7 refine lkP ?_); (iterate 6 refine lkT ?_); refine .nil ?_
                                refine one_ (i := 20) (N := some 166) #[true, true, true, true, true, true, true, true, true, true, true, true, true, true, true, true, true, true, true, true, true, true, true, true, true, true, true, false, false, false, false, false, false, false, false, false, false, false, false, false, false, false, false, false, false, false, false] rfl rfl (one_of HT_.out (by kernel_rfl)) (by decide) (fun K hK => ?_)
                                refine ge Try.func27 #[.agg #[.int .i64 a0_0, .int .u64 a0_1, .int .u64 a0_2, .int .u64 a0_3, .int .u64 a0_4], .agg #[.int .u64 x445000_15, .int .u64 x445001_15, .int .u64 x445002_15], .agg #[.int .u64 a0_8, .int .u64 a0_9, .int .u64 a0_10]] ?_
                                with_reducible refine (policy_Covers.calls a0_0 a0_1 a0_2 a0_3 a0_4 x445000_15 x445001_15 x445002_15 a0_8 a0_9 a0_10 t476 _ A163.out).mono ?_
                                rintro e w171 ⟨rfl, hb⟩
                                refine ⟨_, rfl, ?_⟩
                                have n0_ := bb BK442 hb
                                have n1_ := bb BK444 hb
                                have n2_ := bb BK450 hb
                                have n3_ := bb BK456 hb
                                have n4_ := bb BK465 hb
                                have n5_ := bs HB hb
                                clear BK442
                                clear BK444
                                clear BK450
                                clear BK456
                                clear BK465
                                clear HB
                                have BK442 := n0_
                                have BK444 := n1_
                                have BK450 := n2_
                                have BK456 := n3_
                                have BK465 := n4_
                                have HB := n5_
                                clear n0_ n1_ n2_ n3_ n4_ n5_
                                (try clear hb)
                                (try clear hb2)
                                (try clear hk)
                                (try clear hi)
                                refine hK.out _ _ ⟨(blk_cell BK442.out 0).trans rfl, (blk_cell BK442.out 1).trans rfl, (blk_cell BK442.out 2).trans rfl, (blk_cell BK442.out 3).trans rfl, (blk_cell BK442.out 4).trans rfl, (blk_cell BK442.out 5).trans rfl, (blk_cell BK442.out 6).trans rfl, (blk_cell BK442.out 7).trans rfl, (blk_cell BK442.out 8).trans rfl, (blk_cell BK442.out 9).trans rfl, (blk_cell BK442.out 10).trans rfl, (blk_cell BK442.out 11).trans rfl, (blk_cell BK442.out 12).trans rfl, (blk_cell BK444.out 0).trans rfl, (blk_cell BK444.out 1).trans rfl, (blk_cell BK444.out 2).trans rfl⟩ (fun hHeld => ?_)
                                clear hK K
                                refine norm_ (a' := ?_) ?_ ?_
                                rotate_left
                                · show Act.put _ (some 166) _ = _
                                  simp only [Act.put, List.setIfInBounds_toArray, List.set_cons_zero, List.set_cons_succ, i64_w, i32_w]
                                  rfl
                                refine one_ (i := 27) (N := some 173) #[true, true, true, true, true, true, true, true, true, true, true, true, true, true, true, true, true, true, true, true, true, true, true, true, true, true, true, true, false, false, false, false, false, false, false, false, false, false, false, false, false, false, false, false, false, false, false] rfl rfl (one_of HT_.out (by kernel_rfl)) (by decide) (fun K hK => ?_)
                                refine ge Try.func27 #[.agg #[.int .i64 a0_0, .int .u64 a0_1, .int .u64 a0_2, .int .u64 a0_3, .int .u64 a0_4], .agg #[.int .u64 a0_5, .int .u64 a0_6, .int .u64 a0_7], .agg #[.int .u64 a0_8, .int .u64 a0_9, .int .u64 a0_10]] ?_
                                with_reducible refine (policy_Covers.calls a0_0 a0_1 a0_2 a0_3 a0_4 a0_5 a0_6 a0_7 a0_8 a0_9 a0_10 t477 _ A164.out).mono ?_
                                rintro e w172 ⟨rfl, hb⟩
                                refine ⟨_, rfl, ?_⟩
                                have n0_ := bb BK442 hb
                                have n1_ := bb BK444 hb
                                have n2_ := bb BK450 hb
                                have n3_ := bb BK456 hb
                                have n4_ := bb BK465 hb
                                have n5_ := bs HB hb
                                clear BK442
                                clear BK444
                                clear BK450
                                clear BK456
                                clear BK465
                                clear HB
                                have BK442 := n0_
                                have BK444 := n1_
                                have BK450 := n2_
                                have BK456 := n3_
                                have BK465 := n4_
                                have HB := n5_
                                clear n0_ n1_ n2_ n3_ n4_ n5_
                                (try clear hb)
                                (try clear hb2)
                                (try clear hk)
                                (try clear hi)
                                refine hK.out _ _ ⟨(blk_cell BK442.out 0).trans rfl, (blk_cell BK442.out 1).trans rfl, (blk_cell BK442.out 2).trans rfl, (blk_cell BK442.out 3).trans rfl, (blk_cell BK442.out 4).trans rfl, (blk_cell BK442.out 5).trans rfl, (blk_cell BK442.out 6).trans rfl, (blk_cell BK442.out 7).trans rfl, (blk_cell BK442.out 8).trans rfl, (blk_cell BK442.out 9).trans rfl, (blk_cell BK442.out 10).trans rfl, (blk_cell BK442.out 11).trans rfl, (blk_cell BK442.out 12).trans rfl, (blk_cell BK444.out 0).trans rfl, (blk_cell BK444.out 1).trans rfl, (blk_cell BK444.out 2).trans rfl⟩ (fun hHeld => ?_)
                                clear hK K
                                refine norm_ (a' := ?_) ?_ ?_
                                rotate_left
                                · show Act.put _ (some 173) _ = _
                                  simp only [Act.put, List.setIfInBounds_toArray, List.set_cons_zero, List.set_cons_succ, i64_w, i32_w]
                                  rfl
                                refine chain_ (fuel := 5) [(28, 0, some 174), (29, 0, some 175), (30, 0, some 176), (31, 0, some 177), (33, 0, some 179), (37, 0, some 183), (39, 0, some 185), (41, 0, some 187), (32, 1, some 178), (34, 1, some 180), (35, 1, some 181), (38, 1, some 184), (40, 1, some 186), (42, 1, some 188)] #[true, true, true, true, true, true, true, true, true, true, true, true, true, true, true, true, true, true, true, true, true, true, true, true, true, true, true, true, true, true, true, true, true, true, true, true, false, true, true, true, true, true, true, false, false, false, false] HT_.out HW_.out (by kernel_rfl) (fun _ _ _ _ _ h => h) (Or.inr hHeld) rfl ?_
                                (iterate 8 refine lkP ?_); (iterate 6 refine lkT ?_); refine .nil ?_
                                refine one_ (i := 36) (N := some 182) #[true, true, true, true, true, true, true, true, true, true, true, true, true, true, true, true, true, true, true, true, true, true, true, true, true, true, true, true, true, true, true, true, true, true, true, true, true, true, true, true, true, true, true, false, false, false, false] rfl rfl (one_of HT_.out (by kernel_rfl)) (by decide) (fun K hK => ?_)
                                refine ge Try.func27 #[.agg #[.int .i64 a0_0, .int .u64 a0_1, .int .u64 a0_2, .int .u64 a0_3, .int .u64 a0_4], .agg #[.int .u64 a0_8, .int .u64 a0_9, .int .u64 a0_10], .agg #[.int .u64 x445000_15, .int .u64 x445001_15, .int .u64 x445002_15]] ?_
                                with_reducible refine (policy_Covers.calls a0_0 a0_1 a0_2 a0_3 a0_4 a0_8 a0_9 a0_10 x445000_15 x445001_15 x445002_15 t478 _ A166.out).mono ?_
                                rintro e w173 ⟨rfl, hb⟩
                                refine ⟨_, rfl, ?_⟩
                                have n0_ := bb BK442 hb
                                have n1_ := bb BK444 hb
                                have n2_ := bb BK450 hb
                                have n3_ := bb BK456 hb
                                have n4_ := bb BK465 hb
                                have n5_ := bs HB hb
                                clear BK442
                                clear BK444
                                clear BK450
                                clear BK456
                                clear BK465
                                clear HB
                                have BK442 := n0_
                                have BK444 := n1_
                                have BK450 := n2_
                                have BK456 := n3_
                                have BK465 := n4_
                                have HB := n5_
                                clear n0_ n1_ n2_ n3_ n4_ n5_
                                (try clear hb)
                                (try clear hb2)
                                (try clear hk)
                                (try clear hi)
                                refine hK.out _ _ ⟨(blk_cell BK442.out 0).trans rfl, (blk_cell BK442.out 1).trans rfl, (blk_cell BK442.out 2).trans rfl, (blk_cell BK442.out 3).trans rfl, (blk_cell BK442.out 4).trans rfl, (blk_cell BK442.out 5).trans rfl, (blk_cell BK442.out 6).trans rfl, (blk_cell BK442.out 7).trans rfl, (blk_cell BK442.out 8).trans rfl, (blk_cell BK442.out 9).trans rfl, (blk_cell BK442.out 10).trans rfl, (blk_cell BK442.out 11).trans rfl, (blk_cell BK442.out 12).trans rfl, (blk_cell BK444.out 0).trans rfl, (blk_cell BK444.out 1).trans rfl, (blk_cell BK444.out 2).trans rfl⟩ (fun hHeld => ?_)
                                clear hK K
                                refine norm_ (a' := ?_) ?_ ?_
                                rotate_left
                                · show Act.put _ (some 182) _ = _
                                  simp only [Act.put, List.setIfInBounds_toArray, List.set_cons_zero, List.set_cons_succ, i64_w, i32_w]
                                  rfl
                                refine one_ (i := 43) (N := some 189) #[true, true, true, true, true, true, true, true, true, true, true, true, true, true, true, true, true, true, true, true, true, true, true, true, true, true, true, true, true, true, true, true, true, true, true, true, true, true, true, true, true, true, true, true, false, false, false] rfl rfl (one_of HT_.out (by kernel_rfl)) (by decide) (fun K hK => ?_)
                                refine ge Try.func27 #[.agg #[.int .i64 a0_0, .int .u64 a0_1, .int .u64 a0_2, .int .u64 a0_3, .int .u64 a0_4], .agg #[.int .u64 a0_8, .int .u64 a0_9, .int .u64 a0_10], .agg #[.int .u64 a0_5, .int .u64 a0_6, .int .u64 a0_7]] ?_
                                with_reducible refine (policy_Covers.calls a0_0 a0_1 a0_2 a0_3 a0_4 a0_8 a0_9 a0_10 a0_5 a0_6 a0_7 t479 _ A167.out).mono ?_
                                rintro e w174 ⟨rfl, hb⟩
                                refine ⟨_, rfl, ?_⟩
                                have n0_ := bb BK442 hb
                                have n1_ := bb BK444 hb
                                have n2_ := bb BK450 hb
                                have n3_ := bb BK456 hb
                                have n4_ := bb BK465 hb
                                have n5_ := bs HB hb
                                clear BK442
                                clear BK444
                                clear BK450
                                clear BK456
                                clear BK465
                                clear HB
                                have BK442 := n0_
                                have BK444 := n1_
                                have BK450 := n2_
                                have BK456 := n3_
                                have BK465 := n4_
                                have HB := n5_
                                clear n0_ n1_ n2_ n3_ n4_ n5_
                                (try clear hb)
                                (try clear hb2)
                                (try clear hk)
                                (try clear hi)
                                refine hK.out _ _ ⟨(blk_cell BK442.out 0).trans rfl, (blk_cell BK442.out 1).trans rfl, (blk_cell BK442.out 2).trans rfl, (blk_cell BK442.out 3).trans rfl, (blk_cell BK442.out 4).trans rfl, (blk_cell BK442.out 5).trans rfl, (blk_cell BK442.out 6).trans rfl, (blk_cell BK442.out 7).trans rfl, (blk_cell BK442.out 8).trans rfl, (blk_cell BK442.out 9).trans rfl, (blk_cell BK442.out 10).trans rfl, (blk_cell BK442.out 11).trans rfl, (blk_cell BK442.out 12).trans rfl, (blk_cell BK444.out 0).trans rfl, (blk_cell BK444.out 1).trans rfl, (blk_cell BK444.out 2).trans rfl⟩ (fun hHeld => ?_)
                                clear hK K
                                refine norm_ (a' := ?_) ?_ ?_
                                rotate_left
                                · show Act.put _ (some 189) _ = _
                                  simp only [Act.put, List.setIfInBounds_toArray, List.set_cons_zero, List.set_cons_succ, i64_w, i32_w]
                                  rfl
                                refine chain_ (fuel := 0) [(44, 0, some 190), (45, 0, some 191), (46, 0, some 6)] #[true, true, true, true, true, true, true, true, true, true, true, true, true, true, true, true, true, true, true, true, true, true, true, true, true, true, true, true, true, true, true, true, true, true, true, true, true, true, true, true, true, true, true, true, true, true, true] HT_.out HW_.out (by kernel_rfl) (fun _ _ _ _ _ h => h) (Or.inl (by decide)) rfl ?_
                                (iterate 3 refine lkP ?_); refine .nil ?_
                                refine done_ (done_of HT_.out (by kernel_rfl)) ?_
                                try go_wp2
                                go_ret
                                exact ⟨re, bw HB⟩
                              · rw [if_neg c165] at H
                                have c165b0 : (t476 == t477) = false := by simpa using c165
                                (try (have c165b1 : decide (t476 = t477) = false := by simpa using c165))
                                (try (have c165b2 : (t476 == t477) = false := by simpa using c165))
                                (try (have c165b3 : ¬ (t476 = t477) := by simpa using c165))
                                clear c165
                                obtain rfl := Option.some.inj H
                                try go_wp2
                                have n0_ := Aside0.mk (blk_drew BK442.out)
                                have n1_ := Aside0.mk (blk_drew BK444.out)
                                have n2_ := Aside0.mk (blk_drew BK450.out)
                                have n3_ := Aside0.mk (blk_drew BK456.out)
                                have n4_ := Aside0.mk (blk_drew BK465.out)
                                have n5_ := Aside0.mk (below_drew1 HB.out)
                                clear BK442
                                clear BK444
                                clear BK450
                                clear BK456
                                clear BK465
                                clear HB
                                have BK442 := n0_
                                have BK444 := n1_
                                have BK450 := n2_
                                have BK456 := n3_
                                have BK465 := n4_
                                have HB := n5_
                                clear n0_ n1_ n2_ n3_ n4_ n5_
                                refine start_ (n := 47) (S := fun w' => w'.cell? ⟨gb442, 0, none⟩ = some (.int .i64 a0_0) ∧ w'.cell? ⟨gb442, 1, none⟩ = some (.int .u64 a0_1) ∧ w'.cell? ⟨gb442, 2, none⟩ = some (.int .u64 a0_2) ∧ w'.cell? ⟨gb442, 3, none⟩ = some (.int .u64 a0_3) ∧ w'.cell? ⟨gb442, 4, none⟩ = some (.int .u64 a0_4) ∧ w'.cell? ⟨gb442, 5, none⟩ = some (.int .u64 a0_5) ∧ w'.cell? ⟨gb442, 6, none⟩ = some (.int .u64 a0_6) ∧ w'.cell? ⟨gb442, 7, none⟩ = some (.int .u64 a0_7) ∧ w'.cell? ⟨gb442, 8, none⟩ = some (.int .u64 a0_8) ∧ w'.cell? ⟨gb442, 9, none⟩ = some (.int .u64 a0_9) ∧ w'.cell? ⟨gb442, 10, none⟩ = some (.int .u64 a0_10) ∧ w'.cell? ⟨gb442, 11, none⟩ = some (.int .u64 a0_11) ∧ w'.cell? ⟨gb442, 12, none⟩ = some (.int .u64 a0_12) ∧ w'.cell? ⟨gb444, 0, none⟩ = some (.int .u64 x445000_15) ∧ w'.cell? ⟨gb444, 1, none⟩ = some (.int .u64 x445001_15) ∧ w'.cell? ⟨gb444, 2, none⟩ = some (.int .u64 x445002_15)) (ds := []) #[false, false, false, false, false, false, false, false, false, false, false, false, false, false, false, false, false, false, false, false, false, false, false, false, false, false, false, false, false, false, false, false, false, false, false, false, false, false, false, false, false, false, false, false, false, false, false] (by kernel_rfl) rfl rfl ⟨(blk_cell BK442.out 0).trans rfl, (blk_cell BK442.out 1).trans rfl, (blk_cell BK442.out 2).trans rfl, (blk_cell BK442.out 3).trans rfl, (blk_cell BK442.out 4).trans rfl, (blk_cell BK442.out 5).trans rfl, (blk_cell BK442.out 6).trans rfl, (blk_cell BK442.out 7).trans rfl, (blk_cell BK442.out 8).trans rfl, (blk_cell BK442.out 9).trans rfl, (blk_cell BK442.out 10).trans rfl, (blk_cell BK442.out 11).trans rfl, (blk_cell BK442.out 12).trans rfl, (blk_cell BK444.out 0).trans rfl, (blk_cell BK444.out 1).trans rfl, (blk_cell BK444.out 2).trans rfl⟩ (fun hHeld => ?_); refine with_tabW turnstilelaw06_PolicyForm.tab15 turnstilelaw06_PolicyForm.bits15 (fun HT_ HW_ => ?_)
                                generalize wc.drew = w175 at BK442 BK444 BK450 BK456 BK465 HB hHeld ⊢
                                refine chain_ (fuel := 36) [(0, 0, some 146), (3, 0, some 149), (6, 0, some 152), (8, 0, some 154), (10, 0, some 156), (1, 1, some 147), (2, 1, some 148), (4, 1, some 150), (7, 1, some 153), (9, 1, some 155), (11, 1, some 157)] #[true, true, true, true, true, false, true, true, true, true, true, true, false, false, false, false, false, false, false, false, false, false, false, false, false, false, false, false, false, false, false, false, false, false, false, false, false, false, false, false, false, false, false, false, false, false, false] HT_.out HW_.out (by kernel_rfl) (fun _ _ _ _ _ h => h) (Or.inr hHeld) rfl ?_
                                (iterate 5 refine lkP ?_); (iterate 6 refine lkT ?_); refine .nil ?_
                                refine one_ (i := 5) (N := some 151) #[true, true, true, true, true, true, true, true, true, true, true, true, false, false, false, false, false, false, false, false, false, false, false, false, false, false, false, false, false, false, false, false, false, false, false, false, false, false, false, false, false, false, false, false, false, false, false] rfl rfl (one_of HT_.out (by kernel_rfl)) (by decide) (fun K hK => ?_)
                                refine ge Try.func17 #[.agg #[.int .i64 a0_0, .int .u64 a0_1, .int .u64 a0_2, .int .u64 a0_3, .int .u64 a0_4], .agg #[.int .u64 x445000_15, .int .u64 x445001_15, .int .u64 x445002_15], .int .u64 a0_11] ?_
                                with_reducible refine (policy_Left.calls kj110 a0_0 a0_1 a0_2 a0_3 a0_4 x445000_15 x445001_15 x445002_15 a0_11 t474 _ A160.out).mono ?_
                                rintro e w176 ⟨rfl, hb⟩
                                refine ⟨_, rfl, ?_⟩
                                have n0_ := bb BK442 hb
                                have n1_ := bb BK444 hb
                                have n2_ := bb BK450 hb
                                have n3_ := bb BK456 hb
                                have n4_ := bb BK465 hb
                                have n5_ := bs HB hb
                                clear BK442
                                clear BK444
                                clear BK450
                                clear BK456
                                clear BK465
                                clear HB
                                have BK442 := n0_
                                have BK444 := n1_
                                have BK450 := n2_
                                have BK456 := n3_
                                have BK465 := n4_
                                have HB := n5_
                                clear n0_ n1_ n2_ n3_ n4_ n5_
                                (try clear hb)
                                (try clear hb2)
                                (try clear hk)
                                (try clear hi)
                                refine hK.out _ _ ⟨(blk_cell BK442.out 0).trans rfl, (blk_cell BK442.out 1).trans rfl, (blk_cell BK442.out 2).trans rfl, (blk_cell BK442.out 3).trans rfl, (blk_cell BK442.out 4).trans rfl, (blk_cell BK442.out 5).trans rfl, (blk_cell BK442.out 6).trans rfl, (blk_cell BK442.out 7).trans rfl, (blk_cell BK442.out 8).trans rfl, (blk_cell BK442.out 9).trans rfl, (blk_cell BK442.out 10).trans rfl, (blk_cell BK442.out 11).trans rfl, (blk_cell BK442.out 12).trans rfl, (blk_cell BK444.out 0).trans rfl, (blk_cell BK444.out 1).trans rfl, (blk_cell BK444.out 2).trans rfl⟩ (fun hHeld => ?_)
                                clear hK K
                                refine norm_ (a' := ?_) ?_ ?_
                                rotate_left
                                · show Act.put _ (some 151) _ = _
                                  simp only [Act.put, List.setIfInBounds_toArray, List.set_cons_zero, List.set_cons_succ, i64_w, i32_w]
                                  rfl
                                refine one_ (i := 12) (N := some 158) #[true, true, true, true, true, true, true, true, true, true, true, true, true, false, false, false, false, false, false, false, false, false, false, false, false, false, false, false, false, false, false, false, false, false, false, false, false, false, false, false, false, false, false, false, false, false, false] rfl rfl (one_of HT_.out (by kernel_rfl)) (by decide) (fun K hK => ?_)
                                refine ge Try.func17 #[.agg #[.int .i64 a0_0, .int .u64 a0_1, .int .u64 a0_2, .int .u64 a0_3, .int .u64 a0_4], .agg #[.int .u64 a0_5, .int .u64 a0_6, .int .u64 a0_7], .int .u64 a0_11] ?_
                                with_reducible refine (policy_Left.calls kj110 a0_0 a0_1 a0_2 a0_3 a0_4 a0_5 a0_6 a0_7 a0_11 t475 _ A161.out).mono ?_
                                rintro e w177 ⟨rfl, hb⟩
                                refine ⟨_, rfl, ?_⟩
                                have n0_ := bb BK442 hb
                                have n1_ := bb BK444 hb
                                have n2_ := bb BK450 hb
                                have n3_ := bb BK456 hb
                                have n4_ := bb BK465 hb
                                have n5_ := bs HB hb
                                clear BK442
                                clear BK444
                                clear BK450
                                clear BK456
                                clear BK465
                                clear HB
                                have BK442 := n0_
                                have BK444 := n1_
                                have BK450 := n2_
                                have BK456 := n3_
                                have BK465 := n4_
                                have HB := n5_
                                clear n0_ n1_ n2_ n3_ n4_ n5_
                                (try clear hb)
                                (try clear hb2)
                                (try clear hk)
                                (try clear hi)
                                refine hK.out _ _ ⟨(blk_cell BK442.out 0).trans rfl, (blk_cell BK442.out 1).trans rfl, (blk_cell BK442.out 2).trans rfl, (blk_cell BK442.out 3).trans rfl, (blk_cell BK442.out 4).trans rfl, (blk_cell BK442.out 5).trans rfl, (blk_cell BK442.out 6).trans rfl, (blk_cell BK442.out 7).trans rfl, (blk_cell BK442.out 8).trans rfl, (blk_cell BK442.out 9).trans rfl, (blk_cell BK442.out 10).trans rfl, (blk_cell BK442.out 11).trans rfl, (blk_cell BK442.out 12).trans rfl, (blk_cell BK444.out 0).trans rfl, (blk_cell BK444.out 1).trans rfl, (blk_cell BK444.out 2).trans rfl⟩ (fun hHeld => ?_)
                                clear hK K
                                refine norm_ (a' := ?_) ?_ ?_
                                rotate_left
                                · show Act.put _ (some 158) _ = _
                                  simp only [Act.put, List.setIfInBounds_toArray, List.set_cons_zero, List.set_cons_succ, i64_w, i32_w]
                                  rfl
                                refine chain_ (fuel := 21) [(13, 0, some 159), (14, 0, some 160), (15, 0, some 161), (18, 0, some 164), (21, 0, some 167), (23, 0, some 169), (25, 0, some 171), (16, 1, some 162), (17, 1, some 163), (19, 1, some 165), (22, 1, some 168), (24, 1, some 170), (26, 1, some 172)] #[true, true, true, true, true, true, true, true, true, true, true, true, true, true, true, true, true, true, true, true, false, true, true, true, true, true, true, false, false, false, false, false, false, false, false, false, false, false, false, false, false, false, false, false, false, false, false] HT_.out HW_.out (by kernel_rfl) (fun _ _ _ _ _ h => h) (Or.inr hHeld) rfl ?_
                                (iterate 7 refine lkP ?_); (iterate 6 refine lkT ?_); refine .nil ?_
                                refine one_ (i := 20) (N := some 166) #[true, true, true, true, true, true, true, true, true, true, true, true, true, true, true, true, true, true, true, true, true, true, true, true, true, true, true, false, false, false, false, false, false, false, false, false, false, false, false, false, false, false, false, false, false, false, false] rfl rfl (one_of HT_.out (by kernel_rfl)) (by decide) (fun K hK => ?_)
                                refine ge Try.func27 #[.agg #[.int .i64 a0_0, .int .u64 a0_1, .int .u64 a0_2, .int .u64 a0_3, .int .u64 a0_4], .agg #[.int .u64 x445000_15, .int .u64 x445001_15, .int .u64 x445002_15], .agg #[.int .u64 a0_8, .int .u64 a0_9, .int .u64 a0_10]] ?_
                                with_reducible refine (policy_Covers.calls a0_0 a0_1 a0_2 a0_3 a0_4 x445000_15 x445001_15 x445002_15 a0_8 a0_9 a0_10 t476 _ A163.out).mono ?_
                                rintro e w178 ⟨rfl, hb⟩
                                refine ⟨_, rfl, ?_⟩
                                have n0_ := bb BK442 hb
                                have n1_ := bb BK444 hb
                                have n2_ := bb BK450 hb
                                have n3_ := bb BK456 hb
                                have n4_ := bb BK465 hb
                                have n5_ := bs HB hb
                                clear BK442
                                clear BK444
                                clear BK450
                                clear BK456
                                clear BK465
                                clear HB
                                have BK442 := n0_
                                have BK444 := n1_
                                have BK450 := n2_
                                have BK456 := n3_
                                have BK465 := n4_
                                have HB := n5_
                                clear n0_ n1_ n2_ n3_ n4_ n5_
                                (try clear hb)
                                (try clear hb2)
                                (try clear hk)
                                (try clear hi)
                                refine hK.out _ _ ⟨(blk_cell BK442.out 0).trans rfl, (blk_cell BK442.out 1).trans rfl, (blk_cell BK442.out 2).trans rfl, (blk_cell BK442.out 3).trans rfl, (blk_cell BK442.out 4).trans rfl, (blk_cell BK442.out 5).trans rfl, (blk_cell BK442.out 6).trans rfl, (blk_cell BK442.out 7).trans rfl, (blk_cell BK442.out 8).trans rfl, (blk_cell BK442.out 9).trans rfl, (blk_cell BK442.out 10).trans rfl, (blk_cell BK442.out 11).trans rfl, (blk_cell BK442.out 12).trans rfl, (blk_cell BK444.out 0).trans rfl, (blk_cell BK444.out 1).trans rfl, (blk_cell BK444.out 2).trans rfl⟩ (fun hHeld => ?_)
                                clear hK K
                                refine norm_ (a' := ?_) ?_ ?_
                                rotate_left
                                · show Act.put _ (some 166) _ = _
                                  simp only [Act.put, List.setIfInBounds_toArray, List.set_cons_zero, List.set_cons_succ, i64_w, i32_w]
                                  rfl
                                refine one_ (i := 27) (N := some 173) #[true, true, true, true, true, true, true, true, true, true, true, true, true, true, true, true, true, true, true, true, true, true, true, true, true, true, true, true, false, false, false, false, false, false, false, false, false, false, false, false, false, false, false, false, false, false, false] rfl rfl (one_of HT_.out (by kernel_rfl)) (by decide) (fun K hK => ?_)
                                refine ge Try.func27 #[.agg #[.int .i64 a0_0, .int .u64 a0_1, .int .u64 a0_2, .int .u64 a0_3, .int .u64 a0_4], .agg #[.int .u64 a0_5, .int .u64 a0_6, .int .u64 a0_7], .agg #[.int .u64 a0_8, .int .u64 a0_9, .int .u64 a0_10]] ?_
                                with_reducible refine (policy_Covers.calls a0_0 a0_1 a0_2 a0_3 a0_4 a0_5 a0_6 a0_7 a0_8 a0_9 a0_10 t477 _ A164.out).mono ?_
                                rintro e w179 ⟨rfl, hb⟩
                                refine ⟨_, rfl, ?_⟩
                                have n0_ := bb BK442 hb
                                have n1_ := bb BK444 hb
                                have n2_ := bb BK450 hb
                                have n3_ := bb BK456 hb
                                have n4_ := bb BK465 hb
                                have n5_ := bs HB hb
                                clear BK442
                                clear BK444
                                clear BK450
                                clear BK456
                                clear BK465
                                clear HB
                                have BK442 := n0_
                                have BK444 := n1_
                                have BK450 := n2_
                                have BK456 := n3_
                                have BK465 := n4_
                                have HB := n5_
                                clear n0_ n1_ n2_ n3_ n4_ n5_
                                (try clear hb)
                                (try clear hb2)
                                (try clear hk)
                                (try clear hi)
                                refine hK.out _ _ ⟨(blk_cell BK442.out 0).trans rfl, (blk_cell BK442.out 1).trans rfl, (blk_cell BK442.out 2).trans rfl, (blk_cell BK442.out 3).trans rfl, (blk_cell BK442.out 4).trans rfl, (blk_cell BK442.out 5).trans rfl, (blk_cell BK442.out 6).trans rfl, (blk_cell BK442.out 7).trans rfl, (blk_cell BK442.out 8).trans rfl, (blk_cell BK442.out 9).trans rfl, (blk_cell BK442.out 10).trans rfl, (blk_cell BK442.out 11).trans rfl, (blk_cell BK442.out 12).trans rfl, (blk_cell BK444.out 0).trans rfl, (blk_cell BK444.out 1).trans rfl, (blk_cell BK444.out 2).trans rfl⟩ (fun hHeld => ?_)
                                clear hK K
                                refine norm_ (a' := ?_) ?_ ?_
                                rotate_left
                                · show Act.put _ (some 173) _ = _
                                  simp only [Act.put, List.setIfInBounds_toArray, List.set_cons_zero, List.set_cons_succ, i64_w, i32_w]
                                  rfl
                                refine chain_ (fuel := 0) [(28, 0, some 174), (29, 0, some 175), (30, 0, some 176), (31, 2, some 177), (32, 2, some 178), (33, 2, some 179), (34, 2, some 180), (35, 2, some 181), (36, 2, some 182), (37, 2, some 183), (38, 2, some 184), (39, 2, some 185), (40, 2, some 186), (41, 2, some 187), (42, 2, some 188), (43, 2, some 189), (44, 2, some 190), (45, 0, some 191), (46, 0, some 6)] #[true, true, true, true, true, true, true, true, true, true, true, true, true, true, true, true, true, true, true, true, true, true, true, true, true, true, true, true, true, true, true, true, true, true, true, true, true, true, true, true, true, true, true, true, true, true, true] HT_.out HW_.out (by kernel_rfl) (fun _ _ _ _ _ h => h) (Or.inl (by decide)) rfl ?_
                                (iterate 3 refine lkP ?_); (iterate 14 refine lkO ?_); (iterate 2 refine lkP ?_); refine .nil ?_
                                refine done_ (done_of HT_.out (by kernel_rfl)) ?_
                                try go_wp2
                                go_ret
                                exact ⟨re, bw HB⟩
                            · rw [if_neg c162] at H
                              have c162b0 : (t474 == t475) = false := beq_eq_false_iff_ne.mpr c162
                              have c162b1 : (t474 != t475) = true := bne_iff_ne.mpr c162
                              obtain rfl := Option.some.inj H
                              try go_wp2
                              have n0_ := Aside0.mk (blk_drew BK442.out)
                              have n1_ := Aside0.mk (blk_drew BK444.out)
                              have n2_ := Aside0.mk (blk_drew BK450.out)
                              have n3_ := Aside0.mk (blk_drew BK456.out)
                              have n4_ := Aside0.mk (blk_drew BK465.out)
                              have n5_ := Aside0.mk (below_drew1 HB.out)
                              clear BK442
                              clear BK444
                              clear BK450
                              clear BK456
                              clear BK465
                              clear HB
                              have BK442 := n0_
                              have BK444 := n1_
                              have BK450 := n2_
                              have BK456 := n3_
                              have BK465 := n4_
                              have HB := n5_
                              clear n0_ n1_ n2_ n3_ n4_ n5_
                              refine start_ (n := 47) (S := fun w' => w'.cell? ⟨gb442, 0, none⟩ = some (.int .i64 a0_0) ∧ w'.cell? ⟨gb442, 1, none⟩ = some (.int .u64 a0_1) ∧ w'.cell? ⟨gb442, 2, none⟩ = some (.int .u64 a0_2) ∧ w'.cell? ⟨gb442, 3, none⟩ = some (.int .u64 a0_3) ∧ w'.cell? ⟨gb442, 4, none⟩ = some (.int .u64 a0_4) ∧ w'.cell? ⟨gb442, 5, none⟩ = some (.int .u64 a0_5) ∧ w'.cell? ⟨gb442, 6, none⟩ = some (.int .u64 a0_6) ∧ w'.cell? ⟨gb442, 7, none⟩ = some (.int .u64 a0_7) ∧ w'.cell? ⟨gb442, 8, none⟩ = some (.int .u64 a0_8) ∧ w'.cell? ⟨gb442, 9, none⟩ = some (.int .u64 a0_9) ∧ w'.cell? ⟨gb442, 10, none⟩ = some (.int .u64 a0_10) ∧ w'.cell? ⟨gb442, 11, none⟩ = some (.int .u64 a0_11) ∧ w'.cell? ⟨gb442, 12, none⟩ = some (.int .u64 a0_12) ∧ w'.cell? ⟨gb444, 0, none⟩ = some (.int .u64 x445000_15) ∧ w'.cell? ⟨gb444, 1, none⟩ = some (.int .u64 x445001_15) ∧ w'.cell? ⟨gb444, 2, none⟩ = some (.int .u64 x445002_15)) (ds := []) #[false, false, false, false, false, false, false, false, false, false, false, false, false, false, false, false, false, false, false, false, false, false, false, false, false, false, false, false, false, false, false, false, false, false, false, false, false, false, false, false, false, false, false, false, false, false, false] (by kernel_rfl) rfl rfl ⟨(blk_cell BK442.out 0).trans rfl, (blk_cell BK442.out 1).trans rfl, (blk_cell BK442.out 2).trans rfl, (blk_cell BK442.out 3).trans rfl, (blk_cell BK442.out 4).trans rfl, (blk_cell BK442.out 5).trans rfl, (blk_cell BK442.out 6).trans rfl, (blk_cell BK442.out 7).trans rfl, (blk_cell BK442.out 8).trans rfl, (blk_cell BK442.out 9).trans rfl, (blk_cell BK442.out 10).trans rfl, (blk_cell BK442.out 11).trans rfl, (blk_cell BK442.out 12).trans rfl, (blk_cell BK444.out 0).trans rfl, (blk_cell BK444.out 1).trans rfl, (blk_cell BK444.out 2).trans rfl⟩ (fun hHeld => ?_); refine with_tabW turnstilelaw06_PolicyForm.tab15 turnstilelaw06_PolicyForm.bits15 (fun HT_ HW_ => ?_)
                              generalize wc.drew = w180 at BK442 BK444 BK450 BK456 BK465 HB hHeld ⊢
                              refine chain_ (fuel := 36) [(0, 0, some 146), (3, 0, some 149), (6, 0, some 152), (8, 0, some 154), (10, 0, some 156), (1, 1, some 147), (2, 1, some 148), (4, 1, some 150), (7, 1, some 153), (9, 1, some 155), (11, 1, some 157)] #[true, true, true, true, true, false, true, true, true, true, true, true, false, false, false, false, false, false, false, false, false, false, false, false, false, false, false, false, false, false, false, false, false, false, false, false, false, false, false, false, false, false, false, false, false, false, false] HT_.out HW_.out (by kernel_rfl) (fun _ _ _ _ _ h => h) (Or.inr hHeld) rfl ?_
                              (iterate 5 refine lkP ?_); (iterate 6 refine lkT ?_); refine .nil ?_
                              refine one_ (i := 5) (N := some 151) #[true, true, true, true, true, true, true, true, true, true, true, true, false, false, false, false, false, false, false, false, false, false, false, false, false, false, false, false, false, false, false, false, false, false, false, false, false, false, false, false, false, false, false, false, false, false, false] rfl rfl (one_of HT_.out (by kernel_rfl)) (by decide) (fun K hK => ?_)
                              refine ge Try.func17 #[.agg #[.int .i64 a0_0, .int .u64 a0_1, .int .u64 a0_2, .int .u64 a0_3, .int .u64 a0_4], .agg #[.int .u64 x445000_15, .int .u64 x445001_15, .int .u64 x445002_15], .int .u64 a0_11] ?_
                              with_reducible refine (policy_Left.calls kj110 a0_0 a0_1 a0_2 a0_3 a0_4 x445000_15 x445001_15 x445002_15 a0_11 t474 _ A160.out).mono ?_
                              rintro e w181 ⟨rfl, hb⟩
                              refine ⟨_, rfl, ?_⟩
                              have n0_ := bb BK442 hb
                              have n1_ := bb BK444 hb
                              have n2_ := bb BK450 hb
                              have n3_ := bb BK456 hb
                              have n4_ := bb BK465 hb
                              have n5_ := bs HB hb
                              clear BK442
                              clear BK444
                              clear BK450
                              clear BK456
                              clear BK465
                              clear HB
                              have BK442 := n0_
                              have BK444 := n1_
                              have BK450 := n2_
                              have BK456 := n3_
                              have BK465 := n4_
                              have HB := n5_
                              clear n0_ n1_ n2_ n3_ n4_ n5_
                              (try clear hb)
                              (try clear hb2)
                              (try clear hk)
                              (try clear hi)
                              refine hK.out _ _ ⟨(blk_cell BK442.out 0).trans rfl, (blk_cell BK442.out 1).trans rfl, (blk_cell BK442.out 2).trans rfl, (blk_cell BK442.out 3).trans rfl, (blk_cell BK442.out 4).trans rfl, (blk_cell BK442.out 5).trans rfl, (blk_cell BK442.out 6).trans rfl, (blk_cell BK442.out 7).trans rfl, (blk_cell BK442.out 8).trans rfl, (blk_cell BK442.out 9).trans rfl, (blk_cell BK442.out 10).trans rfl, (blk_cell BK442.out 11).trans rfl, (blk_cell BK442.out 12).trans rfl, (blk_cell BK444.out 0).trans rfl, (blk_cell BK444.out 1).trans rfl, (blk_cell BK444.out 2).trans rfl⟩ (fun hHeld => ?_)
                              clear hK K
                              refine norm_ (a' := ?_) ?_ ?_
                              rotate_left
                              · show Act.put _ (some 151) _ = _
                                simp only [Act.put, List.setIfInBounds_toArray, List.set_cons_zero, List.set_cons_succ, i64_w, i32_w]
                                rfl
                              refine one_ (i := 12) (N := some 158) #[true, true, true, true, true, true, true, true, true, true, true, true, true, false, false, false, false, false, false, false, false, false, false, false, false, false, false, false, false, false, false, false, false, false, false, false, false, false, false, false, false, false, false, false, false, false, false] rfl rfl (one_of HT_.out (by kernel_rfl)) (by decide) (fun K hK => ?_)
                              refine ge Try.func17 #[.agg #[.int .i64 a0_0, .int .u64 a0_1, .int .u64 a0_2, .int .u64 a0_3, .int .u64 a0_4], .agg #[.int .u64 a0_5, .int .u64 a0_6, .int .u64 a0_7], .int .u64 a0_11] ?_
                              with_reducible refine (policy_Left.calls kj110 a0_0 a0_1 a0_2 a0_3 a0_4 a0_5 a0_6 a0_7 a0_11 t475 _ A161.out).mono ?_
                              rintro e w182 ⟨rfl, hb⟩
                              refine ⟨_, rfl, ?_⟩
                              have n0_ := bb BK442 hb
                              have n1_ := bb BK444 hb
                              have n2_ := bb BK450 hb
                              have n3_ := bb BK456 hb
                              have n4_ := bb BK465 hb
                              have n5_ := bs HB hb
                              clear BK442
                              clear BK444
                              clear BK450
                              clear BK456
                              clear BK465
                              clear HB
                              have BK442 := n0_
                              have BK444 := n1_
                              have BK450 := n2_
                              have BK456 := n3_
                              have BK465 := n4_
                              have HB := n5_
                              clear n0_ n1_ n2_ n3_ n4_ n5_
                              (try clear hb)
                              (try clear hb2)
                              (try clear hk)
                              (try clear hi)
                              refine hK.out _ _ ⟨(blk_cell BK442.out 0).trans rfl, (blk_cell BK442.out 1).trans rfl, (blk_cell BK442.out 2).trans rfl, (blk_cell BK442.out 3).trans rfl, (blk_cell BK442.out 4).trans rfl, (blk_cell BK442.out 5).trans rfl, (blk_cell BK442.out 6).trans rfl, (blk_cell BK442.out 7).trans rfl, (blk_cell BK442.out 8).trans rfl, (blk_cell BK442.out 9).trans rfl, (blk_cell BK442.out 10).trans rfl, (blk_cell BK442.out 11).trans rfl, (blk_cell BK442.out 12).trans rfl, (blk_cell BK444.out 0).trans rfl, (blk_cell BK444.out 1).trans rfl, (blk_cell BK444.out 2).trans rfl⟩ (fun hHeld => ?_)
                              clear hK K
                              refine norm_ (a' := ?_) ?_ ?_
                              rotate_left
                              · show Act.put _ (some 158) _ = _
                                simp only [Act.put, List.setIfInBounds_toArray, List.set_cons_zero, List.set_cons_succ, i64_w, i32_w]
                                rfl
                              refine chain_ (fuel := 0) [(13, 0, some 159), (14, 0, some 160), (15, 2, some 161), (16, 2, some 162), (17, 2, some 163), (18, 2, some 164), (19, 2, some 165), (20, 2, some 166), (21, 2, some 167), (22, 2, some 168), (23, 2, some 169), (24, 2, some 170), (25, 2, some 171), (26, 2, some 172), (27, 2, some 173), (28, 2, some 174), (29, 0, some 175), (30, 0, some 176), (31, 2, some 177), (32, 2, some 178), (33, 2, some 179), (34, 2, some 180), (35, 2, some 181), (36, 2, some 182), (37, 2, some 183), (38, 2, some 184), (39, 2, some 185), (40, 2, some 186), (41, 2, some 187), (42, 2, some 188), (43, 2, some 189), (44, 2, some 190), (45, 0, some 191), (46, 0, some 6)] #[true, true, true, true, true, true, true, true, true, true, true, true, true, true, true, true, true, true, true, true, true, true, true, true, true, true, true, true, true, true, true, true, true, true, true, true, true, true, true, true, true, true, true, true, true, true, true] HT_.out HW_.out (by kernel_rfl) (fun _ _ _ _ _ h => h) (Or.inl (by decide)) rfl ?_
                              (iterate 2 refine lkP ?_); (iterate 14 refine lkO ?_); (iterate 2 refine lkP ?_); (iterate 14 refine lkO ?_); (iterate 2 refine lkP ?_); refine .nil ?_
                              refine done_ (done_of HT_.out (by kernel_rfl)) ?_
                              try go_wp2
                              go_ret
                              exact ⟨re, bw HB⟩


end Go.Proofs.Ytokfhdpokemekaa.Q
