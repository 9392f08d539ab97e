/- Written by the session's own program hyb.py: what functions of the program compute; Lean checks it. -/
import Derived.Test.YtokfhdpokemekaaQx0
import Derived.Test.YtokfhdpokemekaaQx4
import Derived.Test.YtokfhdpokemekaaQx6
import Derived.Test.YtokfhdpokemekaaQx7
import Derived.Test.YtokfhdpokemekaaQx16
import Derived.Test.YtokfhdpokemekaaQx17
import Derived.Test.YtokfhdpokemekaaQx20
import Derived.Test.YtokfhdpokemekaaQx23
namespace Go.Proofs.Ytokfhdpokemekaa.Q
open Go.RowKit Go.Proofs.YtokfhdpokemekaaW.PrintWords Go.Proofs.YtokfhdpokemekaaW.PrintLast Go.Proofs.YtokfhdpokemekaaW.PrintMore Go.Proofs.YtokfhdpokemekaaW.PrintShort
attribute [local go_sem] run_Add64 run_Sub64
attribute [local go_sem] max2_int min2_int max_two min_two max_three min_three max_four min_four   -- for this text's walks alone
set_option linter.unusedVariables false
set_option linter.unusedSimpArgs false

/-! ### turnstilelaw17_ReserveLoss: function 12 -/
mutual
def turnstilelaw17_ReserveLoss.j0 : Nat → Int → Bool → Int → Int → Int → Int → Int → Int → Int → Int → Int → Int → Int → Int → Int → Option (Bool)
  | 0, _, _, _, _, _, _, _, _, _, _, _, _, _, _, _ => none
  | k + 1, x3, x9, x271000, x271001, x271002, x271003, x271004, x272000, x272001, x272002, x272003, x272004, x273000, x273001, x273002 => turnstilelaw17_ReserveLoss.j1 k x3 (!x9) x271000 x271001 x271002 x271003 x271004 x272000 x272001 x272002 x272003 x272004 x273000 x273001 x273002
def turnstilelaw17_ReserveLoss.j1 : Nat → Int → Bool → Int → Int → Int → Int → Int → Int → Int → Int → Int → Int → Int → Int → Int → Option (Bool)
  | 0, _, _, _, _, _, _, _, _, _, _, _, _, _, _, _ => none
  | k + 1, x3, x22, x271000, x271001, x271002, x271003, x271004, x272000, x272001, x272002, x272003, x272004, x273000, x273001, x273002 => if x22 = true then (some false) else ((reserve_Ceiling.f x271000 x271001 x271002 x271003 x271004 x272000 x272001 x272002 x272003 x272004 x273000 x273001 x273002).bind fun bt274 => ((policy_Admit.f k x272000 x272001 x272002 x272003 x272004 bt274.1 bt274.2.1 bt274.2.2 x3 1).bind fun bt278 => ((policy_Valid.f x272000 x272001 x272002 x272003 x272004).bind fun t284 => (turnstilelaw17_ReserveLoss.j2 k x3 bt278.2.2.2.1 t284 x271000 x271001 x271002 x271003 x271004 x272000 x272001 x272002 x272003 x272004 x273000 x273001 x273002))))
def turnstilelaw17_ReserveLoss.j2 : Nat → Int → Bool → Bool → Int → Int → Int → Int → Int → Int → Int → Int → Int → Int → Int → Int → Int → Option (Bool)
  | 0, _, _, _, _, _, _, _, _, _, _, _, _, _, _, _, _ => none
  | k + 1, x3, x12, x14, x271000, x271001, x271002, x271003, x271004, x272000, x272001, x272002, x272003, x272004, x273000, x273001, x273002 => turnstilelaw17_ReserveLoss.j3 k x3 x12 (!x14) x271000 x271001 x271002 x271003 x271004 x272000 x272001 x272002 x272003 x272004 x273000 x273001 x273002
def turnstilelaw17_ReserveLoss.j3 : Nat → Int → Bool → Bool → Int → Int → Int → Int → Int → Int → Int → Int → Int → Int → Int → Int → Int → Option (Bool)
  | 0, _, _, _, _, _, _, _, _, _, _, _, _, _, _, _, _ => none
  | k + 1, x3, x12, x38, x271000, x271001, x271002, x271003, x271004, x272000, x272001, x272002, x272003, x272004, x273000, x273001, x273002 => if x38 = true then (some (!x12)) else (turnstilelaw17_ReserveLoss.j4 k x3 x12 (x272000 == 2) x271000 x271001 x271002 x271003 x271004 x272000 x272001 x272002 x272003 x272004 x273000 x273001 x273002)
def turnstilelaw17_ReserveLoss.j4 : Nat → Int → Bool → Bool → Int → Int → Int → Int → Int → Int → Int → Int → Int → Int → Int → Int → Int → Option (Bool)
  | 0, _, _, _, _, _, _, _, _, _, _, _, _, _, _, _, _ => none
  | k + 1, x3, x12, x43, x271000, x271001, x271002, x271003, x271004, x272000, x272001, x272002, x272003, x272004, x273000, x273001, x273002 => if x43 = true then (if x272003 = 0 then (turnstilelaw17_ReserveLoss.j5 k true) else (if x272004 = 0 then (none) else (if (IntKind.u64.wrap (Int.tdiv x3 x272004)) ≤ x273001 then (turnstilelaw17_ReserveLoss.j5 k true) else (turnstilelaw17_ReserveLoss.j5 k x12)))) else ((sat_Of.f x273000).bind fun bt285 => ((sat_Of.f x271000).bind fun bt287 => ((sat_Wide_Plus.f bt285.1 bt285.2 bt287.1 bt287.2).bind fun bt289 => ((sat_Of.f x272002).bind fun bt291 => ((sat_Wide_Minus.f bt289.1 bt289.2 bt291.1 bt291.2).bind fun bt293 => ((sat_Of.f x273000).bind fun bt296 => ((sat_Of.f x271000).bind fun bt298 => ((sat_Wide_Plus.f bt296.1 bt296.2 bt298.1 bt298.2).bind fun bt300 => ((sat_Of.f x272001).bind fun bt302 => ((sat_Wide_Plus.f bt300.1 bt300.2 bt302.1 bt302.2).bind fun bt304 => ((sat_Wide_Narrow.f bt304.1 bt304.2).bind fun bt307 => (turnstilelaw17_ReserveLoss.j6 k x3 x12 bt307.2 x272000 x272001 x272002 x272003 x272004 bt293.1 bt293.2))))))))))))
def turnstilelaw17_ReserveLoss.j5 : Nat → Bool → Option (Bool)
  | 0, _ => none
  | k + 1, x8 => some x8
def turnstilelaw17_ReserveLoss.j6 : Nat → Int → Bool → Bool → Int → Int → Int → Int → Int → Int → Int → Option (Bool)
  | 0, _, _, _, _, _, _, _, _, _, _ => none
  | k + 1, x3, x12, x18, x272000, x272001, x272002, x272003, x272004, x296000, x296001 => (sat_Of.f x3).bind fun bt309 => ((sat_Wide_Cmp.f bt309.1 bt309.2 x296000 x296001).bind fun t311 => (if t311 < 0 then (turnstilelaw17_ReserveLoss.j7 k true) else (if x18 = true then (if x3 > (IntKind.u64.wrap (18446744073709551615 - x272001)) then (turnstilelaw17_ReserveLoss.j7 k true) else (turnstilelaw17_ReserveLoss.j7 k x12)) else (turnstilelaw17_ReserveLoss.j7 k true))))
def turnstilelaw17_ReserveLoss.j7 : Nat → Bool → Option (Bool)
  | 0, _ => none
  | k + 1, x8 => some x8
end
def turnstilelaw17_ReserveLoss.f (k : Nat) (a0_0 : Int) (a0_1 : Int) (a0_2 : Int) (a0_3 : Int) (a0_4 : Int) (a1_0 : Int) (a1_1 : Int) (a1_2 : Int) (a1_3 : Int) (a1_4 : Int) (a2_0 : Int) (a2_1 : Int) (a2_2 : Int) (a3 : Int) : Option (Bool) := (turnstilelaw17_awake.f k).bind fun t273 => (turnstilelaw17_ReserveLoss.j0 k a3 t273 a0_0 a0_1 a0_2 a0_3 a0_4 a1_0 a1_1 a1_2 a1_3 a1_4 a2_0 a2_1 a2_2)
theorem turnstilelaw17_ReserveLoss.mono_l : ∀ k, (∀ y0 y1 y2 y3 y4 y5 y6 y7 y8 y9 y10 y11 y12 y13 y14, LeO (turnstilelaw17_ReserveLoss.j0 k y0 y1 y2 y3 y4 y5 y6 y7 y8 y9 y10 y11 y12 y13 y14) (turnstilelaw17_ReserveLoss.j0 (k + 1) y0 y1 y2 y3 y4 y5 y6 y7 y8 y9 y10 y11 y12 y13 y14)) ∧ (∀ y0 y1 y2 y3 y4 y5 y6 y7 y8 y9 y10 y11 y12 y13 y14, LeO (turnstilelaw17_ReserveLoss.j1 k y0 y1 y2 y3 y4 y5 y6 y7 y8 y9 y10 y11 y12 y13 y14) (turnstilelaw17_ReserveLoss.j1 (k + 1) y0 y1 y2 y3 y4 y5 y6 y7 y8 y9 y10 y11 y12 y13 y14)) ∧ (∀ y0 y1 y2 y3 y4 y5 y6 y7 y8 y9 y10 y11 y12 y13 y14 y15, LeO (turnstilelaw17_ReserveLoss.j2 k y0 y1 y2 y3 y4 y5 y6 y7 y8 y9 y10 y11 y12 y13 y14 y15) (turnstilelaw17_ReserveLoss.j2 (k + 1) y0 y1 y2 y3 y4 y5 y6 y7 y8 y9 y10 y11 y12 y13 y14 y15)) ∧ (∀ y0 y1 y2 y3 y4 y5 y6 y7 y8 y9 y10 y11 y12 y13 y14 y15, LeO (turnstilelaw17_ReserveLoss.j3 k y0 y1 y2 y3 y4 y5 y6 y7 y8 y9 y10 y11 y12 y13 y14 y15) (turnstilelaw17_ReserveLoss.j3 (k + 1) y0 y1 y2 y3 y4 y5 y6 y7 y8 y9 y10 y11 y12 y13 y14 y15)) ∧ (∀ y0 y1 y2 y3 y4 y5 y6 y7 y8 y9 y10 y11 y12 y13 y14 y15, LeO (turnstilelaw17_ReserveLoss.j4 k y0 y1 y2 y3 y4 y5 y6 y7 y8 y9 y10 y11 y12 y13 y14 y15) (turnstilelaw17_ReserveLoss.j4 (k + 1) y0 y1 y2 y3 y4 y5 y6 y7 y8 y9 y10 y11 y12 y13 y14 y15)) ∧ (∀ y0, LeO (turnstilelaw17_ReserveLoss.j5 k y0) (turnstilelaw17_ReserveLoss.j5 (k + 1) y0)) ∧ (∀ y0 y1 y2 y3 y4 y5 y6 y7 y8 y9, LeO (turnstilelaw17_ReserveLoss.j6 k y0 y1 y2 y3 y4 y5 y6 y7 y8 y9) (turnstilelaw17_ReserveLoss.j6 (k + 1) y0 y1 y2 y3 y4 y5 y6 y7 y8 y9)) ∧ (∀ y0, LeO (turnstilelaw17_ReserveLoss.j7 k y0) (turnstilelaw17_ReserveLoss.j7 (k + 1) y0))
  | 0 => ⟨fun _ _ _ _ _ _ _ _ _ _ _ _ _ _ _ r h => by simp [turnstilelaw17_ReserveLoss.j0] at h, fun _ _ _ _ _ _ _ _ _ _ _ _ _ _ _ r h => by simp [turnstilelaw17_ReserveLoss.j1] at h, fun _ _ _ _ _ _ _ _ _ _ _ _ _ _ _ _ r h => by simp [turnstilelaw17_ReserveLoss.j2] at h, fun _ _ _ _ _ _ _ _ _ _ _ _ _ _ _ _ r h => by simp [turnstilelaw17_ReserveLoss.j3] at h, fun _ _ _ _ _ _ _ _ _ _ _ _ _ _ _ _ r h => by simp [turnstilelaw17_ReserveLoss.j4] at h, fun _ r h => by simp [turnstilelaw17_ReserveLoss.j5] at h, fun _ _ _ _ _ _ _ _ _ _ r h => by simp [turnstilelaw17_ReserveLoss.j6] at h, fun _ r h => by simp [turnstilelaw17_ReserveLoss.j7] at h⟩
  | k + 1 => by
    obtain ⟨ih0, ih1, ih2, ih3, ih4, ih5, ih6, ih7⟩ := turnstilelaw17_ReserveLoss.mono_l k
    refine ⟨?_, ?_, ?_, ?_, ?_, ?_, ?_, ?_⟩
    · intro y0 y1 y2 y3 y4 y5 y6 y7 y8 y9 y10 y11 y12 y13 y14
      unfold turnstilelaw17_ReserveLoss.j0
      repeat' first
      | (with_reducible exact ih0 _ _ _ _ _ _ _ _ _ _ _ _ _ _ _)
      | (with_reducible exact ih1 _ _ _ _ _ _ _ _ _ _ _ _ _ _ _)
      | (with_reducible exact ih2 _ _ _ _ _ _ _ _ _ _ _ _ _ _ _ _)
      | (with_reducible exact ih3 _ _ _ _ _ _ _ _ _ _ _ _ _ _ _ _)
      | (with_reducible exact ih4 _ _ _ _ _ _ _ _ _ _ _ _ _ _ _ _)
      | (with_reducible exact ih5 _)
      | (with_reducible exact ih6 _ _ _ _ _ _ _ _ _ _)
      | (with_reducible exact ih7 _)
      | (with_reducible exact policy_Admit.mono _ _ _ _ _ _ _ _ _ _ _)
      | (with_reducible exact turnstilelaw17_awake.mono _)
      | (with_reducible exact LeO.refl _)
      | (with_reducible exact LeO.none _)
      | (with_reducible refine LeO.ite ?_ ?_)
      | (with_reducible refine LeO.bind ?_ (fun _ => ?_))
      | exact ih0 _ _ _ _ _ _ _ _ _ _ _ _ _ _ _
      | exact ih1 _ _ _ _ _ _ _ _ _ _ _ _ _ _ _
      | exact ih2 _ _ _ _ _ _ _ _ _ _ _ _ _ _ _ _
      | exact ih3 _ _ _ _ _ _ _ _ _ _ _ _ _ _ _ _
      | exact ih4 _ _ _ _ _ _ _ _ _ _ _ _ _ _ _ _
      | exact ih5 _
      | exact ih6 _ _ _ _ _ _ _ _ _ _
      | exact ih7 _
      | exact policy_Admit.mono _ _ _ _ _ _ _ _ _ _ _
      | exact turnstilelaw17_awake.mono _
      | exact LeO.none _
      | refine LeO.ite ?_ ?_
      | refine LeO.bind ?_ (fun _ => ?_)
    · intro y0 y1 y2 y3 y4 y5 y6 y7 y8 y9 y10 y11 y12 y13 y14
      unfold turnstilelaw17_ReserveLoss.j1
      repeat' first
      | (with_reducible exact ih0 _ _ _ _ _ _ _ _ _ _ _ _ _ _ _)
      | (with_reducible exact ih1 _ _ _ _ _ _ _ _ _ _ _ _ _ _ _)
      | (with_reducible exact ih2 _ _ _ _ _ _ _ _ _ _ _ _ _ _ _ _)
      | (with_reducible exact ih3 _ _ _ _ _ _ _ _ _ _ _ _ _ _ _ _)
      | (with_reducible exact ih4 _ _ _ _ _ _ _ _ _ _ _ _ _ _ _ _)
      | (with_reducible exact ih5 _)
      | (with_reducible exact ih6 _ _ _ _ _ _ _ _ _ _)
      | (with_reducible exact ih7 _)
      | (with_reducible exact policy_Admit.mono _ _ _ _ _ _ _ _ _ _ _)
      | (with_reducible exact turnstilelaw17_awake.mono _)
      | (with_reducible exact LeO.refl _)
      | (with_reducible exact LeO.none _)
      | (with_reducible refine LeO.ite ?_ ?_)
      | (with_reducible refine LeO.bind ?_ (fun _ => ?_))
      | exact ih0 _ _ _ _ _ _ _ _ _ _ _ _ _ _ _
      | exact ih1 _ _ _ _ _ _ _ _ _ _ _ _ _ _ _
      | exact ih2 _ _ _ _ _ _ _ _ _ _ _ _ _ _ _ _
      | exact ih3 _ _ _ _ _ _ _ _ _ _ _ _ _ _ _ _
      | exact ih4 _ _ _ _ _ _ _ _ _ _ _ _ _ _ _ _
      | exact ih5 _
      | exact ih6 _ _ _ _ _ _ _ _ _ _
      | exact ih7 _
      | exact policy_Admit.mono _ _ _ _ _ _ _ _ _ _ _
      | exact turnstilelaw17_awake.mono _
      | exact LeO.none _
      | refine LeO.ite ?_ ?_
      | refine LeO.bind ?_ (fun _ => ?_)
    · intro y0 y1 y2 y3 y4 y5 y6 y7 y8 y9 y10 y11 y12 y13 y14 y15
      unfold turnstilelaw17_ReserveLoss.j2
      repeat' first
      | (with_reducible exact ih0 _ _ _ _ _ _ _ _ _ _ _ _ _ _ _)
      | (with_reducible exact ih1 _ _ _ _ _ _ _ _ _ _ _ _ _ _ _)
      | (with_reducible exact ih2 _ _ _ _ _ _ _ _ _ _ _ _ _ _ _ _)
      | (with_reducible exact ih3 _ _ _ _ _ _ _ _ _ _ _ _ _ _ _ _)
      | (with_reducible exact ih4 _ _ _ _ _ _ _ _ _ _ _ _ _ _ _ _)
      | (with_reducible exact ih5 _)
      | (with_reducible exact ih6 _ _ _ _ _ _ _ _ _ _)
      | (with_reducible exact ih7 _)
      | (with_reducible exact policy_Admit.mono _ _ _ _ _ _ _ _ _ _ _)
      | (with_reducible exact turnstilelaw17_awake.mono _)
      | (with_reducible exact LeO.refl _)
      | (with_reducible exact LeO.none _)
      | (with_reducible refine LeO.ite ?_ ?_)
      | (with_reducible refine LeO.bind ?_ (fun _ => ?_))
      | exact ih0 _ _ _ _ _ _ _ _ _ _ _ _ _ _ _
      | exact ih1 _ _ _ _ _ _ _ _ _ _ _ _ _ _ _
      | exact ih2 _ _ _ _ _ _ _ _ _ _ _ _ _ _ _ _
      | exact ih3 _ _ _ _ _ _ _ _ _ _ _ _ _ _ _ _
      | exact ih4 _ _ _ _ _ _ _ _ _ _ _ _ _ _ _ _
      | exact ih5 _
      | exact ih6 _ _ _ _ _ _ _ _ _ _
      | exact ih7 _
      | exact policy_Admit.mono _ _ _ _ _ _ _ _ _ _ _
      | exact turnstilelaw17_awake.mono _
      | exact LeO.none _
      | refine LeO.ite ?_ ?_
      | refine LeO.bind ?_ (fun _ => ?_)
    · intro y0 y1 y2 y3 y4 y5 y6 y7 y8 y9 y10 y11 y12 y13 y14 y15
      unfold turnstilelaw17_ReserveLoss.j3
      repeat' first
      | (with_reducible exact ih0 _ _ _ _ _ _ _ _ _ _ _ _ _ _ _)
      | (with_reducible exact ih1 _ _ _ _ _ _ _ _ _ _ _ _ _ _ _)
      | (with_reducible exact ih2 _ _ _ _ _ _ _ _ _ _ _ _ _ _ _ _)
      | (with_reducible exact ih3 _ _ _ _ _ _ _ _ _ _ _ _ _ _ _ _)
      | (with_reducible exact ih4 _ _ _ _ _ _ _ _ _ _ _ _ _ _ _ _)
      | (with_reducible exact ih5 _)
      | (with_reducible exact ih6 _ _ _ _ _ _ _ _ _ _)
      | (with_reducible exact ih7 _)
      | (with_reducible exact policy_Admit.mono _ _ _ _ _ _ _ _ _ _ _)
      | (with_reducible exact turnstilelaw17_awake.mono _)
      | (with_reducible exact LeO.refl _)
      | (with_reducible exact LeO.none _)
      | (with_reducible refine LeO.ite ?_ ?_)
      | (with_reducible refine LeO.bind ?_ (fun _ => ?_))
      | exact ih0 _ _ _ _ _ _ _ _ _ _ _ _ _ _ _
      | exact ih1 _ _ _ _ _ _ _ _ _ _ _ _ _ _ _
      | exact ih2 _ _ _ _ _ _ _ _ _ _ _ _ _ _ _ _
      | exact ih3 _ _ _ _ _ _ _ _ _ _ _ _ _ _ _ _
      | exact ih4 _ _ _ _ _ _ _ _ _ _ _ _ _ _ _ _
      | exact ih5 _
      | exact ih6 _ _ _ _ _ _ _ _ _ _
      | exact ih7 _
      | exact policy_Admit.mono _ _ _ _ _ _ _ _ _ _ _
      | exact turnstilelaw17_awake.mono _
      | exact LeO.none _
      | refine LeO.ite ?_ ?_
      | refine LeO.bind ?_ (fun _ => ?_)
    · intro y0 y1 y2 y3 y4 y5 y6 y7 y8 y9 y10 y11 y12 y13 y14 y15
      unfold turnstilelaw17_ReserveLoss.j4
      repeat' first
      | (with_reducible exact ih0 _ _ _ _ _ _ _ _ _ _ _ _ _ _ _)
      | (with_reducible exact ih1 _ _ _ _ _ _ _ _ _ _ _ _ _ _ _)
      | (with_reducible exact ih2 _ _ _ _ _ _ _ _ _ _ _ _ _ _ _ _)
      | (with_reducible exact ih3 _ _ _ _ _ _ _ _ _ _ _ _ _ _ _ _)
      | (with_reducible exact ih4 _ _ _ _ _ _ _ _ _ _ _ _ _ _ _ _)
      | (with_reducible exact ih5 _)
      | (with_reducible exact ih6 _ _ _ _ _ _ _ _ _ _)
      | (with_reducible exact ih7 _)
      | (with_reducible exact policy_Admit.mono _ _ _ _ _ _ _ _ _ _ _)
      | (with_reducible exact turnstilelaw17_awake.mono _)
      | (with_reducible exact LeO.refl _)
      | (with_reducible exact LeO.none _)
      | (with_reducible refine LeO.ite ?_ ?_)
      | (with_reducible refine LeO.bind ?_ (fun _ => ?_))
      | exact ih0 _ _ _ _ _ _ _ _ _ _ _ _ _ _ _
      | exact ih1 _ _ _ _ _ _ _ _ _ _ _ _ _ _ _
      | exact ih2 _ _ _ _ _ _ _ _ _ _ _ _ _ _ _ _
      | exact ih3 _ _ _ _ _ _ _ _ _ _ _ _ _ _ _ _
      | exact ih4 _ _ _ _ _ _ _ _ _ _ _ _ _ _ _ _
      | exact ih5 _
      | exact ih6 _ _ _ _ _ _ _ _ _ _
      | exact ih7 _
      | exact policy_Admit.mono _ _ _ _ _ _ _ _ _ _ _
      | exact turnstilelaw17_awake.mono _
      | exact LeO.none _
      | refine LeO.ite ?_ ?_
      | refine LeO.bind ?_ (fun _ => ?_)
    · intro y0
      unfold turnstilelaw17_ReserveLoss.j5
      repeat' first
      | (with_reducible exact ih0 _ _ _ _ _ _ _ _ _ _ _ _ _ _ _)
      | (with_reducible exact ih1 _ _ _ _ _ _ _ _ _ _ _ _ _ _ _)
      | (with_reducible exact ih2 _ _ _ _ _ _ _ _ _ _ _ _ _ _ _ _)
      | (with_reducible exact ih3 _ _ _ _ _ _ _ _ _ _ _ _ _ _ _ _)
      | (with_reducible exact ih4 _ _ _ _ _ _ _ _ _ _ _ _ _ _ _ _)
      | (with_reducible exact ih5 _)
      | (with_reducible exact ih6 _ _ _ _ _ _ _ _ _ _)
      | (with_reducible exact ih7 _)
      | (with_reducible exact policy_Admit.mono _ _ _ _ _ _ _ _ _ _ _)
      | (with_reducible exact turnstilelaw17_awake.mono _)
      | (with_reducible exact LeO.refl _)
      | (with_reducible exact LeO.none _)
      | (with_reducible refine LeO.ite ?_ ?_)
      | (with_reducible refine LeO.bind ?_ (fun _ => ?_))
      | exact ih0 _ _ _ _ _ _ _ _ _ _ _ _ _ _ _
      | exact ih1 _ _ _ _ _ _ _ _ _ _ _ _ _ _ _
      | exact ih2 _ _ _ _ _ _ _ _ _ _ _ _ _ _ _ _
      | exact ih3 _ _ _ _ _ _ _ _ _ _ _ _ _ _ _ _
      | exact ih4 _ _ _ _ _ _ _ _ _ _ _ _ _ _ _ _
      | exact ih5 _
      | exact ih6 _ _ _ _ _ _ _ _ _ _
      | exact ih7 _
      | exact policy_Admit.mono _ _ _ _ _ _ _ _ _ _ _
      | exact turnstilelaw17_awake.mono _
      | exact LeO.none _
      | refine LeO.ite ?_ ?_
      | refine LeO.bind ?_ (fun _ => ?_)
    · intro y0 y1 y2 y3 y4 y5 y6 y7 y8 y9
      unfold turnstilelaw17_ReserveLoss.j6
      repeat' first
      | (with_reducible exact ih0 _ _ _ _ _ _ _ _ _ _ _ _ _ _ _)
      | (with_reducible exact ih1 _ _ _ _ _ _ _ _ _ _ _ _ _ _ _)
      | (with_reducible exact ih2 _ _ _ _ _ _ _ _ _ _ _ _ _ _ _ _)
      | (with_reducible exact ih3 _ _ _ _ _ _ _ _ _ _ _ _ _ _ _ _)
      | (with_reducible exact ih4 _ _ _ _ _ _ _ _ _ _ _ _ _ _ _ _)
      | (with_reducible exact ih5 _)
      | (with_reducible exact ih6 _ _ _ _ _ _ _ _ _ _)
      | (with_reducible exact ih7 _)
      | (with_reducible exact policy_Admit.mono _ _ _ _ _ _ _ _ _ _ _)
      | (with_reducible exact turnstilelaw17_awake.mono _)
      | (with_reducible exact LeO.refl _)
      | (with_reducible exact LeO.none _)
      | (with_reducible refine LeO.ite ?_ ?_)
      | (with_reducible refine LeO.bind ?_ (fun _ => ?_))
      | exact ih0 _ _ _ _ _ _ _ _ _ _ _ _ _ _ _
      | exact ih1 _ _ _ _ _ _ _ _ _ _ _ _ _ _ _
      | exact ih2 _ _ _ _ _ _ _ _ _ _ _ _ _ _ _ _
      | exact ih3 _ _ _ _ _ _ _ _ _ _ _ _ _ _ _ _
      | exact ih4 _ _ _ _ _ _ _ _ _ _ _ _ _ _ _ _
      | exact ih5 _
      | exact ih6 _ _ _ _ _ _ _ _ _ _
      | exact ih7 _
      | exact policy_Admit.mono _ _ _ _ _ _ _ _ _ _ _
      | exact turnstilelaw17_awake.mono _
      | exact LeO.none _
      | refine LeO.ite ?_ ?_
      | refine LeO.bind ?_ (fun _ => ?_)
    · intro y0
      unfold turnstilelaw17_ReserveLoss.j7
      repeat' first
      | (with_reducible exact ih0 _ _ _ _ _ _ _ _ _ _ _ _ _ _ _)
      | (with_reducible exact ih1 _ _ _ _ _ _ _ _ _ _ _ _ _ _ _)
      | (with_reducible exact ih2 _ _ _ _ _ _ _ _ _ _ _ _ _ _ _ _)
      | (with_reducible exact ih3 _ _ _ _ _ _ _ _ _ _ _ _ _ _ _ _)
      | (with_reducible exact ih4 _ _ _ _ _ _ _ _ _ _ _ _ _ _ _ _)
      | (with_reducible exact ih5 _)
      | (with_reducible exact ih6 _ _ _ _ _ _ _ _ _ _)
      | (with_reducible exact ih7 _)
      | (with_reducible exact policy_Admit.mono _ _ _ _ _ _ _ _ _ _ _)
      | (with_reducible exact turnstilelaw17_awake.mono _)
      | (with_reducible exact LeO.refl _)
      | (with_reducible exact LeO.none _)
      | (with_reducible refine LeO.ite ?_ ?_)
      | (with_reducible refine LeO.bind ?_ (fun _ => ?_))
      | exact ih0 _ _ _ _ _ _ _ _ _ _ _ _ _ _ _
      | exact ih1 _ _ _ _ _ _ _ _ _ _ _ _ _ _ _
      | exact ih2 _ _ _ _ _ _ _ _ _ _ _ _ _ _ _ _
      | exact ih3 _ _ _ _ _ _ _ _ _ _ _ _ _ _ _ _
      | exact ih4 _ _ _ _ _ _ _ _ _ _ _ _ _ _ _ _
      | exact ih5 _
      | exact ih6 _ _ _ _ _ _ _ _ _ _
      | exact ih7 _
      | exact policy_Admit.mono _ _ _ _ _ _ _ _ _ _ _
      | exact turnstilelaw17_awake.mono _
      | exact LeO.none _
      | refine LeO.ite ?_ ?_
      | refine LeO.bind ?_ (fun _ => ?_)
theorem turnstilelaw17_ReserveLoss.mono : ∀ a0 a1 a2 a3 a4 a5 a6 a7 a8 a9 a10 a11 a12 a13 k, LeO (turnstilelaw17_ReserveLoss.f k a0 a1 a2 a3 a4 a5 a6 a7 a8 a9 a10 a11 a12 a13) (turnstilelaw17_ReserveLoss.f (k + 1) a0 a1 a2 a3 a4 a5 a6 a7 a8 a9 a10 a11 a12 a13) := by
  intro a0 a1 a2 a3 a4 a5 a6 a7 a8 a9 a10 a11 a12 a13 k
  obtain ⟨ih0, ih1, ih2, ih3, ih4, ih5, ih6, ih7⟩ := turnstilelaw17_ReserveLoss.mono_l k
  unfold turnstilelaw17_ReserveLoss.f
  repeat' first
      | (with_reducible exact ih0 _ _ _ _ _ _ _ _ _ _ _ _ _ _ _)
      | (with_reducible exact ih1 _ _ _ _ _ _ _ _ _ _ _ _ _ _ _)
      | (with_reducible exact ih2 _ _ _ _ _ _ _ _ _ _ _ _ _ _ _ _)
      | (with_reducible exact ih3 _ _ _ _ _ _ _ _ _ _ _ _ _ _ _ _)
      | (with_reducible exact ih4 _ _ _ _ _ _ _ _ _ _ _ _ _ _ _ _)
      | (with_reducible exact ih5 _)
      | (with_reducible exact ih6 _ _ _ _ _ _ _ _ _ _)
      | (with_reducible exact ih7 _)
      | (with_reducible exact policy_Admit.mono _ _ _ _ _ _ _ _ _ _ _)
      | (with_reducible exact turnstilelaw17_awake.mono _)
      | (with_reducible exact LeO.refl _)
      | (with_reducible exact LeO.none _)
      | (with_reducible refine LeO.ite ?_ ?_)
      | (with_reducible refine LeO.bind ?_ (fun _ => ?_))
      | exact ih0 _ _ _ _ _ _ _ _ _ _ _ _ _ _ _
      | exact ih1 _ _ _ _ _ _ _ _ _ _ _ _ _ _ _
      | exact ih2 _ _ _ _ _ _ _ _ _ _ _ _ _ _ _ _
      | exact ih3 _ _ _ _ _ _ _ _ _ _ _ _ _ _ _ _
      | exact ih4 _ _ _ _ _ _ _ _ _ _ _ _ _ _ _ _
      | exact ih5 _
      | exact ih6 _ _ _ _ _ _ _ _ _ _
      | exact ih7 _
      | exact policy_Admit.mono _ _ _ _ _ _ _ _ _ _ _
      | exact turnstilelaw17_awake.mono _
      | exact LeO.none _
      | refine LeO.ite ?_ ?_
      | refine LeO.bind ?_ (fun _ => ?_)
def turnstilelaw17_ReserveLoss.T10 : Bool × List (List Nat × List Nat) := (true, [([], []), ([0], [0]), ([1], [1]), ([2], [2]), ([3], [3]), ([3], [3]), ([5, 3], [3, 5]), ([4, 6, 3], [3, 4, 6]), ([3], [3]), ([8, 3], [3, 8]), ([7, 9, 3], [3, 7, 9]), ([3, 10], [3, 10]), ([11, 3], [11]), ([12], [12]), ([12, 13], [12, 13]), ([14, 12, 0, 1, 2, 3, 4, 5, 6, 7, 8, 9, 10, 11, 12, 13, 14], [14])])
def turnstilelaw17_ReserveLoss.B10 : List Nat := [0, 1, 3, 7, 15, 15, 47, 127, 15, 271, 1023, 2047, 4095, 8191, 16383, 32767]
theorem turnstilelaw17_ReserveLoss.tab10 : rtab .any (opsOf Try.f12 10) = turnstilelaw17_ReserveLoss.T10 := by kernel_rfl
theorem turnstilelaw17_ReserveLoss.bits10 : waitsOk turnstilelaw17_ReserveLoss.T10.2 turnstilelaw17_ReserveLoss.B10 = true := by kernel_rfl
def turnstilelaw17_ReserveLoss.T11 : Bool × List (List Nat × List Nat) := (true, [([], []), ([0], [0]), ([1], [1]), ([], []), ([3], [3]), ([4, 2], [4]), ([2, 5, 5], [2, 5]), ([], []), ([7], [7]), ([8, 6], [8]), ([6, 9, 9], [6, 9]), ([], []), ([11, 10, 10, 0, 1, 2, 3, 4, 5, 6, 7, 8, 9, 10, 11], [10, 11])])
def turnstilelaw17_ReserveLoss.B11 : List Nat := [0, 1, 3, 0, 8, 31, 63, 0, 128, 511, 1023, 0, 4095]
theorem turnstilelaw17_ReserveLoss.tab11 : rtab .any (opsOf Try.f12 11) = turnstilelaw17_ReserveLoss.T11 := by kernel_rfl
theorem turnstilelaw17_ReserveLoss.bits11 : waitsOk turnstilelaw17_ReserveLoss.T11.2 turnstilelaw17_ReserveLoss.B11 = true := by kernel_rfl
def turnstilelaw17_ReserveLoss.T12 : Bool × List (List Nat × List Nat) := (true, [([], []), ([0], [0]), ([1], [1]), ([], []), ([3], [3]), ([4, 2], [4]), ([2, 5, 5], [2, 5]), ([], []), ([7], [7]), ([8, 6], [8]), ([6, 9, 9], [6, 9]), ([], []), ([11, 10, 10, 0, 1, 2, 3, 4, 5, 6, 7, 8, 9, 10, 11], [10, 11])])
def turnstilelaw17_ReserveLoss.B12 : List Nat := [0, 1, 3, 0, 8, 31, 63, 0, 128, 511, 1023, 0, 4095]
theorem turnstilelaw17_ReserveLoss.tab12 : rtab .any (opsOf Try.f12 12) = turnstilelaw17_ReserveLoss.T12 := by kernel_rfl
theorem turnstilelaw17_ReserveLoss.bits12 : waitsOk turnstilelaw17_ReserveLoss.T12.2 turnstilelaw17_ReserveLoss.B12 = true := by kernel_rfl
set_option maxHeartbeats 8000000 in
set_option maxRecDepth 100000 in
theorem turnstilelaw17_ReserveLoss.calls (k : Nat) (a0_0 : Int) (a0_1 : Int) (a0_2 : Int) (a0_3 : Int) (a0_4 : Int) (a1_0 : Int) (a1_1 : Int) (a1_2 : Int) (a1_3 : Int) (a1_4 : Int) (a2_0 : Int) (a2_1 : Int) (a2_2 : Int) (a3 : Int) (r : Bool) (w : World) (h : turnstilelaw17_ReserveLoss.f k a0_0 a0_1 a0_2 a0_3 a0_4 a1_0 a1_1 a1_2 a1_3 a1_4 a2_0 a2_1 a2_2 a3 = some r) :
 Calls Try.prog 12 #[.agg #[.int .u64 a0_0, .int .u64 a0_1, .int .i64 a0_2, .int .i64 a0_3, .int .i64 a0_4], .agg #[.int .i64 a1_0, .int .u64 a1_1, .int .u64 a1_2, .int .u64 a1_3, .int .u64 a1_4], .agg #[.int .u64 a2_0, .int .u64 a2_1, .int .u64 a2_2], .int .u64 a3] w fun e w' => e = .returned (.bool r) ∧ Below w.heap.size w w' := by
 have hu53 := Try.underlying53; have hu27 := Try.underlying27; have hu29 := Try.underlying29; have hu68 := Try.underlying68; have HB := Aside0.mk (Below.refl w.heap.size w)
 have H : ((turnstilelaw17_awake.f k).bind fun t273 => (turnstilelaw17_ReserveLoss.j0 k a3 t273 a0_0 a0_1 a0_2 a0_3 a0_4 a1_0 a1_1 a1_2 a1_3 a1_4 a2_0 a2_1 a2_2)) = some r := h
 clear h; have HC5 := Aside0.mk H; clear H
 go_enter Try.func12, Try.ntmps12
 go_upto_region 1 with (first | ((with_reducible refine gate_dst (N := 4) rfl ?_); refine bx 4 #[.int .u64 a0_0, .int .u64 a0_1, .int .i64 a0_2, .int .i64 a0_3, .int .i64 a0_4] 53 ?_; intro gb270 hg w6 hbox hb; have BK270 := Aside0.mk (hbox); have GW270 := sz HB hg; have GE270 := sz HB hg; replace HB := bs HB hb; clear hb hbox hg) | ((with_reducible refine gate_dst (N := 5) rfl ?_); refine bx 5 #[.int .i64 a1_0, .int .u64 a1_1, .int .u64 a1_2, .int .u64 a1_3, .int .u64 a1_4] 27 ?_; intro gb271 hg w7 hbox hb; have BK271 := Aside0.mk (hbox); have GW271 := sz HB hg; have GE271 := sz HB hg; have NB270_271 := nl BK270 hg; have NB271_270 := nr BK270 hg; replace BK270 := bb BK270 hb; replace HB := bs HB hb; clear hb hbox hg) | ((with_reducible refine gate_dst (N := 6) rfl ?_); refine bx 6 #[.int .u64 a2_0, .int .u64 a2_1, .int .u64 a2_2] 29 ?_; intro gb272 hg w8 hbox hb; have BK272 := Aside0.mk (hbox); have GW272 := sz HB hg; have GE272 := sz HB hg; have NB270_272 := nl BK270 hg; have NB272_270 := nr BK270 hg; have NB271_272 := nl BK271 hg; have NB272_271 := nr BK271 hg; replace BK270 := bb BK270 hb; replace BK271 := bb BK271 hb; replace HB := bs HB hb; clear hb hbox hg))
 (try simp only [Act.put, List.setIfInBounds_toArray, List.set_cons_zero, List.set_cons_succ])
 go_cut [9] (fun v9 wc => ∃ (kq : Nat) (x9_4 : Bool), v9 = .bool x9_4 ∧ Aside0 (turnstilelaw17_ReserveLoss.j0 kq a3 x9_4 a0_0 a0_1 a0_2 a0_3 a0_4 a1_0 a1_1 a1_2 a1_3 a1_4 a2_0 a2_1 a2_2 = some r) ∧ Aside0 (kq ≤ k) ∧ Aside0 (wc.heap[gb270]? = some (.cells #[.int .u64 a0_0, .int .u64 a0_1, .int .i64 a0_2, .int .i64 a0_3, .int .i64 a0_4] 53 (0, 0))) ∧ Aside0 (wc.heap[gb271]? = some (.cells #[.int .i64 a1_0, .int .u64 a1_1, .int .u64 a1_2, .int .u64 a1_3, .int .u64 a1_4] 27 (0, 0))) ∧ Aside0 (wc.heap[gb272]? = some (.cells #[.int .u64 a2_0, .int .u64 a2_1, .int .u64 a2_2] 29 (0, 0))) ∧ Aside0 (Below w.heap.size w wc))
 case first =>
  have H := HC5.out; clear HC5; replace H := Option.bind_eq_some_iff.mp H
  obtain ⟨t273, A90, H⟩ := H
  replace H : (turnstilelaw17_ReserveLoss.j0 k a3 t273 a0_0 a0_1 a0_2 a0_3 a0_4 a1_0 a1_1 a1_2 a1_3 a1_4 a2_0 a2_1 a2_2) = some r := H
  have A9 := Aside0.mk A90; clear A90
  have H' := Aside0.mk H
  clear H
  go_wp2_with (first | ((with_reducible refine gate_callee (f := 28) rfl ?_); refine gm (some 20) Try.func28 #[] (turnstilelaw17_awake.calls k  t273 _ A9.out) ?_; intro w10 hb; replace BK270 := bb BK270 hb; replace BK271 := bb BK271 hb; replace BK272 := bb BK272 hb; replace HB := bs HB hb; (try clear hb); (try clear hb2); (try clear hk); (try clear hi)))
  go_meet
  case rel => exact ⟨_, (t273), rs, H', ⟨by first | omega | exact Nat.le_refl _⟩, ⟨bk BK270⟩, ⟨bk BK271⟩, ⟨bk BK272⟩, ⟨bw HB⟩⟩
 case rest => as_aux_lemma =>
  clear HC5; (try clear c1); (try clear c2); (try clear p2)
  obtain ⟨kq, x9_4, rfl, HA, HJ4, BK270, BK271, BK272, HB⟩ := hcut
  cases kq with
  | zero => exact absurd HA.out (by simp [turnstilelaw17_ReserveLoss.j0])
  | succ kj4 =>
   have H := HA.out; clear HA
   simp only [turnstilelaw17_ReserveLoss.j0] at H
   have HC11 := Aside0.mk H; clear H
   go_upto_region 2 with (fail)
   go_cut [22] (fun v22 wc => ∃ (kq : Nat) (x22_10 : Bool), v22 = .bool x22_10 ∧ Aside0 (turnstilelaw17_ReserveLoss.j1 kq a3 x22_10 a0_0 a0_1 a0_2 a0_3 a0_4 a1_0 a1_1 a1_2 a1_3 a1_4 a2_0 a2_1 a2_2 = some r) ∧ Aside0 (kq ≤ kj4) ∧ Aside0 (wc.heap[gb270]? = some (.cells #[.int .u64 a0_0, .int .u64 a0_1, .int .i64 a0_2, .int .i64 a0_3, .int .i64 a0_4] 53 (0, 0))) ∧ Aside0 (wc.heap[gb271]? = some (.cells #[.int .i64 a1_0, .int .u64 a1_1, .int .u64 a1_2, .int .u64 a1_3, .int .u64 a1_4] 27 (0, 0))) ∧ Aside0 (wc.heap[gb272]? = some (.cells #[.int .u64 a2_0, .int .u64 a2_1, .int .u64 a2_2] 29 (0, 0))) ∧ Aside0 (Below w.heap.size w wc))
   case first =>
    have H := HC11.out; clear HC11
    have H' := Aside0.mk H
    clear H
    go_wp2
    go_meet
    case rel => exact ⟨_, (!x9_4), rs, H', ⟨by have := HJ4.out; first | omega | exact Nat.le_refl _⟩, ⟨bk BK270⟩, ⟨bk BK271⟩, ⟨bk BK272⟩, ⟨bw HB⟩⟩
   case rest => as_aux_lemma =>
    clear HC11; (try clear c1); (try clear c2); (try clear p2); (try clear p2)
    obtain ⟨kq, x22_10, rfl, HA, HJ10, BK270, BK271, BK272, HB⟩ := hcut
    cases kq with
    | zero => exact absurd HA.out (by simp [turnstilelaw17_ReserveLoss.j1])
    | succ kj10 =>
     have H := HA.out; clear HA
     simp only [turnstilelaw17_ReserveLoss.j1] at H
     by_cases c12 : x22_10 = true
     · subst c12
       have H1 : (some false) = some r := by rw [if_pos rfl] at H; exact H
       clear H; have H := H1; clear H1
       obtain rfl := Option.some.inj H
       go_wp2
       go_ret
       exact ⟨re, bw HB⟩
     · replace c12 := Bool.eq_false_iff.mpr c12
       subst c12
       have H1 : ((reserve_Ceiling.f a0_0 a0_1 a0_2 a0_3 a0_4 a1_0 a1_1 a1_2 a1_3 a1_4 a2_0 a2_1 a2_2).bind fun bt274 => ((policy_Admit.f kj10 a1_0 a1_1 a1_2 a1_3 a1_4 bt274.1 bt274.2.1 bt274.2.2 a3 1).bind fun bt278 => ((policy_Valid.f a1_0 a1_1 a1_2 a1_3 a1_4).bind fun t284 => (turnstilelaw17_ReserveLoss.j2 kj10 a3 bt278.2.2.2.1 t284 a0_0 a0_1 a0_2 a0_3 a0_4 a1_0 a1_1 a1_2 a1_3 a1_4 a2_0 a2_1 a2_2)))) = some r := by rw [if_neg (show ¬ (false = true) by decide)] at H; exact H
       clear H; have H := H1; clear H1; replace H := Option.bind_eq_some_iff.mp H
       obtain ⟨⟨t274, t275, t276⟩, A130, H⟩ := H
       replace H : ((policy_Admit.f kj10 a1_0 a1_1 a1_2 a1_3 a1_4 t274 t275 t276 a3 1).bind fun bt278 => ((policy_Valid.f a1_0 a1_1 a1_2 a1_3 a1_4).bind fun t284 => (turnstilelaw17_ReserveLoss.j2 kj10 a3 bt278.2.2.2.1 t284 a0_0 a0_1 a0_2 a0_3 a0_4 a1_0 a1_1 a1_2 a1_3 a1_4 a2_0 a2_1 a2_2))) = some r := H
       have A13 := Aside0.mk A130; clear A130; replace H := Option.bind_eq_some_iff.mp H
       obtain ⟨⟨t278, t279, t280, t281, t282⟩, A140, H⟩ := H
       replace H : ((policy_Valid.f a1_0 a1_1 a1_2 a1_3 a1_4).bind fun t284 => (turnstilelaw17_ReserveLoss.j2 kj10 a3 t281 t284 a0_0 a0_1 a0_2 a0_3 a0_4 a1_0 a1_1 a1_2 a1_3 a1_4 a2_0 a2_1 a2_2)) = some r := H
       have A14 := Aside0.mk A140; clear A140; have HC15 := Aside0.mk H; clear H; have hnb16 := NB270_271.out; have hnc16 := NB271_270.out; have hnb17 := NB270_272.out; have hnc17 := NB272_270.out
       obtain ⟨hcz18_0, hcz18_1, hcz18_2, hcz18_3, hcz18_4, hfz18_0, hfz18_1, hfz18_2, hfz18_3, hfz18_4⟩ := bc5 BK270
       have hnb19 := NB271_272.out; have hnc19 := NB272_271.out
       obtain ⟨hcz20_0, hcz20_1, hcz20_2, hcz20_3, hcz20_4, hfz20_0, hfz20_1, hfz20_2, hfz20_3, hfz20_4⟩ := bc5 BK271
       obtain ⟨hcz21_0, hcz21_1, hcz21_2, hfz21_0, hfz21_1, hfz21_2⟩ := bc3 BK272
       go_upto_region 6 with (first | ((with_reducible refine gate_callee (f := 32) rfl ?_); refine gm (some 26) Try.func32 #[.agg #[.int .u64 a0_0, .int .u64 a0_1, .int .i64 a0_2, .int .i64 a0_3, .int .i64 a0_4], .agg #[.int .i64 a1_0, .int .u64 a1_1, .int .u64 a1_2, .int .u64 a1_3, .int .u64 a1_4], .agg #[.int .u64 a2_0, .int .u64 a2_1, .int .u64 a2_2]] (reserve_Ceiling.calls a0_0 a0_1 a0_2 a0_3 a0_4 a1_0 a1_1 a1_2 a1_3 a1_4 a2_0 a2_1 a2_2 t274 t275 t276 _ A13.out) ?_; intro w22 hb; replace BK270 := bb BK270 hb; replace BK271 := bb BK271 hb; replace BK272 := bb BK272 hb; replace HB := bs HB hb; (try clear hb); (try clear hb2); (try clear hk); (try clear hi)) | ((with_reducible refine gate_dst (N := 10) rfl ?_); refine bx 10 #[.int .u64 0, .int .u64 0, .int .u64 0] 29 ?_; intro gb277 hg w23 hbox hb; have BK277 := Aside0.mk (hbox); have GW277 := sz HB hg; have GE277 := sz HB hg; have NB270_277 := nl BK270 hg; have NB277_270 := nr BK270 hg; have NB271_277 := nl BK271 hg; have NB277_271 := nr BK271 hg; have NB272_277 := nl BK272 hg; have NB277_272 := nr BK272 hg; replace BK270 := bb BK270 hb; replace BK271 := bb BK271 hb; replace BK272 := bb BK272 hb; replace HB := bs HB hb; clear hb hbox hg; have hnb24 := NB277_270.out; have hnc24 := NB270_277.out; have hnb25 := NB277_271.out; have hnc25 := NB271_277.out; have hnb26 := NB277_272.out; have hnc26 := NB272_277.out; obtain ⟨hcz27_0, hcz27_1, hcz27_2, hfz27_0, hfz27_1, hfz27_2⟩ := bc3 BK277; obtain ⟨hcz28_0, hcz28_1, hcz28_2, hcz28_3, hcz28_4, hfz28_0, hfz28_1, hfz28_2, hfz28_3, hfz28_4⟩ := bc5 BK271) | ((with_reducible refine gate_callee (f := 16) rfl ?_); refine gm (some 31) Try.func16 #[.agg #[.int .i64 a1_0, .int .u64 a1_1, .int .u64 a1_2, .int .u64 a1_3, .int .u64 a1_4], .agg #[.int .u64 t274, .int .u64 t275, .int .u64 t276], .int .u64 a3, .int .u64 1] (policy_Admit.calls kj10 a1_0 a1_1 a1_2 a1_3 a1_4 t274 t275 t276 a3 1 t278 t279 t280 t281 t282 _ A14.out) ?_; intro w29 hb; replace BK270 := bb BK270 hb; replace BK271 := bb BK271 hb; replace BK272 := bb BK272 hb; replace BK277 := bbp (.cells #[.int .u64 t274, .int .u64 t275, .int .u64 t276] 29 (0, 0)) BK277 hb; replace HB := bs HB hb; (try clear hb); (try clear hb2); (try clear hk); (try clear hi)) | ((with_reducible refine gate_dst (N := 11) rfl ?_); refine bx 11 #[.int .u64 0, .int .u64 0, .int .u64 0] 29 ?_; intro gb283 hg w30 hbox hb; have BK283 := Aside0.mk (hbox); have GW283 := sz HB hg; have GE283 := sz HB hg; have NB270_283 := nl BK270 hg; have NB283_270 := nr BK270 hg; have NB271_283 := nl BK271 hg; have NB283_271 := nr BK271 hg; have NB272_283 := nl BK272 hg; have NB283_272 := nr BK272 hg; have NB277_283 := nl BK277 hg; have NB283_277 := nr BK277 hg; replace BK270 := bb BK270 hb; replace BK271 := bb BK271 hb; replace BK272 := bb BK272 hb; replace BK277 := bb BK277 hb; replace HB := bs HB hb; clear hb hbox hg; have hnb31 := NB283_270.out; have hnc31 := NB270_283.out; have hnb32 := NB283_271.out; have hnc32 := NB271_283.out; have hnb33 := NB283_272.out; have hnc33 := NB272_283.out; have hnb34 := NB283_277.out; have hnc34 := NB277_283.out; obtain ⟨hcz35_0, hcz35_1, hcz35_2, hfz35_0, hfz35_1, hfz35_2⟩ := bc3 BK283))
       (try simp only [Act.put, List.setIfInBounds_toArray, List.set_cons_zero, List.set_cons_succ])
       go_cut [14] (fun v14 wc => ∃ (kq : Nat) (x14_14 : Bool), v14 = .bool x14_14 ∧ Aside0 (turnstilelaw17_ReserveLoss.j2 kq a3 t281 x14_14 a0_0 a0_1 a0_2 a0_3 a0_4 a1_0 a1_1 a1_2 a1_3 a1_4 a2_0 a2_1 a2_2 = some r) ∧ Aside0 (kq ≤ kj10) ∧ Aside0 (wc.heap[gb270]? = some (.cells #[.int .u64 a0_0, .int .u64 a0_1, .int .i64 a0_2, .int .i64 a0_3, .int .i64 a0_4] 53 (0, 0))) ∧ Aside0 (wc.heap[gb271]? = some (.cells #[.int .i64 a1_0, .int .u64 a1_1, .int .u64 a1_2, .int .u64 a1_3, .int .u64 a1_4] 27 (0, 0))) ∧ Aside0 (wc.heap[gb272]? = some (.cells #[.int .u64 a2_0, .int .u64 a2_1, .int .u64 a2_2] 29 (0, 0))) ∧ Aside0 (wc.heap[gb277]? = some (.cells #[.int .u64 t274, .int .u64 t275, .int .u64 t276] 29 (0, 0))) ∧ Aside0 (wc.heap[gb283]? = some (.cells #[.int .u64 t278, .int .u64 t279, .int .u64 t280] 29 (0, 0))) ∧ Aside0 (Below w.heap.size w wc))
       case first =>
        have H := HC15.out; clear HC15; replace H := Option.bind_eq_some_iff.mp H
        obtain ⟨t284, A360, H⟩ := H
        replace H : (turnstilelaw17_ReserveLoss.j2 kj10 a3 t281 t284 a0_0 a0_1 a0_2 a0_3 a0_4 a1_0 a1_1 a1_2 a1_3 a1_4 a2_0 a2_1 a2_2) = some r := H
        have A36 := Aside0.mk A360; clear A360
        have H' := Aside0.mk H
        clear H; have hnb37 := NB271_270.out; have hnc37 := NB270_271.out; have hnb38 := NB271_272.out; have hnc38 := NB272_271.out; have hnb39 := NB271_277.out; have hnc39 := NB277_271.out; have hnb40 := NB271_283.out; have hnc40 := NB283_271.out
        obtain ⟨hcz41_0, hcz41_1, hcz41_2, hcz41_3, hcz41_4, hfz41_0, hfz41_1, hfz41_2, hfz41_3, hfz41_4⟩ := bc5 BK271
        go_wp2_with (first | ((with_reducible refine gate_callee (f := 18) rfl ?_); refine gm (some 36) Try.func18 #[.agg #[.int .i64 a1_0, .int .u64 a1_1, .int .u64 a1_2, .int .u64 a1_3, .int .u64 a1_4]] (policy_Valid.calls a1_0 a1_1 a1_2 a1_3 a1_4 t284 _ A36.out) ?_; intro w42 hb; replace BK270 := bb BK270 hb; replace BK271 := bb BK271 hb; replace BK272 := bb BK272 hb; replace BK277 := bb BK277 hb; replace BK283 := bbp (.cells #[.int .u64 t278, .int .u64 t279, .int .u64 t280] 29 (0, 0)) BK283 hb; replace HB := bs HB hb; (try clear hb); (try clear hb2); (try clear hk); (try clear hi)))
        go_meet
        case rel => exact ⟨_, (t284), rs, H', ⟨by have := HJ4.out; have := HJ10.out; first | omega | exact Nat.le_refl _⟩, ⟨bk BK270⟩, ⟨bk BK271⟩, ⟨bk BK272⟩, ⟨bk BK277⟩, ⟨bk BK283⟩, ⟨bw HB⟩⟩
       case rest => as_aux_lemma =>
        clear HC15; (try clear c1); (try clear c2); (try clear p2); (try clear c3); (try clear c4); (try clear c12); (try clear c16); (try clear c17); (try clear c18); (try clear c19); (try clear c24); (try clear c25); (try clear c26); (try clear c28); (try clear c31); (try clear c32); (try clear c33); (try clear c34); (try clear c37); (try clear c38); (try clear c39); (try clear c40); (try clear hcz18_0); (try clear hcz18_1); (try clear hcz18_2); (try clear hcz18_3); (try clear hcz18_4); (try clear hcz20_0); (try clear hcz20_1); (try clear hcz20_2); (try clear hcz20_3); (try clear hcz20_4); (try clear hcz21_0); (try clear hcz21_1); (try clear hcz21_2); (try clear hcz27_0); (try clear hcz27_1); (try clear hcz27_2); (try clear hcz28_0); (try clear hcz28_1); (try clear hcz28_2); (try clear hcz28_3); (try clear hcz28_4); (try clear hcz35_0); (try clear hcz35_1); (try clear hcz35_2); (try clear hcz41_0); (try clear hcz41_1); (try clear hcz41_2); (try clear hcz41_3); (try clear hcz41_4); (try clear hfz18_0); (try clear hfz18_1); (try clear hfz18_2); (try clear hfz18_3); (try clear hfz18_4); (try clear hfz20_0); (try clear hfz20_1); (try clear hfz20_2); (try clear hfz20_3); (try clear hfz20_4); (try clear hfz21_0); (try clear hfz21_1); (try clear hfz21_2); (try clear hfz27_0); (try clear hfz27_1); (try clear hfz27_2); (try clear hfz28_0); (try clear hfz28_1); (try clear hfz28_2); (try clear hfz28_3); (try clear hfz28_4); (try clear hfz35_0); (try clear hfz35_1); (try clear hfz35_2)
        (try clear hfz41_0); (try clear hfz41_1); (try clear hfz41_2); (try clear hfz41_3); (try clear hfz41_4); (try clear p2)
        obtain ⟨kq, x14_14, rfl, HA, HJ14, BK270, BK271, BK272, BK277, BK283, HB⟩ := hcut
        cases kq with
        | zero => exact absurd HA.out (by simp [turnstilelaw17_ReserveLoss.j2])
        | succ kj14 =>
         have H := HA.out; clear HA
         simp only [turnstilelaw17_ReserveLoss.j2] at H
         have HC43 := Aside0.mk H; clear H
         go_upto_region 7 with (fail)
         go_cut [38] (fun v38 wc => ∃ (kq : Nat) (x38_42 : Bool), v38 = .bool x38_42 ∧ Aside0 (turnstilelaw17_ReserveLoss.j3 kq a3 t281 x38_42 a0_0 a0_1 a0_2 a0_3 a0_4 a1_0 a1_1 a1_2 a1_3 a1_4 a2_0 a2_1 a2_2 = some r) ∧ Aside0 (kq ≤ kj14) ∧ Aside0 (wc.heap[gb270]? = some (.cells #[.int .u64 a0_0, .int .u64 a0_1, .int .i64 a0_2, .int .i64 a0_3, .int .i64 a0_4] 53 (0, 0))) ∧ Aside0 (wc.heap[gb271]? = some (.cells #[.int .i64 a1_0, .int .u64 a1_1, .int .u64 a1_2, .int .u64 a1_3, .int .u64 a1_4] 27 (0, 0))) ∧ Aside0 (wc.heap[gb272]? = some (.cells #[.int .u64 a2_0, .int .u64 a2_1, .int .u64 a2_2] 29 (0, 0))) ∧ Aside0 (wc.heap[gb277]? = some (.cells #[.int .u64 t274, .int .u64 t275, .int .u64 t276] 29 (0, 0))) ∧ Aside0 (wc.heap[gb283]? = some (.cells #[.int .u64 t278, .int .u64 t279, .int .u64 t280] 29 (0, 0))) ∧ Aside0 (Below w.heap.size w wc))
         case first =>
          have H := HC43.out; clear HC43
          have H' := Aside0.mk H
          clear H
          go_wp2
          go_meet
          case rel => exact ⟨_, (!x14_14), rs, H', ⟨by have := HJ4.out; have := HJ10.out; have := HJ14.out; first | omega | exact Nat.le_refl _⟩, ⟨bk BK270⟩, ⟨bk BK271⟩, ⟨bk BK272⟩, ⟨bk BK277⟩, ⟨bk BK283⟩, ⟨bw HB⟩⟩
         case rest => as_aux_lemma =>
          clear HC43; (try clear c1); (try clear c2); (try clear p2); (try clear c3); (try clear c4); (try clear c12); (try clear c16); (try clear c17); (try clear c18); (try clear c19); (try clear c24); (try clear c25); (try clear c26); (try clear c28); (try clear c31); (try clear c32); (try clear c33); (try clear c34); (try clear c37); (try clear c38); (try clear c39); (try clear c40); (try clear hcz18_0); (try clear hcz18_1); (try clear hcz18_2); (try clear hcz18_3); (try clear hcz18_4); (try clear hcz20_0); (try clear hcz20_1); (try clear hcz20_2); (try clear hcz20_3); (try clear hcz20_4); (try clear hcz21_0); (try clear hcz21_1); (try clear hcz21_2); (try clear hcz27_0); (try clear hcz27_1); (try clear hcz27_2); (try clear hcz28_0); (try clear hcz28_1); (try clear hcz28_2); (try clear hcz28_3); (try clear hcz28_4); (try clear hcz35_0); (try clear hcz35_1); (try clear hcz35_2); (try clear hcz41_0); (try clear hcz41_1); (try clear hcz41_2); (try clear hcz41_3); (try clear hcz41_4); (try clear hfz18_0); (try clear hfz18_1); (try clear hfz18_2); (try clear hfz18_3); (try clear hfz18_4); (try clear hfz20_0); (try clear hfz20_1); (try clear hfz20_2); (try clear hfz20_3); (try clear hfz20_4); (try clear hfz21_0); (try clear hfz21_1); (try clear hfz21_2); (try clear hfz27_0); (try clear hfz27_1); (try clear hfz27_2); (try clear hfz28_0); (try clear hfz28_1); (try clear hfz28_2); (try clear hfz28_3); (try clear hfz28_4); (try clear hfz35_0); (try clear hfz35_1); (try clear hfz35_2)
          (try clear hfz41_0); (try clear hfz41_1); (try clear hfz41_2); (try clear hfz41_3); (try clear hfz41_4); (try clear p2)
          obtain ⟨kq, x38_42, rfl, HA, HJ42, BK270, BK271, BK272, BK277, BK283, HB⟩ := hcut
          cases kq with
          | zero => exact absurd HA.out (by simp [turnstilelaw17_ReserveLoss.j3])
          | succ kj42 =>
           have H := HA.out; clear HA
           simp only [turnstilelaw17_ReserveLoss.j3] at H
           by_cases c44 : x38_42 = true
           · subst c44
             have H1 : (some (!t281)) = some r := by rw [if_pos rfl] at H; exact H
             clear H; have H := H1; clear H1
             obtain rfl := Option.some.inj H
             go_wp2
             go_ret
             exact ⟨re, bw HB⟩
           · replace c44 := Bool.eq_false_iff.mpr c44
             subst c44
             have H1 : (turnstilelaw17_ReserveLoss.j4 kj42 a3 t281 (a1_0 == 2) a0_0 a0_1 a0_2 a0_3 a0_4 a1_0 a1_1 a1_2 a1_3 a1_4 a2_0 a2_1 a2_2) = some r := by rw [if_neg (show ¬ (false = true) by decide)] at H; exact H
             clear H; have H := H1; clear H1; have HC45 := Aside0.mk H; clear H
             go_upto_region 9 with (fail)
             go_cut [43] (fun v43 wc => ∃ (kq : Nat) (x43_44 : Bool), v43 = .bool x43_44 ∧ Aside0 (turnstilelaw17_ReserveLoss.j4 kq a3 t281 x43_44 a0_0 a0_1 a0_2 a0_3 a0_4 a1_0 a1_1 a1_2 a1_3 a1_4 a2_0 a2_1 a2_2 = some r) ∧ Aside0 (kq ≤ kj42) ∧ Aside0 (wc.heap[gb270]? = some (.cells #[.int .u64 a0_0, .int .u64 a0_1, .int .i64 a0_2, .int .i64 a0_3, .int .i64 a0_4] 53 (0, 0))) ∧ Aside0 (wc.heap[gb271]? = some (.cells #[.int .i64 a1_0, .int .u64 a1_1, .int .u64 a1_2, .int .u64 a1_3, .int .u64 a1_4] 27 (0, 0))) ∧ Aside0 (wc.heap[gb272]? = some (.cells #[.int .u64 a2_0, .int .u64 a2_1, .int .u64 a2_2] 29 (0, 0))) ∧ Aside0 (wc.heap[gb277]? = some (.cells #[.int .u64 t274, .int .u64 t275, .int .u64 t276] 29 (0, 0))) ∧ Aside0 (wc.heap[gb283]? = some (.cells #[.int .u64 t278, .int .u64 t279, .int .u64 t280] 29 (0, 0))) ∧ Aside0 (Below w.heap.size w wc))
             case first =>
              have H := HC45.out; clear HC45
              have H' := Aside0.mk H
              clear H; have hnb46 := NB271_270.out; have hnc46 := NB270_271.out; have hnb47 := NB271_272.out; have hnc47 := NB272_271.out; have hnb48 := NB271_277.out; have hnc48 := NB277_271.out; have hnb49 := NB271_283.out; have hnc49 := NB283_271.out
              obtain ⟨hcz50_0, hcz50_1, hcz50_2, hcz50_3, hcz50_4, hfz50_0, hfz50_1, hfz50_2, hfz50_3, hfz50_4⟩ := bc5 BK271
              go_wp2
              go_meet
              case rel => exact ⟨_, ((a1_0 == 2)), rs, H', ⟨by have := HJ4.out; have := HJ10.out; have := HJ14.out; have := HJ42.out; first | omega | exact Nat.le_refl _⟩, ⟨bk BK270⟩, ⟨bk BK271⟩, ⟨bk BK272⟩, ⟨bk BK277⟩, ⟨bk BK283⟩, ⟨bw HB⟩⟩
             case rest => as_aux_lemma =>
              clear HC45; (try clear c1); (try clear c2); (try clear p2); (try clear c3); (try clear c4); (try clear c12); (try clear c16); (try clear c17); (try clear c18); (try clear c19); (try clear c24); (try clear c25); (try clear c26); (try clear c28); (try clear c31); (try clear c32); (try clear c33); (try clear c34); (try clear c37); (try clear c38); (try clear c39); (try clear c40); (try clear c44); (try clear c46); (try clear c47); (try clear c48); (try clear c49); (try clear hcz18_0); (try clear hcz18_1); (try clear hcz18_2); (try clear hcz18_3); (try clear hcz18_4); (try clear hcz20_0); (try clear hcz20_1); (try clear hcz20_2); (try clear hcz20_3); (try clear hcz20_4); (try clear hcz21_0); (try clear hcz21_1); (try clear hcz21_2); (try clear hcz27_0); (try clear hcz27_1); (try clear hcz27_2); (try clear hcz28_0); (try clear hcz28_1); (try clear hcz28_2); (try clear hcz28_3); (try clear hcz28_4); (try clear hcz35_0); (try clear hcz35_1); (try clear hcz35_2); (try clear hcz41_0); (try clear hcz41_1); (try clear hcz41_2); (try clear hcz41_3); (try clear hcz41_4); (try clear hcz50_0); (try clear hcz50_1); (try clear hcz50_2); (try clear hcz50_3); (try clear hcz50_4); (try clear hfz18_0); (try clear hfz18_1); (try clear hfz18_2); (try clear hfz18_3); (try clear hfz18_4); (try clear hfz20_0); (try clear hfz20_1); (try clear hfz20_2); (try clear hfz20_3); (try clear hfz20_4); (try clear hfz21_0); (try clear hfz21_1); (try clear hfz21_2); (try clear hfz27_0); (try clear hfz27_1)
              (try clear hfz27_2); (try clear hfz28_0); (try clear hfz28_1); (try clear hfz28_2); (try clear hfz28_3); (try clear hfz28_4); (try clear hfz35_0); (try clear hfz35_1); (try clear hfz35_2); (try clear hfz41_0); (try clear hfz41_1); (try clear hfz41_2); (try clear hfz41_3); (try clear hfz41_4); (try clear hfz50_0); (try clear hfz50_1); (try clear hfz50_2); (try clear hfz50_3); (try clear hfz50_4); (try clear p2)
              obtain ⟨kq, x43_44, rfl, HA, HJ44, BK270, BK271, BK272, BK277, BK283, HB⟩ := hcut
              cases kq with
              | zero => exact absurd HA.out (by simp [turnstilelaw17_ReserveLoss.j4])
              | succ kj44 =>
               have H := HA.out; clear HA
               simp only [turnstilelaw17_ReserveLoss.j4] at H
               by_cases c51 : x43_44 = true
               · subst c51
                 have H1 : (if a1_3 = 0 then (turnstilelaw17_ReserveLoss.j5 kj44 true) else (if a1_4 = 0 then (none) else (if (IntKind.u64.wrap (Int.tdiv a3 a1_4)) ≤ a2_1 then (turnstilelaw17_ReserveLoss.j5 kj44 true) else (turnstilelaw17_ReserveLoss.j5 kj44 t281)))) = some r := by rw [if_pos rfl] at H; exact H
                 clear H; have H := H1; clear H1; have HC52 := Aside0.mk H; clear H
                 go_upto_region 10 with (fail)
                 go_cut [8] (fun v8 wc => ∃ (kq : Nat) (x8_51 : Bool), v8 = .bool x8_51 ∧ Aside0 (turnstilelaw17_ReserveLoss.j5 kq x8_51 = some r) ∧ Aside0 (kq ≤ kj44) ∧ Aside0 (wc.heap[gb270]? = some (.cells #[.int .u64 a0_0, .int .u64 a0_1, .int .i64 a0_2, .int .i64 a0_3, .int .i64 a0_4] 53 (0, 0))) ∧ Aside0 (wc.heap[gb271]? = some (.cells #[.int .i64 a1_0, .int .u64 a1_1, .int .u64 a1_2, .int .u64 a1_3, .int .u64 a1_4] 27 (0, 0))) ∧ Aside0 (wc.heap[gb272]? = some (.cells #[.int .u64 a2_0, .int .u64 a2_1, .int .u64 a2_2] 29 (0, 0))) ∧ Aside0 (wc.heap[gb277]? = some (.cells #[.int .u64 t274, .int .u64 t275, .int .u64 t276] 29 (0, 0))) ∧ Aside0 (wc.heap[gb283]? = some (.cells #[.int .u64 t278, .int .u64 t279, .int .u64 t280] 29 (0, 0))) ∧ Aside0 (Below w.heap.size w wc))
                 case first =>
                  have H := HC52.out; clear HC52
                  by_cases c53 : a1_3 = 0
                  · rw [if_pos c53] at H
                    have c53b0 : (a1_3 == 0) = true := beq_iff_eq.mpr c53
                    have c53b1 : (a1_3 != 0) = false := bne_eq_false_iff_eq.mpr c53
                    clear c53
                    (first | rw [c53b0] | (simp only [i64_w, i32_w]; rw [c53b0]) | skip)
                    have H' := Aside0.mk H
                    clear H
                    try go_wp2
                    replace BK270 := Aside0.mk (blk_drew BK270.out); replace BK271 := Aside0.mk (blk_drew BK271.out); replace BK272 := Aside0.mk (blk_drew BK272.out); replace BK277 := Aside0.mk (blk_drew BK277.out); replace BK283 := Aside0.mk (blk_drew BK283.out); replace HB := Aside0.mk (below_drew1 HB.out)
                    refine start_ (n := 16) (S := fun w' => w'.cell? ⟨gb271, 0, none⟩ = some (.int .i64 a1_0) ∧ w'.cell? ⟨gb271, 1, none⟩ = some (.int .u64 a1_1) ∧ w'.cell? ⟨gb271, 2, none⟩ = some (.int .u64 a1_2) ∧ w'.cell? ⟨gb271, 3, none⟩ = some (.int .u64 a1_3) ∧ w'.cell? ⟨gb271, 4, none⟩ = some (.int .u64 a1_4)) (ds := []) #[false, false, false, false, false, false, false, false, false, false, false, false, false, false, false, false] (by kernel_rfl) rfl rfl ⟨(blk_cell BK271.out 0).trans rfl, (blk_cell BK271.out 1).trans rfl, (blk_cell BK271.out 2).trans rfl, (blk_cell BK271.out 3).trans rfl, (blk_cell BK271.out 4).trans rfl⟩ (fun hHeld => ?_); refine with_tabW turnstilelaw17_ReserveLoss.tab10 turnstilelaw17_ReserveLoss.bits10 (fun HT_ HW_ => ?_)
                    generalize wc.drew = w54 at BK270 BK271 BK272 BK277 BK283 HB hHeld ⊢
                    refine chain_ (fuel := 0) [(0, 0, some 44), (1, 1, some 45), (2, 0, some 46), (3, 0, some 47), (4, 2, some 48), (5, 2, some 49), (6, 2, some 50), (7, 2, some 51), (8, 2, some 52), (9, 2, some 53), (10, 2, some 54), (11, 0, some 55), (12, 0, some 56), (13, 2, some 57), (14, 0, some 58), (15, 0, some 8)] #[true, true, true, true, true, true, true, true, true, true, true, true, true, true, true, true] HT_.out HW_.out (by kernel_rfl) (fun _ _ _ _ _ h => h) (Or.inr hHeld) rfl ?_
                    refine lkP ?_; refine lkT ?_; (iterate 2 refine lkP ?_); (iterate 7 refine lkO ?_); (iterate 2 refine lkP ?_); refine lkO ?_; (iterate 2 refine lkP ?_); refine .nil ?_
                    refine done_ (done_of HT_.out (by kernel_rfl)) ?_
                    try go_wp2
                    go_meet
                    case rel => exact ⟨_, (true), rs, H', ⟨by have := HJ4.out; have := HJ10.out; have := HJ14.out; have := HJ42.out; have := HJ44.out; first | omega | exact Nat.le_refl _⟩, ⟨bk BK270⟩, ⟨bk BK271⟩, ⟨bk BK272⟩, ⟨bk BK277⟩, ⟨bk BK283⟩, ⟨bw HB⟩⟩
                  · rw [if_neg c53] at H
                    have c53b0 : (a1_3 == 0) = false := beq_eq_false_iff_ne.mpr c53
                    have c53b1 : (a1_3 != 0) = true := bne_iff_ne.mpr c53
                    (first | rw [c53b0] | (simp only [i64_w, i32_w]; rw [c53b0]) | skip)
                    by_cases c55 : a1_4 = 0
                    · rw [if_pos c55] at H
                      exact absurd H (by simp)
                    · rw [if_neg c55] at H
                      have c55b0 : (a1_4 == 0) = false := beq_eq_false_iff_ne.mpr c55
                      have c55b1 : (a1_4 != 0) = true := bne_iff_ne.mpr c55
                      by_cases c56 : (IntKind.u64.wrap (Int.tdiv a3 a1_4)) ≤ a2_1
                      · rw [if_pos c56] at H
                        have c56b0 : decide ((IntKind.u64.wrap (Int.tdiv a3 a1_4)) ≤ a2_1) = true := decide_eq_true c56
                        clear c56
                        have H' := Aside0.mk H
                        clear H
                        try go_wp2
                        replace BK270 := Aside0.mk (blk_drew BK270.out); replace BK271 := Aside0.mk (blk_drew BK271.out); replace BK272 := Aside0.mk (blk_drew BK272.out); replace BK277 := Aside0.mk (blk_drew BK277.out); replace BK283 := Aside0.mk (blk_drew BK283.out); replace HB := Aside0.mk (below_drew1 HB.out)
                        refine start_ (n := 16) (S := fun w' => w'.cell? ⟨gb271, 0, none⟩ = some (.int .i64 a1_0) ∧ w'.cell? ⟨gb271, 1, none⟩ = some (.int .u64 a1_1) ∧ w'.cell? ⟨gb271, 2, none⟩ = some (.int .u64 a1_2) ∧ w'.cell? ⟨gb271, 3, none⟩ = some (.int .u64 a1_3) ∧ w'.cell? ⟨gb271, 4, none⟩ = some (.int .u64 a1_4) ∧ w'.cell? ⟨gb272, 0, none⟩ = some (.int .u64 a2_0) ∧ w'.cell? ⟨gb272, 1, none⟩ = some (.int .u64 a2_1) ∧ w'.cell? ⟨gb272, 2, none⟩ = some (.int .u64 a2_2)) (ds := []) #[false, false, false, false, false, false, false, false, false, false, false, false, false, false, false, false] (by kernel_rfl) rfl rfl ⟨(blk_cell BK271.out 0).trans rfl, (blk_cell BK271.out 1).trans rfl, (blk_cell BK271.out 2).trans rfl, (blk_cell BK271.out 3).trans rfl, (blk_cell BK271.out 4).trans rfl, (blk_cell BK272.out 0).trans rfl, (blk_cell BK272.out 1).trans rfl, (blk_cell BK272.out 2).trans rfl⟩ (fun hHeld => ?_); refine with_tabW turnstilelaw17_ReserveLoss.tab10 turnstilelaw17_ReserveLoss.bits10 (fun HT_ HW_ => ?_)
                        generalize wc.drew = w57 at BK270 BK271 BK272 BK277 BK283 HB hHeld ⊢
                        refine chain_ (fuel := 0) [(0, 0, some 44), (1, 1, some 45), (2, 0, some 46), (3, 0, some 47), (4, 0, some 48), (5, 0, some 49), (8, 0, some 52), (6, 1, some 50), (7, 0, some 51), (9, 1, some 53), (10, 0, some 54), (11, 0, some 55), (12, 0, some 56), (13, 2, some 57), (14, 0, some 58), (15, 0, some 8)] #[true, true, true, true, true, true, true, true, true, true, true, true, true, true, true, true] HT_.out HW_.out (by kernel_rfl) (fun _ _ _ _ _ h => h) (Or.inr hHeld) rfl ?_
                        refine lkP ?_; refine lkT ?_; (iterate 5 refine lkP ?_); refine lkT ?_; refine lkP ?_; refine lkT ?_; (iterate 3 refine lkP ?_); refine lkO ?_; (iterate 2 refine lkP ?_); refine .nil ?_
                        refine done_ (done_of HT_.out (by kernel_rfl)) ?_
                        try go_wp2
                        go_meet
                        case rel => exact ⟨_, (true), rs, H', ⟨by have := HJ4.out; have := HJ10.out; have := HJ14.out; have := HJ42.out; have := HJ44.out; first | omega | exact Nat.le_refl _⟩, ⟨bk BK270⟩, ⟨bk BK271⟩, ⟨bk BK272⟩, ⟨bk BK277⟩, ⟨bk BK283⟩, ⟨bw HB⟩⟩
                      · rw [if_neg c56] at H
                        have c56b0 : decide ((IntKind.u64.wrap (Int.tdiv a3 a1_4)) ≤ a2_1) = false := decide_eq_false c56
                        clear c56
                        have H' := Aside0.mk H
                        clear H
                        try go_wp2
                        replace BK270 := Aside0.mk (blk_drew BK270.out); replace BK271 := Aside0.mk (blk_drew BK271.out); replace BK272 := Aside0.mk (blk_drew BK272.out); replace BK277 := Aside0.mk (blk_drew BK277.out); replace BK283 := Aside0.mk (blk_drew BK283.out); replace HB := Aside0.mk (below_drew1 HB.out)
                        refine start_ (n := 16) (S := fun w' => w'.cell? ⟨gb271, 0, none⟩ = some (.int .i64 a1_0) ∧ w'.cell? ⟨gb271, 1, none⟩ = some (.int .u64 a1_1) ∧ w'.cell? ⟨gb271, 2, none⟩ = some (.int .u64 a1_2) ∧ w'.cell? ⟨gb271, 3, none⟩ = some (.int .u64 a1_3) ∧ w'.cell? ⟨gb271, 4, none⟩ = some (.int .u64 a1_4) ∧ w'.cell? ⟨gb272, 0, none⟩ = some (.int .u64 a2_0) ∧ w'.cell? ⟨gb272, 1, none⟩ = some (.int .u64 a2_1) ∧ w'.cell? ⟨gb272, 2, none⟩ = some (.int .u64 a2_2)) (ds := []) #[false, false, false, false, false, false, false, false, false, false, false, false, false, false, false, false] (by kernel_rfl) rfl rfl ⟨(blk_cell BK271.out 0).trans rfl, (blk_cell BK271.out 1).trans rfl, (blk_cell BK271.out 2).trans rfl, (blk_cell BK271.out 3).trans rfl, (blk_cell BK271.out 4).trans rfl, (blk_cell BK272.out 0).trans rfl, (blk_cell BK272.out 1).trans rfl, (blk_cell BK272.out 2).trans rfl⟩ (fun hHeld => ?_); refine with_tabW turnstilelaw17_ReserveLoss.tab10 turnstilelaw17_ReserveLoss.bits10 (fun HT_ HW_ => ?_)
                        generalize wc.drew = w58 at BK270 BK271 BK272 BK277 BK283 HB hHeld ⊢
                        refine chain_ (fuel := 0) [(0, 0, some 44), (1, 1, some 45), (2, 0, some 46), (3, 0, some 47), (4, 0, some 48), (5, 0, some 49), (8, 0, some 52), (6, 1, some 50), (7, 0, some 51), (9, 1, some 53), (10, 0, some 54), (11, 0, some 55), (12, 0, some 56), (13, 0, some 57), (14, 0, some 58), (15, 0, some 8)] #[true, true, true, true, true, true, true, true, true, true, true, true, true, true, true, true] HT_.out HW_.out (by kernel_rfl) (fun _ _ _ _ _ h => h) (Or.inr hHeld) rfl ?_
                        refine lkP ?_; refine lkT ?_; (iterate 5 refine lkP ?_); refine lkT ?_; refine lkP ?_; refine lkT ?_; (iterate 6 refine lkP ?_); refine .nil ?_
                        refine done_ (done_of HT_.out (by kernel_rfl)) ?_
                        try go_wp2
                        go_meet
                        case rel => exact ⟨_, (t281), rs, H', ⟨by have := HJ4.out; have := HJ10.out; have := HJ14.out; have := HJ42.out; have := HJ44.out; first | omega | exact Nat.le_refl _⟩, ⟨bk BK270⟩, ⟨bk BK271⟩, ⟨bk BK272⟩, ⟨bk BK277⟩, ⟨bk BK283⟩, ⟨bw HB⟩⟩
                 case rest => as_aux_lemma =>
                  clear HC52; (try clear c1); (try clear c2); (try clear p2); (try clear c3); (try clear c4); (try clear c5); (try clear c12); (try clear c16); (try clear c17); (try clear c18); (try clear c19); (try clear c24); (try clear c25); (try clear c26); (try clear c28); (try clear c31); (try clear c32); (try clear c33); (try clear c34); (try clear c37); (try clear c38); (try clear c39); (try clear c40); (try clear c44); (try clear c46); (try clear c47); (try clear c48); (try clear c49); (try clear c51); (try clear c53); (try clear c53b0); (try clear c53b1); (try clear c55); (try clear c55b0); (try clear c55b1); (try clear c56); (try clear c56b0); (try clear hcz18_0); (try clear hcz18_1); (try clear hcz18_2); (try clear hcz18_3); (try clear hcz18_4); (try clear hcz20_0); (try clear hcz20_1); (try clear hcz20_2); (try clear hcz20_3); (try clear hcz20_4); (try clear hcz21_0); (try clear hcz21_1); (try clear hcz21_2); (try clear hcz27_0); (try clear hcz27_1); (try clear hcz27_2); (try clear hcz28_0); (try clear hcz28_1); (try clear hcz28_2); (try clear hcz28_3); (try clear hcz28_4); (try clear hcz35_0); (try clear hcz35_1); (try clear hcz35_2); (try clear hcz41_0); (try clear hcz41_1); (try clear hcz41_2); (try clear hcz41_3); (try clear hcz41_4); (try clear hcz50_0); (try clear hcz50_1); (try clear hcz50_2); (try clear hcz50_3); (try clear hcz50_4); (try clear hfz18_0); (try clear hfz18_1); (try clear hfz18_2); (try clear hfz18_3); (try clear hfz18_4); (try clear hfz20_0)
                  (try clear hfz20_1); (try clear hfz20_2); (try clear hfz20_3); (try clear hfz20_4); (try clear hfz21_0); (try clear hfz21_1); (try clear hfz21_2); (try clear hfz27_0); (try clear hfz27_1); (try clear hfz27_2); (try clear hfz28_0); (try clear hfz28_1); (try clear hfz28_2); (try clear hfz28_3); (try clear hfz28_4); (try clear hfz35_0); (try clear hfz35_1); (try clear hfz35_2); (try clear hfz41_0); (try clear hfz41_1); (try clear hfz41_2); (try clear hfz41_3); (try clear hfz41_4); (try clear hfz50_0); (try clear hfz50_1); (try clear hfz50_2); (try clear hfz50_3); (try clear hfz50_4); (try clear p2)
                  obtain ⟨kq, x8_51, rfl, HA, HJ51, BK270, BK271, BK272, BK277, BK283, HB⟩ := hcut
                  cases kq with
                  | zero => exact absurd HA.out (by simp [turnstilelaw17_ReserveLoss.j5])
                  | succ kj51 =>
                   have H := HA.out; clear HA
                   simp only [turnstilelaw17_ReserveLoss.j5] at H
                   obtain rfl := Option.some.inj H
                   go_wp2
                   go_ret
                   exact ⟨re, bw HB⟩
               · replace c51 := Bool.eq_false_iff.mpr c51
                 subst c51
                 have H1 : ((sat_Of.f a2_0).bind fun bt285 => ((sat_Of.f a0_0).bind fun bt287 => ((sat_Wide_Plus.f bt285.1 bt285.2 bt287.1 bt287.2).bind fun bt289 => ((sat_Of.f a1_2).bind fun bt291 => ((sat_Wide_Minus.f bt289.1 bt289.2 bt291.1 bt291.2).bind fun bt293 => ((sat_Of.f a2_0).bind fun bt296 => ((sat_Of.f a0_0).bind fun bt298 => ((sat_Wide_Plus.f bt296.1 bt296.2 bt298.1 bt298.2).bind fun bt300 => ((sat_Of.f a1_1).bind fun bt302 => ((sat_Wide_Plus.f bt300.1 bt300.2 bt302.1 bt302.2).bind fun bt304 => ((sat_Wide_Narrow.f bt304.1 bt304.2).bind fun bt307 => (turnstilelaw17_ReserveLoss.j6 kj44 a3 t281 bt307.2 a1_0 a1_1 a1_2 a1_3 a1_4 bt293.1 bt293.2)))))))))))) = some r := by rw [if_neg (show ¬ (false = true) by decide)] at H; exact H
                 clear H; have H := H1; clear H1; replace H := Option.bind_eq_some_iff.mp H
                 obtain ⟨⟨t285, t286⟩, A590, H⟩ := H
                 replace H : ((sat_Of.f a0_0).bind fun bt287 => ((sat_Wide_Plus.f t285 t286 bt287.1 bt287.2).bind fun bt289 => ((sat_Of.f a1_2).bind fun bt291 => ((sat_Wide_Minus.f bt289.1 bt289.2 bt291.1 bt291.2).bind fun bt293 => ((sat_Of.f a2_0).bind fun bt296 => ((sat_Of.f a0_0).bind fun bt298 => ((sat_Wide_Plus.f bt296.1 bt296.2 bt298.1 bt298.2).bind fun bt300 => ((sat_Of.f a1_1).bind fun bt302 => ((sat_Wide_Plus.f bt300.1 bt300.2 bt302.1 bt302.2).bind fun bt304 => ((sat_Wide_Narrow.f bt304.1 bt304.2).bind fun bt307 => (turnstilelaw17_ReserveLoss.j6 kj44 a3 t281 bt307.2 a1_0 a1_1 a1_2 a1_3 a1_4 bt293.1 bt293.2))))))))))) = some r := H
                 have A59 := Aside0.mk A590; clear A590; replace H := Option.bind_eq_some_iff.mp H
                 obtain ⟨⟨t287, t288⟩, A600, H⟩ := H
                 replace H : ((sat_Wide_Plus.f t285 t286 t287 t288).bind fun bt289 => ((sat_Of.f a1_2).bind fun bt291 => ((sat_Wide_Minus.f bt289.1 bt289.2 bt291.1 bt291.2).bind fun bt293 => ((sat_Of.f a2_0).bind fun bt296 => ((sat_Of.f a0_0).bind fun bt298 => ((sat_Wide_Plus.f bt296.1 bt296.2 bt298.1 bt298.2).bind fun bt300 => ((sat_Of.f a1_1).bind fun bt302 => ((sat_Wide_Plus.f bt300.1 bt300.2 bt302.1 bt302.2).bind fun bt304 => ((sat_Wide_Narrow.f bt304.1 bt304.2).bind fun bt307 => (turnstilelaw17_ReserveLoss.j6 kj44 a3 t281 bt307.2 a1_0 a1_1 a1_2 a1_3 a1_4 bt293.1 bt293.2)))))))))) = some r := H
                 have A60 := Aside0.mk A600; clear A600; replace H := Option.bind_eq_some_iff.mp H
                 obtain ⟨⟨t289, t290⟩, A610, H⟩ := H
                 replace H : ((sat_Of.f a1_2).bind fun bt291 => ((sat_Wide_Minus.f t289 t290 bt291.1 bt291.2).bind fun bt293 => ((sat_Of.f a2_0).bind fun bt296 => ((sat_Of.f a0_0).bind fun bt298 => ((sat_Wide_Plus.f bt296.1 bt296.2 bt298.1 bt298.2).bind fun bt300 => ((sat_Of.f a1_1).bind fun bt302 => ((sat_Wide_Plus.f bt300.1 bt300.2 bt302.1 bt302.2).bind fun bt304 => ((sat_Wide_Narrow.f bt304.1 bt304.2).bind fun bt307 => (turnstilelaw17_ReserveLoss.j6 kj44 a3 t281 bt307.2 a1_0 a1_1 a1_2 a1_3 a1_4 bt293.1 bt293.2))))))))) = some r := H
                 have A61 := Aside0.mk A610; clear A610; replace H := Option.bind_eq_some_iff.mp H
                 obtain ⟨⟨t291, t292⟩, A620, H⟩ := H
                 replace H : ((sat_Wide_Minus.f t289 t290 t291 t292).bind fun bt293 => ((sat_Of.f a2_0).bind fun bt296 => ((sat_Of.f a0_0).bind fun bt298 => ((sat_Wide_Plus.f bt296.1 bt296.2 bt298.1 bt298.2).bind fun bt300 => ((sat_Of.f a1_1).bind fun bt302 => ((sat_Wide_Plus.f bt300.1 bt300.2 bt302.1 bt302.2).bind fun bt304 => ((sat_Wide_Narrow.f bt304.1 bt304.2).bind fun bt307 => (turnstilelaw17_ReserveLoss.j6 kj44 a3 t281 bt307.2 a1_0 a1_1 a1_2 a1_3 a1_4 bt293.1 bt293.2)))))))) = some r := H
                 have A62 := Aside0.mk A620; clear A620; replace H := Option.bind_eq_some_iff.mp H
                 obtain ⟨⟨t293, t294⟩, A630, H⟩ := H
                 replace H : ((sat_Of.f a2_0).bind fun bt296 => ((sat_Of.f a0_0).bind fun bt298 => ((sat_Wide_Plus.f bt296.1 bt296.2 bt298.1 bt298.2).bind fun bt300 => ((sat_Of.f a1_1).bind fun bt302 => ((sat_Wide_Plus.f bt300.1 bt300.2 bt302.1 bt302.2).bind fun bt304 => ((sat_Wide_Narrow.f bt304.1 bt304.2).bind fun bt307 => (turnstilelaw17_ReserveLoss.j6 kj44 a3 t281 bt307.2 a1_0 a1_1 a1_2 a1_3 a1_4 t293 t294))))))) = some r := H
                 have A63 := Aside0.mk A630; clear A630; replace H := Option.bind_eq_some_iff.mp H
                 obtain ⟨⟨t296, t297⟩, A640, H⟩ := H
                 replace H : ((sat_Of.f a0_0).bind fun bt298 => ((sat_Wide_Plus.f t296 t297 bt298.1 bt298.2).bind fun bt300 => ((sat_Of.f a1_1).bind fun bt302 => ((sat_Wide_Plus.f bt300.1 bt300.2 bt302.1 bt302.2).bind fun bt304 => ((sat_Wide_Narrow.f bt304.1 bt304.2).bind fun bt307 => (turnstilelaw17_ReserveLoss.j6 kj44 a3 t281 bt307.2 a1_0 a1_1 a1_2 a1_3 a1_4 t293 t294)))))) = some r := H
                 have A64 := Aside0.mk A640; clear A640; replace H := Option.bind_eq_some_iff.mp H
                 obtain ⟨⟨t298, t299⟩, A650, H⟩ := H
                 replace H : ((sat_Wide_Plus.f t296 t297 t298 t299).bind fun bt300 => ((sat_Of.f a1_1).bind fun bt302 => ((sat_Wide_Plus.f bt300.1 bt300.2 bt302.1 bt302.2).bind fun bt304 => ((sat_Wide_Narrow.f bt304.1 bt304.2).bind fun bt307 => (turnstilelaw17_ReserveLoss.j6 kj44 a3 t281 bt307.2 a1_0 a1_1 a1_2 a1_3 a1_4 t293 t294))))) = some r := H
                 have A65 := Aside0.mk A650; clear A650; replace H := Option.bind_eq_some_iff.mp H
                 obtain ⟨⟨t300, t301⟩, A660, H⟩ := H
                 replace H : ((sat_Of.f a1_1).bind fun bt302 => ((sat_Wide_Plus.f t300 t301 bt302.1 bt302.2).bind fun bt304 => ((sat_Wide_Narrow.f bt304.1 bt304.2).bind fun bt307 => (turnstilelaw17_ReserveLoss.j6 kj44 a3 t281 bt307.2 a1_0 a1_1 a1_2 a1_3 a1_4 t293 t294)))) = some r := H
                 have A66 := Aside0.mk A660; clear A660; replace H := Option.bind_eq_some_iff.mp H
                 obtain ⟨⟨t302, t303⟩, A670, H⟩ := H
                 replace H : ((sat_Wide_Plus.f t300 t301 t302 t303).bind fun bt304 => ((sat_Wide_Narrow.f bt304.1 bt304.2).bind fun bt307 => (turnstilelaw17_ReserveLoss.j6 kj44 a3 t281 bt307.2 a1_0 a1_1 a1_2 a1_3 a1_4 t293 t294))) = some r := H
                 have A67 := Aside0.mk A670; clear A670; replace H := Option.bind_eq_some_iff.mp H
                 obtain ⟨⟨t304, t305⟩, A680, H⟩ := H
                 replace H : ((sat_Wide_Narrow.f t304 t305).bind fun bt307 => (turnstilelaw17_ReserveLoss.j6 kj44 a3 t281 bt307.2 a1_0 a1_1 a1_2 a1_3 a1_4 t293 t294)) = some r := H
                 have A68 := Aside0.mk A680; clear A680; have HC69 := Aside0.mk H; clear H
                 try go_wp2
                 replace BK270 := Aside0.mk (blk_drew BK270.out); replace BK271 := Aside0.mk (blk_drew BK271.out); replace BK272 := Aside0.mk (blk_drew BK272.out); replace BK277 := Aside0.mk (blk_drew BK277.out); replace BK283 := Aside0.mk (blk_drew BK283.out); replace HB := Aside0.mk (below_drew1 HB.out)
                 refine start_ (n := 13) (S := fun w' => w'.cell? ⟨gb272, 0, none⟩ = some (.int .u64 a2_0) ∧ w'.cell? ⟨gb272, 1, none⟩ = some (.int .u64 a2_1) ∧ w'.cell? ⟨gb272, 2, none⟩ = some (.int .u64 a2_2) ∧ w'.cell? ⟨gb270, 0, none⟩ = some (.int .u64 a0_0) ∧ w'.cell? ⟨gb270, 1, none⟩ = some (.int .u64 a0_1) ∧ w'.cell? ⟨gb270, 2, none⟩ = some (.int .i64 a0_2) ∧ w'.cell? ⟨gb270, 3, none⟩ = some (.int .i64 a0_3) ∧ w'.cell? ⟨gb270, 4, none⟩ = some (.int .i64 a0_4) ∧ w'.cell? ⟨gb271, 0, none⟩ = some (.int .i64 a1_0) ∧ w'.cell? ⟨gb271, 1, none⟩ = some (.int .u64 a1_1) ∧ w'.cell? ⟨gb271, 2, none⟩ = some (.int .u64 a1_2) ∧ w'.cell? ⟨gb271, 3, none⟩ = some (.int .u64 a1_3) ∧ w'.cell? ⟨gb271, 4, none⟩ = some (.int .u64 a1_4)) (ds := []) #[false, false, false, false, false, false, false, false, false, false, false, false, false] (by kernel_rfl) rfl rfl ⟨(blk_cell BK272.out 0).trans rfl, (blk_cell BK272.out 1).trans rfl, (blk_cell BK272.out 2).trans rfl, (blk_cell BK270.out 0).trans rfl, (blk_cell BK270.out 1).trans rfl, (blk_cell BK270.out 2).trans rfl, (blk_cell BK270.out 3).trans rfl, (blk_cell BK270.out 4).trans rfl, (blk_cell BK271.out 0).trans rfl, (blk_cell BK271.out 1).trans rfl, (blk_cell BK271.out 2).trans rfl, (blk_cell BK271.out 3).trans rfl, (blk_cell BK271.out 4).trans rfl⟩ (fun hHeld => ?_); refine with_tabW turnstilelaw17_ReserveLoss.tab11 turnstilelaw17_ReserveLoss.bits11 (fun HT_ HW_ => ?_)
                 generalize wc.drew = w70 at BK270 BK271 BK272 BK277 BK283 HB hHeld ⊢
                 refine chain_ (fuel := 7) [(0, 0, some 59), (3, 0, some 62), (7, 0, some 66), (1, 1, some 60), (4, 1, some 63), (8, 1, some 67)] #[true, true, false, true, true, false, false, true, true, false, false, false, false] HT_.out HW_.out (by kernel_rfl) (fun _ _ _ _ _ h => h) (Or.inr hHeld) rfl ?_
                 (iterate 3 refine lkP ?_); (iterate 3 refine lkT ?_); refine .nil ?_
                 refine join_ (σ := Nat) 1 #[true, true, true, true, true, true, true, true, true, true, true, true, false] (fun s_ => [(61, .agg #[.int .u64 t285, .int .u64 t286]), (64, .agg #[.int .u64 t287, .int .u64 t288]), (65, .agg #[.int .u64 t289, .int .u64 t290]), (68, .agg #[.int .u64 t291, .int .u64 t292]), (69, .agg #[.int .u64 t293, .int .u64 t294]), (15, .pointer (some ⟨s_, 0, none⟩))]) (fun s_ w' => (w'.cell? ⟨gb272, 0, none⟩ = some (.int .u64 a2_0) ∧ w'.cell? ⟨gb272, 1, none⟩ = some (.int .u64 a2_1) ∧ w'.cell? ⟨gb272, 2, none⟩ = some (.int .u64 a2_2) ∧ w'.cell? ⟨gb270, 0, none⟩ = some (.int .u64 a0_0) ∧ w'.cell? ⟨gb270, 1, none⟩ = some (.int .u64 a0_1) ∧ w'.cell? ⟨gb270, 2, none⟩ = some (.int .i64 a0_2) ∧ w'.cell? ⟨gb270, 3, none⟩ = some (.int .i64 a0_3) ∧ w'.cell? ⟨gb270, 4, none⟩ = some (.int .i64 a0_4) ∧ w'.cell? ⟨gb271, 0, none⟩ = some (.int .i64 a1_0) ∧ w'.cell? ⟨gb271, 1, none⟩ = some (.int .u64 a1_1) ∧ w'.cell? ⟨gb271, 2, none⟩ = some (.int .u64 a1_2) ∧ w'.cell? ⟨gb271, 3, none⟩ = some (.int .u64 a1_3) ∧ w'.cell? ⟨gb271, 4, none⟩ = some (.int .u64 a1_4)) ∧ (w'.heap[gb270]? = some (.cells #[.int .u64 a0_0, .int .u64 a0_1, .int .i64 a0_2, .int .i64 a0_3, .int .i64 a0_4] 53 (0, 0))) ∧ (w'.heap[gb271]? = some (.cells #[.int .i64 a1_0, .int .u64 a1_1, .int .u64 a1_2, .int .u64 a1_3, .int .u64 a1_4] 27 (0, 0))) ∧ (w'.heap[gb272]? = some (.cells #[.int .u64 a2_0, .int .u64 a2_1, .int .u64 a2_2] 29 (0, 0))) ∧ (w'.heap[gb277]? = some (.cells #[.int .u64 t274, .int .u64 t275, .int .u64 t276] 29 (0, 0))) ∧ (w'.heap[gb283]? = some (.cells #[.int .u64 t278, .int .u64 t279, .int .u64 t280] 29 (0, 0))) ∧ (w'.heap[s_]? = some (.cells #[.int .u64 0, .int .u64 0] 68 (0, 0))) ∧ (w.heap.size ≤ s_) ∧ (w.heap.size ≤ s_) ∧ (gb270 ≠ s_) ∧ (s_ ≠ gb270) ∧ (gb271 ≠ s_) ∧ (s_ ≠ gb271) ∧ (gb272 ≠ s_) ∧ (s_ ≠ gb272) ∧ (gb277 ≠ s_) ∧ (s_ ≠ gb277) ∧ (gb283 ≠ s_) ∧ (s_ ≠ gb283) ∧ (Below w.heap.size w w')) ?_ ?_
                 rotate_left
                 · intro hJ2_5_6_9_10_11
                   refine join_ (σ := Unit) 2 #[true, true, true, true, true, true, true, true, true, true, true, false, false] (fun s_ => [(61, .agg #[.int .u64 t285, .int .u64 t286]), (64, .agg #[.int .u64 t287, .int .u64 t288]), (65, .agg #[.int .u64 t289, .int .u64 t290]), (68, .agg #[.int .u64 t291, .int .u64 t292]), (69, .agg #[.int .u64 t293, .int .u64 t294])]) (fun s_ w' => (w'.cell? ⟨gb272, 0, none⟩ = some (.int .u64 a2_0) ∧ w'.cell? ⟨gb272, 1, none⟩ = some (.int .u64 a2_1) ∧ w'.cell? ⟨gb272, 2, none⟩ = some (.int .u64 a2_2) ∧ w'.cell? ⟨gb270, 0, none⟩ = some (.int .u64 a0_0) ∧ w'.cell? ⟨gb270, 1, none⟩ = some (.int .u64 a0_1) ∧ w'.cell? ⟨gb270, 2, none⟩ = some (.int .i64 a0_2) ∧ w'.cell? ⟨gb270, 3, none⟩ = some (.int .i64 a0_3) ∧ w'.cell? ⟨gb270, 4, none⟩ = some (.int .i64 a0_4) ∧ w'.cell? ⟨gb271, 0, none⟩ = some (.int .i64 a1_0) ∧ w'.cell? ⟨gb271, 1, none⟩ = some (.int .u64 a1_1) ∧ w'.cell? ⟨gb271, 2, none⟩ = some (.int .u64 a1_2) ∧ w'.cell? ⟨gb271, 3, none⟩ = some (.int .u64 a1_3) ∧ w'.cell? ⟨gb271, 4, none⟩ = some (.int .u64 a1_4)) ∧ (w'.heap[gb270]? = some (.cells #[.int .u64 a0_0, .int .u64 a0_1, .int .i64 a0_2, .int .i64 a0_3, .int .i64 a0_4] 53 (0, 0))) ∧ (w'.heap[gb271]? = some (.cells #[.int .i64 a1_0, .int .u64 a1_1, .int .u64 a1_2, .int .u64 a1_3, .int .u64 a1_4] 27 (0, 0))) ∧ (w'.heap[gb272]? = some (.cells #[.int .u64 a2_0, .int .u64 a2_1, .int .u64 a2_2] 29 (0, 0))) ∧ (w'.heap[gb277]? = some (.cells #[.int .u64 t274, .int .u64 t275, .int .u64 t276] 29 (0, 0))) ∧ (w'.heap[gb283]? = some (.cells #[.int .u64 t278, .int .u64 t279, .int .u64 t280] 29 (0, 0))) ∧ (Below w.heap.size w w')) ?_ ?_
                   rotate_left
                   · intro hJ2_5_6_9_10
                     refine join_ (σ := Nat) 2 #[true, true, true, true, true, true, true, true, true, true, false, true, false] (fun s_ => [(61, .agg #[.int .u64 t285, .int .u64 t286]), (64, .agg #[.int .u64 t287, .int .u64 t288]), (65, .agg #[.int .u64 t289, .int .u64 t290]), (68, .agg #[.int .u64 t291, .int .u64 t292]), (15, .pointer (some ⟨s_, 0, none⟩))]) (fun s_ w' => (w'.cell? ⟨gb272, 0, none⟩ = some (.int .u64 a2_0) ∧ w'.cell? ⟨gb272, 1, none⟩ = some (.int .u64 a2_1) ∧ w'.cell? ⟨gb272, 2, none⟩ = some (.int .u64 a2_2) ∧ w'.cell? ⟨gb270, 0, none⟩ = some (.int .u64 a0_0) ∧ w'.cell? ⟨gb270, 1, none⟩ = some (.int .u64 a0_1) ∧ w'.cell? ⟨gb270, 2, none⟩ = some (.int .i64 a0_2) ∧ w'.cell? ⟨gb270, 3, none⟩ = some (.int .i64 a0_3) ∧ w'.cell? ⟨gb270, 4, none⟩ = some (.int .i64 a0_4) ∧ w'.cell? ⟨gb271, 0, none⟩ = some (.int .i64 a1_0) ∧ w'.cell? ⟨gb271, 1, none⟩ = some (.int .u64 a1_1) ∧ w'.cell? ⟨gb271, 2, none⟩ = some (.int .u64 a1_2) ∧ w'.cell? ⟨gb271, 3, none⟩ = some (.int .u64 a1_3) ∧ w'.cell? ⟨gb271, 4, none⟩ = some (.int .u64 a1_4)) ∧ (w'.heap[gb270]? = some (.cells #[.int .u64 a0_0, .int .u64 a0_1, .int .i64 a0_2, .int .i64 a0_3, .int .i64 a0_4] 53 (0, 0))) ∧ (w'.heap[gb271]? = some (.cells #[.int .i64 a1_0, .int .u64 a1_1, .int .u64 a1_2, .int .u64 a1_3, .int .u64 a1_4] 27 (0, 0))) ∧ (w'.heap[gb272]? = some (.cells #[.int .u64 a2_0, .int .u64 a2_1, .int .u64 a2_2] 29 (0, 0))) ∧ (w'.heap[gb277]? = some (.cells #[.int .u64 t274, .int .u64 t275, .int .u64 t276] 29 (0, 0))) ∧ (w'.heap[gb283]? = some (.cells #[.int .u64 t278, .int .u64 t279, .int .u64 t280] 29 (0, 0))) ∧ (w'.heap[s_]? = some (.cells #[.int .u64 0, .int .u64 0] 68 (0, 0))) ∧ (w.heap.size ≤ s_) ∧ (w.heap.size ≤ s_) ∧ (gb270 ≠ s_) ∧ (s_ ≠ gb270) ∧ (gb271 ≠ s_) ∧ (s_ ≠ gb271) ∧ (gb272 ≠ s_) ∧ (s_ ≠ gb272) ∧ (gb277 ≠ s_) ∧ (s_ ≠ gb277) ∧ (gb283 ≠ s_) ∧ (s_ ≠ gb283) ∧ (Below w.heap.size w w')) ?_ ?_
                     rotate_left
                     · intro hJ2_5_6_9_11
                       refine join_ (σ := Unit) 3 #[true, true, true, true, true, true, true, true, true, true, false, false, false] (fun s_ => [(61, .agg #[.int .u64 t285, .int .u64 t286]), (64, .agg #[.int .u64 t287, .int .u64 t288]), (65, .agg #[.int .u64 t289, .int .u64 t290]), (68, .agg #[.int .u64 t291, .int .u64 t292])]) (fun s_ w' => (w'.cell? ⟨gb272, 0, none⟩ = some (.int .u64 a2_0) ∧ w'.cell? ⟨gb272, 1, none⟩ = some (.int .u64 a2_1) ∧ w'.cell? ⟨gb272, 2, none⟩ = some (.int .u64 a2_2) ∧ w'.cell? ⟨gb270, 0, none⟩ = some (.int .u64 a0_0) ∧ w'.cell? ⟨gb270, 1, none⟩ = some (.int .u64 a0_1) ∧ w'.cell? ⟨gb270, 2, none⟩ = some (.int .i64 a0_2) ∧ w'.cell? ⟨gb270, 3, none⟩ = some (.int .i64 a0_3) ∧ w'.cell? ⟨gb270, 4, none⟩ = some (.int .i64 a0_4) ∧ w'.cell? ⟨gb271, 0, none⟩ = some (.int .i64 a1_0) ∧ w'.cell? ⟨gb271, 1, none⟩ = some (.int .u64 a1_1) ∧ w'.cell? ⟨gb271, 2, none⟩ = some (.int .u64 a1_2) ∧ w'.cell? ⟨gb271, 3, none⟩ = some (.int .u64 a1_3) ∧ w'.cell? ⟨gb271, 4, none⟩ = some (.int .u64 a1_4)) ∧ (w'.heap[gb270]? = some (.cells #[.int .u64 a0_0, .int .u64 a0_1, .int .i64 a0_2, .int .i64 a0_3, .int .i64 a0_4] 53 (0, 0))) ∧ (w'.heap[gb271]? = some (.cells #[.int .i64 a1_0, .int .u64 a1_1, .int .u64 a1_2, .int .u64 a1_3, .int .u64 a1_4] 27 (0, 0))) ∧ (w'.heap[gb272]? = some (.cells #[.int .u64 a2_0, .int .u64 a2_1, .int .u64 a2_2] 29 (0, 0))) ∧ (w'.heap[gb277]? = some (.cells #[.int .u64 t274, .int .u64 t275, .int .u64 t276] 29 (0, 0))) ∧ (w'.heap[gb283]? = some (.cells #[.int .u64 t278, .int .u64 t279, .int .u64 t280] 29 (0, 0))) ∧ (Below w.heap.size w w')) ?_ ?_
                       rotate_left
                       · intro hJ2_5_6_9
                         refine join_ (σ := Nat) 3 #[true, true, true, true, true, true, true, true, true, false, false, true, false] (fun s_ => [(61, .agg #[.int .u64 t285, .int .u64 t286]), (64, .agg #[.int .u64 t287, .int .u64 t288]), (65, .agg #[.int .u64 t289, .int .u64 t290]), (15, .pointer (some ⟨s_, 0, none⟩))]) (fun s_ w' => (w'.cell? ⟨gb272, 0, none⟩ = some (.int .u64 a2_0) ∧ w'.cell? ⟨gb272, 1, none⟩ = some (.int .u64 a2_1) ∧ w'.cell? ⟨gb272, 2, none⟩ = some (.int .u64 a2_2) ∧ w'.cell? ⟨gb270, 0, none⟩ = some (.int .u64 a0_0) ∧ w'.cell? ⟨gb270, 1, none⟩ = some (.int .u64 a0_1) ∧ w'.cell? ⟨gb270, 2, none⟩ = some (.int .i64 a0_2) ∧ w'.cell? ⟨gb270, 3, none⟩ = some (.int .i64 a0_3) ∧ w'.cell? ⟨gb270, 4, none⟩ = some (.int .i64 a0_4) ∧ w'.cell? ⟨gb271, 0, none⟩ = some (.int .i64 a1_0) ∧ w'.cell? ⟨gb271, 1, none⟩ = some (.int .u64 a1_1) ∧ w'.cell? ⟨gb271, 2, none⟩ = some (.int .u64 a1_2) ∧ w'.cell? ⟨gb271, 3, none⟩ = some (.int .u64 a1_3) ∧ w'.cell? ⟨gb271, 4, none⟩ = some (.int .u64 a1_4)) ∧ (w'.heap[gb270]? = some (.cells #[.int .u64 a0_0, .int .u64 a0_1, .int .i64 a0_2, .int .i64 a0_3, .int .i64 a0_4] 53 (0, 0))) ∧ (w'.heap[gb271]? = some (.cells #[.int .i64 a1_0, .int .u64 a1_1, .int .u64 a1_2, .int .u64 a1_3, .int .u64 a1_4] 27 (0, 0))) ∧ (w'.heap[gb272]? = some (.cells #[.int .u64 a2_0, .int .u64 a2_1, .int .u64 a2_2] 29 (0, 0))) ∧ (w'.heap[gb277]? = some (.cells #[.int .u64 t274, .int .u64 t275, .int .u64 t276] 29 (0, 0))) ∧ (w'.heap[gb283]? = some (.cells #[.int .u64 t278, .int .u64 t279, .int .u64 t280] 29 (0, 0))) ∧ (w'.heap[s_]? = some (.cells #[.int .u64 0, .int .u64 0] 68 (0, 0))) ∧ (w.heap.size ≤ s_) ∧ (w.heap.size ≤ s_) ∧ (gb270 ≠ s_) ∧ (s_ ≠ gb270) ∧ (gb271 ≠ s_) ∧ (s_ ≠ gb271) ∧ (gb272 ≠ s_) ∧ (s_ ≠ gb272) ∧ (gb277 ≠ s_) ∧ (s_ ≠ gb277) ∧ (gb283 ≠ s_) ∧ (s_ ≠ gb283) ∧ (Below w.heap.size w w')) ?_ ?_
                         rotate_left
                         · intro hJ2_5_6_11
                           refine join_ (σ := Unit) 4 #[true, true, true, true, true, true, true, true, true, false, false, false, false] (fun s_ => [(61, .agg #[.int .u64 t285, .int .u64 t286]), (64, .agg #[.int .u64 t287, .int .u64 t288]), (65, .agg #[.int .u64 t289, .int .u64 t290])]) (fun s_ w' => (w'.cell? ⟨gb272, 0, none⟩ = some (.int .u64 a2_0) ∧ w'.cell? ⟨gb272, 1, none⟩ = some (.int .u64 a2_1) ∧ w'.cell? ⟨gb272, 2, none⟩ = some (.int .u64 a2_2) ∧ w'.cell? ⟨gb270, 0, none⟩ = some (.int .u64 a0_0) ∧ w'.cell? ⟨gb270, 1, none⟩ = some (.int .u64 a0_1) ∧ w'.cell? ⟨gb270, 2, none⟩ = some (.int .i64 a0_2) ∧ w'.cell? ⟨gb270, 3, none⟩ = some (.int .i64 a0_3) ∧ w'.cell? ⟨gb270, 4, none⟩ = some (.int .i64 a0_4) ∧ w'.cell? ⟨gb271, 0, none⟩ = some (.int .i64 a1_0) ∧ w'.cell? ⟨gb271, 1, none⟩ = some (.int .u64 a1_1) ∧ w'.cell? ⟨gb271, 2, none⟩ = some (.int .u64 a1_2) ∧ w'.cell? ⟨gb271, 3, none⟩ = some (.int .u64 a1_3) ∧ w'.cell? ⟨gb271, 4, none⟩ = some (.int .u64 a1_4)) ∧ (w'.heap[gb270]? = some (.cells #[.int .u64 a0_0, .int .u64 a0_1, .int .i64 a0_2, .int .i64 a0_3, .int .i64 a0_4] 53 (0, 0))) ∧ (w'.heap[gb271]? = some (.cells #[.int .i64 a1_0, .int .u64 a1_1, .int .u64 a1_2, .int .u64 a1_3, .int .u64 a1_4] 27 (0, 0))) ∧ (w'.heap[gb272]? = some (.cells #[.int .u64 a2_0, .int .u64 a2_1, .int .u64 a2_2] 29 (0, 0))) ∧ (w'.heap[gb277]? = some (.cells #[.int .u64 t274, .int .u64 t275, .int .u64 t276] 29 (0, 0))) ∧ (w'.heap[gb283]? = some (.cells #[.int .u64 t278, .int .u64 t279, .int .u64 t280] 29 (0, 0))) ∧ (Below w.heap.size w w')) ?_ ?_
                           rotate_left
                           · intro hJ2_5_6
                             refine join_ (σ := Nat) 4 #[true, true, true, true, true, true, false, true, true, false, false, true, false] (fun s_ => [(61, .agg #[.int .u64 t285, .int .u64 t286]), (64, .agg #[.int .u64 t287, .int .u64 t288]), (15, .pointer (some ⟨s_, 0, none⟩))]) (fun s_ w' => (w'.cell? ⟨gb272, 0, none⟩ = some (.int .u64 a2_0) ∧ w'.cell? ⟨gb272, 1, none⟩ = some (.int .u64 a2_1) ∧ w'.cell? ⟨gb272, 2, none⟩ = some (.int .u64 a2_2) ∧ w'.cell? ⟨gb270, 0, none⟩ = some (.int .u64 a0_0) ∧ w'.cell? ⟨gb270, 1, none⟩ = some (.int .u64 a0_1) ∧ w'.cell? ⟨gb270, 2, none⟩ = some (.int .i64 a0_2) ∧ w'.cell? ⟨gb270, 3, none⟩ = some (.int .i64 a0_3) ∧ w'.cell? ⟨gb270, 4, none⟩ = some (.int .i64 a0_4) ∧ w'.cell? ⟨gb271, 0, none⟩ = some (.int .i64 a1_0) ∧ w'.cell? ⟨gb271, 1, none⟩ = some (.int .u64 a1_1) ∧ w'.cell? ⟨gb271, 2, none⟩ = some (.int .u64 a1_2) ∧ w'.cell? ⟨gb271, 3, none⟩ = some (.int .u64 a1_3) ∧ w'.cell? ⟨gb271, 4, none⟩ = some (.int .u64 a1_4)) ∧ (w'.heap[gb270]? = some (.cells #[.int .u64 a0_0, .int .u64 a0_1, .int .i64 a0_2, .int .i64 a0_3, .int .i64 a0_4] 53 (0, 0))) ∧ (w'.heap[gb271]? = some (.cells #[.int .i64 a1_0, .int .u64 a1_1, .int .u64 a1_2, .int .u64 a1_3, .int .u64 a1_4] 27 (0, 0))) ∧ (w'.heap[gb272]? = some (.cells #[.int .u64 a2_0, .int .u64 a2_1, .int .u64 a2_2] 29 (0, 0))) ∧ (w'.heap[gb277]? = some (.cells #[.int .u64 t274, .int .u64 t275, .int .u64 t276] 29 (0, 0))) ∧ (w'.heap[gb283]? = some (.cells #[.int .u64 t278, .int .u64 t279, .int .u64 t280] 29 (0, 0))) ∧ (w'.heap[s_]? = some (.cells #[.int .u64 0, .int .u64 0] 68 (0, 0))) ∧ (w.heap.size ≤ s_) ∧ (w.heap.size ≤ s_) ∧ (gb270 ≠ s_) ∧ (s_ ≠ gb270) ∧ (gb271 ≠ s_) ∧ (s_ ≠ gb271) ∧ (gb272 ≠ s_) ∧ (s_ ≠ gb272) ∧ (gb277 ≠ s_) ∧ (s_ ≠ gb277) ∧ (gb283 ≠ s_) ∧ (s_ ≠ gb283) ∧ (Below w.heap.size w w')) ?_ ?_
                             rotate_left
                             · intro hJ2_5_11
                               refine join_ (σ := Unit) 5 #[true, true, true, true, true, true, false, true, true, false, false, false, false] (fun s_ => [(61, .agg #[.int .u64 t285, .int .u64 t286]), (64, .agg #[.int .u64 t287, .int .u64 t288])]) (fun s_ w' => (w'.cell? ⟨gb272, 0, none⟩ = some (.int .u64 a2_0) ∧ w'.cell? ⟨gb272, 1, none⟩ = some (.int .u64 a2_1) ∧ w'.cell? ⟨gb272, 2, none⟩ = some (.int .u64 a2_2) ∧ w'.cell? ⟨gb270, 0, none⟩ = some (.int .u64 a0_0) ∧ w'.cell? ⟨gb270, 1, none⟩ = some (.int .u64 a0_1) ∧ w'.cell? ⟨gb270, 2, none⟩ = some (.int .i64 a0_2) ∧ w'.cell? ⟨gb270, 3, none⟩ = some (.int .i64 a0_3) ∧ w'.cell? ⟨gb270, 4, none⟩ = some (.int .i64 a0_4) ∧ w'.cell? ⟨gb271, 0, none⟩ = some (.int .i64 a1_0) ∧ w'.cell? ⟨gb271, 1, none⟩ = some (.int .u64 a1_1) ∧ w'.cell? ⟨gb271, 2, none⟩ = some (.int .u64 a1_2) ∧ w'.cell? ⟨gb271, 3, none⟩ = some (.int .u64 a1_3) ∧ w'.cell? ⟨gb271, 4, none⟩ = some (.int .u64 a1_4)) ∧ (w'.heap[gb270]? = some (.cells #[.int .u64 a0_0, .int .u64 a0_1, .int .i64 a0_2, .int .i64 a0_3, .int .i64 a0_4] 53 (0, 0))) ∧ (w'.heap[gb271]? = some (.cells #[.int .i64 a1_0, .int .u64 a1_1, .int .u64 a1_2, .int .u64 a1_3, .int .u64 a1_4] 27 (0, 0))) ∧ (w'.heap[gb272]? = some (.cells #[.int .u64 a2_0, .int .u64 a2_1, .int .u64 a2_2] 29 (0, 0))) ∧ (w'.heap[gb277]? = some (.cells #[.int .u64 t274, .int .u64 t275, .int .u64 t276] 29 (0, 0))) ∧ (w'.heap[gb283]? = some (.cells #[.int .u64 t278, .int .u64 t279, .int .u64 t280] 29 (0, 0))) ∧ (Below w.heap.size w w')) ?_ ?_
                               rotate_left
                               · intro hJ2_5
                                 refine join_ (σ := Nat) 5 #[true, true, true, true, true, false, false, true, true, false, false, true, false] (fun s_ => [(61, .agg #[.int .u64 t285, .int .u64 t286]), (15, .pointer (some ⟨s_, 0, none⟩))]) (fun s_ w' => (w'.cell? ⟨gb272, 0, none⟩ = some (.int .u64 a2_0) ∧ w'.cell? ⟨gb272, 1, none⟩ = some (.int .u64 a2_1) ∧ w'.cell? ⟨gb272, 2, none⟩ = some (.int .u64 a2_2) ∧ w'.cell? ⟨gb270, 0, none⟩ = some (.int .u64 a0_0) ∧ w'.cell? ⟨gb270, 1, none⟩ = some (.int .u64 a0_1) ∧ w'.cell? ⟨gb270, 2, none⟩ = some (.int .i64 a0_2) ∧ w'.cell? ⟨gb270, 3, none⟩ = some (.int .i64 a0_3) ∧ w'.cell? ⟨gb270, 4, none⟩ = some (.int .i64 a0_4) ∧ w'.cell? ⟨gb271, 0, none⟩ = some (.int .i64 a1_0) ∧ w'.cell? ⟨gb271, 1, none⟩ = some (.int .u64 a1_1) ∧ w'.cell? ⟨gb271, 2, none⟩ = some (.int .u64 a1_2) ∧ w'.cell? ⟨gb271, 3, none⟩ = some (.int .u64 a1_3) ∧ w'.cell? ⟨gb271, 4, none⟩ = some (.int .u64 a1_4)) ∧ (w'.heap[gb270]? = some (.cells #[.int .u64 a0_0, .int .u64 a0_1, .int .i64 a0_2, .int .i64 a0_3, .int .i64 a0_4] 53 (0, 0))) ∧ (w'.heap[gb271]? = some (.cells #[.int .i64 a1_0, .int .u64 a1_1, .int .u64 a1_2, .int .u64 a1_3, .int .u64 a1_4] 27 (0, 0))) ∧ (w'.heap[gb272]? = some (.cells #[.int .u64 a2_0, .int .u64 a2_1, .int .u64 a2_2] 29 (0, 0))) ∧ (w'.heap[gb277]? = some (.cells #[.int .u64 t274, .int .u64 t275, .int .u64 t276] 29 (0, 0))) ∧ (w'.heap[gb283]? = some (.cells #[.int .u64 t278, .int .u64 t279, .int .u64 t280] 29 (0, 0))) ∧ (w'.heap[s_]? = some (.cells #[.int .u64 0, .int .u64 0] 68 (0, 0))) ∧ (w.heap.size ≤ s_) ∧ (w.heap.size ≤ s_) ∧ (gb270 ≠ s_) ∧ (s_ ≠ gb270) ∧ (gb271 ≠ s_) ∧ (s_ ≠ gb271) ∧ (gb272 ≠ s_) ∧ (s_ ≠ gb272) ∧ (gb277 ≠ s_) ∧ (s_ ≠ gb277) ∧ (gb283 ≠ s_) ∧ (s_ ≠ gb283) ∧ (Below w.heap.size w w')) ?_ ?_
                                 rotate_left
                                 · intro hJ2_11
                                   refine join_ (σ := Unit) 6 #[true, true, true, true, true, false, false, true, true, false, false, false, false] (fun s_ => [(61, .agg #[.int .u64 t285, .int .u64 t286])]) (fun s_ w' => (w'.cell? ⟨gb272, 0, none⟩ = some (.int .u64 a2_0) ∧ w'.cell? ⟨gb272, 1, none⟩ = some (.int .u64 a2_1) ∧ w'.cell? ⟨gb272, 2, none⟩ = some (.int .u64 a2_2) ∧ w'.cell? ⟨gb270, 0, none⟩ = some (.int .u64 a0_0) ∧ w'.cell? ⟨gb270, 1, none⟩ = some (.int .u64 a0_1) ∧ w'.cell? ⟨gb270, 2, none⟩ = some (.int .i64 a0_2) ∧ w'.cell? ⟨gb270, 3, none⟩ = some (.int .i64 a0_3) ∧ w'.cell? ⟨gb270, 4, none⟩ = some (.int .i64 a0_4) ∧ w'.cell? ⟨gb271, 0, none⟩ = some (.int .i64 a1_0) ∧ w'.cell? ⟨gb271, 1, none⟩ = some (.int .u64 a1_1) ∧ w'.cell? ⟨gb271, 2, none⟩ = some (.int .u64 a1_2) ∧ w'.cell? ⟨gb271, 3, none⟩ = some (.int .u64 a1_3) ∧ w'.cell? ⟨gb271, 4, none⟩ = some (.int .u64 a1_4)) ∧ (w'.heap[gb270]? = some (.cells #[.int .u64 a0_0, .int .u64 a0_1, .int .i64 a0_2, .int .i64 a0_3, .int .i64 a0_4] 53 (0, 0))) ∧ (w'.heap[gb271]? = some (.cells #[.int .i64 a1_0, .int .u64 a1_1, .int .u64 a1_2, .int .u64 a1_3, .int .u64 a1_4] 27 (0, 0))) ∧ (w'.heap[gb272]? = some (.cells #[.int .u64 a2_0, .int .u64 a2_1, .int .u64 a2_2] 29 (0, 0))) ∧ (w'.heap[gb277]? = some (.cells #[.int .u64 t274, .int .u64 t275, .int .u64 t276] 29 (0, 0))) ∧ (w'.heap[gb283]? = some (.cells #[.int .u64 t278, .int .u64 t279, .int .u64 t280] 29 (0, 0))) ∧ (Below w.heap.size w w')) ?_ ?_
                                   rotate_left
                                   · intro hJ2
                                     refine join_ (σ := Nat) 6 #[true, true, false, true, true, false, false, true, true, false, false, true, false] (fun s_ => [(15, .pointer (some ⟨s_, 0, none⟩))]) (fun s_ w' => (w'.cell? ⟨gb272, 0, none⟩ = some (.int .u64 a2_0) ∧ w'.cell? ⟨gb272, 1, none⟩ = some (.int .u64 a2_1) ∧ w'.cell? ⟨gb272, 2, none⟩ = some (.int .u64 a2_2) ∧ w'.cell? ⟨gb270, 0, none⟩ = some (.int .u64 a0_0) ∧ w'.cell? ⟨gb270, 1, none⟩ = some (.int .u64 a0_1) ∧ w'.cell? ⟨gb270, 2, none⟩ = some (.int .i64 a0_2) ∧ w'.cell? ⟨gb270, 3, none⟩ = some (.int .i64 a0_3) ∧ w'.cell? ⟨gb270, 4, none⟩ = some (.int .i64 a0_4) ∧ w'.cell? ⟨gb271, 0, none⟩ = some (.int .i64 a1_0) ∧ w'.cell? ⟨gb271, 1, none⟩ = some (.int .u64 a1_1) ∧ w'.cell? ⟨gb271, 2, none⟩ = some (.int .u64 a1_2) ∧ w'.cell? ⟨gb271, 3, none⟩ = some (.int .u64 a1_3) ∧ w'.cell? ⟨gb271, 4, none⟩ = some (.int .u64 a1_4)) ∧ (w'.heap[gb270]? = some (.cells #[.int .u64 a0_0, .int .u64 a0_1, .int .i64 a0_2, .int .i64 a0_3, .int .i64 a0_4] 53 (0, 0))) ∧ (w'.heap[gb271]? = some (.cells #[.int .i64 a1_0, .int .u64 a1_1, .int .u64 a1_2, .int .u64 a1_3, .int .u64 a1_4] 27 (0, 0))) ∧ (w'.heap[gb272]? = some (.cells #[.int .u64 a2_0, .int .u64 a2_1, .int .u64 a2_2] 29 (0, 0))) ∧ (w'.heap[gb277]? = some (.cells #[.int .u64 t274, .int .u64 t275, .int .u64 t276] 29 (0, 0))) ∧ (w'.heap[gb283]? = some (.cells #[.int .u64 t278, .int .u64 t279, .int .u64 t280] 29 (0, 0))) ∧ (w'.heap[s_]? = some (.cells #[.int .u64 0, .int .u64 0] 68 (0, 0))) ∧ (w.heap.size ≤ s_) ∧ (w.heap.size ≤ s_) ∧ (gb270 ≠ s_) ∧ (s_ ≠ gb270) ∧ (gb271 ≠ s_) ∧ (s_ ≠ gb271) ∧ (gb272 ≠ s_) ∧ (s_ ≠ gb272) ∧ (gb277 ≠ s_) ∧ (s_ ≠ gb277) ∧ (gb283 ≠ s_) ∧ (s_ ≠ gb283) ∧ (Below w.heap.size w w')) ?_ ?_
                                     rotate_left
                                     · intro hJ11
                                       refine two_ (i := 2) (j := 11) (Ni := some 61) (Nj := some 15) #[true, true, true, true, true, false, false, true, true, false, false, false, false] #[true, true, false, true, true, false, false, true, true, false, false, true, false] rfl rfl rfl rfl (two_of HT_.out (by kernel_rfl)) (by decide) (by decide) (fun K hK => ?_) (fun K hK => ?_)
                                       · skip
                                         refine ge Try.func33 #[.int .u64 a2_0] ?_
                                         with_reducible refine (sat_Of.calls a2_0 t285 t286 _ A59.out).mono ?_
                                         rintro e w71 ⟨rfl, hb⟩
                                         refine ⟨_, rfl, ?_⟩
                                         replace BK270 := bb BK270 hb; replace BK271 := bb BK271 hb; replace BK272 := bb BK272 hb; replace BK277 := bb BK277 hb; replace BK283 := bb BK283 hb; replace HB := bs HB hb; (try clear hb); (try clear hb2); (try clear hk); (try clear hi)
                                         refine hK.out _ _ ⟨(blk_cell BK272.out 0).trans rfl, (blk_cell BK272.out 1).trans rfl, (blk_cell BK272.out 2).trans rfl, (blk_cell BK270.out 0).trans rfl, (blk_cell BK270.out 1).trans rfl, (blk_cell BK270.out 2).trans rfl, (blk_cell BK270.out 3).trans rfl, (blk_cell BK270.out 4).trans rfl, (blk_cell BK271.out 0).trans rfl, (blk_cell BK271.out 1).trans rfl, (blk_cell BK271.out 2).trans rfl, (blk_cell BK271.out 3).trans rfl, (blk_cell BK271.out 4).trans rfl⟩ (fun hHeld => ?_)
                                         clear hK K
                                         refine norm_ (a' := ?_) ?_ ?_
                                         rotate_left
                                         · show Act.put _ (some 61) _ = _
                                           simp only [Act.put, List.setIfInBounds_toArray, List.set_cons_zero, List.set_cons_succ, i64_w, i32_w]
                                           rfl
                                         exact norm_ (by first | (simp only [putAll, Act.put, List.setIfInBounds_toArray, List.set_cons_zero, List.set_cons_succ]; done) | (simp only [putAll, Act.put, List.setIfInBounds_toArray, List.set_cons_zero, List.set_cons_succ]; rfl)) (hJ2 () _ ⟨hHeld, (bk BK270), (bk BK271), (bk BK272), (bk BK277), (bk BK283), (bw HB)⟩)
                                       · skip
                                         refine box_step ?hg (N := 15) ?hd (cs := #[.int .u64 0, .int .u64 0]) (t := 68) ?hr ?_; (case hd => rfl); (case hg => rfl); (case hr => first | (go_simp; done) | (go_simp; rfl))
                                         intro gb295 hg w71 hbox hb
                                         have BK295 := Aside0.mk (hbox); have GW295 := sz HB hg; have GE295 := sz HB hg; have NB270_295 := nl BK270 hg; have NB295_270 := nr BK270 hg; have NB271_295 := nl BK271 hg; have NB295_271 := nr BK271 hg; have NB272_295 := nl BK272 hg; have NB295_272 := nr BK272 hg; have NB277_295 := nl BK277 hg; have NB295_277 := nr BK277 hg; have NB283_295 := nl BK283 hg; have NB295_283 := nr BK283 hg; replace BK270 := bb BK270 hb; replace BK271 := bb BK271 hb; replace BK272 := bb BK272 hb; replace BK277 := bb BK277 hb; replace BK283 := bb BK283 hb; replace HB := bs HB hb; clear hb hbox hg
                                         refine hK.out _ _ ⟨(blk_cell BK272.out 0).trans rfl, (blk_cell BK272.out 1).trans rfl, (blk_cell BK272.out 2).trans rfl, (blk_cell BK270.out 0).trans rfl, (blk_cell BK270.out 1).trans rfl, (blk_cell BK270.out 2).trans rfl, (blk_cell BK270.out 3).trans rfl, (blk_cell BK270.out 4).trans rfl, (blk_cell BK271.out 0).trans rfl, (blk_cell BK271.out 1).trans rfl, (blk_cell BK271.out 2).trans rfl, (blk_cell BK271.out 3).trans rfl, (blk_cell BK271.out 4).trans rfl⟩ (fun hHeld => ?_)
                                         clear hK K
                                         refine norm_ (a' := ?_) ?_ ?_
                                         rotate_left
                                         · show Act.put _ (some 15) _ = _
                                           simp only [Act.put, List.setIfInBounds_toArray, List.set_cons_zero, List.set_cons_succ, i64_w, i32_w]
                                           rfl
                                         exact norm_ (by first | (simp only [putAll, Act.put, List.setIfInBounds_toArray, List.set_cons_zero, List.set_cons_succ]; done) | (simp only [putAll, Act.put, List.setIfInBounds_toArray, List.set_cons_zero, List.set_cons_succ]; rfl)) (hJ11 (gb295) _ ⟨hHeld, (bk BK270), (bk BK271), (bk BK272), (bk BK277), (bk BK283), (bk BK295), GW295.out, GE295.out, NB270_295.out, NB295_270.out, NB271_295.out, NB295_271.out, NB272_295.out, NB295_272.out, NB277_295.out, NB295_277.out, NB283_295.out, NB295_283.out, (bw HB)⟩)
                                     · skip
                                       rintro gb295 w72 ⟨hS_, h0_, h1_, h2_, h3_, h4_, h5_, h6_, h7_, h8_, h9_, h10_, h11_, h12_, h13_, h14_, h15_, h16_, h17_, h18_⟩
                                       have n0_ : Aside0 (w72.heap[gb270]? = some (.cells #[.int .u64 a0_0, .int .u64 a0_1, .int .i64 a0_2, .int .i64 a0_3, .int .i64 a0_4] 53 (0, 0))) := ⟨h0_⟩
                                       have n1_ : Aside0 (w72.heap[gb271]? = some (.cells #[.int .i64 a1_0, .int .u64 a1_1, .int .u64 a1_2, .int .u64 a1_3, .int .u64 a1_4] 27 (0, 0))) := ⟨h1_⟩
                                       have n2_ : Aside0 (w72.heap[gb272]? = some (.cells #[.int .u64 a2_0, .int .u64 a2_1, .int .u64 a2_2] 29 (0, 0))) := ⟨h2_⟩
                                       have n3_ : Aside0 (w72.heap[gb277]? = some (.cells #[.int .u64 t274, .int .u64 t275, .int .u64 t276] 29 (0, 0))) := ⟨h3_⟩
                                       have n4_ : Aside0 (w72.heap[gb283]? = some (.cells #[.int .u64 t278, .int .u64 t279, .int .u64 t280] 29 (0, 0))) := ⟨h4_⟩
                                       have n5_ : Aside0 (w72.heap[gb295]? = some (.cells #[.int .u64 0, .int .u64 0] 68 (0, 0))) := ⟨h5_⟩
                                       have n6_ : Aside0 (w.heap.size ≤ gb295) := ⟨h6_⟩
                                       have n7_ : Aside0 (w.heap.size ≤ gb295) := ⟨h7_⟩
                                       have n8_ : Aside0 (gb270 ≠ gb295) := ⟨h8_⟩
                                       have n9_ : Aside0 (gb295 ≠ gb270) := ⟨h9_⟩
                                       have n10_ : Aside0 (gb271 ≠ gb295) := ⟨h10_⟩
                                       have n11_ : Aside0 (gb295 ≠ gb271) := ⟨h11_⟩
                                       have n12_ : Aside0 (gb272 ≠ gb295) := ⟨h12_⟩
                                       have n13_ : Aside0 (gb295 ≠ gb272) := ⟨h13_⟩
                                       have n14_ : Aside0 (gb277 ≠ gb295) := ⟨h14_⟩
                                       have n15_ : Aside0 (gb295 ≠ gb277) := ⟨h15_⟩
                                       have n16_ : Aside0 (gb283 ≠ gb295) := ⟨h16_⟩
                                       have n17_ : Aside0 (gb295 ≠ gb283) := ⟨h17_⟩
                                       have n18_ : Aside0 (Below w.heap.size w w72) := ⟨h18_⟩
                                       clear BK270; clear BK271; clear BK272; clear BK277; clear BK283; clear HB; clear h0_ h1_ h2_ h3_ h4_ h5_ h6_ h7_ h8_ h9_ h10_ h11_ h12_ h13_ h14_ h15_ h16_ h17_ h18_; have BK270 := n0_; have BK271 := n1_; have BK272 := n2_; have BK277 := n3_; have BK283 := n4_; have BK295 := n5_; have GW295 := n6_; have GE295 := n7_; have NB270_295 := n8_; have NB295_270 := n9_; have NB271_295 := n10_; have NB295_271 := n11_; have NB272_295 := n12_; have NB295_272 := n13_; have NB277_295 := n14_; have NB295_277 := n15_; have NB283_295 := n16_; have NB295_283 := n17_; have HB := n18_; clear n0_ n1_ n2_ n3_ n4_ n5_ n6_ n7_ n8_ n9_ n10_ n11_ n12_ n13_ n14_ n15_ n16_ n17_ n18_
                                       have hHeld : w72.cell? ⟨gb272, 0, none⟩ = some (.int .u64 a2_0) ∧ w72.cell? ⟨gb272, 1, none⟩ = some (.int .u64 a2_1) ∧ w72.cell? ⟨gb272, 2, none⟩ = some (.int .u64 a2_2) ∧ w72.cell? ⟨gb270, 0, none⟩ = some (.int .u64 a0_0) ∧ w72.cell? ⟨gb270, 1, none⟩ = some (.int .u64 a0_1) ∧ w72.cell? ⟨gb270, 2, none⟩ = some (.int .i64 a0_2) ∧ w72.cell? ⟨gb270, 3, none⟩ = some (.int .i64 a0_3) ∧ w72.cell? ⟨gb270, 4, none⟩ = some (.int .i64 a0_4) ∧ w72.cell? ⟨gb271, 0, none⟩ = some (.int .i64 a1_0) ∧ w72.cell? ⟨gb271, 1, none⟩ = some (.int .u64 a1_1) ∧ w72.cell? ⟨gb271, 2, none⟩ = some (.int .u64 a1_2) ∧ w72.cell? ⟨gb271, 3, none⟩ = some (.int .u64 a1_3) ∧ w72.cell? ⟨gb271, 4, none⟩ = some (.int .u64 a1_4) := hS_
                                       refine norm_ (a' := ?_) ?_ ?_
                                       rotate_left
                                       · simp only [putAll, Act.put, List.setIfInBounds_toArray, List.set_cons_zero, List.set_cons_succ]
                                         rfl
                                       refine one_ (i := 2) (N := some 61) #[true, true, true, true, true, false, false, true, true, false, false, true, false] rfl rfl (one_of HT_.out (by kernel_rfl)) (by decide) (fun K hK => ?_)
                                       refine ge Try.func33 #[.int .u64 a2_0] ?_
                                       with_reducible refine (sat_Of.calls a2_0 t285 t286 _ A59.out).mono ?_
                                       rintro e w73 ⟨rfl, hb⟩
                                       refine ⟨_, rfl, ?_⟩
                                       replace BK270 := bb BK270 hb; replace BK271 := bb BK271 hb; replace BK272 := bb BK272 hb; replace BK277 := bb BK277 hb; replace BK283 := bb BK283 hb; replace BK295 := bb BK295 hb; replace HB := bs HB hb; (try clear hb); (try clear hb2); (try clear hk); (try clear hi)
                                       refine hK.out _ _ ⟨(blk_cell BK272.out 0).trans rfl, (blk_cell BK272.out 1).trans rfl, (blk_cell BK272.out 2).trans rfl, (blk_cell BK270.out 0).trans rfl, (blk_cell BK270.out 1).trans rfl, (blk_cell BK270.out 2).trans rfl, (blk_cell BK270.out 3).trans rfl, (blk_cell BK270.out 4).trans rfl, (blk_cell BK271.out 0).trans rfl, (blk_cell BK271.out 1).trans rfl, (blk_cell BK271.out 2).trans rfl, (blk_cell BK271.out 3).trans rfl, (blk_cell BK271.out 4).trans rfl⟩ (fun hHeld => ?_)
                                       clear hK K
                                       refine norm_ (a' := ?_) ?_ ?_
                                       rotate_left
                                       · show Act.put _ (some 61) _ = _
                                         simp only [Act.put, List.setIfInBounds_toArray, List.set_cons_zero, List.set_cons_succ, i64_w, i32_w]
                                         rfl
                                       exact norm_ (by first | (simp only [putAll, Act.put, List.setIfInBounds_toArray, List.set_cons_zero, List.set_cons_succ]; done) | (simp only [putAll, Act.put, List.setIfInBounds_toArray, List.set_cons_zero, List.set_cons_succ]; rfl)) (hJ2_11 (gb295) _ ⟨hHeld, (bk BK270), (bk BK271), (bk BK272), (bk BK277), (bk BK283), (bk BK295), GW295.out, GE295.out, NB270_295.out, NB295_270.out, NB271_295.out, NB295_271.out, NB272_295.out, NB295_272.out, NB277_295.out, NB295_277.out, NB283_295.out, NB295_283.out, (bw HB)⟩)
                                   · skip
                                     rintro _ w72 ⟨hS_, h0_, h1_, h2_, h3_, h4_, h5_⟩
                                     have n0_ : Aside0 (w72.heap[gb270]? = some (.cells #[.int .u64 a0_0, .int .u64 a0_1, .int .i64 a0_2, .int .i64 a0_3, .int .i64 a0_4] 53 (0, 0))) := ⟨h0_⟩
                                     have n1_ : Aside0 (w72.heap[gb271]? = some (.cells #[.int .i64 a1_0, .int .u64 a1_1, .int .u64 a1_2, .int .u64 a1_3, .int .u64 a1_4] 27 (0, 0))) := ⟨h1_⟩
                                     have n2_ : Aside0 (w72.heap[gb272]? = some (.cells #[.int .u64 a2_0, .int .u64 a2_1, .int .u64 a2_2] 29 (0, 0))) := ⟨h2_⟩
                                     have n3_ : Aside0 (w72.heap[gb277]? = some (.cells #[.int .u64 t274, .int .u64 t275, .int .u64 t276] 29 (0, 0))) := ⟨h3_⟩
                                     have n4_ : Aside0 (w72.heap[gb283]? = some (.cells #[.int .u64 t278, .int .u64 t279, .int .u64 t280] 29 (0, 0))) := ⟨h4_⟩
                                     have n5_ : Aside0 (Below w.heap.size w w72) := ⟨h5_⟩
                                     clear BK270; clear BK271; clear BK272; clear BK277; clear BK283; clear HB; clear h0_ h1_ h2_ h3_ h4_ h5_; have BK270 := n0_; have BK271 := n1_; have BK272 := n2_; have BK277 := n3_; have BK283 := n4_; have HB := n5_; clear n0_ n1_ n2_ n3_ n4_ n5_
                                     have hHeld : w72.cell? ⟨gb272, 0, none⟩ = some (.int .u64 a2_0) ∧ w72.cell? ⟨gb272, 1, none⟩ = some (.int .u64 a2_1) ∧ w72.cell? ⟨gb272, 2, none⟩ = some (.int .u64 a2_2) ∧ w72.cell? ⟨gb270, 0, none⟩ = some (.int .u64 a0_0) ∧ w72.cell? ⟨gb270, 1, none⟩ = some (.int .u64 a0_1) ∧ w72.cell? ⟨gb270, 2, none⟩ = some (.int .i64 a0_2) ∧ w72.cell? ⟨gb270, 3, none⟩ = some (.int .i64 a0_3) ∧ w72.cell? ⟨gb270, 4, none⟩ = some (.int .i64 a0_4) ∧ w72.cell? ⟨gb271, 0, none⟩ = some (.int .i64 a1_0) ∧ w72.cell? ⟨gb271, 1, none⟩ = some (.int .u64 a1_1) ∧ w72.cell? ⟨gb271, 2, none⟩ = some (.int .u64 a1_2) ∧ w72.cell? ⟨gb271, 3, none⟩ = some (.int .u64 a1_3) ∧ w72.cell? ⟨gb271, 4, none⟩ = some (.int .u64 a1_4) := hS_
                                     refine norm_ (a' := ?_) ?_ ?_
                                     rotate_left
                                     · simp only [putAll, Act.put, List.setIfInBounds_toArray, List.set_cons_zero, List.set_cons_succ]
                                       rfl
                                     refine two_ (i := 5) (j := 11) (Ni := some 64) (Nj := some 15) #[true, true, true, true, true, true, false, true, true, false, false, false, false] #[true, true, true, true, true, false, false, true, true, false, false, true, false] rfl rfl rfl rfl (two_of HT_.out (by kernel_rfl)) (by decide) (by decide) (fun K hK => ?_) (fun K hK => ?_)
                                     · skip
                                       refine ge Try.func33 #[.int .u64 a0_0] ?_
                                       with_reducible refine (sat_Of.calls a0_0 t287 t288 _ A60.out).mono ?_
                                       rintro e w73 ⟨rfl, hb⟩
                                       refine ⟨_, rfl, ?_⟩
                                       replace BK270 := bb BK270 hb; replace BK271 := bb BK271 hb; replace BK272 := bb BK272 hb; replace BK277 := bb BK277 hb; replace BK283 := bb BK283 hb; replace HB := bs HB hb; (try clear hb); (try clear hb2); (try clear hk); (try clear hi)
                                       refine hK.out _ _ ⟨(blk_cell BK272.out 0).trans rfl, (blk_cell BK272.out 1).trans rfl, (blk_cell BK272.out 2).trans rfl, (blk_cell BK270.out 0).trans rfl, (blk_cell BK270.out 1).trans rfl, (blk_cell BK270.out 2).trans rfl, (blk_cell BK270.out 3).trans rfl, (blk_cell BK270.out 4).trans rfl, (blk_cell BK271.out 0).trans rfl, (blk_cell BK271.out 1).trans rfl, (blk_cell BK271.out 2).trans rfl, (blk_cell BK271.out 3).trans rfl, (blk_cell BK271.out 4).trans rfl⟩ (fun hHeld => ?_)
                                       clear hK K
                                       refine norm_ (a' := ?_) ?_ ?_
                                       rotate_left
                                       · show Act.put _ (some 64) _ = _
                                         simp only [Act.put, List.setIfInBounds_toArray, List.set_cons_zero, List.set_cons_succ, i64_w, i32_w]
                                         rfl
                                       exact norm_ (by first | (simp only [putAll, Act.put, List.setIfInBounds_toArray, List.set_cons_zero, List.set_cons_succ]; done) | (simp only [putAll, Act.put, List.setIfInBounds_toArray, List.set_cons_zero, List.set_cons_succ]; rfl)) (hJ2_5 () _ ⟨hHeld, (bk BK270), (bk BK271), (bk BK272), (bk BK277), (bk BK283), (bw HB)⟩)
                                     · skip
                                       refine box_step ?hg (N := 15) ?hd (cs := #[.int .u64 0, .int .u64 0]) (t := 68) ?hr ?_; (case hd => rfl); (case hg => rfl); (case hr => first | (go_simp; done) | (go_simp; rfl))
                                       intro gb295 hg w73 hbox hb
                                       have BK295 := Aside0.mk (hbox); have GW295 := sz HB hg; have GE295 := sz HB hg; have NB270_295 := nl BK270 hg; have NB295_270 := nr BK270 hg; have NB271_295 := nl BK271 hg; have NB295_271 := nr BK271 hg; have NB272_295 := nl BK272 hg; have NB295_272 := nr BK272 hg; have NB277_295 := nl BK277 hg; have NB295_277 := nr BK277 hg; have NB283_295 := nl BK283 hg; have NB295_283 := nr BK283 hg; replace BK270 := bb BK270 hb; replace BK271 := bb BK271 hb; replace BK272 := bb BK272 hb; replace BK277 := bb BK277 hb; replace BK283 := bb BK283 hb; replace HB := bs HB hb; clear hb hbox hg
                                       refine hK.out _ _ ⟨(blk_cell BK272.out 0).trans rfl, (blk_cell BK272.out 1).trans rfl, (blk_cell BK272.out 2).trans rfl, (blk_cell BK270.out 0).trans rfl, (blk_cell BK270.out 1).trans rfl, (blk_cell BK270.out 2).trans rfl, (blk_cell BK270.out 3).trans rfl, (blk_cell BK270.out 4).trans rfl, (blk_cell BK271.out 0).trans rfl, (blk_cell BK271.out 1).trans rfl, (blk_cell BK271.out 2).trans rfl, (blk_cell BK271.out 3).trans rfl, (blk_cell BK271.out 4).trans rfl⟩ (fun hHeld => ?_)
                                       clear hK K
                                       refine norm_ (a' := ?_) ?_ ?_
                                       rotate_left
                                       · show Act.put _ (some 15) _ = _
                                         simp only [Act.put, List.setIfInBounds_toArray, List.set_cons_zero, List.set_cons_succ, i64_w, i32_w]
                                         rfl
                                       exact norm_ (by first | (simp only [putAll, Act.put, List.setIfInBounds_toArray, List.set_cons_zero, List.set_cons_succ]; done) | (simp only [putAll, Act.put, List.setIfInBounds_toArray, List.set_cons_zero, List.set_cons_succ]; rfl)) (hJ2_11 (gb295) _ ⟨hHeld, (bk BK270), (bk BK271), (bk BK272), (bk BK277), (bk BK283), (bk BK295), GW295.out, GE295.out, NB270_295.out, NB295_270.out, NB271_295.out, NB295_271.out, NB272_295.out, NB295_272.out, NB277_295.out, NB295_277.out, NB283_295.out, NB295_283.out, (bw HB)⟩)
                                 · skip
                                   rintro gb295 w73 ⟨hS_, h0_, h1_, h2_, h3_, h4_, h5_, h6_, h7_, h8_, h9_, h10_, h11_, h12_, h13_, h14_, h15_, h16_, h17_, h18_⟩
                                   have n0_ : Aside0 (w73.heap[gb270]? = some (.cells #[.int .u64 a0_0, .int .u64 a0_1, .int .i64 a0_2, .int .i64 a0_3, .int .i64 a0_4] 53 (0, 0))) := ⟨h0_⟩
                                   have n1_ : Aside0 (w73.heap[gb271]? = some (.cells #[.int .i64 a1_0, .int .u64 a1_1, .int .u64 a1_2, .int .u64 a1_3, .int .u64 a1_4] 27 (0, 0))) := ⟨h1_⟩
                                   have n2_ : Aside0 (w73.heap[gb272]? = some (.cells #[.int .u64 a2_0, .int .u64 a2_1, .int .u64 a2_2] 29 (0, 0))) := ⟨h2_⟩
                                   have n3_ : Aside0 (w73.heap[gb277]? = some (.cells #[.int .u64 t274, .int .u64 t275, .int .u64 t276] 29 (0, 0))) := ⟨h3_⟩
                                   have n4_ : Aside0 (w73.heap[gb283]? = some (.cells #[.int .u64 t278, .int .u64 t279, .int .u64 t280] 29 (0, 0))) := ⟨h4_⟩
                                   have n5_ : Aside0 (w73.heap[gb295]? = some (.cells #[.int .u64 0, .int .u64 0] 68 (0, 0))) := ⟨h5_⟩
                                   have n6_ : Aside0 (w.heap.size ≤ gb295) := ⟨h6_⟩
                                   have n7_ : Aside0 (w.heap.size ≤ gb295) := ⟨h7_⟩
                                   have n8_ : Aside0 (gb270 ≠ gb295) := ⟨h8_⟩
                                   have n9_ : Aside0 (gb295 ≠ gb270) := ⟨h9_⟩
                                   have n10_ : Aside0 (gb271 ≠ gb295) := ⟨h10_⟩
                                   have n11_ : Aside0 (gb295 ≠ gb271) := ⟨h11_⟩
                                   have n12_ : Aside0 (gb272 ≠ gb295) := ⟨h12_⟩
                                   have n13_ : Aside0 (gb295 ≠ gb272) := ⟨h13_⟩
                                   have n14_ : Aside0 (gb277 ≠ gb295) := ⟨h14_⟩
                                   have n15_ : Aside0 (gb295 ≠ gb277) := ⟨h15_⟩
                                   have n16_ : Aside0 (gb283 ≠ gb295) := ⟨h16_⟩
                                   have n17_ : Aside0 (gb295 ≠ gb283) := ⟨h17_⟩
                                   have n18_ : Aside0 (Below w.heap.size w w73) := ⟨h18_⟩
                                   clear BK270; clear BK271; clear BK272; clear BK277; clear BK283; clear HB; clear h0_ h1_ h2_ h3_ h4_ h5_ h6_ h7_ h8_ h9_ h10_ h11_ h12_ h13_ h14_ h15_ h16_ h17_ h18_; have BK270 := n0_; have BK271 := n1_; have BK272 := n2_; have BK277 := n3_; have BK283 := n4_; have BK295 := n5_; have GW295 := n6_; have GE295 := n7_; have NB270_295 := n8_; have NB295_270 := n9_; have NB271_295 := n10_; have NB295_271 := n11_; have NB272_295 := n12_; have NB295_272 := n13_; have NB277_295 := n14_; have NB295_277 := n15_; have NB283_295 := n16_; have NB295_283 := n17_; have HB := n18_; clear n0_ n1_ n2_ n3_ n4_ n5_ n6_ n7_ n8_ n9_ n10_ n11_ n12_ n13_ n14_ n15_ n16_ n17_ n18_
                                   have hHeld : w73.cell? ⟨gb272, 0, none⟩ = some (.int .u64 a2_0) ∧ w73.cell? ⟨gb272, 1, none⟩ = some (.int .u64 a2_1) ∧ w73.cell? ⟨gb272, 2, none⟩ = some (.int .u64 a2_2) ∧ w73.cell? ⟨gb270, 0, none⟩ = some (.int .u64 a0_0) ∧ w73.cell? ⟨gb270, 1, none⟩ = some (.int .u64 a0_1) ∧ w73.cell? ⟨gb270, 2, none⟩ = some (.int .i64 a0_2) ∧ w73.cell? ⟨gb270, 3, none⟩ = some (.int .i64 a0_3) ∧ w73.cell? ⟨gb270, 4, none⟩ = some (.int .i64 a0_4) ∧ w73.cell? ⟨gb271, 0, none⟩ = some (.int .i64 a1_0) ∧ w73.cell? ⟨gb271, 1, none⟩ = some (.int .u64 a1_1) ∧ w73.cell? ⟨gb271, 2, none⟩ = some (.int .u64 a1_2) ∧ w73.cell? ⟨gb271, 3, none⟩ = some (.int .u64 a1_3) ∧ w73.cell? ⟨gb271, 4, none⟩ = some (.int .u64 a1_4) := hS_
                                   refine norm_ (a' := ?_) ?_ ?_
                                   rotate_left
                                   · simp only [putAll, Act.put, List.setIfInBounds_toArray, List.set_cons_zero, List.set_cons_succ]
                                     rfl
                                   refine one_ (i := 5) (N := some 64) #[true, true, true, true, true, true, false, true, true, false, false, true, false] rfl rfl (one_of HT_.out (by kernel_rfl)) (by decide) (fun K hK => ?_)
                                   refine ge Try.func33 #[.int .u64 a0_0] ?_
                                   with_reducible refine (sat_Of.calls a0_0 t287 t288 _ A60.out).mono ?_
                                   rintro e w74 ⟨rfl, hb⟩
                                   refine ⟨_, rfl, ?_⟩
                                   replace BK270 := bb BK270 hb; replace BK271 := bb BK271 hb; replace BK272 := bb BK272 hb; replace BK277 := bb BK277 hb; replace BK283 := bb BK283 hb; replace BK295 := bb BK295 hb; replace HB := bs HB hb; (try clear hb); (try clear hb2); (try clear hk); (try clear hi)
                                   refine hK.out _ _ ⟨(blk_cell BK272.out 0).trans rfl, (blk_cell BK272.out 1).trans rfl, (blk_cell BK272.out 2).trans rfl, (blk_cell BK270.out 0).trans rfl, (blk_cell BK270.out 1).trans rfl, (blk_cell BK270.out 2).trans rfl, (blk_cell BK270.out 3).trans rfl, (blk_cell BK270.out 4).trans rfl, (blk_cell BK271.out 0).trans rfl, (blk_cell BK271.out 1).trans rfl, (blk_cell BK271.out 2).trans rfl, (blk_cell BK271.out 3).trans rfl, (blk_cell BK271.out 4).trans rfl⟩ (fun hHeld => ?_)
                                   clear hK K
                                   refine norm_ (a' := ?_) ?_ ?_
                                   rotate_left
                                   · show Act.put _ (some 64) _ = _
                                     simp only [Act.put, List.setIfInBounds_toArray, List.set_cons_zero, List.set_cons_succ, i64_w, i32_w]
                                     rfl
                                   exact norm_ (by first | (simp only [putAll, Act.put, List.setIfInBounds_toArray, List.set_cons_zero, List.set_cons_succ]; done) | (simp only [putAll, Act.put, List.setIfInBounds_toArray, List.set_cons_zero, List.set_cons_succ]; rfl)) (hJ2_5_11 (gb295) _ ⟨hHeld, (bk BK270), (bk BK271), (bk BK272), (bk BK277), (bk BK283), (bk BK295), GW295.out, GE295.out, NB270_295.out, NB295_270.out, NB271_295.out, NB295_271.out, NB272_295.out, NB295_272.out, NB277_295.out, NB295_277.out, NB283_295.out, NB295_283.out, (bw HB)⟩)
                               · skip
                                 rintro _ w73 ⟨hS_, h0_, h1_, h2_, h3_, h4_, h5_⟩
                                 have n0_ : Aside0 (w73.heap[gb270]? = some (.cells #[.int .u64 a0_0, .int .u64 a0_1, .int .i64 a0_2, .int .i64 a0_3, .int .i64 a0_4] 53 (0, 0))) := ⟨h0_⟩
                                 have n1_ : Aside0 (w73.heap[gb271]? = some (.cells #[.int .i64 a1_0, .int .u64 a1_1, .int .u64 a1_2, .int .u64 a1_3, .int .u64 a1_4] 27 (0, 0))) := ⟨h1_⟩
                                 have n2_ : Aside0 (w73.heap[gb272]? = some (.cells #[.int .u64 a2_0, .int .u64 a2_1, .int .u64 a2_2] 29 (0, 0))) := ⟨h2_⟩
                                 have n3_ : Aside0 (w73.heap[gb277]? = some (.cells #[.int .u64 t274, .int .u64 t275, .int .u64 t276] 29 (0, 0))) := ⟨h3_⟩
                                 have n4_ : Aside0 (w73.heap[gb283]? = some (.cells #[.int .u64 t278, .int .u64 t279, .int .u64 t280] 29 (0, 0))) := ⟨h4_⟩
                                 have n5_ : Aside0 (Below w.heap.size w w73) := ⟨h5_⟩
                                 clear BK270; clear BK271; clear BK272; clear BK277; clear BK283; clear HB; clear h0_ h1_ h2_ h3_ h4_ h5_; have BK270 := n0_; have BK271 := n1_; have BK272 := n2_; have BK277 := n3_; have BK283 := n4_; have HB := n5_; clear n0_ n1_ n2_ n3_ n4_ n5_
                                 have hHeld : w73.cell? ⟨gb272, 0, none⟩ = some (.int .u64 a2_0) ∧ w73.cell? ⟨gb272, 1, none⟩ = some (.int .u64 a2_1) ∧ w73.cell? ⟨gb272, 2, none⟩ = some (.int .u64 a2_2) ∧ w73.cell? ⟨gb270, 0, none⟩ = some (.int .u64 a0_0) ∧ w73.cell? ⟨gb270, 1, none⟩ = some (.int .u64 a0_1) ∧ w73.cell? ⟨gb270, 2, none⟩ = some (.int .i64 a0_2) ∧ w73.cell? ⟨gb270, 3, none⟩ = some (.int .i64 a0_3) ∧ w73.cell? ⟨gb270, 4, none⟩ = some (.int .i64 a0_4) ∧ w73.cell? ⟨gb271, 0, none⟩ = some (.int .i64 a1_0) ∧ w73.cell? ⟨gb271, 1, none⟩ = some (.int .u64 a1_1) ∧ w73.cell? ⟨gb271, 2, none⟩ = some (.int .u64 a1_2) ∧ w73.cell? ⟨gb271, 3, none⟩ = some (.int .u64 a1_3) ∧ w73.cell? ⟨gb271, 4, none⟩ = some (.int .u64 a1_4) := hS_
                                 refine norm_ (a' := ?_) ?_ ?_
                                 rotate_left
                                 · simp only [putAll, Act.put, List.setIfInBounds_toArray, List.set_cons_zero, List.set_cons_succ]
                                   rfl
                                 refine two_ (i := 6) (j := 11) (Ni := some 65) (Nj := some 15) #[true, true, true, true, true, true, true, true, true, false, false, false, false] #[true, true, true, true, true, true, false, true, true, false, false, true, false] rfl rfl rfl rfl (two_of HT_.out (by kernel_rfl)) (by decide) (by decide) (fun K hK => ?_) (fun K hK => ?_)
                                 · skip
                                   refine ge Try.func34 #[.agg #[.int .u64 t285, .int .u64 t286], .agg #[.int .u64 t287, .int .u64 t288]] ?_
                                   with_reducible refine (sat_Wide_Plus.calls t285 t286 t287 t288 t289 t290 _ A61.out).mono ?_
                                   rintro e w74 ⟨rfl, hb⟩
                                   refine ⟨_, rfl, ?_⟩
                                   replace BK270 := bb BK270 hb; replace BK271 := bb BK271 hb; replace BK272 := bb BK272 hb; replace BK277 := bb BK277 hb; replace BK283 := bb BK283 hb; replace HB := bs HB hb; (try clear hb); (try clear hb2); (try clear hk); (try clear hi)
                                   refine hK.out _ _ ⟨(blk_cell BK272.out 0).trans rfl, (blk_cell BK272.out 1).trans rfl, (blk_cell BK272.out 2).trans rfl, (blk_cell BK270.out 0).trans rfl, (blk_cell BK270.out 1).trans rfl, (blk_cell BK270.out 2).trans rfl, (blk_cell BK270.out 3).trans rfl, (blk_cell BK270.out 4).trans rfl, (blk_cell BK271.out 0).trans rfl, (blk_cell BK271.out 1).trans rfl, (blk_cell BK271.out 2).trans rfl, (blk_cell BK271.out 3).trans rfl, (blk_cell BK271.out 4).trans rfl⟩ (fun hHeld => ?_)
                                   clear hK K
                                   refine norm_ (a' := ?_) ?_ ?_
                                   rotate_left
                                   · show Act.put _ (some 65) _ = _
                                     simp only [Act.put, List.setIfInBounds_toArray, List.set_cons_zero, List.set_cons_succ, i64_w, i32_w]
                                     rfl
                                   exact norm_ (by first | (simp only [putAll, Act.put, List.setIfInBounds_toArray, List.set_cons_zero, List.set_cons_succ]; done) | (simp only [putAll, Act.put, List.setIfInBounds_toArray, List.set_cons_zero, List.set_cons_succ]; rfl)) (hJ2_5_6 () _ ⟨hHeld, (bk BK270), (bk BK271), (bk BK272), (bk BK277), (bk BK283), (bw HB)⟩)
                                 · skip
                                   refine box_step ?hg (N := 15) ?hd (cs := #[.int .u64 0, .int .u64 0]) (t := 68) ?hr ?_; (case hd => rfl); (case hg => rfl); (case hr => first | (go_simp; done) | (go_simp; rfl))
                                   intro gb295 hg w74 hbox hb
                                   have BK295 := Aside0.mk (hbox); have GW295 := sz HB hg; have GE295 := sz HB hg; have NB270_295 := nl BK270 hg; have NB295_270 := nr BK270 hg; have NB271_295 := nl BK271 hg; have NB295_271 := nr BK271 hg; have NB272_295 := nl BK272 hg; have NB295_272 := nr BK272 hg; have NB277_295 := nl BK277 hg; have NB295_277 := nr BK277 hg; have NB283_295 := nl BK283 hg; have NB295_283 := nr BK283 hg; replace BK270 := bb BK270 hb; replace BK271 := bb BK271 hb; replace BK272 := bb BK272 hb; replace BK277 := bb BK277 hb; replace BK283 := bb BK283 hb; replace HB := bs HB hb; clear hb hbox hg
                                   refine hK.out _ _ ⟨(blk_cell BK272.out 0).trans rfl, (blk_cell BK272.out 1).trans rfl, (blk_cell BK272.out 2).trans rfl, (blk_cell BK270.out 0).trans rfl, (blk_cell BK270.out 1).trans rfl, (blk_cell BK270.out 2).trans rfl, (blk_cell BK270.out 3).trans rfl, (blk_cell BK270.out 4).trans rfl, (blk_cell BK271.out 0).trans rfl, (blk_cell BK271.out 1).trans rfl, (blk_cell BK271.out 2).trans rfl, (blk_cell BK271.out 3).trans rfl, (blk_cell BK271.out 4).trans rfl⟩ (fun hHeld => ?_)
                                   clear hK K
                                   refine norm_ (a' := ?_) ?_ ?_
                                   rotate_left
                                   · show Act.put _ (some 15) _ = _
                                     simp only [Act.put, List.setIfInBounds_toArray, List.set_cons_zero, List.set_cons_succ, i64_w, i32_w]
                                     rfl
                                   exact norm_ (by first | (simp only [putAll, Act.put, List.setIfInBounds_toArray, List.set_cons_zero, List.set_cons_succ]; done) | (simp only [putAll, Act.put, List.setIfInBounds_toArray, List.set_cons_zero, List.set_cons_succ]; rfl)) (hJ2_5_11 (gb295) _ ⟨hHeld, (bk BK270), (bk BK271), (bk BK272), (bk BK277), (bk BK283), (bk BK295), GW295.out, GE295.out, NB270_295.out, NB295_270.out, NB271_295.out, NB295_271.out, NB272_295.out, NB295_272.out, NB277_295.out, NB295_277.out, NB283_295.out, NB295_283.out, (bw HB)⟩)
                             · skip
                               rintro gb295 w74 ⟨hS_, h0_, h1_, h2_, h3_, h4_, h5_, h6_, h7_, h8_, h9_, h10_, h11_, h12_, h13_, h14_, h15_, h16_, h17_, h18_⟩
                               have n0_ : Aside0 (w74.heap[gb270]? = some (.cells #[.int .u64 a0_0, .int .u64 a0_1, .int .i64 a0_2, .int .i64 a0_3, .int .i64 a0_4] 53 (0, 0))) := ⟨h0_⟩
                               have n1_ : Aside0 (w74.heap[gb271]? = some (.cells #[.int .i64 a1_0, .int .u64 a1_1, .int .u64 a1_2, .int .u64 a1_3, .int .u64 a1_4] 27 (0, 0))) := ⟨h1_⟩
                               have n2_ : Aside0 (w74.heap[gb272]? = some (.cells #[.int .u64 a2_0, .int .u64 a2_1, .int .u64 a2_2] 29 (0, 0))) := ⟨h2_⟩
                               have n3_ : Aside0 (w74.heap[gb277]? = some (.cells #[.int .u64 t274, .int .u64 t275, .int .u64 t276] 29 (0, 0))) := ⟨h3_⟩
                               have n4_ : Aside0 (w74.heap[gb283]? = some (.cells #[.int .u64 t278, .int .u64 t279, .int .u64 t280] 29 (0, 0))) := ⟨h4_⟩
                               have n5_ : Aside0 (w74.heap[gb295]? = some (.cells #[.int .u64 0, .int .u64 0] 68 (0, 0))) := ⟨h5_⟩
                               have n6_ : Aside0 (w.heap.size ≤ gb295) := ⟨h6_⟩
                               have n7_ : Aside0 (w.heap.size ≤ gb295) := ⟨h7_⟩
                               have n8_ : Aside0 (gb270 ≠ gb295) := ⟨h8_⟩
                               have n9_ : Aside0 (gb295 ≠ gb270) := ⟨h9_⟩
                               have n10_ : Aside0 (gb271 ≠ gb295) := ⟨h10_⟩
                               have n11_ : Aside0 (gb295 ≠ gb271) := ⟨h11_⟩
                               have n12_ : Aside0 (gb272 ≠ gb295) := ⟨h12_⟩
                               have n13_ : Aside0 (gb295 ≠ gb272) := ⟨h13_⟩
                               have n14_ : Aside0 (gb277 ≠ gb295) := ⟨h14_⟩
                               have n15_ : Aside0 (gb295 ≠ gb277) := ⟨h15_⟩
                               have n16_ : Aside0 (gb283 ≠ gb295) := ⟨h16_⟩
                               have n17_ : Aside0 (gb295 ≠ gb283) := ⟨h17_⟩
                               have n18_ : Aside0 (Below w.heap.size w w74) := ⟨h18_⟩
                               clear BK270; clear BK271; clear BK272; clear BK277; clear BK283; clear HB; clear h0_ h1_ h2_ h3_ h4_ h5_ h6_ h7_ h8_ h9_ h10_ h11_ h12_ h13_ h14_ h15_ h16_ h17_ h18_; have BK270 := n0_; have BK271 := n1_; have BK272 := n2_; have BK277 := n3_; have BK283 := n4_; have BK295 := n5_; have GW295 := n6_; have GE295 := n7_; have NB270_295 := n8_; have NB295_270 := n9_; have NB271_295 := n10_; have NB295_271 := n11_; have NB272_295 := n12_; have NB295_272 := n13_; have NB277_295 := n14_; have NB295_277 := n15_; have NB283_295 := n16_; have NB295_283 := n17_; have HB := n18_; clear n0_ n1_ n2_ n3_ n4_ n5_ n6_ n7_ n8_ n9_ n10_ n11_ n12_ n13_ n14_ n15_ n16_ n17_ n18_
                               have hHeld : w74.cell? ⟨gb272, 0, none⟩ = some (.int .u64 a2_0) ∧ w74.cell? ⟨gb272, 1, none⟩ = some (.int .u64 a2_1) ∧ w74.cell? ⟨gb272, 2, none⟩ = some (.int .u64 a2_2) ∧ w74.cell? ⟨gb270, 0, none⟩ = some (.int .u64 a0_0) ∧ w74.cell? ⟨gb270, 1, none⟩ = some (.int .u64 a0_1) ∧ w74.cell? ⟨gb270, 2, none⟩ = some (.int .i64 a0_2) ∧ w74.cell? ⟨gb270, 3, none⟩ = some (.int .i64 a0_3) ∧ w74.cell? ⟨gb270, 4, none⟩ = some (.int .i64 a0_4) ∧ w74.cell? ⟨gb271, 0, none⟩ = some (.int .i64 a1_0) ∧ w74.cell? ⟨gb271, 1, none⟩ = some (.int .u64 a1_1) ∧ w74.cell? ⟨gb271, 2, none⟩ = some (.int .u64 a1_2) ∧ w74.cell? ⟨gb271, 3, none⟩ = some (.int .u64 a1_3) ∧ w74.cell? ⟨gb271, 4, none⟩ = some (.int .u64 a1_4) := hS_
                               refine norm_ (a' := ?_) ?_ ?_
                               rotate_left
                               · simp only [putAll, Act.put, List.setIfInBounds_toArray, List.set_cons_zero, List.set_cons_succ]
                                 rfl
                               refine one_ (i := 6) (N := some 65) #[true, true, true, true, true, true, true, true, true, false, false, true, false] rfl rfl (one_of HT_.out (by kernel_rfl)) (by decide) (fun K hK => ?_)
                               refine ge Try.func34 #[.agg #[.int .u64 t285, .int .u64 t286], .agg #[.int .u64 t287, .int .u64 t288]] ?_
                               with_reducible refine (sat_Wide_Plus.calls t285 t286 t287 t288 t289 t290 _ A61.out).mono ?_
                               rintro e w75 ⟨rfl, hb⟩
                               refine ⟨_, rfl, ?_⟩
                               replace BK270 := bb BK270 hb; replace BK271 := bb BK271 hb; replace BK272 := bb BK272 hb; replace BK277 := bb BK277 hb; replace BK283 := bb BK283 hb; replace BK295 := bb BK295 hb; replace HB := bs HB hb; (try clear hb); (try clear hb2); (try clear hk); (try clear hi)
                               refine hK.out _ _ ⟨(blk_cell BK272.out 0).trans rfl, (blk_cell BK272.out 1).trans rfl, (blk_cell BK272.out 2).trans rfl, (blk_cell BK270.out 0).trans rfl, (blk_cell BK270.out 1).trans rfl, (blk_cell BK270.out 2).trans rfl, (blk_cell BK270.out 3).trans rfl, (blk_cell BK270.out 4).trans rfl, (blk_cell BK271.out 0).trans rfl, (blk_cell BK271.out 1).trans rfl, (blk_cell BK271.out 2).trans rfl, (blk_cell BK271.out 3).trans rfl, (blk_cell BK271.out 4).trans rfl⟩ (fun hHeld => ?_)
                               clear hK K
                               refine norm_ (a' := ?_) ?_ ?_
                               rotate_left
                               · show Act.put _ (some 65) _ = _
                                 simp only [Act.put, List.setIfInBounds_toArray, List.set_cons_zero, List.set_cons_succ, i64_w, i32_w]
                                 rfl
                               exact norm_ (by first | (simp only [putAll, Act.put, List.setIfInBounds_toArray, List.set_cons_zero, List.set_cons_succ]; done) | (simp only [putAll, Act.put, List.setIfInBounds_toArray, List.set_cons_zero, List.set_cons_succ]; rfl)) (hJ2_5_6_11 (gb295) _ ⟨hHeld, (bk BK270), (bk BK271), (bk BK272), (bk BK277), (bk BK283), (bk BK295), GW295.out, GE295.out, NB270_295.out, NB295_270.out, NB271_295.out, NB295_271.out, NB272_295.out, NB295_272.out, NB277_295.out, NB295_277.out, NB283_295.out, NB295_283.out, (bw HB)⟩)
                           · skip
                             rintro _ w74 ⟨hS_, h0_, h1_, h2_, h3_, h4_, h5_⟩
                             have n0_ : Aside0 (w74.heap[gb270]? = some (.cells #[.int .u64 a0_0, .int .u64 a0_1, .int .i64 a0_2, .int .i64 a0_3, .int .i64 a0_4] 53 (0, 0))) := ⟨h0_⟩
                             have n1_ : Aside0 (w74.heap[gb271]? = some (.cells #[.int .i64 a1_0, .int .u64 a1_1, .int .u64 a1_2, .int .u64 a1_3, .int .u64 a1_4] 27 (0, 0))) := ⟨h1_⟩
                             have n2_ : Aside0 (w74.heap[gb272]? = some (.cells #[.int .u64 a2_0, .int .u64 a2_1, .int .u64 a2_2] 29 (0, 0))) := ⟨h2_⟩
                             have n3_ : Aside0 (w74.heap[gb277]? = some (.cells #[.int .u64 t274, .int .u64 t275, .int .u64 t276] 29 (0, 0))) := ⟨h3_⟩
                             have n4_ : Aside0 (w74.heap[gb283]? = some (.cells #[.int .u64 t278, .int .u64 t279, .int .u64 t280] 29 (0, 0))) := ⟨h4_⟩
                             have n5_ : Aside0 (Below w.heap.size w w74) := ⟨h5_⟩
                             clear BK270; clear BK271; clear BK272; clear BK277; clear BK283; clear HB; clear h0_ h1_ h2_ h3_ h4_ h5_; have BK270 := n0_; have BK271 := n1_; have BK272 := n2_; have BK277 := n3_; have BK283 := n4_; have HB := n5_; clear n0_ n1_ n2_ n3_ n4_ n5_
                             have hHeld : w74.cell? ⟨gb272, 0, none⟩ = some (.int .u64 a2_0) ∧ w74.cell? ⟨gb272, 1, none⟩ = some (.int .u64 a2_1) ∧ w74.cell? ⟨gb272, 2, none⟩ = some (.int .u64 a2_2) ∧ w74.cell? ⟨gb270, 0, none⟩ = some (.int .u64 a0_0) ∧ w74.cell? ⟨gb270, 1, none⟩ = some (.int .u64 a0_1) ∧ w74.cell? ⟨gb270, 2, none⟩ = some (.int .i64 a0_2) ∧ w74.cell? ⟨gb270, 3, none⟩ = some (.int .i64 a0_3) ∧ w74.cell? ⟨gb270, 4, none⟩ = some (.int .i64 a0_4) ∧ w74.cell? ⟨gb271, 0, none⟩ = some (.int .i64 a1_0) ∧ w74.cell? ⟨gb271, 1, none⟩ = some (.int .u64 a1_1) ∧ w74.cell? ⟨gb271, 2, none⟩ = some (.int .u64 a1_2) ∧ w74.cell? ⟨gb271, 3, none⟩ = some (.int .u64 a1_3) ∧ w74.cell? ⟨gb271, 4, none⟩ = some (.int .u64 a1_4) := hS_
                             refine norm_ (a' := ?_) ?_ ?_
                             rotate_left
                             · simp only [putAll, Act.put, List.setIfInBounds_toArray, List.set_cons_zero, List.set_cons_succ]
                               rfl
                             refine two_ (i := 9) (j := 11) (Ni := some 68) (Nj := some 15) #[true, true, true, true, true, true, true, true, true, true, false, false, false] #[true, true, true, true, true, true, true, true, true, false, false, true, false] rfl rfl rfl rfl (two_of HT_.out (by kernel_rfl)) (by decide) (by decide) (fun K hK => ?_) (fun K hK => ?_)
                             · skip
                               refine ge Try.func33 #[.int .u64 a1_2] ?_
                               with_reducible refine (sat_Of.calls a1_2 t291 t292 _ A62.out).mono ?_
                               rintro e w75 ⟨rfl, hb⟩
                               refine ⟨_, rfl, ?_⟩
                               replace BK270 := bb BK270 hb; replace BK271 := bb BK271 hb; replace BK272 := bb BK272 hb; replace BK277 := bb BK277 hb; replace BK283 := bb BK283 hb; replace HB := bs HB hb; (try clear hb); (try clear hb2); (try clear hk); (try clear hi)
                               refine hK.out _ _ ⟨(blk_cell BK272.out 0).trans rfl, (blk_cell BK272.out 1).trans rfl, (blk_cell BK272.out 2).trans rfl, (blk_cell BK270.out 0).trans rfl, (blk_cell BK270.out 1).trans rfl, (blk_cell BK270.out 2).trans rfl, (blk_cell BK270.out 3).trans rfl, (blk_cell BK270.out 4).trans rfl, (blk_cell BK271.out 0).trans rfl, (blk_cell BK271.out 1).trans rfl, (blk_cell BK271.out 2).trans rfl, (blk_cell BK271.out 3).trans rfl, (blk_cell BK271.out 4).trans rfl⟩ (fun hHeld => ?_)
                               clear hK K
                               refine norm_ (a' := ?_) ?_ ?_
                               rotate_left
                               · show Act.put _ (some 68) _ = _
                                 simp only [Act.put, List.setIfInBounds_toArray, List.set_cons_zero, List.set_cons_succ, i64_w, i32_w]
                                 rfl
                               exact norm_ (by first | (simp only [putAll, Act.put, List.setIfInBounds_toArray, List.set_cons_zero, List.set_cons_succ]; done) | (simp only [putAll, Act.put, List.setIfInBounds_toArray, List.set_cons_zero, List.set_cons_succ]; rfl)) (hJ2_5_6_9 () _ ⟨hHeld, (bk BK270), (bk BK271), (bk BK272), (bk BK277), (bk BK283), (bw HB)⟩)
                             · skip
                               refine box_step ?hg (N := 15) ?hd (cs := #[.int .u64 0, .int .u64 0]) (t := 68) ?hr ?_; (case hd => rfl); (case hg => rfl); (case hr => first | (go_simp; done) | (go_simp; rfl))
                               intro gb295 hg w75 hbox hb
                               have BK295 := Aside0.mk (hbox); have GW295 := sz HB hg; have GE295 := sz HB hg; have NB270_295 := nl BK270 hg; have NB295_270 := nr BK270 hg; have NB271_295 := nl BK271 hg; have NB295_271 := nr BK271 hg; have NB272_295 := nl BK272 hg; have NB295_272 := nr BK272 hg; have NB277_295 := nl BK277 hg; have NB295_277 := nr BK277 hg; have NB283_295 := nl BK283 hg; have NB295_283 := nr BK283 hg; replace BK270 := bb BK270 hb; replace BK271 := bb BK271 hb; replace BK272 := bb BK272 hb; replace BK277 := bb BK277 hb; replace BK283 := bb BK283 hb; replace HB := bs HB hb; clear hb hbox hg
                               refine hK.out _ _ ⟨(blk_cell BK272.out 0).trans rfl, (blk_cell BK272.out 1).trans rfl, (blk_cell BK272.out 2).trans rfl, (blk_cell BK270.out 0).trans rfl, (blk_cell BK270.out 1).trans rfl, (blk_cell BK270.out 2).trans rfl, (blk_cell BK270.out 3).trans rfl, (blk_cell BK270.out 4).trans rfl, (blk_cell BK271.out 0).trans rfl, (blk_cell BK271.out 1).trans rfl, (blk_cell BK271.out 2).trans rfl, (blk_cell BK271.out 3).trans rfl, (blk_cell BK271.out 4).trans rfl⟩ (fun hHeld => ?_)
                               clear hK K
                               refine norm_ (a' := ?_) ?_ ?_
                               rotate_left
                               · show Act.put _ (some 15) _ = _
                                 simp only [Act.put, List.setIfInBounds_toArray, List.set_cons_zero, List.set_cons_succ, i64_w, i32_w]
                                 rfl
                               exact norm_ (by first | (simp only [putAll, Act.put, List.setIfInBounds_toArray, List.set_cons_zero, List.set_cons_succ]; done) | (simp only [putAll, Act.put, List.setIfInBounds_toArray, List.set_cons_zero, List.set_cons_succ]; rfl)) (hJ2_5_6_11 (gb295) _ ⟨hHeld, (bk BK270), (bk BK271), (bk BK272), (bk BK277), (bk BK283), (bk BK295), GW295.out, GE295.out, NB270_295.out, NB295_270.out, NB271_295.out, NB295_271.out, NB272_295.out, NB295_272.out, NB277_295.out, NB295_277.out, NB283_295.out, NB295_283.out, (bw HB)⟩)
                         · skip
                           rintro gb295 w75 ⟨hS_, h0_, h1_, h2_, h3_, h4_, h5_, h6_, h7_, h8_, h9_, h10_, h11_, h12_, h13_, h14_, h15_, h16_, h17_, h18_⟩
                           have n0_ : Aside0 (w75.heap[gb270]? = some (.cells #[.int .u64 a0_0, .int .u64 a0_1, .int .i64 a0_2, .int .i64 a0_3, .int .i64 a0_4] 53 (0, 0))) := ⟨h0_⟩
                           have n1_ : Aside0 (w75.heap[gb271]? = some (.cells #[.int .i64 a1_0, .int .u64 a1_1, .int .u64 a1_2, .int .u64 a1_3, .int .u64 a1_4] 27 (0, 0))) := ⟨h1_⟩
                           have n2_ : Aside0 (w75.heap[gb272]? = some (.cells #[.int .u64 a2_0, .int .u64 a2_1, .int .u64 a2_2] 29 (0, 0))) := ⟨h2_⟩
                           have n3_ : Aside0 (w75.heap[gb277]? = some (.cells #[.int .u64 t274, .int .u64 t275, .int .u64 t276] 29 (0, 0))) := ⟨h3_⟩
                           have n4_ : Aside0 (w75.heap[gb283]? = some (.cells #[.int .u64 t278, .int .u64 t279, .int .u64 t280] 29 (0, 0))) := ⟨h4_⟩
                           have n5_ : Aside0 (w75.heap[gb295]? = some (.cells #[.int .u64 0, .int .u64 0] 68 (0, 0))) := ⟨h5_⟩
                           have n6_ : Aside0 (w.heap.size ≤ gb295) := ⟨h6_⟩
                           have n7_ : Aside0 (w.heap.size ≤ gb295) := ⟨h7_⟩
                           have n8_ : Aside0 (gb270 ≠ gb295) := ⟨h8_⟩
                           have n9_ : Aside0 (gb295 ≠ gb270) := ⟨h9_⟩
                           have n10_ : Aside0 (gb271 ≠ gb295) := ⟨h10_⟩
                           have n11_ : Aside0 (gb295 ≠ gb271) := ⟨h11_⟩
                           have n12_ : Aside0 (gb272 ≠ gb295) := ⟨h12_⟩
                           have n13_ : Aside0 (gb295 ≠ gb272) := ⟨h13_⟩
                           have n14_ : Aside0 (gb277 ≠ gb295) := ⟨h14_⟩
                           have n15_ : Aside0 (gb295 ≠ gb277) := ⟨h15_⟩
                           have n16_ : Aside0 (gb283 ≠ gb295) := ⟨h16_⟩
                           have n17_ : Aside0 (gb295 ≠ gb283) := ⟨h17_⟩
                           have n18_ : Aside0 (Below w.heap.size w w75) := ⟨h18_⟩
                           clear BK270; clear BK271; clear BK272; clear BK277; clear BK283; clear HB; clear h0_ h1_ h2_ h3_ h4_ h5_ h6_ h7_ h8_ h9_ h10_ h11_ h12_ h13_ h14_ h15_ h16_ h17_ h18_; have BK270 := n0_; have BK271 := n1_; have BK272 := n2_; have BK277 := n3_; have BK283 := n4_; have BK295 := n5_; have GW295 := n6_; have GE295 := n7_; have NB270_295 := n8_; have NB295_270 := n9_; have NB271_295 := n10_; have NB295_271 := n11_; have NB272_295 := n12_; have NB295_272 := n13_; have NB277_295 := n14_; have NB295_277 := n15_; have NB283_295 := n16_; have NB295_283 := n17_; have HB := n18_; clear n0_ n1_ n2_ n3_ n4_ n5_ n6_ n7_ n8_ n9_ n10_ n11_ n12_ n13_ n14_ n15_ n16_ n17_ n18_
                           have hHeld : w75.cell? ⟨gb272, 0, none⟩ = some (.int .u64 a2_0) ∧ w75.cell? ⟨gb272, 1, none⟩ = some (.int .u64 a2_1) ∧ w75.cell? ⟨gb272, 2, none⟩ = some (.int .u64 a2_2) ∧ w75.cell? ⟨gb270, 0, none⟩ = some (.int .u64 a0_0) ∧ w75.cell? ⟨gb270, 1, none⟩ = some (.int .u64 a0_1) ∧ w75.cell? ⟨gb270, 2, none⟩ = some (.int .i64 a0_2) ∧ w75.cell? ⟨gb270, 3, none⟩ = some (.int .i64 a0_3) ∧ w75.cell? ⟨gb270, 4, none⟩ = some (.int .i64 a0_4) ∧ w75.cell? ⟨gb271, 0, none⟩ = some (.int .i64 a1_0) ∧ w75.cell? ⟨gb271, 1, none⟩ = some (.int .u64 a1_1) ∧ w75.cell? ⟨gb271, 2, none⟩ = some (.int .u64 a1_2) ∧ w75.cell? ⟨gb271, 3, none⟩ = some (.int .u64 a1_3) ∧ w75.cell? ⟨gb271, 4, none⟩ = some (.int .u64 a1_4) := hS_
                           refine norm_ (a' := ?_) ?_ ?_
                           rotate_left
                           · simp only [putAll, Act.put, List.setIfInBounds_toArray, List.set_cons_zero, List.set_cons_succ]
                             rfl
                           refine one_ (i := 9) (N := some 68) #[true, true, true, true, true, true, true, true, true, true, false, true, false] rfl rfl (one_of HT_.out (by kernel_rfl)) (by decide) (fun K hK => ?_)
                           refine ge Try.func33 #[.int .u64 a1_2] ?_
                           with_reducible refine (sat_Of.calls a1_2 t291 t292 _ A62.out).mono ?_
                           rintro e w76 ⟨rfl, hb⟩
                           refine ⟨_, rfl, ?_⟩
                           replace BK270 := bb BK270 hb; replace BK271 := bb BK271 hb; replace BK272 := bb BK272 hb; replace BK277 := bb BK277 hb; replace BK283 := bb BK283 hb; replace BK295 := bb BK295 hb; replace HB := bs HB hb; (try clear hb); (try clear hb2); (try clear hk); (try clear hi)
                           refine hK.out _ _ ⟨(blk_cell BK272.out 0).trans rfl, (blk_cell BK272.out 1).trans rfl, (blk_cell BK272.out 2).trans rfl, (blk_cell BK270.out 0).trans rfl, (blk_cell BK270.out 1).trans rfl, (blk_cell BK270.out 2).trans rfl, (blk_cell BK270.out 3).trans rfl, (blk_cell BK270.out 4).trans rfl, (blk_cell BK271.out 0).trans rfl, (blk_cell BK271.out 1).trans rfl, (blk_cell BK271.out 2).trans rfl, (blk_cell BK271.out 3).trans rfl, (blk_cell BK271.out 4).trans rfl⟩ (fun hHeld => ?_)
                           clear hK K
                           refine norm_ (a' := ?_) ?_ ?_
                           rotate_left
                           · show Act.put _ (some 68) _ = _
                             simp only [Act.put, List.setIfInBounds_toArray, List.set_cons_zero, List.set_cons_succ, i64_w, i32_w]
                             rfl
                           exact norm_ (by first | (simp only [putAll, Act.put, List.setIfInBounds_toArray, List.set_cons_zero, List.set_cons_succ]; done) | (simp only [putAll, Act.put, List.setIfInBounds_toArray, List.set_cons_zero, List.set_cons_succ]; rfl)) (hJ2_5_6_9_11 (gb295) _ ⟨hHeld, (bk BK270), (bk BK271), (bk BK272), (bk BK277), (bk BK283), (bk BK295), GW295.out, GE295.out, NB270_295.out, NB295_270.out, NB271_295.out, NB295_271.out, NB272_295.out, NB295_272.out, NB277_295.out, NB295_277.out, NB283_295.out, NB295_283.out, (bw HB)⟩)
                       · skip
                         rintro _ w75 ⟨hS_, h0_, h1_, h2_, h3_, h4_, h5_⟩
                         have n0_ : Aside0 (w75.heap[gb270]? = some (.cells #[.int .u64 a0_0, .int .u64 a0_1, .int .i64 a0_2, .int .i64 a0_3, .int .i64 a0_4] 53 (0, 0))) := ⟨h0_⟩
                         have n1_ : Aside0 (w75.heap[gb271]? = some (.cells #[.int .i64 a1_0, .int .u64 a1_1, .int .u64 a1_2, .int .u64 a1_3, .int .u64 a1_4] 27 (0, 0))) := ⟨h1_⟩
                         have n2_ : Aside0 (w75.heap[gb272]? = some (.cells #[.int .u64 a2_0, .int .u64 a2_1, .int .u64 a2_2] 29 (0, 0))) := ⟨h2_⟩
                         have n3_ : Aside0 (w75.heap[gb277]? = some (.cells #[.int .u64 t274, .int .u64 t275, .int .u64 t276] 29 (0, 0))) := ⟨h3_⟩
                         have n4_ : Aside0 (w75.heap[gb283]? = some (.cells #[.int .u64 t278, .int .u64 t279, .int .u64 t280] 29 (0, 0))) := ⟨h4_⟩
                         have n5_ : Aside0 (Below w.heap.size w w75) := ⟨h5_⟩
                         clear BK270; clear BK271; clear BK272; clear BK277; clear BK283; clear HB; clear h0_ h1_ h2_ h3_ h4_ h5_; have BK270 := n0_; have BK271 := n1_; have BK272 := n2_; have BK277 := n3_; have BK283 := n4_; have HB := n5_; clear n0_ n1_ n2_ n3_ n4_ n5_
                         have hHeld : w75.cell? ⟨gb272, 0, none⟩ = some (.int .u64 a2_0) ∧ w75.cell? ⟨gb272, 1, none⟩ = some (.int .u64 a2_1) ∧ w75.cell? ⟨gb272, 2, none⟩ = some (.int .u64 a2_2) ∧ w75.cell? ⟨gb270, 0, none⟩ = some (.int .u64 a0_0) ∧ w75.cell? ⟨gb270, 1, none⟩ = some (.int .u64 a0_1) ∧ w75.cell? ⟨gb270, 2, none⟩ = some (.int .i64 a0_2) ∧ w75.cell? ⟨gb270, 3, none⟩ = some (.int .i64 a0_3) ∧ w75.cell? ⟨gb270, 4, none⟩ = some (.int .i64 a0_4) ∧ w75.cell? ⟨gb271, 0, none⟩ = some (.int .i64 a1_0) ∧ w75.cell? ⟨gb271, 1, none⟩ = some (.int .u64 a1_1) ∧ w75.cell? ⟨gb271, 2, none⟩ = some (.int .u64 a1_2) ∧ w75.cell? ⟨gb271, 3, none⟩ = some (.int .u64 a1_3) ∧ w75.cell? ⟨gb271, 4, none⟩ = some (.int .u64 a1_4) := hS_
                         refine norm_ (a' := ?_) ?_ ?_
                         rotate_left
                         · simp only [putAll, Act.put, List.setIfInBounds_toArray, List.set_cons_zero, List.set_cons_succ]
                           rfl
                         refine two_ (i := 10) (j := 11) (Ni := some 69) (Nj := some 15) #[true, true, true, true, true, true, true, true, true, true, true, false, false] #[true, true, true, true, true, true, true, true, true, true, false, true, false] rfl rfl rfl rfl (two_of HT_.out (by kernel_rfl)) (by decide) (by decide) (fun K hK => ?_) (fun K hK => ?_)
                         · skip
                           refine ge Try.func35 #[.agg #[.int .u64 t289, .int .u64 t290], .agg #[.int .u64 t291, .int .u64 t292]] ?_
                           with_reducible refine (sat_Wide_Minus.calls t289 t290 t291 t292 t293 t294 _ A63.out).mono ?_
                           rintro e w76 ⟨rfl, hb⟩
                           refine ⟨_, rfl, ?_⟩
                           replace BK270 := bb BK270 hb; replace BK271 := bb BK271 hb; replace BK272 := bb BK272 hb; replace BK277 := bb BK277 hb; replace BK283 := bb BK283 hb; replace HB := bs HB hb; (try clear hb); (try clear hb2); (try clear hk); (try clear hi)
                           refine hK.out _ _ ⟨(blk_cell BK272.out 0).trans rfl, (blk_cell BK272.out 1).trans rfl, (blk_cell BK272.out 2).trans rfl, (blk_cell BK270.out 0).trans rfl, (blk_cell BK270.out 1).trans rfl, (blk_cell BK270.out 2).trans rfl, (blk_cell BK270.out 3).trans rfl, (blk_cell BK270.out 4).trans rfl, (blk_cell BK271.out 0).trans rfl, (blk_cell BK271.out 1).trans rfl, (blk_cell BK271.out 2).trans rfl, (blk_cell BK271.out 3).trans rfl, (blk_cell BK271.out 4).trans rfl⟩ (fun hHeld => ?_)
                           clear hK K
                           refine norm_ (a' := ?_) ?_ ?_
                           rotate_left
                           · show Act.put _ (some 69) _ = _
                             simp only [Act.put, List.setIfInBounds_toArray, List.set_cons_zero, List.set_cons_succ, i64_w, i32_w]
                             rfl
                           exact norm_ (by first | (simp only [putAll, Act.put, List.setIfInBounds_toArray, List.set_cons_zero, List.set_cons_succ]; done) | (simp only [putAll, Act.put, List.setIfInBounds_toArray, List.set_cons_zero, List.set_cons_succ]; rfl)) (hJ2_5_6_9_10 () _ ⟨hHeld, (bk BK270), (bk BK271), (bk BK272), (bk BK277), (bk BK283), (bw HB)⟩)
                         · skip
                           refine box_step ?hg (N := 15) ?hd (cs := #[.int .u64 0, .int .u64 0]) (t := 68) ?hr ?_; (case hd => rfl); (case hg => rfl); (case hr => first | (go_simp; done) | (go_simp; rfl))
                           intro gb295 hg w76 hbox hb
                           have BK295 := Aside0.mk (hbox); have GW295 := sz HB hg; have GE295 := sz HB hg; have NB270_295 := nl BK270 hg; have NB295_270 := nr BK270 hg; have NB271_295 := nl BK271 hg; have NB295_271 := nr BK271 hg; have NB272_295 := nl BK272 hg; have NB295_272 := nr BK272 hg; have NB277_295 := nl BK277 hg; have NB295_277 := nr BK277 hg; have NB283_295 := nl BK283 hg; have NB295_283 := nr BK283 hg; replace BK270 := bb BK270 hb; replace BK271 := bb BK271 hb; replace BK272 := bb BK272 hb; replace BK277 := bb BK277 hb; replace BK283 := bb BK283 hb; replace HB := bs HB hb; clear hb hbox hg
                           refine hK.out _ _ ⟨(blk_cell BK272.out 0).trans rfl, (blk_cell BK272.out 1).trans rfl, (blk_cell BK272.out 2).trans rfl, (blk_cell BK270.out 0).trans rfl, (blk_cell BK270.out 1).trans rfl, (blk_cell BK270.out 2).trans rfl, (blk_cell BK270.out 3).trans rfl, (blk_cell BK270.out 4).trans rfl, (blk_cell BK271.out 0).trans rfl, (blk_cell BK271.out 1).trans rfl, (blk_cell BK271.out 2).trans rfl, (blk_cell BK271.out 3).trans rfl, (blk_cell BK271.out 4).trans rfl⟩ (fun hHeld => ?_)
                           clear hK K
                           refine norm_ (a' := ?_) ?_ ?_
                           rotate_left
                           · show Act.put _ (some 15) _ = _
                             simp only [Act.put, List.setIfInBounds_toArray, List.set_cons_zero, List.set_cons_succ, i64_w, i32_w]
                             rfl
                           exact norm_ (by first | (simp only [putAll, Act.put, List.setIfInBounds_toArray, List.set_cons_zero, List.set_cons_succ]; done) | (simp only [putAll, Act.put, List.setIfInBounds_toArray, List.set_cons_zero, List.set_cons_succ]; rfl)) (hJ2_5_6_9_11 (gb295) _ ⟨hHeld, (bk BK270), (bk BK271), (bk BK272), (bk BK277), (bk BK283), (bk BK295), GW295.out, GE295.out, NB270_295.out, NB295_270.out, NB271_295.out, NB295_271.out, NB272_295.out, NB295_272.out, NB277_295.out, NB295_277.out, NB283_295.out, NB295_283.out, (bw HB)⟩)
                     · skip
                       rintro gb295 w76 ⟨hS_, h0_, h1_, h2_, h3_, h4_, h5_, h6_, h7_, h8_, h9_, h10_, h11_, h12_, h13_, h14_, h15_, h16_, h17_, h18_⟩
                       have n0_ : Aside0 (w76.heap[gb270]? = some (.cells #[.int .u64 a0_0, .int .u64 a0_1, .int .i64 a0_2, .int .i64 a0_3, .int .i64 a0_4] 53 (0, 0))) := ⟨h0_⟩
                       have n1_ : Aside0 (w76.heap[gb271]? = some (.cells #[.int .i64 a1_0, .int .u64 a1_1, .int .u64 a1_2, .int .u64 a1_3, .int .u64 a1_4] 27 (0, 0))) := ⟨h1_⟩
                       have n2_ : Aside0 (w76.heap[gb272]? = some (.cells #[.int .u64 a2_0, .int .u64 a2_1, .int .u64 a2_2] 29 (0, 0))) := ⟨h2_⟩
                       have n3_ : Aside0 (w76.heap[gb277]? = some (.cells #[.int .u64 t274, .int .u64 t275, .int .u64 t276] 29 (0, 0))) := ⟨h3_⟩
                       have n4_ : Aside0 (w76.heap[gb283]? = some (.cells #[.int .u64 t278, .int .u64 t279, .int .u64 t280] 29 (0, 0))) := ⟨h4_⟩
                       have n5_ : Aside0 (w76.heap[gb295]? = some (.cells #[.int .u64 0, .int .u64 0] 68 (0, 0))) := ⟨h5_⟩
                       have n6_ : Aside0 (w.heap.size ≤ gb295) := ⟨h6_⟩
                       have n7_ : Aside0 (w.heap.size ≤ gb295) := ⟨h7_⟩
                       have n8_ : Aside0 (gb270 ≠ gb295) := ⟨h8_⟩
                       have n9_ : Aside0 (gb295 ≠ gb270) := ⟨h9_⟩
                       have n10_ : Aside0 (gb271 ≠ gb295) := ⟨h10_⟩
                       have n11_ : Aside0 (gb295 ≠ gb271) := ⟨h11_⟩
                       have n12_ : Aside0 (gb272 ≠ gb295) := ⟨h12_⟩
                       have n13_ : Aside0 (gb295 ≠ gb272) := ⟨h13_⟩
                       have n14_ : Aside0 (gb277 ≠ gb295) := ⟨h14_⟩
                       have n15_ : Aside0 (gb295 ≠ gb277) := ⟨h15_⟩
                       have n16_ : Aside0 (gb283 ≠ gb295) := ⟨h16_⟩
                       have n17_ : Aside0 (gb295 ≠ gb283) := ⟨h17_⟩
                       have n18_ : Aside0 (Below w.heap.size w w76) := ⟨h18_⟩
                       clear BK270; clear BK271; clear BK272; clear BK277; clear BK283; clear HB; clear h0_ h1_ h2_ h3_ h4_ h5_ h6_ h7_ h8_ h9_ h10_ h11_ h12_ h13_ h14_ h15_ h16_ h17_ h18_; have BK270 := n0_; have BK271 := n1_; have BK272 := n2_; have BK277 := n3_; have BK283 := n4_; have BK295 := n5_; have GW295 := n6_; have GE295 := n7_; have NB270_295 := n8_; have NB295_270 := n9_; have NB271_295 := n10_; have NB295_271 := n11_; have NB272_295 := n12_; have NB295_272 := n13_; have NB277_295 := n14_; have NB295_277 := n15_; have NB283_295 := n16_; have NB295_283 := n17_; have HB := n18_; clear n0_ n1_ n2_ n3_ n4_ n5_ n6_ n7_ n8_ n9_ n10_ n11_ n12_ n13_ n14_ n15_ n16_ n17_ n18_
                       have hHeld : w76.cell? ⟨gb272, 0, none⟩ = some (.int .u64 a2_0) ∧ w76.cell? ⟨gb272, 1, none⟩ = some (.int .u64 a2_1) ∧ w76.cell? ⟨gb272, 2, none⟩ = some (.int .u64 a2_2) ∧ w76.cell? ⟨gb270, 0, none⟩ = some (.int .u64 a0_0) ∧ w76.cell? ⟨gb270, 1, none⟩ = some (.int .u64 a0_1) ∧ w76.cell? ⟨gb270, 2, none⟩ = some (.int .i64 a0_2) ∧ w76.cell? ⟨gb270, 3, none⟩ = some (.int .i64 a0_3) ∧ w76.cell? ⟨gb270, 4, none⟩ = some (.int .i64 a0_4) ∧ w76.cell? ⟨gb271, 0, none⟩ = some (.int .i64 a1_0) ∧ w76.cell? ⟨gb271, 1, none⟩ = some (.int .u64 a1_1) ∧ w76.cell? ⟨gb271, 2, none⟩ = some (.int .u64 a1_2) ∧ w76.cell? ⟨gb271, 3, none⟩ = some (.int .u64 a1_3) ∧ w76.cell? ⟨gb271, 4, none⟩ = some (.int .u64 a1_4) := hS_
                       refine norm_ (a' := ?_) ?_ ?_
                       rotate_left
                       · simp only [putAll, Act.put, List.setIfInBounds_toArray, List.set_cons_zero, List.set_cons_succ]
                         rfl
                       refine one_ (i := 10) (N := some 69) #[true, true, true, true, true, true, true, true, true, true, true, true, false] rfl rfl (one_of HT_.out (by kernel_rfl)) (by decide) (fun K hK => ?_)
                       refine ge Try.func35 #[.agg #[.int .u64 t289, .int .u64 t290], .agg #[.int .u64 t291, .int .u64 t292]] ?_
                       with_reducible refine (sat_Wide_Minus.calls t289 t290 t291 t292 t293 t294 _ A63.out).mono ?_
                       rintro e w77 ⟨rfl, hb⟩
                       refine ⟨_, rfl, ?_⟩
                       replace BK270 := bb BK270 hb; replace BK271 := bb BK271 hb; replace BK272 := bb BK272 hb; replace BK277 := bb BK277 hb; replace BK283 := bb BK283 hb; replace BK295 := bb BK295 hb; replace HB := bs HB hb; (try clear hb); (try clear hb2); (try clear hk); (try clear hi)
                       refine hK.out _ _ ⟨(blk_cell BK272.out 0).trans rfl, (blk_cell BK272.out 1).trans rfl, (blk_cell BK272.out 2).trans rfl, (blk_cell BK270.out 0).trans rfl, (blk_cell BK270.out 1).trans rfl, (blk_cell BK270.out 2).trans rfl, (blk_cell BK270.out 3).trans rfl, (blk_cell BK270.out 4).trans rfl, (blk_cell BK271.out 0).trans rfl, (blk_cell BK271.out 1).trans rfl, (blk_cell BK271.out 2).trans rfl, (blk_cell BK271.out 3).trans rfl, (blk_cell BK271.out 4).trans rfl⟩ (fun hHeld => ?_)
                       clear hK K
                       refine norm_ (a' := ?_) ?_ ?_
                       rotate_left
                       · show Act.put _ (some 69) _ = _
                         simp only [Act.put, List.setIfInBounds_toArray, List.set_cons_zero, List.set_cons_succ, i64_w, i32_w]
                         rfl
                       exact norm_ (by first | (simp only [putAll, Act.put, List.setIfInBounds_toArray, List.set_cons_zero, List.set_cons_succ]; done) | (simp only [putAll, Act.put, List.setIfInBounds_toArray, List.set_cons_zero, List.set_cons_succ]; rfl)) (hJ2_5_6_9_10_11 (gb295) _ ⟨hHeld, (bk BK270), (bk BK271), (bk BK272), (bk BK277), (bk BK283), (bk BK295), GW295.out, GE295.out, NB270_295.out, NB295_270.out, NB271_295.out, NB295_271.out, NB272_295.out, NB295_272.out, NB277_295.out, NB295_277.out, NB283_295.out, NB295_283.out, (bw HB)⟩)
                   · skip
                     rintro _ w76 ⟨hS_, h0_, h1_, h2_, h3_, h4_, h5_⟩
                     have n0_ : Aside0 (w76.heap[gb270]? = some (.cells #[.int .u64 a0_0, .int .u64 a0_1, .int .i64 a0_2, .int .i64 a0_3, .int .i64 a0_4] 53 (0, 0))) := ⟨h0_⟩
                     have n1_ : Aside0 (w76.heap[gb271]? = some (.cells #[.int .i64 a1_0, .int .u64 a1_1, .int .u64 a1_2, .int .u64 a1_3, .int .u64 a1_4] 27 (0, 0))) := ⟨h1_⟩
                     have n2_ : Aside0 (w76.heap[gb272]? = some (.cells #[.int .u64 a2_0, .int .u64 a2_1, .int .u64 a2_2] 29 (0, 0))) := ⟨h2_⟩
                     have n3_ : Aside0 (w76.heap[gb277]? = some (.cells #[.int .u64 t274, .int .u64 t275, .int .u64 t276] 29 (0, 0))) := ⟨h3_⟩
                     have n4_ : Aside0 (w76.heap[gb283]? = some (.cells #[.int .u64 t278, .int .u64 t279, .int .u64 t280] 29 (0, 0))) := ⟨h4_⟩
                     have n5_ : Aside0 (Below w.heap.size w w76) := ⟨h5_⟩
                     clear BK270; clear BK271; clear BK272; clear BK277; clear BK283; clear HB; clear h0_ h1_ h2_ h3_ h4_ h5_; have BK270 := n0_; have BK271 := n1_; have BK272 := n2_; have BK277 := n3_; have BK283 := n4_; have HB := n5_; clear n0_ n1_ n2_ n3_ n4_ n5_
                     have hHeld : w76.cell? ⟨gb272, 0, none⟩ = some (.int .u64 a2_0) ∧ w76.cell? ⟨gb272, 1, none⟩ = some (.int .u64 a2_1) ∧ w76.cell? ⟨gb272, 2, none⟩ = some (.int .u64 a2_2) ∧ w76.cell? ⟨gb270, 0, none⟩ = some (.int .u64 a0_0) ∧ w76.cell? ⟨gb270, 1, none⟩ = some (.int .u64 a0_1) ∧ w76.cell? ⟨gb270, 2, none⟩ = some (.int .i64 a0_2) ∧ w76.cell? ⟨gb270, 3, none⟩ = some (.int .i64 a0_3) ∧ w76.cell? ⟨gb270, 4, none⟩ = some (.int .i64 a0_4) ∧ w76.cell? ⟨gb271, 0, none⟩ = some (.int .i64 a1_0) ∧ w76.cell? ⟨gb271, 1, none⟩ = some (.int .u64 a1_1) ∧ w76.cell? ⟨gb271, 2, none⟩ = some (.int .u64 a1_2) ∧ w76.cell? ⟨gb271, 3, none⟩ = some (.int .u64 a1_3) ∧ w76.cell? ⟨gb271, 4, none⟩ = some (.int .u64 a1_4) := hS_
                     refine norm_ (a' := ?_) ?_ ?_
                     rotate_left
                     · simp only [putAll, Act.put, List.setIfInBounds_toArray, List.set_cons_zero, List.set_cons_succ]
                       rfl
                     refine one_ (i := 11) (N := some 15) #[true, true, true, true, true, true, true, true, true, true, true, true, false] rfl rfl (one_of HT_.out (by kernel_rfl)) (by decide) (fun K hK => ?_)
                     refine box_step ?hg (N := 15) ?hd (cs := #[.int .u64 0, .int .u64 0]) (t := 68) ?hr ?_; (case hd => rfl); (case hg => rfl); (case hr => first | (go_simp; done) | (go_simp; rfl))
                     intro gb295 hg w77 hbox hb
                     have BK295 := Aside0.mk (hbox); have GW295 := sz HB hg; have GE295 := sz HB hg; have NB270_295 := nl BK270 hg; have NB295_270 := nr BK270 hg; have NB271_295 := nl BK271 hg; have NB295_271 := nr BK271 hg; have NB272_295 := nl BK272 hg; have NB295_272 := nr BK272 hg; have NB277_295 := nl BK277 hg; have NB295_277 := nr BK277 hg; have NB283_295 := nl BK283 hg; have NB295_283 := nr BK283 hg; replace BK270 := bb BK270 hb; replace BK271 := bb BK271 hb; replace BK272 := bb BK272 hb; replace BK277 := bb BK277 hb; replace BK283 := bb BK283 hb; replace HB := bs HB hb; clear hb hbox hg
                     refine hK.out _ _ ⟨(blk_cell BK272.out 0).trans rfl, (blk_cell BK272.out 1).trans rfl, (blk_cell BK272.out 2).trans rfl, (blk_cell BK270.out 0).trans rfl, (blk_cell BK270.out 1).trans rfl, (blk_cell BK270.out 2).trans rfl, (blk_cell BK270.out 3).trans rfl, (blk_cell BK270.out 4).trans rfl, (blk_cell BK271.out 0).trans rfl, (blk_cell BK271.out 1).trans rfl, (blk_cell BK271.out 2).trans rfl, (blk_cell BK271.out 3).trans rfl, (blk_cell BK271.out 4).trans rfl⟩ (fun hHeld => ?_)
                     clear hK K
                     refine norm_ (a' := ?_) ?_ ?_
                     rotate_left
                     · show Act.put _ (some 15) _ = _
                       simp only [Act.put, List.setIfInBounds_toArray, List.set_cons_zero, List.set_cons_succ, i64_w, i32_w]
                       rfl
                     exact norm_ (by first | (simp only [putAll, Act.put, List.setIfInBounds_toArray, List.set_cons_zero, List.set_cons_succ]; done) | (simp only [putAll, Act.put, List.setIfInBounds_toArray, List.set_cons_zero, List.set_cons_succ]; rfl)) (hJ2_5_6_9_10_11 (gb295) _ ⟨hHeld, (bk BK270), (bk BK271), (bk BK272), (bk BK277), (bk BK283), (bk BK295), GW295.out, GE295.out, NB270_295.out, NB295_270.out, NB271_295.out, NB295_271.out, NB272_295.out, NB295_272.out, NB277_295.out, NB295_277.out, NB283_295.out, NB295_283.out, (bw HB)⟩)
                 rintro gb295 w77 ⟨hS_, h0_, h1_, h2_, h3_, h4_, h5_, h6_, h7_, h8_, h9_, h10_, h11_, h12_, h13_, h14_, h15_, h16_, h17_, h18_⟩
                 have n0_ : Aside0 (w77.heap[gb270]? = some (.cells #[.int .u64 a0_0, .int .u64 a0_1, .int .i64 a0_2, .int .i64 a0_3, .int .i64 a0_4] 53 (0, 0))) := ⟨h0_⟩
                 have n1_ : Aside0 (w77.heap[gb271]? = some (.cells #[.int .i64 a1_0, .int .u64 a1_1, .int .u64 a1_2, .int .u64 a1_3, .int .u64 a1_4] 27 (0, 0))) := ⟨h1_⟩
                 have n2_ : Aside0 (w77.heap[gb272]? = some (.cells #[.int .u64 a2_0, .int .u64 a2_1, .int .u64 a2_2] 29 (0, 0))) := ⟨h2_⟩
                 have n3_ : Aside0 (w77.heap[gb277]? = some (.cells #[.int .u64 t274, .int .u64 t275, .int .u64 t276] 29 (0, 0))) := ⟨h3_⟩
                 have n4_ : Aside0 (w77.heap[gb283]? = some (.cells #[.int .u64 t278, .int .u64 t279, .int .u64 t280] 29 (0, 0))) := ⟨h4_⟩
                 have n5_ : Aside0 (w77.heap[gb295]? = some (.cells #[.int .u64 0, .int .u64 0] 68 (0, 0))) := ⟨h5_⟩
                 have n6_ : Aside0 (w.heap.size ≤ gb295) := ⟨h6_⟩
                 have n7_ : Aside0 (w.heap.size ≤ gb295) := ⟨h7_⟩
                 have n8_ : Aside0 (gb270 ≠ gb295) := ⟨h8_⟩
                 have n9_ : Aside0 (gb295 ≠ gb270) := ⟨h9_⟩
                 have n10_ : Aside0 (gb271 ≠ gb295) := ⟨h10_⟩
                 have n11_ : Aside0 (gb295 ≠ gb271) := ⟨h11_⟩
                 have n12_ : Aside0 (gb272 ≠ gb295) := ⟨h12_⟩
                 have n13_ : Aside0 (gb295 ≠ gb272) := ⟨h13_⟩
                 have n14_ : Aside0 (gb277 ≠ gb295) := ⟨h14_⟩
                 have n15_ : Aside0 (gb295 ≠ gb277) := ⟨h15_⟩
                 have n16_ : Aside0 (gb283 ≠ gb295) := ⟨h16_⟩
                 have n17_ : Aside0 (gb295 ≠ gb283) := ⟨h17_⟩
                 have n18_ : Aside0 (Below w.heap.size w w77) := ⟨h18_⟩
                 clear BK270; clear BK271; clear BK272; clear BK277; clear BK283; clear HB; clear h0_ h1_ h2_ h3_ h4_ h5_ h6_ h7_ h8_ h9_ h10_ h11_ h12_ h13_ h14_ h15_ h16_ h17_ h18_; have BK270 := n0_; have BK271 := n1_; have BK272 := n2_; have BK277 := n3_; have BK283 := n4_; have BK295 := n5_; have GW295 := n6_; have GE295 := n7_; have NB270_295 := n8_; have NB295_270 := n9_; have NB271_295 := n10_; have NB295_271 := n11_; have NB272_295 := n12_; have NB295_272 := n13_; have NB277_295 := n14_; have NB295_277 := n15_; have NB283_295 := n16_; have NB295_283 := n17_; have HB := n18_; clear n0_ n1_ n2_ n3_ n4_ n5_ n6_ n7_ n8_ n9_ n10_ n11_ n12_ n13_ n14_ n15_ n16_ n17_ n18_
                 have hHeld : w77.cell? ⟨gb272, 0, none⟩ = some (.int .u64 a2_0) ∧ w77.cell? ⟨gb272, 1, none⟩ = some (.int .u64 a2_1) ∧ w77.cell? ⟨gb272, 2, none⟩ = some (.int .u64 a2_2) ∧ w77.cell? ⟨gb270, 0, none⟩ = some (.int .u64 a0_0) ∧ w77.cell? ⟨gb270, 1, none⟩ = some (.int .u64 a0_1) ∧ w77.cell? ⟨gb270, 2, none⟩ = some (.int .i64 a0_2) ∧ w77.cell? ⟨gb270, 3, none⟩ = some (.int .i64 a0_3) ∧ w77.cell? ⟨gb270, 4, none⟩ = some (.int .i64 a0_4) ∧ w77.cell? ⟨gb271, 0, none⟩ = some (.int .i64 a1_0) ∧ w77.cell? ⟨gb271, 1, none⟩ = some (.int .u64 a1_1) ∧ w77.cell? ⟨gb271, 2, none⟩ = some (.int .u64 a1_2) ∧ w77.cell? ⟨gb271, 3, none⟩ = some (.int .u64 a1_3) ∧ w77.cell? ⟨gb271, 4, none⟩ = some (.int .u64 a1_4) := hS_
                 refine norm_ (a' := ?_) ?_ ?_
                 rotate_left
                 · simp only [putAll, Act.put, List.setIfInBounds_toArray, List.set_cons_zero, List.set_cons_succ]
                   rfl
                 refine one_ (i := 12) (N := none) #[true, true, true, true, true, true, true, true, true, true, true, true, true] rfl rfl (one_of HT_.out (by kernel_rfl)) (by decide) (fun K hK => ?_)
                 have hs78 : w77.cell? ⟨gb295, 0, none⟩ = some (.int .u64 0) := (blk_cell BK295.out 0).trans rfl
                 have hfs78 := blk_frozen BK295.out 0; have hns78_0 := NB270_295.out; have hns78_1 := NB271_295.out; have hns78_2 := NB272_295.out; have hns78_3 := NB277_295.out; have hns78_4 := NB283_295.out; have hms78_0 := NB295_270.out; have hms78_1 := NB295_271.out; have hms78_2 := NB295_272.out; have hms78_3 := NB295_277.out; have hms78_4 := NB295_283.out
                 have hs79 : w77.cell? ⟨gb295, 1, none⟩ = some (.int .u64 0) := (blk_cell BK295.out 1).trans rfl
                 have hfs79 := blk_frozen BK295.out 1; have hns79_0 := NB270_295.out; have hns79_1 := NB271_295.out; have hns79_2 := NB272_295.out; have hns79_3 := NB277_295.out; have hns79_4 := NB283_295.out; have hms79_0 := NB295_270.out; have hms79_1 := NB295_271.out; have hms79_2 := NB295_272.out; have hms79_3 := NB295_277.out; have hms79_4 := NB295_283.out
                 refine skip_ (w1 := ?_) (by rfl) rfl ?_ ?_
                 rotate_left
                 · go_simp
                   rfl
                 refine hK.out _ _ ⟨((cell_far (p := ⟨gb295, _, none⟩) NB272_295.out _).trans (((cell_far (p := ⟨gb295, _, none⟩) NB272_295.out _).trans (hHeld.1)))), ((cell_far (p := ⟨gb295, _, none⟩) NB272_295.out _).trans (((cell_far (p := ⟨gb295, _, none⟩) NB272_295.out _).trans (hHeld.2.1)))), ((cell_far (p := ⟨gb295, _, none⟩) NB272_295.out _).trans (((cell_far (p := ⟨gb295, _, none⟩) NB272_295.out _).trans (hHeld.2.2.1)))), ((cell_far (p := ⟨gb295, _, none⟩) NB270_295.out _).trans (((cell_far (p := ⟨gb295, _, none⟩) NB270_295.out _).trans (hHeld.2.2.2.1)))), ((cell_far (p := ⟨gb295, _, none⟩) NB270_295.out _).trans (((cell_far (p := ⟨gb295, _, none⟩) NB270_295.out _).trans (hHeld.2.2.2.2.1)))), ((cell_far (p := ⟨gb295, _, none⟩) NB270_295.out _).trans (((cell_far (p := ⟨gb295, _, none⟩) NB270_295.out _).trans (hHeld.2.2.2.2.2.1)))), ((cell_far (p := ⟨gb295, _, none⟩) NB270_295.out _).trans (((cell_far (p := ⟨gb295, _, none⟩) NB270_295.out _).trans (hHeld.2.2.2.2.2.2.1)))), ((cell_far (p := ⟨gb295, _, none⟩) NB270_295.out _).trans (((cell_far (p := ⟨gb295, _, none⟩) NB270_295.out _).trans (hHeld.2.2.2.2.2.2.2.1)))), ((cell_far (p := ⟨gb295, _, none⟩) NB271_295.out _).trans (((cell_far (p := ⟨gb295, _, none⟩) NB271_295.out _).trans (hHeld.2.2.2.2.2.2.2.2.1)))), ((cell_far (p := ⟨gb295, _, none⟩) NB271_295.out _).trans (((cell_far (p := ⟨gb295, _, none⟩) NB271_295.out _).trans (hHeld.2.2.2.2.2.2.2.2.2.1)))), ((cell_far (p := ⟨gb295, _, none⟩) NB271_295.out _).trans (((cell_far (p := ⟨gb295, _, none⟩) NB271_295.out _).trans (hHeld.2.2.2.2.2.2.2.2.2.2.1)))), ((cell_far (p := ⟨gb295, _, none⟩) NB271_295.out _).trans (((cell_far (p := ⟨gb295, _, none⟩) NB271_295.out _).trans (hHeld.2.2.2.2.2.2.2.2.2.2.2.1)))), ((cell_far (p := ⟨gb295, _, none⟩) NB271_295.out _).trans (((cell_far (p := ⟨gb295, _, none⟩) NB271_295.out _).trans (hHeld.2.2.2.2.2.2.2.2.2.2.2.2))))⟩ (fun hHeld => ?_)
                 clear hK K
                 refine done_ (done_of HT_.out (by kernel_rfl)) ?_
                 try go_wp2
                 have n0_ : Aside0 (((w77.setCell ⟨gb295, 0, none⟩ (.int .u64 t293)).setCell ⟨gb295, 1, none⟩ (.int .u64 t294)).heap[gb270]? = some (.cells #[.int .u64 a0_0, .int .u64 a0_1, .int .i64 a0_2, .int .i64 a0_3, .int .i64 a0_4] 53 (0, 0))) := ⟨bk BK270⟩
                 have n1_ : Aside0 (((w77.setCell ⟨gb295, 0, none⟩ (.int .u64 t293)).setCell ⟨gb295, 1, none⟩ (.int .u64 t294)).heap[gb271]? = some (.cells #[.int .i64 a1_0, .int .u64 a1_1, .int .u64 a1_2, .int .u64 a1_3, .int .u64 a1_4] 27 (0, 0))) := ⟨bk BK271⟩
                 have n2_ : Aside0 (((w77.setCell ⟨gb295, 0, none⟩ (.int .u64 t293)).setCell ⟨gb295, 1, none⟩ (.int .u64 t294)).heap[gb272]? = some (.cells #[.int .u64 a2_0, .int .u64 a2_1, .int .u64 a2_2] 29 (0, 0))) := ⟨bk BK272⟩
                 have n3_ : Aside0 (((w77.setCell ⟨gb295, 0, none⟩ (.int .u64 t293)).setCell ⟨gb295, 1, none⟩ (.int .u64 t294)).heap[gb277]? = some (.cells #[.int .u64 t274, .int .u64 t275, .int .u64 t276] 29 (0, 0))) := ⟨bk BK277⟩
                 have n4_ : Aside0 (((w77.setCell ⟨gb295, 0, none⟩ (.int .u64 t293)).setCell ⟨gb295, 1, none⟩ (.int .u64 t294)).heap[gb283]? = some (.cells #[.int .u64 t278, .int .u64 t279, .int .u64 t280] 29 (0, 0))) := ⟨bk BK283⟩
                 have n5_ : Aside0 (((w77.setCell ⟨gb295, 0, none⟩ (.int .u64 t293)).setCell ⟨gb295, 1, none⟩ (.int .u64 t294)).heap[gb295]? = some (.cells #[.int .u64 t293, .int .u64 t294] 68 (0, 0))) := ⟨bk BK295⟩
                 have n6_ : Aside0 (Below w.heap.size w ((w77.setCell ⟨gb295, 0, none⟩ (.int .u64 t293)).setCell ⟨gb295, 1, none⟩ (.int .u64 t294))) := ⟨bw HB⟩
                 (try clear BK270); (try clear BK271); (try clear BK272); (try clear BK277); (try clear BK283); (try clear BK295); (try clear HB)
                 generalize ((w77.setCell ⟨gb295, 0, none⟩ (.int .u64 t293)).setCell ⟨gb295, 1, none⟩ (.int .u64 t294)) = w80 at n0_ n1_ n2_ n3_ n4_ n5_ n6_ ⊢
                 have BK270 := n0_; have BK271 := n1_; have BK272 := n2_; have BK277 := n3_; have BK283 := n4_; have BK295 := n5_; have HB := n6_; clear n0_ n1_ n2_ n3_ n4_ n5_ n6_; replace BK270 := Aside0.mk (blk_drew BK270.out); replace BK271 := Aside0.mk (blk_drew BK271.out); replace BK272 := Aside0.mk (blk_drew BK272.out); replace BK277 := Aside0.mk (blk_drew BK277.out); replace BK283 := Aside0.mk (blk_drew BK283.out); replace BK295 := Aside0.mk (blk_drew BK295.out); replace HB := Aside0.mk (below_drew1 HB.out)
                 refine start_ (n := 13) (S := fun w' => w'.cell? ⟨gb272, 0, none⟩ = some (.int .u64 a2_0) ∧ w'.cell? ⟨gb272, 1, none⟩ = some (.int .u64 a2_1) ∧ w'.cell? ⟨gb272, 2, none⟩ = some (.int .u64 a2_2) ∧ w'.cell? ⟨gb270, 0, none⟩ = some (.int .u64 a0_0) ∧ w'.cell? ⟨gb270, 1, none⟩ = some (.int .u64 a0_1) ∧ w'.cell? ⟨gb270, 2, none⟩ = some (.int .i64 a0_2) ∧ w'.cell? ⟨gb270, 3, none⟩ = some (.int .i64 a0_3) ∧ w'.cell? ⟨gb270, 4, none⟩ = some (.int .i64 a0_4) ∧ w'.cell? ⟨gb271, 0, none⟩ = some (.int .i64 a1_0) ∧ w'.cell? ⟨gb271, 1, none⟩ = some (.int .u64 a1_1) ∧ w'.cell? ⟨gb271, 2, none⟩ = some (.int .u64 a1_2) ∧ w'.cell? ⟨gb271, 3, none⟩ = some (.int .u64 a1_3) ∧ w'.cell? ⟨gb271, 4, none⟩ = some (.int .u64 a1_4)) (ds := []) #[false, false, false, false, false, false, false, false, false, false, false, false, false] (by kernel_rfl) rfl rfl ⟨(blk_cell BK272.out 0).trans rfl, (blk_cell BK272.out 1).trans rfl, (blk_cell BK272.out 2).trans rfl, (blk_cell BK270.out 0).trans rfl, (blk_cell BK270.out 1).trans rfl, (blk_cell BK270.out 2).trans rfl, (blk_cell BK270.out 3).trans rfl, (blk_cell BK270.out 4).trans rfl, (blk_cell BK271.out 0).trans rfl, (blk_cell BK271.out 1).trans rfl, (blk_cell BK271.out 2).trans rfl, (blk_cell BK271.out 3).trans rfl, (blk_cell BK271.out 4).trans rfl⟩ (fun hHeld => ?_); refine with_tabW turnstilelaw17_ReserveLoss.tab12 turnstilelaw17_ReserveLoss.bits12 (fun HT_ HW_ => ?_)
                 generalize w80.drew = w81 at BK270 BK271 BK272 BK277 BK283 BK295 HB hHeld ⊢
                 refine chain_ (fuel := 7) [(0, 0, some 70), (3, 0, some 73), (7, 0, some 77), (1, 1, some 71), (4, 1, some 74), (8, 1, some 78)] #[true, true, false, true, true, false, false, true, true, false, false, false, false] HT_.out HW_.out (by kernel_rfl) (fun _ _ _ _ _ h => h) (Or.inr hHeld) rfl ?_
                 (iterate 3 refine lkP ?_); (iterate 3 refine lkT ?_); refine .nil ?_
                 refine join_ (σ := Nat) 1 #[true, true, true, true, true, true, true, true, true, true, true, true, false] (fun s_ => [(72, .agg #[.int .u64 t296, .int .u64 t297]), (75, .agg #[.int .u64 t298, .int .u64 t299]), (76, .agg #[.int .u64 t300, .int .u64 t301]), (79, .agg #[.int .u64 t302, .int .u64 t303]), (80, .agg #[.int .u64 t304, .int .u64 t305]), (16, .pointer (some ⟨s_, 0, none⟩))]) (fun s_ w' => (w'.cell? ⟨gb272, 0, none⟩ = some (.int .u64 a2_0) ∧ w'.cell? ⟨gb272, 1, none⟩ = some (.int .u64 a2_1) ∧ w'.cell? ⟨gb272, 2, none⟩ = some (.int .u64 a2_2) ∧ w'.cell? ⟨gb270, 0, none⟩ = some (.int .u64 a0_0) ∧ w'.cell? ⟨gb270, 1, none⟩ = some (.int .u64 a0_1) ∧ w'.cell? ⟨gb270, 2, none⟩ = some (.int .i64 a0_2) ∧ w'.cell? ⟨gb270, 3, none⟩ = some (.int .i64 a0_3) ∧ w'.cell? ⟨gb270, 4, none⟩ = some (.int .i64 a0_4) ∧ w'.cell? ⟨gb271, 0, none⟩ = some (.int .i64 a1_0) ∧ w'.cell? ⟨gb271, 1, none⟩ = some (.int .u64 a1_1) ∧ w'.cell? ⟨gb271, 2, none⟩ = some (.int .u64 a1_2) ∧ w'.cell? ⟨gb271, 3, none⟩ = some (.int .u64 a1_3) ∧ w'.cell? ⟨gb271, 4, none⟩ = some (.int .u64 a1_4)) ∧ (w'.heap[gb270]? = some (.cells #[.int .u64 a0_0, .int .u64 a0_1, .int .i64 a0_2, .int .i64 a0_3, .int .i64 a0_4] 53 (0, 0))) ∧ (w'.heap[gb271]? = some (.cells #[.int .i64 a1_0, .int .u64 a1_1, .int .u64 a1_2, .int .u64 a1_3, .int .u64 a1_4] 27 (0, 0))) ∧ (w'.heap[gb272]? = some (.cells #[.int .u64 a2_0, .int .u64 a2_1, .int .u64 a2_2] 29 (0, 0))) ∧ (w'.heap[gb277]? = some (.cells #[.int .u64 t274, .int .u64 t275, .int .u64 t276] 29 (0, 0))) ∧ (w'.heap[gb283]? = some (.cells #[.int .u64 t278, .int .u64 t279, .int .u64 t280] 29 (0, 0))) ∧ (w'.heap[gb295]? = some (.cells #[.int .u64 t293, .int .u64 t294] 68 (0, 0))) ∧ (w'.heap[s_]? = some (.cells #[.int .u64 0, .int .u64 0] 68 (0, 0))) ∧ (w.heap.size ≤ s_) ∧ (w.heap.size ≤ s_) ∧ (gb270 ≠ s_) ∧ (s_ ≠ gb270) ∧ (gb271 ≠ s_) ∧ (s_ ≠ gb271) ∧ (gb272 ≠ s_) ∧ (s_ ≠ gb272) ∧ (gb277 ≠ s_) ∧ (s_ ≠ gb277) ∧ (gb283 ≠ s_) ∧ (s_ ≠ gb283) ∧ (gb295 ≠ s_) ∧ (s_ ≠ gb295) ∧ (Below w.heap.size w w')) ?_ ?_
                 rotate_left
                 · intro hJ2_5_6_9_10_11
                   refine join_ (σ := Unit) 2 #[true, true, true, true, true, true, true, true, true, true, true, false, false] (fun s_ => [(72, .agg #[.int .u64 t296, .int .u64 t297]), (75, .agg #[.int .u64 t298, .int .u64 t299]), (76, .agg #[.int .u64 t300, .int .u64 t301]), (79, .agg #[.int .u64 t302, .int .u64 t303]), (80, .agg #[.int .u64 t304, .int .u64 t305])]) (fun s_ w' => (w'.cell? ⟨gb272, 0, none⟩ = some (.int .u64 a2_0) ∧ w'.cell? ⟨gb272, 1, none⟩ = some (.int .u64 a2_1) ∧ w'.cell? ⟨gb272, 2, none⟩ = some (.int .u64 a2_2) ∧ w'.cell? ⟨gb270, 0, none⟩ = some (.int .u64 a0_0) ∧ w'.cell? ⟨gb270, 1, none⟩ = some (.int .u64 a0_1) ∧ w'.cell? ⟨gb270, 2, none⟩ = some (.int .i64 a0_2) ∧ w'.cell? ⟨gb270, 3, none⟩ = some (.int .i64 a0_3) ∧ w'.cell? ⟨gb270, 4, none⟩ = some (.int .i64 a0_4) ∧ w'.cell? ⟨gb271, 0, none⟩ = some (.int .i64 a1_0) ∧ w'.cell? ⟨gb271, 1, none⟩ = some (.int .u64 a1_1) ∧ w'.cell? ⟨gb271, 2, none⟩ = some (.int .u64 a1_2) ∧ w'.cell? ⟨gb271, 3, none⟩ = some (.int .u64 a1_3) ∧ w'.cell? ⟨gb271, 4, none⟩ = some (.int .u64 a1_4)) ∧ (w'.heap[gb270]? = some (.cells #[.int .u64 a0_0, .int .u64 a0_1, .int .i64 a0_2, .int .i64 a0_3, .int .i64 a0_4] 53 (0, 0))) ∧ (w'.heap[gb271]? = some (.cells #[.int .i64 a1_0, .int .u64 a1_1, .int .u64 a1_2, .int .u64 a1_3, .int .u64 a1_4] 27 (0, 0))) ∧ (w'.heap[gb272]? = some (.cells #[.int .u64 a2_0, .int .u64 a2_1, .int .u64 a2_2] 29 (0, 0))) ∧ (w'.heap[gb277]? = some (.cells #[.int .u64 t274, .int .u64 t275, .int .u64 t276] 29 (0, 0))) ∧ (w'.heap[gb283]? = some (.cells #[.int .u64 t278, .int .u64 t279, .int .u64 t280] 29 (0, 0))) ∧ (w'.heap[gb295]? = some (.cells #[.int .u64 t293, .int .u64 t294] 68 (0, 0))) ∧ (Below w.heap.size w w')) ?_ ?_
                   rotate_left
                   · intro hJ2_5_6_9_10
                     refine join_ (σ := Nat) 2 #[true, true, true, true, true, true, true, true, true, true, false, true, false] (fun s_ => [(72, .agg #[.int .u64 t296, .int .u64 t297]), (75, .agg #[.int .u64 t298, .int .u64 t299]), (76, .agg #[.int .u64 t300, .int .u64 t301]), (79, .agg #[.int .u64 t302, .int .u64 t303]), (16, .pointer (some ⟨s_, 0, none⟩))]) (fun s_ w' => (w'.cell? ⟨gb272, 0, none⟩ = some (.int .u64 a2_0) ∧ w'.cell? ⟨gb272, 1, none⟩ = some (.int .u64 a2_1) ∧ w'.cell? ⟨gb272, 2, none⟩ = some (.int .u64 a2_2) ∧ w'.cell? ⟨gb270, 0, none⟩ = some (.int .u64 a0_0) ∧ w'.cell? ⟨gb270, 1, none⟩ = some (.int .u64 a0_1) ∧ w'.cell? ⟨gb270, 2, none⟩ = some (.int .i64 a0_2) ∧ w'.cell? ⟨gb270, 3, none⟩ = some (.int .i64 a0_3) ∧ w'.cell? ⟨gb270, 4, none⟩ = some (.int .i64 a0_4) ∧ w'.cell? ⟨gb271, 0, none⟩ = some (.int .i64 a1_0) ∧ w'.cell? ⟨gb271, 1, none⟩ = some (.int .u64 a1_1) ∧ w'.cell? ⟨gb271, 2, none⟩ = some (.int .u64 a1_2) ∧ w'.cell? ⟨gb271, 3, none⟩ = some (.int .u64 a1_3) ∧ w'.cell? ⟨gb271, 4, none⟩ = some (.int .u64 a1_4)) ∧ (w'.heap[gb270]? = some (.cells #[.int .u64 a0_0, .int .u64 a0_1, .int .i64 a0_2, .int .i64 a0_3, .int .i64 a0_4] 53 (0, 0))) ∧ (w'.heap[gb271]? = some (.cells #[.int .i64 a1_0, .int .u64 a1_1, .int .u64 a1_2, .int .u64 a1_3, .int .u64 a1_4] 27 (0, 0))) ∧ (w'.heap[gb272]? = some (.cells #[.int .u64 a2_0, .int .u64 a2_1, .int .u64 a2_2] 29 (0, 0))) ∧ (w'.heap[gb277]? = some (.cells #[.int .u64 t274, .int .u64 t275, .int .u64 t276] 29 (0, 0))) ∧ (w'.heap[gb283]? = some (.cells #[.int .u64 t278, .int .u64 t279, .int .u64 t280] 29 (0, 0))) ∧ (w'.heap[gb295]? = some (.cells #[.int .u64 t293, .int .u64 t294] 68 (0, 0))) ∧ (w'.heap[s_]? = some (.cells #[.int .u64 0, .int .u64 0] 68 (0, 0))) ∧ (w.heap.size ≤ s_) ∧ (w.heap.size ≤ s_) ∧ (gb270 ≠ s_) ∧ (s_ ≠ gb270) ∧ (gb271 ≠ s_) ∧ (s_ ≠ gb271) ∧ (gb272 ≠ s_) ∧ (s_ ≠ gb272) ∧ (gb277 ≠ s_) ∧ (s_ ≠ gb277) ∧ (gb283 ≠ s_) ∧ (s_ ≠ gb283) ∧ (gb295 ≠ s_) ∧ (s_ ≠ gb295) ∧ (Below w.heap.size w w')) ?_ ?_
                     rotate_left
                     · intro hJ2_5_6_9_11
                       refine join_ (σ := Unit) 3 #[true, true, true, true, true, true, true, true, true, true, false, false, false] (fun s_ => [(72, .agg #[.int .u64 t296, .int .u64 t297]), (75, .agg #[.int .u64 t298, .int .u64 t299]), (76, .agg #[.int .u64 t300, .int .u64 t301]), (79, .agg #[.int .u64 t302, .int .u64 t303])]) (fun s_ w' => (w'.cell? ⟨gb272, 0, none⟩ = some (.int .u64 a2_0) ∧ w'.cell? ⟨gb272, 1, none⟩ = some (.int .u64 a2_1) ∧ w'.cell? ⟨gb272, 2, none⟩ = some (.int .u64 a2_2) ∧ w'.cell? ⟨gb270, 0, none⟩ = some (.int .u64 a0_0) ∧ w'.cell? ⟨gb270, 1, none⟩ = some (.int .u64 a0_1) ∧ w'.cell? ⟨gb270, 2, none⟩ = some (.int .i64 a0_2) ∧ w'.cell? ⟨gb270, 3, none⟩ = some (.int .i64 a0_3) ∧ w'.cell? ⟨gb270, 4, none⟩ = some (.int .i64 a0_4) ∧ w'.cell? ⟨gb271, 0, none⟩ = some (.int .i64 a1_0) ∧ w'.cell? ⟨gb271, 1, none⟩ = some (.int .u64 a1_1) ∧ w'.cell? ⟨gb271, 2, none⟩ = some (.int .u64 a1_2) ∧ w'.cell? ⟨gb271, 3, none⟩ = some (.int .u64 a1_3) ∧ w'.cell? ⟨gb271, 4, none⟩ = some (.int .u64 a1_4)) ∧ (w'.heap[gb270]? = some (.cells #[.int .u64 a0_0, .int .u64 a0_1, .int .i64 a0_2, .int .i64 a0_3, .int .i64 a0_4] 53 (0, 0))) ∧ (w'.heap[gb271]? = some (.cells #[.int .i64 a1_0, .int .u64 a1_1, .int .u64 a1_2, .int .u64 a1_3, .int .u64 a1_4] 27 (0, 0))) ∧ (w'.heap[gb272]? = some (.cells #[.int .u64 a2_0, .int .u64 a2_1, .int .u64 a2_2] 29 (0, 0))) ∧ (w'.heap[gb277]? = some (.cells #[.int .u64 t274, .int .u64 t275, .int .u64 t276] 29 (0, 0))) ∧ (w'.heap[gb283]? = some (.cells #[.int .u64 t278, .int .u64 t279, .int .u64 t280] 29 (0, 0))) ∧ (w'.heap[gb295]? = some (.cells #[.int .u64 t293, .int .u64 t294] 68 (0, 0))) ∧ (Below w.heap.size w w')) ?_ ?_
                       rotate_left
                       · intro hJ2_5_6_9
                         refine join_ (σ := Nat) 3 #[true, true, true, true, true, true, true, true, true, false, false, true, false] (fun s_ => [(72, .agg #[.int .u64 t296, .int .u64 t297]), (75, .agg #[.int .u64 t298, .int .u64 t299]), (76, .agg #[.int .u64 t300, .int .u64 t301]), (16, .pointer (some ⟨s_, 0, none⟩))]) (fun s_ w' => (w'.cell? ⟨gb272, 0, none⟩ = some (.int .u64 a2_0) ∧ w'.cell? ⟨gb272, 1, none⟩ = some (.int .u64 a2_1) ∧ w'.cell? ⟨gb272, 2, none⟩ = some (.int .u64 a2_2) ∧ w'.cell? ⟨gb270, 0, none⟩ = some (.int .u64 a0_0) ∧ w'.cell? ⟨gb270, 1, none⟩ = some (.int .u64 a0_1) ∧ w'.cell? ⟨gb270, 2, none⟩ = some (.int .i64 a0_2) ∧ w'.cell? ⟨gb270, 3, none⟩ = some (.int .i64 a0_3) ∧ w'.cell? ⟨gb270, 4, none⟩ = some (.int .i64 a0_4) ∧ w'.cell? ⟨gb271, 0, none⟩ = some (.int .i64 a1_0) ∧ w'.cell? ⟨gb271, 1, none⟩ = some (.int .u64 a1_1) ∧ w'.cell? ⟨gb271, 2, none⟩ = some (.int .u64 a1_2) ∧ w'.cell? ⟨gb271, 3, none⟩ = some (.int .u64 a1_3) ∧ w'.cell? ⟨gb271, 4, none⟩ = some (.int .u64 a1_4)) ∧ (w'.heap[gb270]? = some (.cells #[.int .u64 a0_0, .int .u64 a0_1, .int .i64 a0_2, .int .i64 a0_3, .int .i64 a0_4] 53 (0, 0))) ∧ (w'.heap[gb271]? = some (.cells #[.int .i64 a1_0, .int .u64 a1_1, .int .u64 a1_2, .int .u64 a1_3, .int .u64 a1_4] 27 (0, 0))) ∧ (w'.heap[gb272]? = some (.cells #[.int .u64 a2_0, .int .u64 a2_1, .int .u64 a2_2] 29 (0, 0))) ∧ (w'.heap[gb277]? = some (.cells #[.int .u64 t274, .int .u64 t275, .int .u64 t276] 29 (0, 0))) ∧ (w'.heap[gb283]? = some (.cells #[.int .u64 t278, .int .u64 t279, .int .u64 t280] 29 (0, 0))) ∧ (w'.heap[gb295]? = some (.cells #[.int .u64 t293, .int .u64 t294] 68 (0, 0))) ∧ (w'.heap[s_]? = some (.cells #[.int .u64 0, .int .u64 0] 68 (0, 0))) ∧ (w.heap.size ≤ s_) ∧ (w.heap.size ≤ s_) ∧ (gb270 ≠ s_) ∧ (s_ ≠ gb270) ∧ (gb271 ≠ s_) ∧ (s_ ≠ gb271) ∧ (gb272 ≠ s_) ∧ (s_ ≠ gb272) ∧ (gb277 ≠ s_) ∧ (s_ ≠ gb277) ∧ (gb283 ≠ s_) ∧ (s_ ≠ gb283) ∧ (gb295 ≠ s_) ∧ (s_ ≠ gb295) ∧ (Below w.heap.size w w')) ?_ ?_
                         rotate_left
                         · intro hJ2_5_6_11
                           refine join_ (σ := Unit) 4 #[true, true, true, true, true, true, true, true, true, false, false, false, false] (fun s_ => [(72, .agg #[.int .u64 t296, .int .u64 t297]), (75, .agg #[.int .u64 t298, .int .u64 t299]), (76, .agg #[.int .u64 t300, .int .u64 t301])]) (fun s_ w' => (w'.cell? ⟨gb272, 0, none⟩ = some (.int .u64 a2_0) ∧ w'.cell? ⟨gb272, 1, none⟩ = some (.int .u64 a2_1) ∧ w'.cell? ⟨gb272, 2, none⟩ = some (.int .u64 a2_2) ∧ w'.cell? ⟨gb270, 0, none⟩ = some (.int .u64 a0_0) ∧ w'.cell? ⟨gb270, 1, none⟩ = some (.int .u64 a0_1) ∧ w'.cell? ⟨gb270, 2, none⟩ = some (.int .i64 a0_2) ∧ w'.cell? ⟨gb270, 3, none⟩ = some (.int .i64 a0_3) ∧ w'.cell? ⟨gb270, 4, none⟩ = some (.int .i64 a0_4) ∧ w'.cell? ⟨gb271, 0, none⟩ = some (.int .i64 a1_0) ∧ w'.cell? ⟨gb271, 1, none⟩ = some (.int .u64 a1_1) ∧ w'.cell? ⟨gb271, 2, none⟩ = some (.int .u64 a1_2) ∧ w'.cell? ⟨gb271, 3, none⟩ = some (.int .u64 a1_3) ∧ w'.cell? ⟨gb271, 4, none⟩ = some (.int .u64 a1_4)) ∧ (w'.heap[gb270]? = some (.cells #[.int .u64 a0_0, .int .u64 a0_1, .int .i64 a0_2, .int .i64 a0_3, .int .i64 a0_4] 53 (0, 0))) ∧ (w'.heap[gb271]? = some (.cells #[.int .i64 a1_0, .int .u64 a1_1, .int .u64 a1_2, .int .u64 a1_3, .int .u64 a1_4] 27 (0, 0))) ∧ (w'.heap[gb272]? = some (.cells #[.int .u64 a2_0, .int .u64 a2_1, .int .u64 a2_2] 29 (0, 0))) ∧ (w'.heap[gb277]? = some (.cells #[.int .u64 t274, .int .u64 t275, .int .u64 t276] 29 (0, 0))) ∧ (w'.heap[gb283]? = some (.cells #[.int .u64 t278, .int .u64 t279, .int .u64 t280] 29 (0, 0))) ∧ (w'.heap[gb295]? = some (.cells #[.int .u64 t293, .int .u64 t294] 68 (0, 0))) ∧ (Below w.heap.size w w')) ?_ ?_
                           rotate_left
                           · intro hJ2_5_6
                             refine join_ (σ := Nat) 4 #[true, true, true, true, true, true, false, true, true, false, false, true, false] (fun s_ => [(72, .agg #[.int .u64 t296, .int .u64 t297]), (75, .agg #[.int .u64 t298, .int .u64 t299]), (16, .pointer (some ⟨s_, 0, none⟩))]) (fun s_ w' => (w'.cell? ⟨gb272, 0, none⟩ = some (.int .u64 a2_0) ∧ w'.cell? ⟨gb272, 1, none⟩ = some (.int .u64 a2_1) ∧ w'.cell? ⟨gb272, 2, none⟩ = some (.int .u64 a2_2) ∧ w'.cell? ⟨gb270, 0, none⟩ = some (.int .u64 a0_0) ∧ w'.cell? ⟨gb270, 1, none⟩ = some (.int .u64 a0_1) ∧ w'.cell? ⟨gb270, 2, none⟩ = some (.int .i64 a0_2) ∧ w'.cell? ⟨gb270, 3, none⟩ = some (.int .i64 a0_3) ∧ w'.cell? ⟨gb270, 4, none⟩ = some (.int .i64 a0_4) ∧ w'.cell? ⟨gb271, 0, none⟩ = some (.int .i64 a1_0) ∧ w'.cell? ⟨gb271, 1, none⟩ = some (.int .u64 a1_1) ∧ w'.cell? ⟨gb271, 2, none⟩ = some (.int .u64 a1_2) ∧ w'.cell? ⟨gb271, 3, none⟩ = some (.int .u64 a1_3) ∧ w'.cell? ⟨gb271, 4, none⟩ = some (.int .u64 a1_4)) ∧ (w'.heap[gb270]? = some (.cells #[.int .u64 a0_0, .int .u64 a0_1, .int .i64 a0_2, .int .i64 a0_3, .int .i64 a0_4] 53 (0, 0))) ∧ (w'.heap[gb271]? = some (.cells #[.int .i64 a1_0, .int .u64 a1_1, .int .u64 a1_2, .int .u64 a1_3, .int .u64 a1_4] 27 (0, 0))) ∧ (w'.heap[gb272]? = some (.cells #[.int .u64 a2_0, .int .u64 a2_1, .int .u64 a2_2] 29 (0, 0))) ∧ (w'.heap[gb277]? = some (.cells #[.int .u64 t274, .int .u64 t275, .int .u64 t276] 29 (0, 0))) ∧ (w'.heap[gb283]? = some (.cells #[.int .u64 t278, .int .u64 t279, .int .u64 t280] 29 (0, 0))) ∧ (w'.heap[gb295]? = some (.cells #[.int .u64 t293, .int .u64 t294] 68 (0, 0))) ∧ (w'.heap[s_]? = some (.cells #[.int .u64 0, .int .u64 0] 68 (0, 0))) ∧ (w.heap.size ≤ s_) ∧ (w.heap.size ≤ s_) ∧ (gb270 ≠ s_) ∧ (s_ ≠ gb270) ∧ (gb271 ≠ s_) ∧ (s_ ≠ gb271) ∧ (gb272 ≠ s_) ∧ (s_ ≠ gb272) ∧ (gb277 ≠ s_) ∧ (s_ ≠ gb277) ∧ (gb283 ≠ s_) ∧ (s_ ≠ gb283) ∧ (gb295 ≠ s_) ∧ (s_ ≠ gb295) ∧ (Below w.heap.size w w')) ?_ ?_
                             rotate_left
                             · intro hJ2_5_11
                               refine join_ (σ := Unit) 5 #[true, true, true, true, true, true, false, true, true, false, false, false, false] (fun s_ => [(72, .agg #[.int .u64 t296, .int .u64 t297]), (75, .agg #[.int .u64 t298, .int .u64 t299])]) (fun s_ w' => (w'.cell? ⟨gb272, 0, none⟩ = some (.int .u64 a2_0) ∧ w'.cell? ⟨gb272, 1, none⟩ = some (.int .u64 a2_1) ∧ w'.cell? ⟨gb272, 2, none⟩ = some (.int .u64 a2_2) ∧ w'.cell? ⟨gb270, 0, none⟩ = some (.int .u64 a0_0) ∧ w'.cell? ⟨gb270, 1, none⟩ = some (.int .u64 a0_1) ∧ w'.cell? ⟨gb270, 2, none⟩ = some (.int .i64 a0_2) ∧ w'.cell? ⟨gb270, 3, none⟩ = some (.int .i64 a0_3) ∧ w'.cell? ⟨gb270, 4, none⟩ = some (.int .i64 a0_4) ∧ w'.cell? ⟨gb271, 0, none⟩ = some (.int .i64 a1_0) ∧ w'.cell? ⟨gb271, 1, none⟩ = some (.int .u64 a1_1) ∧ w'.cell? ⟨gb271, 2, none⟩ = some (.int .u64 a1_2) ∧ w'.cell? ⟨gb271, 3, none⟩ = some (.int .u64 a1_3) ∧ w'.cell? ⟨gb271, 4, none⟩ = some (.int .u64 a1_4)) ∧ (w'.heap[gb270]? = some (.cells #[.int .u64 a0_0, .int .u64 a0_1, .int .i64 a0_2, .int .i64 a0_3, .int .i64 a0_4] 53 (0, 0))) ∧ (w'.heap[gb271]? = some (.cells #[.int .i64 a1_0, .int .u64 a1_1, .int .u64 a1_2, .int .u64 a1_3, .int .u64 a1_4] 27 (0, 0))) ∧ (w'.heap[gb272]? = some (.cells #[.int .u64 a2_0, .int .u64 a2_1, .int .u64 a2_2] 29 (0, 0))) ∧ (w'.heap[gb277]? = some (.cells #[.int .u64 t274, .int .u64 t275, .int .u64 t276] 29 (0, 0))) ∧ (w'.heap[gb283]? = some (.cells #[.int .u64 t278, .int .u64 t279, .int .u64 t280] 29 (0, 0))) ∧ (w'.heap[gb295]? = some (.cells #[.int .u64 t293, .int .u64 t294] 68 (0, 0))) ∧ (Below w.heap.size w w')) ?_ ?_
                               rotate_left
                               · intro hJ2_5
                                 refine join_ (σ := Nat) 5 #[true, true, true, true, true, false, false, true, true, false, false, true, false] (fun s_ => [(72, .agg #[.int .u64 t296, .int .u64 t297]), (16, .pointer (some ⟨s_, 0, none⟩))]) (fun s_ w' => (w'.cell? ⟨gb272, 0, none⟩ = some (.int .u64 a2_0) ∧ w'.cell? ⟨gb272, 1, none⟩ = some (.int .u64 a2_1) ∧ w'.cell? ⟨gb272, 2, none⟩ = some (.int .u64 a2_2) ∧ w'.cell? ⟨gb270, 0, none⟩ = some (.int .u64 a0_0) ∧ w'.cell? ⟨gb270, 1, none⟩ = some (.int .u64 a0_1) ∧ w'.cell? ⟨gb270, 2, none⟩ = some (.int .i64 a0_2) ∧ w'.cell? ⟨gb270, 3, none⟩ = some (.int .i64 a0_3) ∧ w'.cell? ⟨gb270, 4, none⟩ = some (.int .i64 a0_4) ∧ w'.cell? ⟨gb271, 0, none⟩ = some (.int .i64 a1_0) ∧ w'.cell? ⟨gb271, 1, none⟩ = some (.int .u64 a1_1) ∧ w'.cell? ⟨gb271, 2, none⟩ = some (.int .u64 a1_2) ∧ w'.cell? ⟨gb271, 3, none⟩ = some (.int .u64 a1_3) ∧ w'.cell? ⟨gb271, 4, none⟩ = some (.int .u64 a1_4)) ∧ (w'.heap[gb270]? = some (.cells #[.int .u64 a0_0, .int .u64 a0_1, .int .i64 a0_2, .int .i64 a0_3, .int .i64 a0_4] 53 (0, 0))) ∧ (w'.heap[gb271]? = some (.cells #[.int .i64 a1_0, .int .u64 a1_1, .int .u64 a1_2, .int .u64 a1_3, .int .u64 a1_4] 27 (0, 0))) ∧ (w'.heap[gb272]? = some (.cells #[.int .u64 a2_0, .int .u64 a2_1, .int .u64 a2_2] 29 (0, 0))) ∧ (w'.heap[gb277]? = some (.cells #[.int .u64 t274, .int .u64 t275, .int .u64 t276] 29 (0, 0))) ∧ (w'.heap[gb283]? = some (.cells #[.int .u64 t278, .int .u64 t279, .int .u64 t280] 29 (0, 0))) ∧ (w'.heap[gb295]? = some (.cells #[.int .u64 t293, .int .u64 t294] 68 (0, 0))) ∧ (w'.heap[s_]? = some (.cells #[.int .u64 0, .int .u64 0] 68 (0, 0))) ∧ (w.heap.size ≤ s_) ∧ (w.heap.size ≤ s_) ∧ (gb270 ≠ s_) ∧ (s_ ≠ gb270) ∧ (gb271 ≠ s_) ∧ (s_ ≠ gb271) ∧ (gb272 ≠ s_) ∧ (s_ ≠ gb272) ∧ (gb277 ≠ s_) ∧ (s_ ≠ gb277) ∧ (gb283 ≠ s_) ∧ (s_ ≠ gb283) ∧ (gb295 ≠ s_) ∧ (s_ ≠ gb295) ∧ (Below w.heap.size w w')) ?_ ?_
                                 rotate_left
                                 · intro hJ2_11
                                   refine join_ (σ := Unit) 6 #[true, true, true, true, true, false, false, true, true, false, false, false, false] (fun s_ => [(72, .agg #[.int .u64 t296, .int .u64 t297])]) (fun s_ w' => (w'.cell? ⟨gb272, 0, none⟩ = some (.int .u64 a2_0) ∧ w'.cell? ⟨gb272, 1, none⟩ = some (.int .u64 a2_1) ∧ w'.cell? ⟨gb272, 2, none⟩ = some (.int .u64 a2_2) ∧ w'.cell? ⟨gb270, 0, none⟩ = some (.int .u64 a0_0) ∧ w'.cell? ⟨gb270, 1, none⟩ = some (.int .u64 a0_1) ∧ w'.cell? ⟨gb270, 2, none⟩ = some (.int .i64 a0_2) ∧ w'.cell? ⟨gb270, 3, none⟩ = some (.int .i64 a0_3) ∧ w'.cell? ⟨gb270, 4, none⟩ = some (.int .i64 a0_4) ∧ w'.cell? ⟨gb271, 0, none⟩ = some (.int .i64 a1_0) ∧ w'.cell? ⟨gb271, 1, none⟩ = some (.int .u64 a1_1) ∧ w'.cell? ⟨gb271, 2, none⟩ = some (.int .u64 a1_2) ∧ w'.cell? ⟨gb271, 3, none⟩ = some (.int .u64 a1_3) ∧ w'.cell? ⟨gb271, 4, none⟩ = some (.int .u64 a1_4)) ∧ (w'.heap[gb270]? = some (.cells #[.int .u64 a0_0, .int .u64 a0_1, .int .i64 a0_2, .int .i64 a0_3, .int .i64 a0_4] 53 (0, 0))) ∧ (w'.heap[gb271]? = some (.cells #[.int .i64 a1_0, .int .u64 a1_1, .int .u64 a1_2, .int .u64 a1_3, .int .u64 a1_4] 27 (0, 0))) ∧ (w'.heap[gb272]? = some (.cells #[.int .u64 a2_0, .int .u64 a2_1, .int .u64 a2_2] 29 (0, 0))) ∧ (w'.heap[gb277]? = some (.cells #[.int .u64 t274, .int .u64 t275, .int .u64 t276] 29 (0, 0))) ∧ (w'.heap[gb283]? = some (.cells #[.int .u64 t278, .int .u64 t279, .int .u64 t280] 29 (0, 0))) ∧ (w'.heap[gb295]? = some (.cells #[.int .u64 t293, .int .u64 t294] 68 (0, 0))) ∧ (Below w.heap.size w w')) ?_ ?_
                                   rotate_left
                                   · intro hJ2
                                     refine join_ (σ := Nat) 6 #[true, true, false, true, true, false, false, true, true, false, false, true, false] (fun s_ => [(16, .pointer (some ⟨s_, 0, none⟩))]) (fun s_ w' => (w'.cell? ⟨gb272, 0, none⟩ = some (.int .u64 a2_0) ∧ w'.cell? ⟨gb272, 1, none⟩ = some (.int .u64 a2_1) ∧ w'.cell? ⟨gb272, 2, none⟩ = some (.int .u64 a2_2) ∧ w'.cell? ⟨gb270, 0, none⟩ = some (.int .u64 a0_0) ∧ w'.cell? ⟨gb270, 1, none⟩ = some (.int .u64 a0_1) ∧ w'.cell? ⟨gb270, 2, none⟩ = some (.int .i64 a0_2) ∧ w'.cell? ⟨gb270, 3, none⟩ = some (.int .i64 a0_3) ∧ w'.cell? ⟨gb270, 4, none⟩ = some (.int .i64 a0_4) ∧ w'.cell? ⟨gb271, 0, none⟩ = some (.int .i64 a1_0) ∧ w'.cell? ⟨gb271, 1, none⟩ = some (.int .u64 a1_1) ∧ w'.cell? ⟨gb271, 2, none⟩ = some (.int .u64 a1_2) ∧ w'.cell? ⟨gb271, 3, none⟩ = some (.int .u64 a1_3) ∧ w'.cell? ⟨gb271, 4, none⟩ = some (.int .u64 a1_4)) ∧ (w'.heap[gb270]? = some (.cells #[.int .u64 a0_0, .int .u64 a0_1, .int .i64 a0_2, .int .i64 a0_3, .int .i64 a0_4] 53 (0, 0))) ∧ (w'.heap[gb271]? = some (.cells #[.int .i64 a1_0, .int .u64 a1_1, .int .u64 a1_2, .int .u64 a1_3, .int .u64 a1_4] 27 (0, 0))) ∧ (w'.heap[gb272]? = some (.cells #[.int .u64 a2_0, .int .u64 a2_1, .int .u64 a2_2] 29 (0, 0))) ∧ (w'.heap[gb277]? = some (.cells #[.int .u64 t274, .int .u64 t275, .int .u64 t276] 29 (0, 0))) ∧ (w'.heap[gb283]? = some (.cells #[.int .u64 t278, .int .u64 t279, .int .u64 t280] 29 (0, 0))) ∧ (w'.heap[gb295]? = some (.cells #[.int .u64 t293, .int .u64 t294] 68 (0, 0))) ∧ (w'.heap[s_]? = some (.cells #[.int .u64 0, .int .u64 0] 68 (0, 0))) ∧ (w.heap.size ≤ s_) ∧ (w.heap.size ≤ s_) ∧ (gb270 ≠ s_) ∧ (s_ ≠ gb270) ∧ (gb271 ≠ s_) ∧ (s_ ≠ gb271) ∧ (gb272 ≠ s_) ∧ (s_ ≠ gb272) ∧ (gb277 ≠ s_) ∧ (s_ ≠ gb277) ∧ (gb283 ≠ s_) ∧ (s_ ≠ gb283) ∧ (gb295 ≠ s_) ∧ (s_ ≠ gb295) ∧ (Below w.heap.size w w')) ?_ ?_
                                     rotate_left
                                     · intro hJ11
                                       refine two_ (i := 2) (j := 11) (Ni := some 72) (Nj := some 16) #[true, true, true, true, true, false, false, true, true, false, false, false, false] #[true, true, false, true, true, false, false, true, true, false, false, true, false] rfl rfl rfl rfl (two_of HT_.out (by kernel_rfl)) (by decide) (by decide) (fun K hK => ?_) (fun K hK => ?_)
                                       · skip
                                         refine ge Try.func33 #[.int .u64 a2_0] ?_
                                         with_reducible refine (sat_Of.calls a2_0 t296 t297 _ A64.out).mono ?_
                                         rintro e w82 ⟨rfl, hb⟩
                                         refine ⟨_, rfl, ?_⟩
                                         replace BK270 := bb BK270 hb; replace BK271 := bb BK271 hb; replace BK272 := bb BK272 hb; replace BK277 := bb BK277 hb; replace BK283 := bb BK283 hb; replace BK295 := bb BK295 hb; replace HB := bs HB hb; (try clear hb); (try clear hb2); (try clear hk); (try clear hi)
                                         refine hK.out _ _ ⟨(blk_cell BK272.out 0).trans rfl, (blk_cell BK272.out 1).trans rfl, (blk_cell BK272.out 2).trans rfl, (blk_cell BK270.out 0).trans rfl, (blk_cell BK270.out 1).trans rfl, (blk_cell BK270.out 2).trans rfl, (blk_cell BK270.out 3).trans rfl, (blk_cell BK270.out 4).trans rfl, (blk_cell BK271.out 0).trans rfl, (blk_cell BK271.out 1).trans rfl, (blk_cell BK271.out 2).trans rfl, (blk_cell BK271.out 3).trans rfl, (blk_cell BK271.out 4).trans rfl⟩ (fun hHeld => ?_)
                                         clear hK K
                                         refine norm_ (a' := ?_) ?_ ?_
                                         rotate_left
                                         · show Act.put _ (some 72) _ = _
                                           simp only [Act.put, List.setIfInBounds_toArray, List.set_cons_zero, List.set_cons_succ, i64_w, i32_w]
                                           rfl
                                         exact norm_ (by first | (simp only [putAll, Act.put, List.setIfInBounds_toArray, List.set_cons_zero, List.set_cons_succ]; done) | (simp only [putAll, Act.put, List.setIfInBounds_toArray, List.set_cons_zero, List.set_cons_succ]; rfl)) (hJ2 () _ ⟨hHeld, (bk BK270), (bk BK271), (bk BK272), (bk BK277), (bk BK283), (bk BK295), (bw HB)⟩)
                                       · skip
                                         refine box_step ?hg (N := 16) ?hd (cs := #[.int .u64 0, .int .u64 0]) (t := 68) ?hr ?_; (case hd => rfl); (case hg => rfl); (case hr => first | (go_simp; done) | (go_simp; rfl))
                                         intro gb306 hg w82 hbox hb
                                         have BK306 := Aside0.mk (hbox); have GW306 := sz HB hg; have GE306 := sz HB hg; have NB270_306 := nl BK270 hg; have NB306_270 := nr BK270 hg; have NB271_306 := nl BK271 hg; have NB306_271 := nr BK271 hg; have NB272_306 := nl BK272 hg; have NB306_272 := nr BK272 hg; have NB277_306 := nl BK277 hg; have NB306_277 := nr BK277 hg; have NB283_306 := nl BK283 hg; have NB306_283 := nr BK283 hg; have NB295_306 := nl BK295 hg; have NB306_295 := nr BK295 hg; replace BK270 := bb BK270 hb; replace BK271 := bb BK271 hb; replace BK272 := bb BK272 hb; replace BK277 := bb BK277 hb; replace BK283 := bb BK283 hb; replace BK295 := bb BK295 hb; replace HB := bs HB hb; clear hb hbox hg
                                         refine hK.out _ _ ⟨(blk_cell BK272.out 0).trans rfl, (blk_cell BK272.out 1).trans rfl, (blk_cell BK272.out 2).trans rfl, (blk_cell BK270.out 0).trans rfl, (blk_cell BK270.out 1).trans rfl, (blk_cell BK270.out 2).trans rfl, (blk_cell BK270.out 3).trans rfl, (blk_cell BK270.out 4).trans rfl, (blk_cell BK271.out 0).trans rfl, (blk_cell BK271.out 1).trans rfl, (blk_cell BK271.out 2).trans rfl, (blk_cell BK271.out 3).trans rfl, (blk_cell BK271.out 4).trans rfl⟩ (fun hHeld => ?_)
                                         clear hK K
                                         refine norm_ (a' := ?_) ?_ ?_
                                         rotate_left
                                         · show Act.put _ (some 16) _ = _
                                           simp only [Act.put, List.setIfInBounds_toArray, List.set_cons_zero, List.set_cons_succ, i64_w, i32_w]
                                           rfl
                                         exact norm_ (by first | (simp only [putAll, Act.put, List.setIfInBounds_toArray, List.set_cons_zero, List.set_cons_succ]; done) | (simp only [putAll, Act.put, List.setIfInBounds_toArray, List.set_cons_zero, List.set_cons_succ]; rfl)) (hJ11 (gb306) _ ⟨hHeld, (bk BK270), (bk BK271), (bk BK272), (bk BK277), (bk BK283), (bk BK295), (bk BK306), GW306.out, GE306.out, NB270_306.out, NB306_270.out, NB271_306.out, NB306_271.out, NB272_306.out, NB306_272.out, NB277_306.out, NB306_277.out, NB283_306.out, NB306_283.out, NB295_306.out, NB306_295.out, (bw HB)⟩)
                                     · skip
                                       rintro gb306 w83 ⟨hS_, h0_, h1_, h2_, h3_, h4_, h5_, h6_, h7_, h8_, h9_, h10_, h11_, h12_, h13_, h14_, h15_, h16_, h17_, h18_, h19_, h20_, h21_⟩
                                       have n0_ : Aside0 (w83.heap[gb270]? = some (.cells #[.int .u64 a0_0, .int .u64 a0_1, .int .i64 a0_2, .int .i64 a0_3, .int .i64 a0_4] 53 (0, 0))) := ⟨h0_⟩
                                       have n1_ : Aside0 (w83.heap[gb271]? = some (.cells #[.int .i64 a1_0, .int .u64 a1_1, .int .u64 a1_2, .int .u64 a1_3, .int .u64 a1_4] 27 (0, 0))) := ⟨h1_⟩
                                       have n2_ : Aside0 (w83.heap[gb272]? = some (.cells #[.int .u64 a2_0, .int .u64 a2_1, .int .u64 a2_2] 29 (0, 0))) := ⟨h2_⟩
                                       have n3_ : Aside0 (w83.heap[gb277]? = some (.cells #[.int .u64 t274, .int .u64 t275, .int .u64 t276] 29 (0, 0))) := ⟨h3_⟩
                                       have n4_ : Aside0 (w83.heap[gb283]? = some (.cells #[.int .u64 t278, .int .u64 t279, .int .u64 t280] 29 (0, 0))) := ⟨h4_⟩
                                       have n5_ : Aside0 (w83.heap[gb295]? = some (.cells #[.int .u64 t293, .int .u64 t294] 68 (0, 0))) := ⟨h5_⟩
                                       have n6_ : Aside0 (w83.heap[gb306]? = some (.cells #[.int .u64 0, .int .u64 0] 68 (0, 0))) := ⟨h6_⟩
                                       have n7_ : Aside0 (w.heap.size ≤ gb306) := ⟨h7_⟩
                                       have n8_ : Aside0 (w.heap.size ≤ gb306) := ⟨h8_⟩
                                       have n9_ : Aside0 (gb270 ≠ gb306) := ⟨h9_⟩
                                       have n10_ : Aside0 (gb306 ≠ gb270) := ⟨h10_⟩
                                       have n11_ : Aside0 (gb271 ≠ gb306) := ⟨h11_⟩
                                       have n12_ : Aside0 (gb306 ≠ gb271) := ⟨h12_⟩
                                       have n13_ : Aside0 (gb272 ≠ gb306) := ⟨h13_⟩
                                       have n14_ : Aside0 (gb306 ≠ gb272) := ⟨h14_⟩
                                       have n15_ : Aside0 (gb277 ≠ gb306) := ⟨h15_⟩
                                       have n16_ : Aside0 (gb306 ≠ gb277) := ⟨h16_⟩
                                       have n17_ : Aside0 (gb283 ≠ gb306) := ⟨h17_⟩
                                       have n18_ : Aside0 (gb306 ≠ gb283) := ⟨h18_⟩
                                       have n19_ : Aside0 (gb295 ≠ gb306) := ⟨h19_⟩
                                       have n20_ : Aside0 (gb306 ≠ gb295) := ⟨h20_⟩
                                       have n21_ : Aside0 (Below w.heap.size w w83) := ⟨h21_⟩
                                       clear BK270; clear BK271; clear BK272; clear BK277; clear BK283; clear BK295; clear HB; clear h0_ h1_ h2_ h3_ h4_ h5_ h6_ h7_ h8_ h9_ h10_ h11_ h12_ h13_ h14_ h15_ h16_ h17_ h18_ h19_ h20_ h21_; have BK270 := n0_; have BK271 := n1_; have BK272 := n2_; have BK277 := n3_; have BK283 := n4_; have BK295 := n5_; have BK306 := n6_; have GW306 := n7_; have GE306 := n8_; have NB270_306 := n9_; have NB306_270 := n10_; have NB271_306 := n11_; have NB306_271 := n12_; have NB272_306 := n13_; have NB306_272 := n14_; have NB277_306 := n15_; have NB306_277 := n16_; have NB283_306 := n17_; have NB306_283 := n18_; have NB295_306 := n19_; have NB306_295 := n20_; have HB := n21_; clear n0_ n1_ n2_ n3_ n4_ n5_ n6_ n7_ n8_ n9_ n10_ n11_ n12_ n13_ n14_ n15_ n16_ n17_ n18_ n19_ n20_ n21_
                                       have hHeld : w83.cell? ⟨gb272, 0, none⟩ = some (.int .u64 a2_0) ∧ w83.cell? ⟨gb272, 1, none⟩ = some (.int .u64 a2_1) ∧ w83.cell? ⟨gb272, 2, none⟩ = some (.int .u64 a2_2) ∧ w83.cell? ⟨gb270, 0, none⟩ = some (.int .u64 a0_0) ∧ w83.cell? ⟨gb270, 1, none⟩ = some (.int .u64 a0_1) ∧ w83.cell? ⟨gb270, 2, none⟩ = some (.int .i64 a0_2) ∧ w83.cell? ⟨gb270, 3, none⟩ = some (.int .i64 a0_3) ∧ w83.cell? ⟨gb270, 4, none⟩ = some (.int .i64 a0_4) ∧ w83.cell? ⟨gb271, 0, none⟩ = some (.int .i64 a1_0) ∧ w83.cell? ⟨gb271, 1, none⟩ = some (.int .u64 a1_1) ∧ w83.cell? ⟨gb271, 2, none⟩ = some (.int .u64 a1_2) ∧ w83.cell? ⟨gb271, 3, none⟩ = some (.int .u64 a1_3) ∧ w83.cell? ⟨gb271, 4, none⟩ = some (.int .u64 a1_4) := hS_
                                       refine norm_ (a' := ?_) ?_ ?_
                                       rotate_left
                                       · simp only [putAll, Act.put, List.setIfInBounds_toArray, List.set_cons_zero, List.set_cons_succ]
                                         rfl
                                       refine one_ (i := 2) (N := some 72) #[true, true, true, true, true, false, false, true, true, false, false, true, false] rfl rfl (one_of HT_.out (by kernel_rfl)) (by decide) (fun K hK => ?_)
                                       refine ge Try.func33 #[.int .u64 a2_0] ?_
                                       with_reducible refine (sat_Of.calls a2_0 t296 t297 _ A64.out).mono ?_
                                       rintro e w84 ⟨rfl, hb⟩
                                       refine ⟨_, rfl, ?_⟩
                                       replace BK270 := bb BK270 hb; replace BK271 := bb BK271 hb; replace BK272 := bb BK272 hb; replace BK277 := bb BK277 hb; replace BK283 := bb BK283 hb; replace BK295 := bb BK295 hb; replace BK306 := bb BK306 hb; replace HB := bs HB hb; (try clear hb); (try clear hb2); (try clear hk); (try clear hi)
                                       refine hK.out _ _ ⟨(blk_cell BK272.out 0).trans rfl, (blk_cell BK272.out 1).trans rfl, (blk_cell BK272.out 2).trans rfl, (blk_cell BK270.out 0).trans rfl, (blk_cell BK270.out 1).trans rfl, (blk_cell BK270.out 2).trans rfl, (blk_cell BK270.out 3).trans rfl, (blk_cell BK270.out 4).trans rfl, (blk_cell BK271.out 0).trans rfl, (blk_cell BK271.out 1).trans rfl, (blk_cell BK271.out 2).trans rfl, (blk_cell BK271.out 3).trans rfl, (blk_cell BK271.out 4).trans rfl⟩ (fun hHeld => ?_)
                                       clear hK K
                                       refine norm_ (a' := ?_) ?_ ?_
                                       rotate_left
                                       · show Act.put _ (some 72) _ = _
                                         simp only [Act.put, List.setIfInBounds_toArray, List.set_cons_zero, List.set_cons_succ, i64_w, i32_w]
                                         rfl
                                       exact norm_ (by first | (simp only [putAll, Act.put, List.setIfInBounds_toArray, List.set_cons_zero, List.set_cons_succ]; done) | (simp only [putAll, Act.put, List.setIfInBounds_toArray, List.set_cons_zero, List.set_cons_succ]; rfl)) (hJ2_11 (gb306) _ ⟨hHeld, (bk BK270), (bk BK271), (bk BK272), (bk BK277), (bk BK283), (bk BK295), (bk BK306), GW306.out, GE306.out, NB270_306.out, NB306_270.out, NB271_306.out, NB306_271.out, NB272_306.out, NB306_272.out, NB277_306.out, NB306_277.out, NB283_306.out, NB306_283.out, NB295_306.out, NB306_295.out, (bw HB)⟩)
                                   · skip
                                     rintro _ w83 ⟨hS_, h0_, h1_, h2_, h3_, h4_, h5_, h6_⟩
                                     have n0_ : Aside0 (w83.heap[gb270]? = some (.cells #[.int .u64 a0_0, .int .u64 a0_1, .int .i64 a0_2, .int .i64 a0_3, .int .i64 a0_4] 53 (0, 0))) := ⟨h0_⟩
                                     have n1_ : Aside0 (w83.heap[gb271]? = some (.cells #[.int .i64 a1_0, .int .u64 a1_1, .int .u64 a1_2, .int .u64 a1_3, .int .u64 a1_4] 27 (0, 0))) := ⟨h1_⟩
                                     have n2_ : Aside0 (w83.heap[gb272]? = some (.cells #[.int .u64 a2_0, .int .u64 a2_1, .int .u64 a2_2] 29 (0, 0))) := ⟨h2_⟩
                                     have n3_ : Aside0 (w83.heap[gb277]? = some (.cells #[.int .u64 t274, .int .u64 t275, .int .u64 t276] 29 (0, 0))) := ⟨h3_⟩
                                     have n4_ : Aside0 (w83.heap[gb283]? = some (.cells #[.int .u64 t278, .int .u64 t279, .int .u64 t280] 29 (0, 0))) := ⟨h4_⟩
                                     have n5_ : Aside0 (w83.heap[gb295]? = some (.cells #[.int .u64 t293, .int .u64 t294] 68 (0, 0))) := ⟨h5_⟩
                                     have n6_ : Aside0 (Below w.heap.size w w83) := ⟨h6_⟩
                                     clear BK270; clear BK271; clear BK272; clear BK277; clear BK283; clear BK295; clear HB; clear h0_ h1_ h2_ h3_ h4_ h5_ h6_; have BK270 := n0_; have BK271 := n1_; have BK272 := n2_; have BK277 := n3_; have BK283 := n4_; have BK295 := n5_; have HB := n6_; clear n0_ n1_ n2_ n3_ n4_ n5_ n6_
                                     have hHeld : w83.cell? ⟨gb272, 0, none⟩ = some (.int .u64 a2_0) ∧ w83.cell? ⟨gb272, 1, none⟩ = some (.int .u64 a2_1) ∧ w83.cell? ⟨gb272, 2, none⟩ = some (.int .u64 a2_2) ∧ w83.cell? ⟨gb270, 0, none⟩ = some (.int .u64 a0_0) ∧ w83.cell? ⟨gb270, 1, none⟩ = some (.int .u64 a0_1) ∧ w83.cell? ⟨gb270, 2, none⟩ = some (.int .i64 a0_2) ∧ w83.cell? ⟨gb270, 3, none⟩ = some (.int .i64 a0_3) ∧ w83.cell? ⟨gb270, 4, none⟩ = some (.int .i64 a0_4) ∧ w83.cell? ⟨gb271, 0, none⟩ = some (.int .i64 a1_0) ∧ w83.cell? ⟨gb271, 1, none⟩ = some (.int .u64 a1_1) ∧ w83.cell? ⟨gb271, 2, none⟩ = some (.int .u64 a1_2) ∧ w83.cell? ⟨gb271, 3, none⟩ = some (.int .u64 a1_3) ∧ w83.cell? ⟨gb271, 4, none⟩ = some (.int .u64 a1_4) := hS_
                                     refine norm_ (a' := ?_) ?_ ?_
                                     rotate_left
                                     · simp only [putAll, Act.put, List.setIfInBounds_toArray, List.set_cons_zero, List.set_cons_succ]
                                       rfl
                                     refine two_ (i := 5) (j := 11) (Ni := some 75) (Nj := some 16) #[true, true, true, true, true, true, false, true, true, false, false, false, false] #[true, true, true, true, true, false, false, true, true, false, false, true, false] rfl rfl rfl rfl (two_of HT_.out (by kernel_rfl)) (by decide) (by decide) (fun K hK => ?_) (fun K hK => ?_)
                                     · skip
                                       refine ge Try.func33 #[.int .u64 a0_0] ?_
                                       with_reducible refine (sat_Of.calls a0_0 t298 t299 _ A65.out).mono ?_
                                       rintro e w84 ⟨rfl, hb⟩
                                       refine ⟨_, rfl, ?_⟩
                                       replace BK270 := bb BK270 hb; replace BK271 := bb BK271 hb; replace BK272 := bb BK272 hb; replace BK277 := bb BK277 hb; replace BK283 := bb BK283 hb; replace BK295 := bb BK295 hb; replace HB := bs HB hb; (try clear hb); (try clear hb2); (try clear hk); (try clear hi)
                                       refine hK.out _ _ ⟨(blk_cell BK272.out 0).trans rfl, (blk_cell BK272.out 1).trans rfl, (blk_cell BK272.out 2).trans rfl, (blk_cell BK270.out 0).trans rfl, (blk_cell BK270.out 1).trans rfl, (blk_cell BK270.out 2).trans rfl, (blk_cell BK270.out 3).trans rfl, (blk_cell BK270.out 4).trans rfl, (blk_cell BK271.out 0).trans rfl, (blk_cell BK271.out 1).trans rfl, (blk_cell BK271.out 2).trans rfl, (blk_cell BK271.out 3).trans rfl, (blk_cell BK271.out 4).trans rfl⟩ (fun hHeld => ?_)
                                       clear hK K
                                       refine norm_ (a' := ?_) ?_ ?_
                                       rotate_left
                                       · show Act.put _ (some 75) _ = _
                                         simp only [Act.put, List.setIfInBounds_toArray, List.set_cons_zero, List.set_cons_succ, i64_w, i32_w]
                                         rfl
                                       exact norm_ (by first | (simp only [putAll, Act.put, List.setIfInBounds_toArray, List.set_cons_zero, List.set_cons_succ]; done) | (simp only [putAll, Act.put, List.setIfInBounds_toArray, List.set_cons_zero, List.set_cons_succ]; rfl)) (hJ2_5 () _ ⟨hHeld, (bk BK270), (bk BK271), (bk BK272), (bk BK277), (bk BK283), (bk BK295), (bw HB)⟩)
                                     · skip
                                       refine box_step ?hg (N := 16) ?hd (cs := #[.int .u64 0, .int .u64 0]) (t := 68) ?hr ?_; (case hd => rfl); (case hg => rfl); (case hr => first | (go_simp; done) | (go_simp; rfl))
                                       intro gb306 hg w84 hbox hb
                                       have BK306 := Aside0.mk (hbox); have GW306 := sz HB hg; have GE306 := sz HB hg; have NB270_306 := nl BK270 hg; have NB306_270 := nr BK270 hg; have NB271_306 := nl BK271 hg; have NB306_271 := nr BK271 hg; have NB272_306 := nl BK272 hg; have NB306_272 := nr BK272 hg; have NB277_306 := nl BK277 hg; have NB306_277 := nr BK277 hg; have NB283_306 := nl BK283 hg; have NB306_283 := nr BK283 hg; have NB295_306 := nl BK295 hg; have NB306_295 := nr BK295 hg; replace BK270 := bb BK270 hb; replace BK271 := bb BK271 hb; replace BK272 := bb BK272 hb; replace BK277 := bb BK277 hb; replace BK283 := bb BK283 hb; replace BK295 := bb BK295 hb; replace HB := bs HB hb; clear hb hbox hg
                                       refine hK.out _ _ ⟨(blk_cell BK272.out 0).trans rfl, (blk_cell BK272.out 1).trans rfl, (blk_cell BK272.out 2).trans rfl, (blk_cell BK270.out 0).trans rfl, (blk_cell BK270.out 1).trans rfl, (blk_cell BK270.out 2).trans rfl, (blk_cell BK270.out 3).trans rfl, (blk_cell BK270.out 4).trans rfl, (blk_cell BK271.out 0).trans rfl, (blk_cell BK271.out 1).trans rfl, (blk_cell BK271.out 2).trans rfl, (blk_cell BK271.out 3).trans rfl, (blk_cell BK271.out 4).trans rfl⟩ (fun hHeld => ?_)
                                       clear hK K
                                       refine norm_ (a' := ?_) ?_ ?_
                                       rotate_left
                                       · show Act.put _ (some 16) _ = _
                                         simp only [Act.put, List.setIfInBounds_toArray, List.set_cons_zero, List.set_cons_succ, i64_w, i32_w]
                                         rfl
                                       exact norm_ (by first | (simp only [putAll, Act.put, List.setIfInBounds_toArray, List.set_cons_zero, List.set_cons_succ]; done) | (simp only [putAll, Act.put, List.setIfInBounds_toArray, List.set_cons_zero, List.set_cons_succ]; rfl)) (hJ2_11 (gb306) _ ⟨hHeld, (bk BK270), (bk BK271), (bk BK272), (bk BK277), (bk BK283), (bk BK295), (bk BK306), GW306.out, GE306.out, NB270_306.out, NB306_270.out, NB271_306.out, NB306_271.out, NB272_306.out, NB306_272.out, NB277_306.out, NB306_277.out, NB283_306.out, NB306_283.out, NB295_306.out, NB306_295.out, (bw HB)⟩)
                                 · skip
                                   rintro gb306 w84 ⟨hS_, h0_, h1_, h2_, h3_, h4_, h5_, h6_, h7_, h8_, h9_, h10_, h11_, h12_, h13_, h14_, h15_, h16_, h17_, h18_, h19_, h20_, h21_⟩
                                   have n0_ : Aside0 (w84.heap[gb270]? = some (.cells #[.int .u64 a0_0, .int .u64 a0_1, .int .i64 a0_2, .int .i64 a0_3, .int .i64 a0_4] 53 (0, 0))) := ⟨h0_⟩
                                   have n1_ : Aside0 (w84.heap[gb271]? = some (.cells #[.int .i64 a1_0, .int .u64 a1_1, .int .u64 a1_2, .int .u64 a1_3, .int .u64 a1_4] 27 (0, 0))) := ⟨h1_⟩
                                   have n2_ : Aside0 (w84.heap[gb272]? = some (.cells #[.int .u64 a2_0, .int .u64 a2_1, .int .u64 a2_2] 29 (0, 0))) := ⟨h2_⟩
                                   have n3_ : Aside0 (w84.heap[gb277]? = some (.cells #[.int .u64 t274, .int .u64 t275, .int .u64 t276] 29 (0, 0))) := ⟨h3_⟩
                                   have n4_ : Aside0 (w84.heap[gb283]? = some (.cells #[.int .u64 t278, .int .u64 t279, .int .u64 t280] 29 (0, 0))) := ⟨h4_⟩
                                   have n5_ : Aside0 (w84.heap[gb295]? = some (.cells #[.int .u64 t293, .int .u64 t294] 68 (0, 0))) := ⟨h5_⟩
                                   have n6_ : Aside0 (w84.heap[gb306]? = some (.cells #[.int .u64 0, .int .u64 0] 68 (0, 0))) := ⟨h6_⟩
                                   have n7_ : Aside0 (w.heap.size ≤ gb306) := ⟨h7_⟩
                                   have n8_ : Aside0 (w.heap.size ≤ gb306) := ⟨h8_⟩
                                   have n9_ : Aside0 (gb270 ≠ gb306) := ⟨h9_⟩
                                   have n10_ : Aside0 (gb306 ≠ gb270) := ⟨h10_⟩
                                   have n11_ : Aside0 (gb271 ≠ gb306) := ⟨h11_⟩
                                   have n12_ : Aside0 (gb306 ≠ gb271) := ⟨h12_⟩
                                   have n13_ : Aside0 (gb272 ≠ gb306) := ⟨h13_⟩
                                   have n14_ : Aside0 (gb306 ≠ gb272) := ⟨h14_⟩
                                   have n15_ : Aside0 (gb277 ≠ gb306) := ⟨h15_⟩
                                   have n16_ : Aside0 (gb306 ≠ gb277) := ⟨h16_⟩
                                   have n17_ : Aside0 (gb283 ≠ gb306) := ⟨h17_⟩
                                   have n18_ : Aside0 (gb306 ≠ gb283) := ⟨h18_⟩
                                   have n19_ : Aside0 (gb295 ≠ gb306) := ⟨h19_⟩
                                   have n20_ : Aside0 (gb306 ≠ gb295) := ⟨h20_⟩
                                   have n21_ : Aside0 (Below w.heap.size w w84) := ⟨h21_⟩
                                   clear BK270; clear BK271; clear BK272; clear BK277; clear BK283; clear BK295; clear HB; clear h0_ h1_ h2_ h3_ h4_ h5_ h6_ h7_ h8_ h9_ h10_ h11_ h12_ h13_ h14_ h15_ h16_ h17_ h18_ h19_ h20_ h21_; have BK270 := n0_; have BK271 := n1_; have BK272 := n2_; have BK277 := n3_; have BK283 := n4_; have BK295 := n5_; have BK306 := n6_; have GW306 := n7_; have GE306 := n8_; have NB270_306 := n9_; have NB306_270 := n10_; have NB271_306 := n11_; have NB306_271 := n12_; have NB272_306 := n13_; have NB306_272 := n14_; have NB277_306 := n15_; have NB306_277 := n16_; have NB283_306 := n17_; have NB306_283 := n18_; have NB295_306 := n19_; have NB306_295 := n20_; have HB := n21_; clear n0_ n1_ n2_ n3_ n4_ n5_ n6_ n7_ n8_ n9_ n10_ n11_ n12_ n13_ n14_ n15_ n16_ n17_ n18_ n19_ n20_ n21_
                                   have hHeld : w84.cell? ⟨gb272, 0, none⟩ = some (.int .u64 a2_0) ∧ w84.cell? ⟨gb272, 1, none⟩ = some (.int .u64 a2_1) ∧ w84.cell? ⟨gb272, 2, none⟩ = some (.int .u64 a2_2) ∧ w84.cell? ⟨gb270, 0, none⟩ = some (.int .u64 a0_0) ∧ w84.cell? ⟨gb270, 1, none⟩ = some (.int .u64 a0_1) ∧ w84.cell? ⟨gb270, 2, none⟩ = some (.int .i64 a0_2) ∧ w84.cell? ⟨gb270, 3, none⟩ = some (.int .i64 a0_3) ∧ w84.cell? ⟨gb270, 4, none⟩ = some (.int .i64 a0_4) ∧ w84.cell? ⟨gb271, 0, none⟩ = some (.int .i64 a1_0) ∧ w84.cell? ⟨gb271, 1, none⟩ = some (.int .u64 a1_1) ∧ w84.cell? ⟨gb271, 2, none⟩ = some (.int .u64 a1_2) ∧ w84.cell? ⟨gb271, 3, none⟩ = some (.int .u64 a1_3) ∧ w84.cell? ⟨gb271, 4, none⟩ = some (.int .u64 a1_4) := hS_
                                   refine norm_ (a' := ?_) ?_ ?_
                                   rotate_left
                                   · simp only [putAll, Act.put, List.setIfInBounds_toArray, List.set_cons_zero, List.set_cons_succ]
                                     rfl
                                   refine one_ (i := 5) (N := some 75) #[true, true, true, true, true, true, false, true, true, false, false, true, false] rfl rfl (one_of HT_.out (by kernel_rfl)) (by decide) (fun K hK => ?_)
                                   refine ge Try.func33 #[.int .u64 a0_0] ?_
                                   with_reducible refine (sat_Of.calls a0_0 t298 t299 _ A65.out).mono ?_
                                   rintro e w85 ⟨rfl, hb⟩
                                   refine ⟨_, rfl, ?_⟩
                                   replace BK270 := bb BK270 hb; replace BK271 := bb BK271 hb; replace BK272 := bb BK272 hb; replace BK277 := bb BK277 hb; replace BK283 := bb BK283 hb; replace BK295 := bb BK295 hb; replace BK306 := bb BK306 hb; replace HB := bs HB hb; (try clear hb); (try clear hb2); (try clear hk); (try clear hi)
                                   refine hK.out _ _ ⟨(blk_cell BK272.out 0).trans rfl, (blk_cell BK272.out 1).trans rfl, (blk_cell BK272.out 2).trans rfl, (blk_cell BK270.out 0).trans rfl, (blk_cell BK270.out 1).trans rfl, (blk_cell BK270.out 2).trans rfl, (blk_cell BK270.out 3).trans rfl, (blk_cell BK270.out 4).trans rfl, (blk_cell BK271.out 0).trans rfl, (blk_cell BK271.out 1).trans rfl, (blk_cell BK271.out 2).trans rfl, (blk_cell BK271.out 3).trans rfl, (blk_cell BK271.out 4).trans rfl⟩ (fun hHeld => ?_)
                                   clear hK K
                                   refine norm_ (a' := ?_) ?_ ?_
                                   rotate_left
                                   · show Act.put _ (some 75) _ = _
                                     simp only [Act.put, List.setIfInBounds_toArray, List.set_cons_zero, List.set_cons_succ, i64_w, i32_w]
                                     rfl
                                   exact norm_ (by first | (simp only [putAll, Act.put, List.setIfInBounds_toArray, List.set_cons_zero, List.set_cons_succ]; done) | (simp only [putAll, Act.put, List.setIfInBounds_toArray, List.set_cons_zero, List.set_cons_succ]; rfl)) (hJ2_5_11 (gb306) _ ⟨hHeld, (bk BK270), (bk BK271), (bk BK272), (bk BK277), (bk BK283), (bk BK295), (bk BK306), GW306.out, GE306.out, NB270_306.out, NB306_270.out, NB271_306.out, NB306_271.out, NB272_306.out, NB306_272.out, NB277_306.out, NB306_277.out, NB283_306.out, NB306_283.out, NB295_306.out, NB306_295.out, (bw HB)⟩)
                               · skip
                                 rintro _ w84 ⟨hS_, h0_, h1_, h2_, h3_, h4_, h5_, h6_⟩
                                 have n0_ : Aside0 (w84.heap[gb270]? = some (.cells #[.int .u64 a0_0, .int .u64 a0_1, .int .i64 a0_2, .int .i64 a0_3, .int .i64 a0_4] 53 (0, 0))) := ⟨h0_⟩
                                 have n1_ : Aside0 (w84.heap[gb271]? = some (.cells #[.int .i64 a1_0, .int .u64 a1_1, .int .u64 a1_2, .int .u64 a1_3, .int .u64 a1_4] 27 (0, 0))) := ⟨h1_⟩
                                 have n2_ : Aside0 (w84.heap[gb272]? = some (.cells #[.int .u64 a2_0, .int .u64 a2_1, .int .u64 a2_2] 29 (0, 0))) := ⟨h2_⟩
                                 have n3_ : Aside0 (w84.heap[gb277]? = some (.cells #[.int .u64 t274, .int .u64 t275, .int .u64 t276] 29 (0, 0))) := ⟨h3_⟩
                                 have n4_ : Aside0 (w84.heap[gb283]? = some (.cells #[.int .u64 t278, .int .u64 t279, .int .u64 t280] 29 (0, 0))) := ⟨h4_⟩
                                 have n5_ : Aside0 (w84.heap[gb295]? = some (.cells #[.int .u64 t293, .int .u64 t294] 68 (0, 0))) := ⟨h5_⟩
                                 have n6_ : Aside0 (Below w.heap.size w w84) := ⟨h6_⟩
                                 clear BK270; clear BK271; clear BK272; clear BK277; clear BK283; clear BK295; clear HB; clear h0_ h1_ h2_ h3_ h4_ h5_ h6_; have BK270 := n0_; have BK271 := n1_; have BK272 := n2_; have BK277 := n3_; have BK283 := n4_; have BK295 := n5_; have HB := n6_; clear n0_ n1_ n2_ n3_ n4_ n5_ n6_
                                 have hHeld : w84.cell? ⟨gb272, 0, none⟩ = some (.int .u64 a2_0) ∧ w84.cell? ⟨gb272, 1, none⟩ = some (.int .u64 a2_1) ∧ w84.cell? ⟨gb272, 2, none⟩ = some (.int .u64 a2_2) ∧ w84.cell? ⟨gb270, 0, none⟩ = some (.int .u64 a0_0) ∧ w84.cell? ⟨gb270, 1, none⟩ = some (.int .u64 a0_1) ∧ w84.cell? ⟨gb270, 2, none⟩ = some (.int .i64 a0_2) ∧ w84.cell? ⟨gb270, 3, none⟩ = some (.int .i64 a0_3) ∧ w84.cell? ⟨gb270, 4, none⟩ = some (.int .i64 a0_4) ∧ w84.cell? ⟨gb271, 0, none⟩ = some (.int .i64 a1_0) ∧ w84.cell? ⟨gb271, 1, none⟩ = some (.int .u64 a1_1) ∧ w84.cell? ⟨gb271, 2, none⟩ = some (.int .u64 a1_2) ∧ w84.cell? ⟨gb271, 3, none⟩ = some (.int .u64 a1_3) ∧ w84.cell? ⟨gb271, 4, none⟩ = some (.int .u64 a1_4) := hS_
                                 refine norm_ (a' := ?_) ?_ ?_
                                 rotate_left
                                 · simp only [putAll, Act.put, List.setIfInBounds_toArray, List.set_cons_zero, List.set_cons_succ]
                                   rfl
                                 refine two_ (i := 6) (j := 11) (Ni := some 76) (Nj := some 16) #[true, true, true, true, true, true, true, true, true, false, false, false, false] #[true, true, true, true, true, true, false, true, true, false, false, true, false] rfl rfl rfl rfl (two_of HT_.out (by kernel_rfl)) (by decide) (by decide) (fun K hK => ?_) (fun K hK => ?_)
                                 · skip
                                   refine ge Try.func34 #[.agg #[.int .u64 t296, .int .u64 t297], .agg #[.int .u64 t298, .int .u64 t299]] ?_
                                   with_reducible refine (sat_Wide_Plus.calls t296 t297 t298 t299 t300 t301 _ A66.out).mono ?_
                                   rintro e w85 ⟨rfl, hb⟩
                                   refine ⟨_, rfl, ?_⟩
                                   replace BK270 := bb BK270 hb; replace BK271 := bb BK271 hb; replace BK272 := bb BK272 hb; replace BK277 := bb BK277 hb; replace BK283 := bb BK283 hb; replace BK295 := bb BK295 hb; replace HB := bs HB hb; (try clear hb); (try clear hb2); (try clear hk); (try clear hi)
                                   refine hK.out _ _ ⟨(blk_cell BK272.out 0).trans rfl, (blk_cell BK272.out 1).trans rfl, (blk_cell BK272.out 2).trans rfl, (blk_cell BK270.out 0).trans rfl, (blk_cell BK270.out 1).trans rfl, (blk_cell BK270.out 2).trans rfl, (blk_cell BK270.out 3).trans rfl, (blk_cell BK270.out 4).trans rfl, (blk_cell BK271.out 0).trans rfl, (blk_cell BK271.out 1).trans rfl, (blk_cell BK271.out 2).trans rfl, (blk_cell BK271.out 3).trans rfl, (blk_cell BK271.out 4).trans rfl⟩ (fun hHeld => ?_)
                                   clear hK K
                                   refine norm_ (a' := ?_) ?_ ?_
                                   rotate_left
                                   · show Act.put _ (some 76) _ = _
                                     simp only [Act.put, List.setIfInBounds_toArray, List.set_cons_zero, List.set_cons_succ, i64_w, i32_w]
                                     rfl
                                   exact norm_ (by first | (simp only [putAll, Act.put, List.setIfInBounds_toArray, List.set_cons_zero, List.set_cons_succ]; done) | (simp only [putAll, Act.put, List.setIfInBounds_toArray, List.set_cons_zero, List.set_cons_succ]; rfl)) (hJ2_5_6 () _ ⟨hHeld, (bk BK270), (bk BK271), (bk BK272), (bk BK277), (bk BK283), (bk BK295), (bw HB)⟩)
                                 · skip
                                   refine box_step ?hg (N := 16) ?hd (cs := #[.int .u64 0, .int .u64 0]) (t := 68) ?hr ?_; (case hd => rfl); (case hg => rfl); (case hr => first | (go_simp; done) | (go_simp; rfl))
                                   intro gb306 hg w85 hbox hb
                                   have BK306 := Aside0.mk (hbox); have GW306 := sz HB hg; have GE306 := sz HB hg; have NB270_306 := nl BK270 hg; have NB306_270 := nr BK270 hg; have NB271_306 := nl BK271 hg; have NB306_271 := nr BK271 hg; have NB272_306 := nl BK272 hg; have NB306_272 := nr BK272 hg; have NB277_306 := nl BK277 hg; have NB306_277 := nr BK277 hg; have NB283_306 := nl BK283 hg; have NB306_283 := nr BK283 hg; have NB295_306 := nl BK295 hg; have NB306_295 := nr BK295 hg; replace BK270 := bb BK270 hb; replace BK271 := bb BK271 hb; replace BK272 := bb BK272 hb; replace BK277 := bb BK277 hb; replace BK283 := bb BK283 hb; replace BK295 := bb BK295 hb; replace HB := bs HB hb; clear hb hbox hg
                                   refine hK.out _ _ ⟨(blk_cell BK272.out 0).trans rfl, (blk_cell BK272.out 1).trans rfl, (blk_cell BK272.out 2).trans rfl, (blk_cell BK270.out 0).trans rfl, (blk_cell BK270.out 1).trans rfl, (blk_cell BK270.out 2).trans rfl, (blk_cell BK270.out 3).trans rfl, (blk_cell BK270.out 4).trans rfl, (blk_cell BK271.out 0).trans rfl, (blk_cell BK271.out 1).trans rfl, (blk_cell BK271.out 2).trans rfl, (blk_cell BK271.out 3).trans rfl, (blk_cell BK271.out 4).trans rfl⟩ (fun hHeld => ?_)
                                   clear hK K
                                   refine norm_ (a' := ?_) ?_ ?_
                                   rotate_left
                                   · show Act.put _ (some 16) _ = _
                                     simp only [Act.put, List.setIfInBounds_toArray, List.set_cons_zero, List.set_cons_succ, i64_w, i32_w]
                                     rfl
                                   exact norm_ (by first | (simp only [putAll, Act.put, List.setIfInBounds_toArray, List.set_cons_zero, List.set_cons_succ]; done) | (simp only [putAll, Act.put, List.setIfInBounds_toArray, List.set_cons_zero, List.set_cons_succ]; rfl)) (hJ2_5_11 (gb306) _ ⟨hHeld, (bk BK270), (bk BK271), (bk BK272), (bk BK277), (bk BK283), (bk BK295), (bk BK306), GW306.out, GE306.out, NB270_306.out, NB306_270.out, NB271_306.out, NB306_271.out, NB272_306.out, NB306_272.out, NB277_306.out, NB306_277.out, NB283_306.out, NB306_283.out, NB295_306.out, NB306_295.out, (bw HB)⟩)
                             · skip
                               rintro gb306 w85 ⟨hS_, h0_, h1_, h2_, h3_, h4_, h5_, h6_, h7_, h8_, h9_, h10_, h11_, h12_, h13_, h14_, h15_, h16_, h17_, h18_, h19_, h20_, h21_⟩
                               have n0_ : Aside0 (w85.heap[gb270]? = some (.cells #[.int .u64 a0_0, .int .u64 a0_1, .int .i64 a0_2, .int .i64 a0_3, .int .i64 a0_4] 53 (0, 0))) := ⟨h0_⟩
                               have n1_ : Aside0 (w85.heap[gb271]? = some (.cells #[.int .i64 a1_0, .int .u64 a1_1, .int .u64 a1_2, .int .u64 a1_3, .int .u64 a1_4] 27 (0, 0))) := ⟨h1_⟩
                               have n2_ : Aside0 (w85.heap[gb272]? = some (.cells #[.int .u64 a2_0, .int .u64 a2_1, .int .u64 a2_2] 29 (0, 0))) := ⟨h2_⟩
                               have n3_ : Aside0 (w85.heap[gb277]? = some (.cells #[.int .u64 t274, .int .u64 t275, .int .u64 t276] 29 (0, 0))) := ⟨h3_⟩
                               have n4_ : Aside0 (w85.heap[gb283]? = some (.cells #[.int .u64 t278, .int .u64 t279, .int .u64 t280] 29 (0, 0))) := ⟨h4_⟩
                               have n5_ : Aside0 (w85.heap[gb295]? = some (.cells #[.int .u64 t293, .int .u64 t294] 68 (0, 0))) := ⟨h5_⟩
                               have n6_ : Aside0 (w85.heap[gb306]? = some (.cells #[.int .u64 0, .int .u64 0] 68 (0, 0))) := ⟨h6_⟩
                               have n7_ : Aside0 (w.heap.size ≤ gb306) := ⟨h7_⟩
                               have n8_ : Aside0 (w.heap.size ≤ gb306) := ⟨h8_⟩
                               have n9_ : Aside0 (gb270 ≠ gb306) := ⟨h9_⟩
                               have n10_ : Aside0 (gb306 ≠ gb270) := ⟨h10_⟩
                               have n11_ : Aside0 (gb271 ≠ gb306) := ⟨h11_⟩
                               have n12_ : Aside0 (gb306 ≠ gb271) := ⟨h12_⟩
                               have n13_ : Aside0 (gb272 ≠ gb306) := ⟨h13_⟩
                               have n14_ : Aside0 (gb306 ≠ gb272) := ⟨h14_⟩
                               have n15_ : Aside0 (gb277 ≠ gb306) := ⟨h15_⟩
                               have n16_ : Aside0 (gb306 ≠ gb277) := ⟨h16_⟩
                               have n17_ : Aside0 (gb283 ≠ gb306) := ⟨h17_⟩
                               have n18_ : Aside0 (gb306 ≠ gb283) := ⟨h18_⟩
                               have n19_ : Aside0 (gb295 ≠ gb306) := ⟨h19_⟩
                               have n20_ : Aside0 (gb306 ≠ gb295) := ⟨h20_⟩
                               have n21_ : Aside0 (Below w.heap.size w w85) := ⟨h21_⟩
                               clear BK270; clear BK271; clear BK272; clear BK277; clear BK283; clear BK295; clear HB; clear h0_ h1_ h2_ h3_ h4_ h5_ h6_ h7_ h8_ h9_ h10_ h11_ h12_ h13_ h14_ h15_ h16_ h17_ h18_ h19_ h20_ h21_; have BK270 := n0_; have BK271 := n1_; have BK272 := n2_; have BK277 := n3_; have BK283 := n4_; have BK295 := n5_; have BK306 := n6_; have GW306 := n7_; have GE306 := n8_; have NB270_306 := n9_; have NB306_270 := n10_; have NB271_306 := n11_; have NB306_271 := n12_; have NB272_306 := n13_; have NB306_272 := n14_; have NB277_306 := n15_; have NB306_277 := n16_; have NB283_306 := n17_; have NB306_283 := n18_; have NB295_306 := n19_; have NB306_295 := n20_; have HB := n21_; clear n0_ n1_ n2_ n3_ n4_ n5_ n6_ n7_ n8_ n9_ n10_ n11_ n12_ n13_ n14_ n15_ n16_ n17_ n18_ n19_ n20_ n21_
                               have hHeld : w85.cell? ⟨gb272, 0, none⟩ = some (.int .u64 a2_0) ∧ w85.cell? ⟨gb272, 1, none⟩ = some (.int .u64 a2_1) ∧ w85.cell? ⟨gb272, 2, none⟩ = some (.int .u64 a2_2) ∧ w85.cell? ⟨gb270, 0, none⟩ = some (.int .u64 a0_0) ∧ w85.cell? ⟨gb270, 1, none⟩ = some (.int .u64 a0_1) ∧ w85.cell? ⟨gb270, 2, none⟩ = some (.int .i64 a0_2) ∧ w85.cell? ⟨gb270, 3, none⟩ = some (.int .i64 a0_3) ∧ w85.cell? ⟨gb270, 4, none⟩ = some (.int .i64 a0_4) ∧ w85.cell? ⟨gb271, 0, none⟩ = some (.int .i64 a1_0) ∧ w85.cell? ⟨gb271, 1, none⟩ = some (.int .u64 a1_1) ∧ w85.cell? ⟨gb271, 2, none⟩ = some (.int .u64 a1_2) ∧ w85.cell? ⟨gb271, 3, none⟩ = some (.int .u64 a1_3) ∧ w85.cell? ⟨gb271, 4, none⟩ = some (.int .u64 a1_4) := hS_
                               refine norm_ (a' := ?_) ?_ ?_
                               rotate_left
                               · simp only [putAll, Act.put, List.setIfInBounds_toArray, List.set_cons_zero, List.set_cons_succ]
                                 rfl
                               refine one_ (i := 6) (N := some 76) #[true, true, true, true, true, true, true, true, true, false, false, true, false] rfl rfl (one_of HT_.out (by kernel_rfl)) (by decide) (fun K hK => ?_)
                               refine ge Try.func34 #[.agg #[.int .u64 t296, .int .u64 t297], .agg #[.int .u64 t298, .int .u64 t299]] ?_
                               with_reducible refine (sat_Wide_Plus.calls t296 t297 t298 t299 t300 t301 _ A66.out).mono ?_
                               rintro e w86 ⟨rfl, hb⟩
                               refine ⟨_, rfl, ?_⟩
                               replace BK270 := bb BK270 hb; replace BK271 := bb BK271 hb; replace BK272 := bb BK272 hb; replace BK277 := bb BK277 hb; replace BK283 := bb BK283 hb; replace BK295 := bb BK295 hb; replace BK306 := bb BK306 hb; replace HB := bs HB hb; (try clear hb); (try clear hb2); (try clear hk); (try clear hi)
                               refine hK.out _ _ ⟨(blk_cell BK272.out 0).trans rfl, (blk_cell BK272.out 1).trans rfl, (blk_cell BK272.out 2).trans rfl, (blk_cell BK270.out 0).trans rfl, (blk_cell BK270.out 1).trans rfl, (blk_cell BK270.out 2).trans rfl, (blk_cell BK270.out 3).trans rfl, (blk_cell BK270.out 4).trans rfl, (blk_cell BK271.out 0).trans rfl, (blk_cell BK271.out 1).trans rfl, (blk_cell BK271.out 2).trans rfl, (blk_cell BK271.out 3).trans rfl, (blk_cell BK271.out 4).trans rfl⟩ (fun hHeld => ?_)
                               clear hK K
                               refine norm_ (a' := ?_) ?_ ?_
                               rotate_left
                               · show Act.put _ (some 76) _ = _
                                 simp only [Act.put, List.setIfInBounds_toArray, List.set_cons_zero, List.set_cons_succ, i64_w, i32_w]
                                 rfl
                               exact norm_ (by first | (simp only [putAll, Act.put, List.setIfInBounds_toArray, List.set_cons_zero, List.set_cons_succ]; done) | (simp only [putAll, Act.put, List.setIfInBounds_toArray, List.set_cons_zero, List.set_cons_succ]; rfl)) (hJ2_5_6_11 (gb306) _ ⟨hHeld, (bk BK270), (bk BK271), (bk BK272), (bk BK277), (bk BK283), (bk BK295), (bk BK306), GW306.out, GE306.out, NB270_306.out, NB306_270.out, NB271_306.out, NB306_271.out, NB272_306.out, NB306_272.out, NB277_306.out, NB306_277.out, NB283_306.out, NB306_283.out, NB295_306.out, NB306_295.out, (bw HB)⟩)
                           · skip
                             rintro _ w85 ⟨hS_, h0_, h1_, h2_, h3_, h4_, h5_, h6_⟩
                             have n0_ : Aside0 (w85.heap[gb270]? = some (.cells #[.int .u64 a0_0, .int .u64 a0_1, .int .i64 a0_2, .int .i64 a0_3, .int .i64 a0_4] 53 (0, 0))) := ⟨h0_⟩
                             have n1_ : Aside0 (w85.heap[gb271]? = some (.cells #[.int .i64 a1_0, .int .u64 a1_1, .int .u64 a1_2, .int .u64 a1_3, .int .u64 a1_4] 27 (0, 0))) := ⟨h1_⟩
                             have n2_ : Aside0 (w85.heap[gb272]? = some (.cells #[.int .u64 a2_0, .int .u64 a2_1, .int .u64 a2_2] 29 (0, 0))) := ⟨h2_⟩
                             have n3_ : Aside0 (w85.heap[gb277]? = some (.cells #[.int .u64 t274, .int .u64 t275, .int .u64 t276] 29 (0, 0))) := ⟨h3_⟩
                             have n4_ : Aside0 (w85.heap[gb283]? = some (.cells #[.int .u64 t278, .int .u64 t279, .int .u64 t280] 29 (0, 0))) := ⟨h4_⟩
                             have n5_ : Aside0 (w85.heap[gb295]? = some (.cells #[.int .u64 t293, .int .u64 t294] 68 (0, 0))) := ⟨h5_⟩
                             have n6_ : Aside0 (Below w.heap.size w w85) := ⟨h6_⟩
                             clear BK270; clear BK271; clear BK272; clear BK277; clear BK283; clear BK295; clear HB; clear h0_ h1_ h2_ h3_ h4_ h5_ h6_; have BK270 := n0_; have BK271 := n1_; have BK272 := n2_; have BK277 := n3_; have BK283 := n4_; have BK295 := n5_; have HB := n6_; clear n0_ n1_ n2_ n3_ n4_ n5_ n6_
                             have hHeld : w85.cell? ⟨gb272, 0, none⟩ = some (.int .u64 a2_0) ∧ w85.cell? ⟨gb272, 1, none⟩ = some (.int .u64 a2_1) ∧ w85.cell? ⟨gb272, 2, none⟩ = some (.int .u64 a2_2) ∧ w85.cell? ⟨gb270, 0, none⟩ = some (.int .u64 a0_0) ∧ w85.cell? ⟨gb270, 1, none⟩ = some (.int .u64 a0_1) ∧ w85.cell? ⟨gb270, 2, none⟩ = some (.int .i64 a0_2) ∧ w85.cell? ⟨gb270, 3, none⟩ = some (.int .i64 a0_3) ∧ w85.cell? ⟨gb270, 4, none⟩ = some (.int .i64 a0_4) ∧ w85.cell? ⟨gb271, 0, none⟩ = some (.int .i64 a1_0) ∧ w85.cell? ⟨gb271, 1, none⟩ = some (.int .u64 a1_1) ∧ w85.cell? ⟨gb271, 2, none⟩ = some (.int .u64 a1_2) ∧ w85.cell? ⟨gb271, 3, none⟩ = some (.int .u64 a1_3) ∧ w85.cell? ⟨gb271, 4, none⟩ = some (.int .u64 a1_4) := hS_
                             refine norm_ (a' := ?_) ?_ ?_
                             rotate_left
                             · simp only [putAll, Act.put, List.setIfInBounds_toArray, List.set_cons_zero, List.set_cons_succ]
                               rfl
                             refine two_ (i := 9) (j := 11) (Ni := some 79) (Nj := some 16) #[true, true, true, true, true, true, true, true, true, true, false, false, false] #[true, true, true, true, true, true, true, true, true, false, false, true, false] rfl rfl rfl rfl (two_of HT_.out (by kernel_rfl)) (by decide) (by decide) (fun K hK => ?_) (fun K hK => ?_)
                             · skip
                               refine ge Try.func33 #[.int .u64 a1_1] ?_
                               with_reducible refine (sat_Of.calls a1_1 t302 t303 _ A67.out).mono ?_
                               rintro e w86 ⟨rfl, hb⟩
                               refine ⟨_, rfl, ?_⟩
                               replace BK270 := bb BK270 hb; replace BK271 := bb BK271 hb; replace BK272 := bb BK272 hb; replace BK277 := bb BK277 hb; replace BK283 := bb BK283 hb; replace BK295 := bb BK295 hb; replace HB := bs HB hb; (try clear hb); (try clear hb2); (try clear hk); (try clear hi)
                               refine hK.out _ _ ⟨(blk_cell BK272.out 0).trans rfl, (blk_cell BK272.out 1).trans rfl, (blk_cell BK272.out 2).trans rfl, (blk_cell BK270.out 0).trans rfl, (blk_cell BK270.out 1).trans rfl, (blk_cell BK270.out 2).trans rfl, (blk_cell BK270.out 3).trans rfl, (blk_cell BK270.out 4).trans rfl, (blk_cell BK271.out 0).trans rfl, (blk_cell BK271.out 1).trans rfl, (blk_cell BK271.out 2).trans rfl, (blk_cell BK271.out 3).trans rfl, (blk_cell BK271.out 4).trans rfl⟩ (fun hHeld => ?_)
                               clear hK K
                               refine norm_ (a' := ?_) ?_ ?_
                               rotate_left
                               · show Act.put _ (some 79) _ = _
                                 simp only [Act.put, List.setIfInBounds_toArray, List.set_cons_zero, List.set_cons_succ, i64_w, i32_w]
                                 rfl
                               exact norm_ (by first | (simp only [putAll, Act.put, List.setIfInBounds_toArray, List.set_cons_zero, List.set_cons_succ]; done) | (simp only [putAll, Act.put, List.setIfInBounds_toArray, List.set_cons_zero, List.set_cons_succ]; rfl)) (hJ2_5_6_9 () _ ⟨hHeld, (bk BK270), (bk BK271), (bk BK272), (bk BK277), (bk BK283), (bk BK295), (bw HB)⟩)
                             · skip
                               refine box_step ?hg (N := 16) ?hd (cs := #[.int .u64 0, .int .u64 0]) (t := 68) ?hr ?_; (case hd => rfl); (case hg => rfl); (case hr => first | (go_simp; done) | (go_simp; rfl))
                               intro gb306 hg w86 hbox hb
                               have BK306 := Aside0.mk (hbox); have GW306 := sz HB hg; have GE306 := sz HB hg; have NB270_306 := nl BK270 hg; have NB306_270 := nr BK270 hg; have NB271_306 := nl BK271 hg; have NB306_271 := nr BK271 hg; have NB272_306 := nl BK272 hg; have NB306_272 := nr BK272 hg; have NB277_306 := nl BK277 hg; have NB306_277 := nr BK277 hg; have NB283_306 := nl BK283 hg; have NB306_283 := nr BK283 hg; have NB295_306 := nl BK295 hg; have NB306_295 := nr BK295 hg; replace BK270 := bb BK270 hb; replace BK271 := bb BK271 hb; replace BK272 := bb BK272 hb; replace BK277 := bb BK277 hb; replace BK283 := bb BK283 hb; replace BK295 := bb BK295 hb; replace HB := bs HB hb; clear hb hbox hg
                               refine hK.out _ _ ⟨(blk_cell BK272.out 0).trans rfl, (blk_cell BK272.out 1).trans rfl, (blk_cell BK272.out 2).trans rfl, (blk_cell BK270.out 0).trans rfl, (blk_cell BK270.out 1).trans rfl, (blk_cell BK270.out 2).trans rfl, (blk_cell BK270.out 3).trans rfl, (blk_cell BK270.out 4).trans rfl, (blk_cell BK271.out 0).trans rfl, (blk_cell BK271.out 1).trans rfl, (blk_cell BK271.out 2).trans rfl, (blk_cell BK271.out 3).trans rfl, (blk_cell BK271.out 4).trans rfl⟩ (fun hHeld => ?_)
                               clear hK K
                               refine norm_ (a' := ?_) ?_ ?_
                               rotate_left
                               · show Act.put _ (some 16) _ = _
                                 simp only [Act.put, List.setIfInBounds_toArray, List.set_cons_zero, List.set_cons_succ, i64_w, i32_w]
                                 rfl
                               exact norm_ (by first | (simp only [putAll, Act.put, List.setIfInBounds_toArray, List.set_cons_zero, List.set_cons_succ]; done) | (simp only [putAll, Act.put, List.setIfInBounds_toArray, List.set_cons_zero, List.set_cons_succ]; rfl)) (hJ2_5_6_11 (gb306) _ ⟨hHeld, (bk BK270), (bk BK271), (bk BK272), (bk BK277), (bk BK283), (bk BK295), (bk BK306), GW306.out, GE306.out, NB270_306.out, NB306_270.out, NB271_306.out, NB306_271.out, NB272_306.out, NB306_272.out, NB277_306.out, NB306_277.out, NB283_306.out, NB306_283.out, NB295_306.out, NB306_295.out, (bw HB)⟩)
                         · skip
                           rintro gb306 w86 ⟨hS_, h0_, h1_, h2_, h3_, h4_, h5_, h6_, h7_, h8_, h9_, h10_, h11_, h12_, h13_, h14_, h15_, h16_, h17_, h18_, h19_, h20_, h21_⟩
                           have n0_ : Aside0 (w86.heap[gb270]? = some (.cells #[.int .u64 a0_0, .int .u64 a0_1, .int .i64 a0_2, .int .i64 a0_3, .int .i64 a0_4] 53 (0, 0))) := ⟨h0_⟩
                           have n1_ : Aside0 (w86.heap[gb271]? = some (.cells #[.int .i64 a1_0, .int .u64 a1_1, .int .u64 a1_2, .int .u64 a1_3, .int .u64 a1_4] 27 (0, 0))) := ⟨h1_⟩
                           have n2_ : Aside0 (w86.heap[gb272]? = some (.cells #[.int .u64 a2_0, .int .u64 a2_1, .int .u64 a2_2] 29 (0, 0))) := ⟨h2_⟩
                           have n3_ : Aside0 (w86.heap[gb277]? = some (.cells #[.int .u64 t274, .int .u64 t275, .int .u64 t276] 29 (0, 0))) := ⟨h3_⟩
                           have n4_ : Aside0 (w86.heap[gb283]? = some (.cells #[.int .u64 t278, .int .u64 t279, .int .u64 t280] 29 (0, 0))) := ⟨h4_⟩
                           have n5_ : Aside0 (w86.heap[gb295]? = some (.cells #[.int .u64 t293, .int .u64 t294] 68 (0, 0))) := ⟨h5_⟩
                           have n6_ : Aside0 (w86.heap[gb306]? = some (.cells #[.int .u64 0, .int .u64 0] 68 (0, 0))) := ⟨h6_⟩
                           have n7_ : Aside0 (w.heap.size ≤ gb306) := ⟨h7_⟩
                           have n8_ : Aside0 (w.heap.size ≤ gb306) := ⟨h8_⟩
                           have n9_ : Aside0 (gb270 ≠ gb306) := ⟨h9_⟩
                           have n10_ : Aside0 (gb306 ≠ gb270) := ⟨h10_⟩
                           have n11_ : Aside0 (gb271 ≠ gb306) := ⟨h11_⟩
                           have n12_ : Aside0 (gb306 ≠ gb271) := ⟨h12_⟩
                           have n13_ : Aside0 (gb272 ≠ gb306) := ⟨h13_⟩
                           have n14_ : Aside0 (gb306 ≠ gb272) := ⟨h14_⟩
                           have n15_ : Aside0 (gb277 ≠ gb306) := ⟨h15_⟩
                           have n16_ : Aside0 (gb306 ≠ gb277) := ⟨h16_⟩
                           have n17_ : Aside0 (gb283 ≠ gb306) := ⟨h17_⟩
                           have n18_ : Aside0 (gb306 ≠ gb283) := ⟨h18_⟩
                           have n19_ : Aside0 (gb295 ≠ gb306) := ⟨h19_⟩
                           have n20_ : Aside0 (gb306 ≠ gb295) := ⟨h20_⟩
                           have n21_ : Aside0 (Below w.heap.size w w86) := ⟨h21_⟩
                           clear BK270; clear BK271; clear BK272; clear BK277; clear BK283; clear BK295; clear HB; clear h0_ h1_ h2_ h3_ h4_ h5_ h6_ h7_ h8_ h9_ h10_ h11_ h12_ h13_ h14_ h15_ h16_ h17_ h18_ h19_ h20_ h21_; have BK270 := n0_; have BK271 := n1_; have BK272 := n2_; have BK277 := n3_; have BK283 := n4_; have BK295 := n5_; have BK306 := n6_; have GW306 := n7_; have GE306 := n8_; have NB270_306 := n9_; have NB306_270 := n10_; have NB271_306 := n11_; have NB306_271 := n12_; have NB272_306 := n13_; have NB306_272 := n14_; have NB277_306 := n15_; have NB306_277 := n16_; have NB283_306 := n17_; have NB306_283 := n18_; have NB295_306 := n19_; have NB306_295 := n20_; have HB := n21_; clear n0_ n1_ n2_ n3_ n4_ n5_ n6_ n7_ n8_ n9_ n10_ n11_ n12_ n13_ n14_ n15_ n16_ n17_ n18_ n19_ n20_ n21_
                           have hHeld : w86.cell? ⟨gb272, 0, none⟩ = some (.int .u64 a2_0) ∧ w86.cell? ⟨gb272, 1, none⟩ = some (.int .u64 a2_1) ∧ w86.cell? ⟨gb272, 2, none⟩ = some (.int .u64 a2_2) ∧ w86.cell? ⟨gb270, 0, none⟩ = some (.int .u64 a0_0) ∧ w86.cell? ⟨gb270, 1, none⟩ = some (.int .u64 a0_1) ∧ w86.cell? ⟨gb270, 2, none⟩ = some (.int .i64 a0_2) ∧ w86.cell? ⟨gb270, 3, none⟩ = some (.int .i64 a0_3) ∧ w86.cell? ⟨gb270, 4, none⟩ = some (.int .i64 a0_4) ∧ w86.cell? ⟨gb271, 0, none⟩ = some (.int .i64 a1_0) ∧ w86.cell? ⟨gb271, 1, none⟩ = some (.int .u64 a1_1) ∧ w86.cell? ⟨gb271, 2, none⟩ = some (.int .u64 a1_2) ∧ w86.cell? ⟨gb271, 3, none⟩ = some (.int .u64 a1_3) ∧ w86.cell? ⟨gb271, 4, none⟩ = some (.int .u64 a1_4) := hS_
                           refine norm_ (a' := ?_) ?_ ?_
                           rotate_left
                           · simp only [putAll, Act.put, List.setIfInBounds_toArray, List.set_cons_zero, List.set_cons_succ]
                             rfl
                           refine one_ (i := 9) (N := some 79) #[true, true, true, true, true, true, true, true, true, true, false, true, false] rfl rfl (one_of HT_.out (by kernel_rfl)) (by decide) (fun K hK => ?_)
                           refine ge Try.func33 #[.int .u64 a1_1] ?_
                           with_reducible refine (sat_Of.calls a1_1 t302 t303 _ A67.out).mono ?_
                           rintro e w87 ⟨rfl, hb⟩
                           refine ⟨_, rfl, ?_⟩
                           replace BK270 := bb BK270 hb; replace BK271 := bb BK271 hb; replace BK272 := bb BK272 hb; replace BK277 := bb BK277 hb; replace BK283 := bb BK283 hb; replace BK295 := bb BK295 hb; replace BK306 := bb BK306 hb; replace HB := bs HB hb; (try clear hb); (try clear hb2); (try clear hk); (try clear hi)
                           refine hK.out _ _ ⟨(blk_cell BK272.out 0).trans rfl, (blk_cell BK272.out 1).trans rfl, (blk_cell BK272.out 2).trans rfl, (blk_cell BK270.out 0).trans rfl, (blk_cell BK270.out 1).trans rfl, (blk_cell BK270.out 2).trans rfl, (blk_cell BK270.out 3).trans rfl, (blk_cell BK270.out 4).trans rfl, (blk_cell BK271.out 0).trans rfl, (blk_cell BK271.out 1).trans rfl, (blk_cell BK271.out 2).trans rfl, (blk_cell BK271.out 3).trans rfl, (blk_cell BK271.out 4).trans rfl⟩ (fun hHeld => ?_)
                           clear hK K
                           refine norm_ (a' := ?_) ?_ ?_
                           rotate_left
                           · show Act.put _ (some 79) _ = _
                             simp only [Act.put, List.setIfInBounds_toArray, List.set_cons_zero, List.set_cons_succ, i64_w, i32_w]
                             rfl
                           exact norm_ (by first | (simp only [putAll, Act.put, List.setIfInBounds_toArray, List.set_cons_zero, List.set_cons_succ]; done) | (simp only [putAll, Act.put, List.setIfInBounds_toArray, List.set_cons_zero, List.set_cons_succ]; rfl)) (hJ2_5_6_9_11 (gb306) _ ⟨hHeld, (bk BK270), (bk BK271), (bk BK272), (bk BK277), (bk BK283), (bk BK295), (bk BK306), GW306.out, GE306.out, NB270_306.out, NB306_270.out, NB271_306.out, NB306_271.out, NB272_306.out, NB306_272.out, NB277_306.out, NB306_277.out, NB283_306.out, NB306_283.out, NB295_306.out, NB306_295.out, (bw HB)⟩)
                       · skip
                         rintro _ w86 ⟨hS_, h0_, h1_, h2_, h3_, h4_, h5_, h6_⟩
                         have n0_ : Aside0 (w86.heap[gb270]? = some (.cells #[.int .u64 a0_0, .int .u64 a0_1, .int .i64 a0_2, .int .i64 a0_3, .int .i64 a0_4] 53 (0, 0))) := ⟨h0_⟩
                         have n1_ : Aside0 (w86.heap[gb271]? = some (.cells #[.int .i64 a1_0, .int .u64 a1_1, .int .u64 a1_2, .int .u64 a1_3, .int .u64 a1_4] 27 (0, 0))) := ⟨h1_⟩
                         have n2_ : Aside0 (w86.heap[gb272]? = some (.cells #[.int .u64 a2_0, .int .u64 a2_1, .int .u64 a2_2] 29 (0, 0))) := ⟨h2_⟩
                         have n3_ : Aside0 (w86.heap[gb277]? = some (.cells #[.int .u64 t274, .int .u64 t275, .int .u64 t276] 29 (0, 0))) := ⟨h3_⟩
                         have n4_ : Aside0 (w86.heap[gb283]? = some (.cells #[.int .u64 t278, .int .u64 t279, .int .u64 t280] 29 (0, 0))) := ⟨h4_⟩
                         have n5_ : Aside0 (w86.heap[gb295]? = some (.cells #[.int .u64 t293, .int .u64 t294] 68 (0, 0))) := ⟨h5_⟩
                         have n6_ : Aside0 (Below w.heap.size w w86) := ⟨h6_⟩
                         clear BK270; clear BK271; clear BK272; clear BK277; clear BK283; clear BK295; clear HB; clear h0_ h1_ h2_ h3_ h4_ h5_ h6_; have BK270 := n0_; have BK271 := n1_; have BK272 := n2_; have BK277 := n3_; have BK283 := n4_; have BK295 := n5_; have HB := n6_; clear n0_ n1_ n2_ n3_ n4_ n5_ n6_
                         have hHeld : w86.cell? ⟨gb272, 0, none⟩ = some (.int .u64 a2_0) ∧ w86.cell? ⟨gb272, 1, none⟩ = some (.int .u64 a2_1) ∧ w86.cell? ⟨gb272, 2, none⟩ = some (.int .u64 a2_2) ∧ w86.cell? ⟨gb270, 0, none⟩ = some (.int .u64 a0_0) ∧ w86.cell? ⟨gb270, 1, none⟩ = some (.int .u64 a0_1) ∧ w86.cell? ⟨gb270, 2, none⟩ = some (.int .i64 a0_2) ∧ w86.cell? ⟨gb270, 3, none⟩ = some (.int .i64 a0_3) ∧ w86.cell? ⟨gb270, 4, none⟩ = some (.int .i64 a0_4) ∧ w86.cell? ⟨gb271, 0, none⟩ = some (.int .i64 a1_0) ∧ w86.cell? ⟨gb271, 1, none⟩ = some (.int .u64 a1_1) ∧ w86.cell? ⟨gb271, 2, none⟩ = some (.int .u64 a1_2) ∧ w86.cell? ⟨gb271, 3, none⟩ = some (.int .u64 a1_3) ∧ w86.cell? ⟨gb271, 4, none⟩ = some (.int .u64 a1_4) := hS_
                         refine norm_ (a' := ?_) ?_ ?_
                         rotate_left
                         · simp only [putAll, Act.put, List.setIfInBounds_toArray, List.set_cons_zero, List.set_cons_succ]
                           rfl
                         refine two_ (i := 10) (j := 11) (Ni := some 80) (Nj := some 16) #[true, true, true, true, true, true, true, true, true, true, true, false, false] #[true, true, true, true, true, true, true, true, true, true, false, true, false] rfl rfl rfl rfl (two_of HT_.out (by kernel_rfl)) (by decide) (by decide) (fun K hK => ?_) (fun K hK => ?_)
                         · skip
                           refine ge Try.func34 #[.agg #[.int .u64 t300, .int .u64 t301], .agg #[.int .u64 t302, .int .u64 t303]] ?_
                           with_reducible refine (sat_Wide_Plus.calls t300 t301 t302 t303 t304 t305 _ A68.out).mono ?_
                           rintro e w87 ⟨rfl, hb⟩
                           refine ⟨_, rfl, ?_⟩
                           replace BK270 := bb BK270 hb; replace BK271 := bb BK271 hb; replace BK272 := bb BK272 hb; replace BK277 := bb BK277 hb; replace BK283 := bb BK283 hb; replace BK295 := bb BK295 hb; replace HB := bs HB hb; (try clear hb); (try clear hb2); (try clear hk); (try clear hi)
                           refine hK.out _ _ ⟨(blk_cell BK272.out 0).trans rfl, (blk_cell BK272.out 1).trans rfl, (blk_cell BK272.out 2).trans rfl, (blk_cell BK270.out 0).trans rfl, (blk_cell BK270.out 1).trans rfl, (blk_cell BK270.out 2).trans rfl, (blk_cell BK270.out 3).trans rfl, (blk_cell BK270.out 4).trans rfl, (blk_cell BK271.out 0).trans rfl, (blk_cell BK271.out 1).trans rfl, (blk_cell BK271.out 2).trans rfl, (blk_cell BK271.out 3).trans rfl, (blk_cell BK271.out 4).trans rfl⟩ (fun hHeld => ?_)
                           clear hK K
                           refine norm_ (a' := ?_) ?_ ?_
                           rotate_left
                           · show Act.put _ (some 80) _ = _
                             simp only [Act.put, List.setIfInBounds_toArray, List.set_cons_zero, List.set_cons_succ, i64_w, i32_w]
                             rfl
                           exact norm_ (by first | (simp only [putAll, Act.put, List.setIfInBounds_toArray, List.set_cons_zero, List.set_cons_succ]; done) | (simp only [putAll, Act.put, List.setIfInBounds_toArray, List.set_cons_zero, List.set_cons_succ]; rfl)) (hJ2_5_6_9_10 () _ ⟨hHeld, (bk BK270), (bk BK271), (bk BK272), (bk BK277), (bk BK283), (bk BK295), (bw HB)⟩)
                         · skip
                           refine box_step ?hg (N := 16) ?hd (cs := #[.int .u64 0, .int .u64 0]) (t := 68) ?hr ?_; (case hd => rfl); (case hg => rfl); (case hr => first | (go_simp; done) | (go_simp; rfl))
                           intro gb306 hg w87 hbox hb
                           have BK306 := Aside0.mk (hbox); have GW306 := sz HB hg; have GE306 := sz HB hg; have NB270_306 := nl BK270 hg; have NB306_270 := nr BK270 hg; have NB271_306 := nl BK271 hg; have NB306_271 := nr BK271 hg; have NB272_306 := nl BK272 hg; have NB306_272 := nr BK272 hg; have NB277_306 := nl BK277 hg; have NB306_277 := nr BK277 hg; have NB283_306 := nl BK283 hg; have NB306_283 := nr BK283 hg; have NB295_306 := nl BK295 hg; have NB306_295 := nr BK295 hg; replace BK270 := bb BK270 hb; replace BK271 := bb BK271 hb; replace BK272 := bb BK272 hb; replace BK277 := bb BK277 hb; replace BK283 := bb BK283 hb; replace BK295 := bb BK295 hb; replace HB := bs HB hb; clear hb hbox hg
                           refine hK.out _ _ ⟨(blk_cell BK272.out 0).trans rfl, (blk_cell BK272.out 1).trans rfl, (blk_cell BK272.out 2).trans rfl, (blk_cell BK270.out 0).trans rfl, (blk_cell BK270.out 1).trans rfl, (blk_cell BK270.out 2).trans rfl, (blk_cell BK270.out 3).trans rfl, (blk_cell BK270.out 4).trans rfl, (blk_cell BK271.out 0).trans rfl, (blk_cell BK271.out 1).trans rfl, (blk_cell BK271.out 2).trans rfl, (blk_cell BK271.out 3).trans rfl, (blk_cell BK271.out 4).trans rfl⟩ (fun hHeld => ?_)
                           clear hK K
                           refine norm_ (a' := ?_) ?_ ?_
                           rotate_left
                           · show Act.put _ (some 16) _ = _
                             simp only [Act.put, List.setIfInBounds_toArray, List.set_cons_zero, List.set_cons_succ, i64_w, i32_w]
                             rfl
                           exact norm_ (by first | (simp only [putAll, Act.put, List.setIfInBounds_toArray, List.set_cons_zero, List.set_cons_succ]; done) | (simp only [putAll, Act.put, List.setIfInBounds_toArray, List.set_cons_zero, List.set_cons_succ]; rfl)) (hJ2_5_6_9_11 (gb306) _ ⟨hHeld, (bk BK270), (bk BK271), (bk BK272), (bk BK277), (bk BK283), (bk BK295), (bk BK306), GW306.out, GE306.out, NB270_306.out, NB306_270.out, NB271_306.out, NB306_271.out, NB272_306.out, NB306_272.out, NB277_306.out, NB306_277.out, NB283_306.out, NB306_283.out, NB295_306.out, NB306_295.out, (bw HB)⟩)
                     · skip
                       rintro gb306 w87 ⟨hS_, h0_, h1_, h2_, h3_, h4_, h5_, h6_, h7_, h8_, h9_, h10_, h11_, h12_, h13_, h14_, h15_, h16_, h17_, h18_, h19_, h20_, h21_⟩
                       have n0_ : Aside0 (w87.heap[gb270]? = some (.cells #[.int .u64 a0_0, .int .u64 a0_1, .int .i64 a0_2, .int .i64 a0_3, .int .i64 a0_4] 53 (0, 0))) := ⟨h0_⟩
                       have n1_ : Aside0 (w87.heap[gb271]? = some (.cells #[.int .i64 a1_0, .int .u64 a1_1, .int .u64 a1_2, .int .u64 a1_3, .int .u64 a1_4] 27 (0, 0))) := ⟨h1_⟩
                       have n2_ : Aside0 (w87.heap[gb272]? = some (.cells #[.int .u64 a2_0, .int .u64 a2_1, .int .u64 a2_2] 29 (0, 0))) := ⟨h2_⟩
                       have n3_ : Aside0 (w87.heap[gb277]? = some (.cells #[.int .u64 t274, .int .u64 t275, .int .u64 t276] 29 (0, 0))) := ⟨h3_⟩
                       have n4_ : Aside0 (w87.heap[gb283]? = some (.cells #[.int .u64 t278, .int .u64 t279, .int .u64 t280] 29 (0, 0))) := ⟨h4_⟩
                       have n5_ : Aside0 (w87.heap[gb295]? = some (.cells #[.int .u64 t293, .int .u64 t294] 68 (0, 0))) := ⟨h5_⟩
                       have n6_ : Aside0 (w87.heap[gb306]? = some (.cells #[.int .u64 0, .int .u64 0] 68 (0, 0))) := ⟨h6_⟩
                       have n7_ : Aside0 (w.heap.size ≤ gb306) := ⟨h7_⟩
                       have n8_ : Aside0 (w.heap.size ≤ gb306) := ⟨h8_⟩
                       have n9_ : Aside0 (gb270 ≠ gb306) := ⟨h9_⟩
                       have n10_ : Aside0 (gb306 ≠ gb270) := ⟨h10_⟩
                       have n11_ : Aside0 (gb271 ≠ gb306) := ⟨h11_⟩
                       have n12_ : Aside0 (gb306 ≠ gb271) := ⟨h12_⟩
                       have n13_ : Aside0 (gb272 ≠ gb306) := ⟨h13_⟩
                       have n14_ : Aside0 (gb306 ≠ gb272) := ⟨h14_⟩
                       have n15_ : Aside0 (gb277 ≠ gb306) := ⟨h15_⟩
                       have n16_ : Aside0 (gb306 ≠ gb277) := ⟨h16_⟩
                       have n17_ : Aside0 (gb283 ≠ gb306) := ⟨h17_⟩
                       have n18_ : Aside0 (gb306 ≠ gb283) := ⟨h18_⟩
                       have n19_ : Aside0 (gb295 ≠ gb306) := ⟨h19_⟩
                       have n20_ : Aside0 (gb306 ≠ gb295) := ⟨h20_⟩
                       have n21_ : Aside0 (Below w.heap.size w w87) := ⟨h21_⟩
                       clear BK270; clear BK271; clear BK272; clear BK277; clear BK283; clear BK295; clear HB; clear h0_ h1_ h2_ h3_ h4_ h5_ h6_ h7_ h8_ h9_ h10_ h11_ h12_ h13_ h14_ h15_ h16_ h17_ h18_ h19_ h20_ h21_; have BK270 := n0_; have BK271 := n1_; have BK272 := n2_; have BK277 := n3_; have BK283 := n4_; have BK295 := n5_; have BK306 := n6_; have GW306 := n7_; have GE306 := n8_; have NB270_306 := n9_; have NB306_270 := n10_; have NB271_306 := n11_; have NB306_271 := n12_; have NB272_306 := n13_; have NB306_272 := n14_; have NB277_306 := n15_; have NB306_277 := n16_; have NB283_306 := n17_; have NB306_283 := n18_; have NB295_306 := n19_; have NB306_295 := n20_; have HB := n21_; clear n0_ n1_ n2_ n3_ n4_ n5_ n6_ n7_ n8_ n9_ n10_ n11_ n12_ n13_ n14_ n15_ n16_ n17_ n18_ n19_ n20_ n21_
                       have hHeld : w87.cell? ⟨gb272, 0, none⟩ = some (.int .u64 a2_0) ∧ w87.cell? ⟨gb272, 1, none⟩ = some (.int .u64 a2_1) ∧ w87.cell? ⟨gb272, 2, none⟩ = some (.int .u64 a2_2) ∧ w87.cell? ⟨gb270, 0, none⟩ = some (.int .u64 a0_0) ∧ w87.cell? ⟨gb270, 1, none⟩ = some (.int .u64 a0_1) ∧ w87.cell? ⟨gb270, 2, none⟩ = some (.int .i64 a0_2) ∧ w87.cell? ⟨gb270, 3, none⟩ = some (.int .i64 a0_3) ∧ w87.cell? ⟨gb270, 4, none⟩ = some (.int .i64 a0_4) ∧ w87.cell? ⟨gb271, 0, none⟩ = some (.int .i64 a1_0) ∧ w87.cell? ⟨gb271, 1, none⟩ = some (.int .u64 a1_1) ∧ w87.cell? ⟨gb271, 2, none⟩ = some (.int .u64 a1_2) ∧ w87.cell? ⟨gb271, 3, none⟩ = some (.int .u64 a1_3) ∧ w87.cell? ⟨gb271, 4, none⟩ = some (.int .u64 a1_4) := hS_
                       refine norm_ (a' := ?_) ?_ ?_
                       rotate_left
                       · simp only [putAll, Act.put, List.setIfInBounds_toArray, List.set_cons_zero, List.set_cons_succ]
                         rfl
                       refine one_ (i := 10) (N := some 80) #[true, true, true, true, true, true, true, true, true, true, true, true, false] rfl rfl (one_of HT_.out (by kernel_rfl)) (by decide) (fun K hK => ?_)
                       refine ge Try.func34 #[.agg #[.int .u64 t300, .int .u64 t301], .agg #[.int .u64 t302, .int .u64 t303]] ?_
                       with_reducible refine (sat_Wide_Plus.calls t300 t301 t302 t303 t304 t305 _ A68.out).mono ?_
                       rintro e w88 ⟨rfl, hb⟩
                       refine ⟨_, rfl, ?_⟩
                       replace BK270 := bb BK270 hb; replace BK271 := bb BK271 hb; replace BK272 := bb BK272 hb; replace BK277 := bb BK277 hb; replace BK283 := bb BK283 hb; replace BK295 := bb BK295 hb; replace BK306 := bb BK306 hb; replace HB := bs HB hb; (try clear hb); (try clear hb2); (try clear hk); (try clear hi)
                       refine hK.out _ _ ⟨(blk_cell BK272.out 0).trans rfl, (blk_cell BK272.out 1).trans rfl, (blk_cell BK272.out 2).trans rfl, (blk_cell BK270.out 0).trans rfl, (blk_cell BK270.out 1).trans rfl, (blk_cell BK270.out 2).trans rfl, (blk_cell BK270.out 3).trans rfl, (blk_cell BK270.out 4).trans rfl, (blk_cell BK271.out 0).trans rfl, (blk_cell BK271.out 1).trans rfl, (blk_cell BK271.out 2).trans rfl, (blk_cell BK271.out 3).trans rfl, (blk_cell BK271.out 4).trans rfl⟩ (fun hHeld => ?_)
                       clear hK K
                       refine norm_ (a' := ?_) ?_ ?_
                       rotate_left
                       · show Act.put _ (some 80) _ = _
                         simp only [Act.put, List.setIfInBounds_toArray, List.set_cons_zero, List.set_cons_succ, i64_w, i32_w]
                         rfl
                       exact norm_ (by first | (simp only [putAll, Act.put, List.setIfInBounds_toArray, List.set_cons_zero, List.set_cons_succ]; done) | (simp only [putAll, Act.put, List.setIfInBounds_toArray, List.set_cons_zero, List.set_cons_succ]; rfl)) (hJ2_5_6_9_10_11 (gb306) _ ⟨hHeld, (bk BK270), (bk BK271), (bk BK272), (bk BK277), (bk BK283), (bk BK295), (bk BK306), GW306.out, GE306.out, NB270_306.out, NB306_270.out, NB271_306.out, NB306_271.out, NB272_306.out, NB306_272.out, NB277_306.out, NB306_277.out, NB283_306.out, NB306_283.out, NB295_306.out, NB306_295.out, (bw HB)⟩)
                   · skip
                     rintro _ w87 ⟨hS_, h0_, h1_, h2_, h3_, h4_, h5_, h6_⟩
                     have n0_ : Aside0 (w87.heap[gb270]? = some (.cells #[.int .u64 a0_0, .int .u64 a0_1, .int .i64 a0_2, .int .i64 a0_3, .int .i64 a0_4] 53 (0, 0))) := ⟨h0_⟩
                     have n1_ : Aside0 (w87.heap[gb271]? = some (.cells #[.int .i64 a1_0, .int .u64 a1_1, .int .u64 a1_2, .int .u64 a1_3, .int .u64 a1_4] 27 (0, 0))) := ⟨h1_⟩
                     have n2_ : Aside0 (w87.heap[gb272]? = some (.cells #[.int .u64 a2_0, .int .u64 a2_1, .int .u64 a2_2] 29 (0, 0))) := ⟨h2_⟩
                     have n3_ : Aside0 (w87.heap[gb277]? = some (.cells #[.int .u64 t274, .int .u64 t275, .int .u64 t276] 29 (0, 0))) := ⟨h3_⟩
                     have n4_ : Aside0 (w87.heap[gb283]? = some (.cells #[.int .u64 t278, .int .u64 t279, .int .u64 t280] 29 (0, 0))) := ⟨h4_⟩
                     have n5_ : Aside0 (w87.heap[gb295]? = some (.cells #[.int .u64 t293, .int .u64 t294] 68 (0, 0))) := ⟨h5_⟩
                     have n6_ : Aside0 (Below w.heap.size w w87) := ⟨h6_⟩
                     clear BK270; clear BK271; clear BK272; clear BK277; clear BK283; clear BK295; clear HB; clear h0_ h1_ h2_ h3_ h4_ h5_ h6_; have BK270 := n0_; have BK271 := n1_; have BK272 := n2_; have BK277 := n3_; have BK283 := n4_; have BK295 := n5_; have HB := n6_; clear n0_ n1_ n2_ n3_ n4_ n5_ n6_
                     have hHeld : w87.cell? ⟨gb272, 0, none⟩ = some (.int .u64 a2_0) ∧ w87.cell? ⟨gb272, 1, none⟩ = some (.int .u64 a2_1) ∧ w87.cell? ⟨gb272, 2, none⟩ = some (.int .u64 a2_2) ∧ w87.cell? ⟨gb270, 0, none⟩ = some (.int .u64 a0_0) ∧ w87.cell? ⟨gb270, 1, none⟩ = some (.int .u64 a0_1) ∧ w87.cell? ⟨gb270, 2, none⟩ = some (.int .i64 a0_2) ∧ w87.cell? ⟨gb270, 3, none⟩ = some (.int .i64 a0_3) ∧ w87.cell? ⟨gb270, 4, none⟩ = some (.int .i64 a0_4) ∧ w87.cell? ⟨gb271, 0, none⟩ = some (.int .i64 a1_0) ∧ w87.cell? ⟨gb271, 1, none⟩ = some (.int .u64 a1_1) ∧ w87.cell? ⟨gb271, 2, none⟩ = some (.int .u64 a1_2) ∧ w87.cell? ⟨gb271, 3, none⟩ = some (.int .u64 a1_3) ∧ w87.cell? ⟨gb271, 4, none⟩ = some (.int .u64 a1_4) := hS_
                     refine norm_ (a' := ?_) ?_ ?_
                     rotate_left
                     · simp only [putAll, Act.put, List.setIfInBounds_toArray, List.set_cons_zero, List.set_cons_succ]
                       rfl
                     refine one_ (i := 11) (N := some 16) #[true, true, true, true, true, true, true, true, true, true, true, true, false] rfl rfl (one_of HT_.out (by kernel_rfl)) (by decide) (fun K hK => ?_)
                     refine box_step ?hg (N := 16) ?hd (cs := #[.int .u64 0, .int .u64 0]) (t := 68) ?hr ?_; (case hd => rfl); (case hg => rfl); (case hr => first | (go_simp; done) | (go_simp; rfl))
                     intro gb306 hg w88 hbox hb
                     have BK306 := Aside0.mk (hbox); have GW306 := sz HB hg; have GE306 := sz HB hg; have NB270_306 := nl BK270 hg; have NB306_270 := nr BK270 hg; have NB271_306 := nl BK271 hg; have NB306_271 := nr BK271 hg; have NB272_306 := nl BK272 hg; have NB306_272 := nr BK272 hg; have NB277_306 := nl BK277 hg; have NB306_277 := nr BK277 hg; have NB283_306 := nl BK283 hg; have NB306_283 := nr BK283 hg; have NB295_306 := nl BK295 hg; have NB306_295 := nr BK295 hg; replace BK270 := bb BK270 hb; replace BK271 := bb BK271 hb; replace BK272 := bb BK272 hb; replace BK277 := bb BK277 hb; replace BK283 := bb BK283 hb; replace BK295 := bb BK295 hb; replace HB := bs HB hb; clear hb hbox hg
                     refine hK.out _ _ ⟨(blk_cell BK272.out 0).trans rfl, (blk_cell BK272.out 1).trans rfl, (blk_cell BK272.out 2).trans rfl, (blk_cell BK270.out 0).trans rfl, (blk_cell BK270.out 1).trans rfl, (blk_cell BK270.out 2).trans rfl, (blk_cell BK270.out 3).trans rfl, (blk_cell BK270.out 4).trans rfl, (blk_cell BK271.out 0).trans rfl, (blk_cell BK271.out 1).trans rfl, (blk_cell BK271.out 2).trans rfl, (blk_cell BK271.out 3).trans rfl, (blk_cell BK271.out 4).trans rfl⟩ (fun hHeld => ?_)
                     clear hK K
                     refine norm_ (a' := ?_) ?_ ?_
                     rotate_left
                     · show Act.put _ (some 16) _ = _
                       simp only [Act.put, List.setIfInBounds_toArray, List.set_cons_zero, List.set_cons_succ, i64_w, i32_w]
                       rfl
                     exact norm_ (by first | (simp only [putAll, Act.put, List.setIfInBounds_toArray, List.set_cons_zero, List.set_cons_succ]; done) | (simp only [putAll, Act.put, List.setIfInBounds_toArray, List.set_cons_zero, List.set_cons_succ]; rfl)) (hJ2_5_6_9_10_11 (gb306) _ ⟨hHeld, (bk BK270), (bk BK271), (bk BK272), (bk BK277), (bk BK283), (bk BK295), (bk BK306), GW306.out, GE306.out, NB270_306.out, NB306_270.out, NB271_306.out, NB306_271.out, NB272_306.out, NB306_272.out, NB277_306.out, NB306_277.out, NB283_306.out, NB306_283.out, NB295_306.out, NB306_295.out, (bw HB)⟩)
                 rintro gb306 w88 ⟨hS_, h0_, h1_, h2_, h3_, h4_, h5_, h6_, h7_, h8_, h9_, h10_, h11_, h12_, h13_, h14_, h15_, h16_, h17_, h18_, h19_, h20_, h21_⟩
                 have n0_ : Aside0 (w88.heap[gb270]? = some (.cells #[.int .u64 a0_0, .int .u64 a0_1, .int .i64 a0_2, .int .i64 a0_3, .int .i64 a0_4] 53 (0, 0))) := ⟨h0_⟩
                 have n1_ : Aside0 (w88.heap[gb271]? = some (.cells #[.int .i64 a1_0, .int .u64 a1_1, .int .u64 a1_2, .int .u64 a1_3, .int .u64 a1_4] 27 (0, 0))) := ⟨h1_⟩
                 have n2_ : Aside0 (w88.heap[gb272]? = some (.cells #[.int .u64 a2_0, .int .u64 a2_1, .int .u64 a2_2] 29 (0, 0))) := ⟨h2_⟩
                 have n3_ : Aside0 (w88.heap[gb277]? = some (.cells #[.int .u64 t274, .int .u64 t275, .int .u64 t276] 29 (0, 0))) := ⟨h3_⟩
                 have n4_ : Aside0 (w88.heap[gb283]? = some (.cells #[.int .u64 t278, .int .u64 t279, .int .u64 t280] 29 (0, 0))) := ⟨h4_⟩
                 have n5_ : Aside0 (w88.heap[gb295]? = some (.cells #[.int .u64 t293, .int .u64 t294] 68 (0, 0))) := ⟨h5_⟩
                 have n6_ : Aside0 (w88.heap[gb306]? = some (.cells #[.int .u64 0, .int .u64 0] 68 (0, 0))) := ⟨h6_⟩
                 have n7_ : Aside0 (w.heap.size ≤ gb306) := ⟨h7_⟩
                 have n8_ : Aside0 (w.heap.size ≤ gb306) := ⟨h8_⟩
                 have n9_ : Aside0 (gb270 ≠ gb306) := ⟨h9_⟩
                 have n10_ : Aside0 (gb306 ≠ gb270) := ⟨h10_⟩
                 have n11_ : Aside0 (gb271 ≠ gb306) := ⟨h11_⟩
                 have n12_ : Aside0 (gb306 ≠ gb271) := ⟨h12_⟩
                 have n13_ : Aside0 (gb272 ≠ gb306) := ⟨h13_⟩
                 have n14_ : Aside0 (gb306 ≠ gb272) := ⟨h14_⟩
                 have n15_ : Aside0 (gb277 ≠ gb306) := ⟨h15_⟩
                 have n16_ : Aside0 (gb306 ≠ gb277) := ⟨h16_⟩
                 have n17_ : Aside0 (gb283 ≠ gb306) := ⟨h17_⟩
                 have n18_ : Aside0 (gb306 ≠ gb283) := ⟨h18_⟩
                 have n19_ : Aside0 (gb295 ≠ gb306) := ⟨h19_⟩
                 have n20_ : Aside0 (gb306 ≠ gb295) := ⟨h20_⟩
                 have n21_ : Aside0 (Below w.heap.size w w88) := ⟨h21_⟩
                 clear BK270; clear BK271; clear BK272; clear BK277; clear BK283; clear BK295; clear HB; clear h0_ h1_ h2_ h3_ h4_ h5_ h6_ h7_ h8_ h9_ h10_ h11_ h12_ h13_ h14_ h15_ h16_ h17_ h18_ h19_ h20_ h21_; have BK270 := n0_; have BK271 := n1_; have BK272 := n2_; have BK277 := n3_; have BK283 := n4_; have BK295 := n5_; have BK306 := n6_; have GW306 := n7_; have GE306 := n8_; have NB270_306 := n9_; have NB306_270 := n10_; have NB271_306 := n11_; have NB306_271 := n12_; have NB272_306 := n13_; have NB306_272 := n14_; have NB277_306 := n15_; have NB306_277 := n16_; have NB283_306 := n17_; have NB306_283 := n18_; have NB295_306 := n19_; have NB306_295 := n20_; have HB := n21_; clear n0_ n1_ n2_ n3_ n4_ n5_ n6_ n7_ n8_ n9_ n10_ n11_ n12_ n13_ n14_ n15_ n16_ n17_ n18_ n19_ n20_ n21_
                 have hHeld : w88.cell? ⟨gb272, 0, none⟩ = some (.int .u64 a2_0) ∧ w88.cell? ⟨gb272, 1, none⟩ = some (.int .u64 a2_1) ∧ w88.cell? ⟨gb272, 2, none⟩ = some (.int .u64 a2_2) ∧ w88.cell? ⟨gb270, 0, none⟩ = some (.int .u64 a0_0) ∧ w88.cell? ⟨gb270, 1, none⟩ = some (.int .u64 a0_1) ∧ w88.cell? ⟨gb270, 2, none⟩ = some (.int .i64 a0_2) ∧ w88.cell? ⟨gb270, 3, none⟩ = some (.int .i64 a0_3) ∧ w88.cell? ⟨gb270, 4, none⟩ = some (.int .i64 a0_4) ∧ w88.cell? ⟨gb271, 0, none⟩ = some (.int .i64 a1_0) ∧ w88.cell? ⟨gb271, 1, none⟩ = some (.int .u64 a1_1) ∧ w88.cell? ⟨gb271, 2, none⟩ = some (.int .u64 a1_2) ∧ w88.cell? ⟨gb271, 3, none⟩ = some (.int .u64 a1_3) ∧ w88.cell? ⟨gb271, 4, none⟩ = some (.int .u64 a1_4) := hS_
                 refine norm_ (a' := ?_) ?_ ?_
                 rotate_left
                 · simp only [putAll, Act.put, List.setIfInBounds_toArray, List.set_cons_zero, List.set_cons_succ]
                   rfl
                 refine one_ (i := 12) (N := none) #[true, true, true, true, true, true, true, true, true, true, true, true, true] rfl rfl (one_of HT_.out (by kernel_rfl)) (by decide) (fun K hK => ?_)
                 have hs89 : w88.cell? ⟨gb306, 0, none⟩ = some (.int .u64 0) := (blk_cell BK306.out 0).trans rfl
                 have hfs89 := blk_frozen BK306.out 0; have hns89_0 := NB270_306.out; have hns89_1 := NB271_306.out; have hns89_2 := NB272_306.out; have hns89_3 := NB277_306.out; have hns89_4 := NB283_306.out; have hns89_5 := NB295_306.out; have hms89_0 := NB306_270.out; have hms89_1 := NB306_271.out; have hms89_2 := NB306_272.out; have hms89_3 := NB306_277.out; have hms89_4 := NB306_283.out; have hms89_5 := NB306_295.out
                 have hs90 : w88.cell? ⟨gb306, 1, none⟩ = some (.int .u64 0) := (blk_cell BK306.out 1).trans rfl
                 have hfs90 := blk_frozen BK306.out 1; have hns90_0 := NB270_306.out; have hns90_1 := NB271_306.out; have hns90_2 := NB272_306.out; have hns90_3 := NB277_306.out; have hns90_4 := NB283_306.out; have hns90_5 := NB295_306.out; have hms90_0 := NB306_270.out; have hms90_1 := NB306_271.out; have hms90_2 := NB306_272.out; have hms90_3 := NB306_277.out; have hms90_4 := NB306_283.out; have hms90_5 := NB306_295.out
                 refine skip_ (w1 := ?_) (by rfl) rfl ?_ ?_
                 rotate_left
                 · go_simp
                   rfl
                 refine hK.out _ _ ⟨((cell_far (p := ⟨gb306, _, none⟩) NB272_306.out _).trans (((cell_far (p := ⟨gb306, _, none⟩) NB272_306.out _).trans (hHeld.1)))), ((cell_far (p := ⟨gb306, _, none⟩) NB272_306.out _).trans (((cell_far (p := ⟨gb306, _, none⟩) NB272_306.out _).trans (hHeld.2.1)))), ((cell_far (p := ⟨gb306, _, none⟩) NB272_306.out _).trans (((cell_far (p := ⟨gb306, _, none⟩) NB272_306.out _).trans (hHeld.2.2.1)))), ((cell_far (p := ⟨gb306, _, none⟩) NB270_306.out _).trans (((cell_far (p := ⟨gb306, _, none⟩) NB270_306.out _).trans (hHeld.2.2.2.1)))), ((cell_far (p := ⟨gb306, _, none⟩) NB270_306.out _).trans (((cell_far (p := ⟨gb306, _, none⟩) NB270_306.out _).trans (hHeld.2.2.2.2.1)))), ((cell_far (p := ⟨gb306, _, none⟩) NB270_306.out _).trans (((cell_far (p := ⟨gb306, _, none⟩) NB270_306.out _).trans (hHeld.2.2.2.2.2.1)))), ((cell_far (p := ⟨gb306, _, none⟩) NB270_306.out _).trans (((cell_far (p := ⟨gb306, _, none⟩) NB270_306.out _).trans (hHeld.2.2.2.2.2.2.1)))), ((cell_far (p := ⟨gb306, _, none⟩) NB270_306.out _).trans (((cell_far (p := ⟨gb306, _, none⟩) NB270_306.out _).trans (hHeld.2.2.2.2.2.2.2.1)))), ((cell_far (p := ⟨gb306, _, none⟩) NB271_306.out _).trans (((cell_far (p := ⟨gb306, _, none⟩) NB271_306.out _).trans (hHeld.2.2.2.2.2.2.2.2.1)))), ((cell_far (p := ⟨gb306, _, none⟩) NB271_306.out _).trans (((cell_far (p := ⟨gb306, _, none⟩) NB271_306.out _).trans (hHeld.2.2.2.2.2.2.2.2.2.1)))), ((cell_far (p := ⟨gb306, _, none⟩) NB271_306.out _).trans (((cell_far (p := ⟨gb306, _, none⟩) NB271_306.out _).trans (hHeld.2.2.2.2.2.2.2.2.2.2.1)))), ((cell_far (p := ⟨gb306, _, none⟩) NB271_306.out _).trans (((cell_far (p := ⟨gb306, _, none⟩) NB271_306.out _).trans (hHeld.2.2.2.2.2.2.2.2.2.2.2.1)))), ((cell_far (p := ⟨gb306, _, none⟩) NB271_306.out _).trans (((cell_far (p := ⟨gb306, _, none⟩) NB271_306.out _).trans (hHeld.2.2.2.2.2.2.2.2.2.2.2.2))))⟩ (fun hHeld => ?_)
                 clear hK K
                 refine done_ (done_of HT_.out (by kernel_rfl)) ?_
                 go_upto_region 13 with (fail)
                 go_cut [18] (fun v18 wc => ∃ (kq : Nat) (x18_68 : Bool), v18 = .bool x18_68 ∧ Aside0 (turnstilelaw17_ReserveLoss.j6 kq a3 t281 x18_68 a1_0 a1_1 a1_2 a1_3 a1_4 t293 t294 = some r) ∧ Aside0 (kq ≤ kj44) ∧ Aside0 (wc.heap[gb270]? = some (.cells #[.int .u64 a0_0, .int .u64 a0_1, .int .i64 a0_2, .int .i64 a0_3, .int .i64 a0_4] 53 (0, 0))) ∧ Aside0 (wc.heap[gb271]? = some (.cells #[.int .i64 a1_0, .int .u64 a1_1, .int .u64 a1_2, .int .u64 a1_3, .int .u64 a1_4] 27 (0, 0))) ∧ Aside0 (wc.heap[gb272]? = some (.cells #[.int .u64 a2_0, .int .u64 a2_1, .int .u64 a2_2] 29 (0, 0))) ∧ Aside0 (wc.heap[gb277]? = some (.cells #[.int .u64 t274, .int .u64 t275, .int .u64 t276] 29 (0, 0))) ∧ Aside0 (wc.heap[gb283]? = some (.cells #[.int .u64 t278, .int .u64 t279, .int .u64 t280] 29 (0, 0))) ∧ Aside0 (wc.heap[gb295]? = some (.cells #[.int .u64 t293, .int .u64 t294] 68 (0, 0))) ∧ Aside0 (wc.heap[gb306]? = some (.cells #[.int .u64 t304, .int .u64 t305] 68 (0, 0))) ∧ Aside0 (Below w.heap.size w wc))
                 case first =>
                  have H := HC69.out; clear HC69; replace H := Option.bind_eq_some_iff.mp H
                  obtain ⟨⟨t307, t308⟩, A910, H⟩ := H
                  replace H : (turnstilelaw17_ReserveLoss.j6 kj44 a3 t281 t308 a1_0 a1_1 a1_2 a1_3 a1_4 t293 t294) = some r := H
                  have A91 := Aside0.mk A910; clear A910
                  have H' := Aside0.mk H
                  clear H; have hnb92 := NB306_270.out; have hnc92 := NB270_306.out; have hnb93 := NB306_271.out; have hnc93 := NB271_306.out; have hnb94 := NB306_272.out; have hnc94 := NB272_306.out; have hnb95 := NB306_277.out; have hnc95 := NB277_306.out; have hnb96 := NB306_283.out; have hnc96 := NB283_306.out; have hnb97 := NB306_295.out; have hnc97 := NB295_306.out
                  obtain ⟨hcz98_0, hcz98_1, hfz98_0, hfz98_1⟩ := bc2 BK306
                  go_wp2_with (first | ((with_reducible refine gate_callee (f := 36) rfl ?_); refine gm (some 83) Try.func36 #[.agg #[.int .u64 t304, .int .u64 t305]] (sat_Wide_Narrow.calls t304 t305 t307 t308 _ A91.out) ?_; intro w99 hb; replace BK270 := bb BK270 hb; replace BK271 := bb BK271 hb; replace BK272 := bb BK272 hb; replace BK277 := bb BK277 hb; replace BK283 := bb BK283 hb; replace BK295 := bb BK295 hb; replace BK306 := bbp (.cells #[.int .u64 t304, .int .u64 t305] 68 (0, 0)) BK306 hb; replace HB := bs HB hb; (try clear hb); (try clear hb2); (try clear hk); (try clear hi)))
                  go_meet
                  case rel => exact ⟨_, (t308), rs, H', ⟨by have := HJ4.out; have := HJ10.out; have := HJ14.out; have := HJ42.out; have := HJ44.out; first | omega | exact Nat.le_refl _⟩, ⟨bk BK270⟩, ⟨bk BK271⟩, ⟨bk BK272⟩, ⟨bk BK277⟩, ⟨bk BK283⟩, ⟨bk BK295⟩, ⟨bk BK306⟩, ⟨bw HB⟩⟩
                 case rest => as_aux_lemma =>
                  clear HC69; (try clear p2); (try clear c3); (try clear c9); (try clear c33); (try clear c34); (try clear c36); (try clear c92); (try clear c93); (try clear c94); (try clear c95); (try clear c96); (try clear c97); (try clear hcz98_0); (try clear hcz98_1); (try clear hfz98_0); (try clear hfz98_1)
                  obtain ⟨kq, x18_68, rfl, HA, HJ68, BK270, BK271, BK272, BK277, BK283, BK295, BK306, HB⟩ := hcut
                  cases kq with
                  | zero => exact absurd HA.out (by simp [turnstilelaw17_ReserveLoss.j6])
                  | succ kj68 =>
                   have H := HA.out; clear HA
                   simp only [turnstilelaw17_ReserveLoss.j6] at H
                   replace H := Option.bind_eq_some_iff.mp H
                   obtain ⟨⟨t309, t310⟩, A1000, H⟩ := H
                   replace H : ((sat_Wide_Cmp.f t309 t310 t293 t294).bind fun t311 => (if t311 < 0 then (turnstilelaw17_ReserveLoss.j7 kj68 true) else (if x18_68 = true then (if a3 > (IntKind.u64.wrap (18446744073709551615 - a1_1)) then (turnstilelaw17_ReserveLoss.j7 kj68 true) else (turnstilelaw17_ReserveLoss.j7 kj68 t281)) else (turnstilelaw17_ReserveLoss.j7 kj68 true)))) = some r := H
                   have A100 := Aside0.mk A1000; clear A1000; replace H := Option.bind_eq_some_iff.mp H
                   obtain ⟨t311, A1010, H⟩ := H
                   replace H : (if t311 < 0 then (turnstilelaw17_ReserveLoss.j7 kj68 true) else (if x18_68 = true then (if a3 > (IntKind.u64.wrap (18446744073709551615 - a1_1)) then (turnstilelaw17_ReserveLoss.j7 kj68 true) else (turnstilelaw17_ReserveLoss.j7 kj68 t281)) else (turnstilelaw17_ReserveLoss.j7 kj68 true))) = some r := H
                   have A101 := Aside0.mk A1010; clear A1010; have HC102 := Aside0.mk H; clear H
                   try go_wp2
                   replace BK270 := Aside0.mk (blk_drew BK270.out); replace BK271 := Aside0.mk (blk_drew BK271.out); replace BK272 := Aside0.mk (blk_drew BK272.out); replace BK277 := Aside0.mk (blk_drew BK277.out); replace BK283 := Aside0.mk (blk_drew BK283.out); replace BK295 := Aside0.mk (blk_drew BK295.out); replace BK306 := Aside0.mk (blk_drew BK306.out); replace HB := Aside0.mk (below_drew1 HB.out)
                   refine start_ (n := 6) (S := fun w' => w'.cell? ⟨gb295, 0, none⟩ = some (.int .u64 t293) ∧ w'.cell? ⟨gb295, 1, none⟩ = some (.int .u64 t294)) (ds := []) #[false, false, false, false, false, false] (by kernel_rfl) rfl rfl ⟨(blk_cell BK295.out 0).trans rfl, (blk_cell BK295.out 1).trans rfl⟩ (fun hHeld => ?_)
                   generalize wc.drew = w103 at BK270 BK271 BK272 BK277 BK283 BK295 BK306 HB hHeld ⊢
                   refine pure_ (i := 0) (N := some 86) (v := ?_) (a' := ?_) #[true, false, false, false, false, false] rfl rfl (by kernel_rfl) (fun _ _ _ h => h) (Or.inl ⟨by rfl, ?_⟩) ?_ ?_
                   rotate_left
                   · intro w'
                     go_simp
                     with_reducible rfl
                   rotate_left
                   · simp only [Act.put, List.setIfInBounds_toArray, List.set_cons_zero, List.set_cons_succ, i64_w, i32_w]
                     rfl
                   refine take_ (i := 2) (N := some 88) (v := ?_) (a' := ?_) #[true, false, true, false, false, false] rfl rfl (by kernel_rfl) (fun _ _ _ h => h) (Or.inl ⟨by rfl, ?_⟩) hHeld ?_ ?_
                   rotate_left
                   · rintro w' ⟨s0, s1⟩
                     go_simp
                     with_reducible rfl
                   rotate_left
                   · simp only [Act.put, List.setIfInBounds_toArray, List.set_cons_zero, List.set_cons_succ, i64_w, i32_w]
                     rfl
                   refine one_ (i := 1) (N := some 87) #[true, true, true, false, false, false] rfl rfl (by kernel_rfl) (by decide) (fun K hK => ?_)
                   refine ge Try.func33 #[.int .u64 a3] ?_
                   with_reducible refine (sat_Of.calls a3 t309 t310 _ A100.out).mono ?_
                   rintro e w104 ⟨rfl, hb⟩
                   refine ⟨_, rfl, ?_⟩
                   replace BK270 := bb BK270 hb; replace BK271 := bb BK271 hb; replace BK272 := bb BK272 hb; replace BK277 := bb BK277 hb; replace BK283 := bb BK283 hb; replace BK295 := bb BK295 hb; replace BK306 := bb BK306 hb; replace HB := bs HB hb; (try clear hb); (try clear hb2); (try clear hk); (try clear hi)
                   refine hK.out _ _ ⟨(blk_cell BK295.out 0).trans rfl, (blk_cell BK295.out 1).trans rfl⟩ (fun hHeld => ?_)
                   clear hK K
                   refine norm_ (a' := ?_) ?_ ?_
                   rotate_left
                   · show Act.put _ (some 87) _ = _
                     simp only [Act.put, List.setIfInBounds_toArray, List.set_cons_zero, List.set_cons_succ, i64_w, i32_w]
                     rfl
                   refine one_ (i := 3) (N := some 89) #[true, true, true, true, false, false] rfl rfl (by kernel_rfl) (by decide) (fun K hK => ?_)
                   refine ge Try.func37 #[.agg #[.int .u64 t309, .int .u64 t310], .agg #[.int .u64 t293, .int .u64 t294]] ?_
                   with_reducible refine (sat_Wide_Cmp.calls t309 t310 t293 t294 t311 _ A101.out).mono ?_
                   rintro e w105 ⟨rfl, hb⟩
                   refine ⟨_, rfl, ?_⟩
                   replace BK270 := bb BK270 hb; replace BK271 := bb BK271 hb; replace BK272 := bb BK272 hb; replace BK277 := bb BK277 hb; replace BK283 := bb BK283 hb; replace BK295 := bb BK295 hb; replace BK306 := bb BK306 hb; replace HB := bs HB hb; (try clear hb); (try clear hb2); (try clear hk); (try clear hi)
                   refine hK.out _ _ ⟨(blk_cell BK295.out 0).trans rfl, (blk_cell BK295.out 1).trans rfl⟩ (fun hHeld => ?_)
                   clear hK K
                   refine norm_ (a' := ?_) ?_ ?_
                   rotate_left
                   · show Act.put _ (some 89) _ = _
                     simp only [Act.put, List.setIfInBounds_toArray, List.set_cons_zero, List.set_cons_succ, i64_w, i32_w]
                     rfl
                   refine pure_ (i := 4) (N := some 90) (v := ?_) (a' := ?_) #[true, true, true, true, true, false] rfl rfl (by kernel_rfl) (fun _ _ _ h => h) (Or.inl ⟨by rfl, ?_⟩) ?_ ?_
                   rotate_left
                   · intro w'
                     go_simp
                     with_reducible rfl
                   rotate_left
                   · simp only [Act.put, List.setIfInBounds_toArray, List.set_cons_zero, List.set_cons_succ, i64_w, i32_w]
                     rfl
                   refine pure_ (i := 5) (N := some 19) (v := ?_) (a' := ?_) #[true, true, true, true, true, true] rfl rfl (by kernel_rfl) (fun _ _ _ h => h) (Or.inl ⟨by rfl, ?_⟩) ?_ ?_
                   rotate_left
                   · intro w'
                     go_simp
                     with_reducible rfl
                   rotate_left
                   · simp only [Act.put, List.setIfInBounds_toArray, List.set_cons_zero, List.set_cons_succ, i64_w, i32_w]
                     rfl
                   refine done_ (by kernel_rfl) ?_
                   go_upto_region 15 with (fail)
                   go_cut [8, 19] (fun v8 v19 wc => ∃ (kq : Nat) (x8_101 : Bool), v8 = .bool x8_101 ∧ Aside0 (turnstilelaw17_ReserveLoss.j7 kq x8_101 = some r) ∧ Aside0 (kq ≤ kj68) ∧ Aside0 (wc.heap[gb270]? = some (.cells #[.int .u64 a0_0, .int .u64 a0_1, .int .i64 a0_2, .int .i64 a0_3, .int .i64 a0_4] 53 (0, 0))) ∧ Aside0 (wc.heap[gb271]? = some (.cells #[.int .i64 a1_0, .int .u64 a1_1, .int .u64 a1_2, .int .u64 a1_3, .int .u64 a1_4] 27 (0, 0))) ∧ Aside0 (wc.heap[gb272]? = some (.cells #[.int .u64 a2_0, .int .u64 a2_1, .int .u64 a2_2] 29 (0, 0))) ∧ Aside0 (wc.heap[gb277]? = some (.cells #[.int .u64 t274, .int .u64 t275, .int .u64 t276] 29 (0, 0))) ∧ Aside0 (wc.heap[gb283]? = some (.cells #[.int .u64 t278, .int .u64 t279, .int .u64 t280] 29 (0, 0))) ∧ Aside0 (wc.heap[gb295]? = some (.cells #[.int .u64 t293, .int .u64 t294] 68 (0, 0))) ∧ Aside0 (wc.heap[gb306]? = some (.cells #[.int .u64 t304, .int .u64 t305] 68 (0, 0))) ∧ Aside0 (Below w.heap.size w wc))
                   case first =>
                    have H := HC102.out; clear HC102
                    by_cases c106 : t311 < 0
                    · rw [if_pos c106] at H
                      have c106b0 : decide (t311 < 0) = true := decide_eq_true c106
                      clear c106
                      (first | rw [c106b0] | (simp only [i64_w, i32_w]; rw [c106b0]) | skip)
                      have H' := Aside0.mk H
                      clear H
                      go_wp2
                      go_meet
                      case rel => exact ⟨_, (true), rs, H', ⟨by have := HJ4.out; have := HJ10.out; have := HJ14.out; have := HJ42.out; have := HJ44.out; have := HJ68.out; first | omega | exact Nat.le_refl _⟩, ⟨bk BK270⟩, ⟨bk BK271⟩, ⟨bk BK272⟩, ⟨bk BK277⟩, ⟨bk BK283⟩, ⟨bk BK295⟩, ⟨bk BK306⟩, ⟨bw HB⟩⟩
                    · rw [if_neg c106] at H
                      have c106b0 : decide (t311 < 0) = false := decide_eq_false c106
                      clear c106
                      (first | rw [c106b0] | (simp only [i64_w, i32_w]; rw [c106b0]) | skip)
                      by_cases c107 : x18_68 = true
                      · subst c107
                        have H1 : (if a3 > (IntKind.u64.wrap (18446744073709551615 - a1_1)) then (turnstilelaw17_ReserveLoss.j7 kj68 true) else (turnstilelaw17_ReserveLoss.j7 kj68 t281)) = some r := by rw [if_pos rfl] at H; exact H
                        clear H; have H := H1; clear H1
                        by_cases c108 : a3 > (IntKind.u64.wrap (18446744073709551615 - a1_1))
                        · rw [if_pos c108] at H
                          have c108b0 : decide ((IntKind.u64.wrap (18446744073709551615 - a1_1)) < a3) = true := decide_eq_true c108
                          clear c108
                          have H' := Aside0.mk H
                          clear H; have hnb109 := NB271_270.out; have hnc109 := NB270_271.out; have hnb110 := NB271_272.out; have hnc110 := NB272_271.out; have hnb111 := NB271_277.out; have hnc111 := NB277_271.out; have hnb112 := NB271_283.out; have hnc112 := NB283_271.out; have hnb113 := NB271_295.out; have hnc113 := NB295_271.out; have hnb114 := NB271_306.out; have hnc114 := NB306_271.out
                          obtain ⟨hcz115_0, hcz115_1, hcz115_2, hcz115_3, hcz115_4, hfz115_0, hfz115_1, hfz115_2, hfz115_3, hfz115_4⟩ := bc5 BK271
                          go_wp2
                          go_meet
                          case rel => exact ⟨_, (true), rs, H', ⟨by have := HJ4.out; have := HJ10.out; have := HJ14.out; have := HJ42.out; have := HJ44.out; have := HJ68.out; first | omega | exact Nat.le_refl _⟩, ⟨bk BK270⟩, ⟨bk BK271⟩, ⟨bk BK272⟩, ⟨bk BK277⟩, ⟨bk BK283⟩, ⟨bk BK295⟩, ⟨bk BK306⟩, ⟨bw HB⟩⟩
                        · rw [if_neg c108] at H
                          have c108b0 : decide ((IntKind.u64.wrap (18446744073709551615 - a1_1)) < a3) = false := decide_eq_false c108
                          clear c108
                          have H' := Aside0.mk H
                          clear H; have hnb116 := NB271_270.out; have hnc116 := NB270_271.out; have hnb117 := NB271_272.out; have hnc117 := NB272_271.out; have hnb118 := NB271_277.out; have hnc118 := NB277_271.out; have hnb119 := NB271_283.out; have hnc119 := NB283_271.out; have hnb120 := NB271_295.out; have hnc120 := NB295_271.out; have hnb121 := NB271_306.out; have hnc121 := NB306_271.out
                          obtain ⟨hcz122_0, hcz122_1, hcz122_2, hcz122_3, hcz122_4, hfz122_0, hfz122_1, hfz122_2, hfz122_3, hfz122_4⟩ := bc5 BK271
                          go_wp2
                          go_meet
                          case rel => exact ⟨_, (t281), rs, H', ⟨by have := HJ4.out; have := HJ10.out; have := HJ14.out; have := HJ42.out; have := HJ44.out; have := HJ68.out; first | omega | exact Nat.le_refl _⟩, ⟨bk BK270⟩, ⟨bk BK271⟩, ⟨bk BK272⟩, ⟨bk BK277⟩, ⟨bk BK283⟩, ⟨bk BK295⟩, ⟨bk BK306⟩, ⟨bw HB⟩⟩
                      · replace c107 := Bool.eq_false_iff.mpr c107
                        subst c107
                        have H1 : (turnstilelaw17_ReserveLoss.j7 kj68 true) = some r := by rw [if_neg (show ¬ (false = true) by decide)] at H; exact H
                        clear H; have H := H1; clear H1
                        have H' := Aside0.mk H
                        clear H
                        go_wp2
                        go_meet
                        case rel => exact ⟨_, (true), rs, H', ⟨by have := HJ4.out; have := HJ10.out; have := HJ14.out; have := HJ42.out; have := HJ44.out; have := HJ68.out; first | omega | exact Nat.le_refl _⟩, ⟨bk BK270⟩, ⟨bk BK271⟩, ⟨bk BK272⟩, ⟨bk BK277⟩, ⟨bk BK283⟩, ⟨bk BK295⟩, ⟨bk BK306⟩, ⟨bw HB⟩⟩
                   case rest => as_aux_lemma =>
                    clear HC102; (try clear c1); (try clear p2); (try clear c3); (try clear c9); (try clear c10); (try clear c11); (try clear c12); (try clear c33); (try clear c34); (try clear c36); (try clear c37); (try clear c92); (try clear c93); (try clear c94); (try clear c95); (try clear c96); (try clear c97); (try clear c106); (try clear c106b0); (try clear c107); (try clear c108); (try clear c108b0); (try clear c109); (try clear c110); (try clear c111); (try clear c112); (try clear c113); (try clear c114); (try clear c116); (try clear c117); (try clear c118); (try clear c119); (try clear c120); (try clear c121); (try clear hcz115_0); (try clear hcz115_1); (try clear hcz115_2); (try clear hcz115_3); (try clear hcz115_4); (try clear hcz122_0); (try clear hcz122_1); (try clear hcz122_2); (try clear hcz122_3); (try clear hcz122_4); (try clear hcz98_0); (try clear hcz98_1); (try clear hfz115_0); (try clear hfz115_1); (try clear hfz115_2); (try clear hfz115_3); (try clear hfz115_4); (try clear hfz122_0); (try clear hfz122_1); (try clear hfz122_2); (try clear hfz122_3); (try clear hfz122_4); (try clear hfz98_0); (try clear hfz98_1); (try clear p2)
                    obtain ⟨kq, x8_101, rfl, HA, HJ101, BK270, BK271, BK272, BK277, BK283, BK295, BK306, HB⟩ := hcut
                    cases kq with
                    | zero => exact absurd HA.out (by simp [turnstilelaw17_ReserveLoss.j7])
                    | succ kj101 =>
                     have H := HA.out; clear HA
                     simp only [turnstilelaw17_ReserveLoss.j7] at H
                     obtain rfl := Option.some.inj H
                     go_wp2
                     go_ret
                     exact ⟨re, bw HB⟩


end Go.Proofs.Ytokfhdpokemekaa.Q
