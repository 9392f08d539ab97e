/- Written by the session's own program hyb.py: what functions of the program compute; Lean checks it. -/
import Derived.Test.YtokfhdpokemekaaQx0
import Derived.Test.YtokfhdpokemekaaQx1
import Derived.Test.YtokfhdpokemekaaQx18
import Derived.Test.YtokfhdpokemekaaQx20
import Derived.Test.YtokfhdpokemekaaQx37
import Derived.Test.YtokfhdpokemekaaQx39
import Derived.Test.YtokfhdpokemekaaQx40
namespace Go.Proofs.Ytokfhdpokemekaa.Q
open Go.RowKit Go.Proofs.YtokfhdpokemekaaW.PrintWords Go.Proofs.YtokfhdpokemekaaW.PrintLast Go.Proofs.YtokfhdpokemekaaW.PrintMore Go.Proofs.YtokfhdpokemekaaW.PrintShort
attribute [local go_sem] run_Add64 run_Sub64
attribute [local go_sem] max2_int min2_int max_two min_two max_three min_three max_four min_four   -- for this text's walks alone
set_option linter.unusedVariables false
set_option linter.unusedSimpArgs false

attribute [local go_sem high] eqA29
/-! ### turnstilelaw17_ReserveCovers: function 13 -/
mutual
def turnstilelaw17_ReserveCovers.j0 : Nat → Bool → Int → Int → Int → Int → Int → Int → Int → Int → Int → Int → Int → Int → Int → Option (Bool)
  | 0, _, _, _, _, _, _, _, _, _, _, _, _, _, _ => none
  | k + 1, x7, x799000, x799001, x799002, x799003, x799004, x800000, x800001, x800002, x800003, x800004, x801000, x801001, x801002 => turnstilelaw17_ReserveCovers.j1 k (!x7) x799000 x799001 x799002 x799003 x799004 x800000 x800001 x800002 x800003 x800004 x801000 x801001 x801002
def turnstilelaw17_ReserveCovers.j1 : Nat → Bool → Int → Int → Int → Int → Int → Int → Int → Int → Int → Int → Int → Int → Int → Option (Bool)
  | 0, _, _, _, _, _, _, _, _, _, _, _, _, _, _ => none
  | k + 1, x13, x799000, x799001, x799002, x799003, x799004, x800000, x800001, x800002, x800003, x800004, x801000, x801001, x801002 => if x13 = true then (some false) else ((reserve_Ceiling.f x799000 x799001 x799002 x799003 x799004 x800000 x800001 x800002 x800003 x800004 x801000 x801001 x801002).bind fun bt802 => ((policy_Valid.f x800000 x800001 x800002 x800003 x800004).bind fun t806 => (turnstilelaw17_ReserveCovers.j2 k t806 x799000 x799001 x799002 x799003 x799004 x800000 x800001 x800002 x800003 x800004 x801000 x801001 x801002 bt802.1 bt802.2.1 bt802.2.2)))
def turnstilelaw17_ReserveCovers.j2 : Nat → Bool → Int → Int → Int → Int → Int → Int → Int → Int → Int → Int → Int → Int → Int → Int → Int → Int → Option (Bool)
  | 0, _, _, _, _, _, _, _, _, _, _, _, _, _, _, _, _, _ => none
  | k + 1, x9, x799000, x799001, x799002, x799003, x799004, x800000, x800001, x800002, x800003, x800004, x801000, x801001, x801002, x806000, x806001, x806002 => turnstilelaw17_ReserveCovers.j3 k (!x9) x799000 x799001 x799002 x799003 x799004 x800000 x800001 x800002 x800003 x800004 x801000 x801001 x801002 x806000 x806001 x806002
def turnstilelaw17_ReserveCovers.j3 : Nat → Bool → Int → Int → Int → Int → Int → Int → Int → Int → Int → Int → Int → Int → Int → Int → Int → Int → Option (Bool)
  | 0, _, _, _, _, _, _, _, _, _, _, _, _, _, _, _, _, _ => none
  | k + 1, x21, x799000, x799001, x799002, x799003, x799004, x800000, x800001, x800002, x800003, x800004, x801000, x801001, x801002, x806000, x806001, x806002 => if x21 = true then (if (x806000 == 0 && (x806001 == 0 && (x806002 == 0))) = true then ((reserve_Within.f x799000 x799001 x799002 x799003 x799004 x800000 x800001 x800002 x800003 x800004 x801000 x801001 x801002 x801000 x801001 x801002).bind fun t807 => (some (!t807))) else (some false)) else ((policy_Fits.f x800000 x800001 x800002 x800003 x800004 x806000 x806001 x806002).bind fun t808 => (if t808 = true then ((policy_Covers.f x800000 x800001 x800002 x800003 x800004 x806000 x806001 x806002 x801000 x801001 x801002).bind fun t809 => (if t809 = true then ((reserve_Within.f x799000 x799001 x799002 x799003 x799004 x800000 x800001 x800002 x800003 x800004 x801000 x801001 x801002 x806000 x806001 x806002).bind fun t810 => (if t810 = true then ((reserve_Within.f x799000 x799001 x799002 x799003 x799004 x800000 x800001 x800002 x800003 x800004 x801000 x801001 x801002 x801000 x801001 x801002).bind fun t811 => (turnstilelaw17_ReserveCovers.j4 k (!t811) x799000 x799001 x799002 x799003 x799004 x800000 x800001 x800002 x800003 x800004 x801000 x801001 x801002 x806000 x806001 x806002)) else (turnstilelaw17_ReserveCovers.j4 k true x799000 x799001 x799002 x799003 x799004 x800000 x800001 x800002 x800003 x800004 x801000 x801001 x801002 x806000 x806001 x806002))) else (turnstilelaw17_ReserveCovers.j4 k true x799000 x799001 x799002 x799003 x799004 x800000 x800001 x800002 x800003 x800004 x801000 x801001 x801002 x806000 x806001 x806002))) else (turnstilelaw17_ReserveCovers.j4 k true x799000 x799001 x799002 x799003 x799004 x800000 x800001 x800002 x800003 x800004 x801000 x801001 x801002 x806000 x806001 x806002)))
def turnstilelaw17_ReserveCovers.j4 : Nat → Bool → Int → Int → Int → Int → Int → Int → Int → Int → Int → Int → Int → Int → Int → Int → Int → Int → Option (Bool)
  | 0, _, _, _, _, _, _, _, _, _, _, _, _, _, _, _, _, _ => none
  | k + 1, x59, x799000, x799001, x799002, x799003, x799004, x800000, x800001, x800002, x800003, x800004, x801000, x801001, x801002, x806000, x806001, x806002 => if x59 = true then (some false) else (turnstilelaw17_ReserveCovers.j5 k (x800000 == 1) x799000 x799001 x799002 x799003 x799004 x800000 x800001 x800002 x800003 x800004 x801000 x801001 x801002 x806000 x806001 x806002 x806000 x806001 x806002)
def turnstilelaw17_ReserveCovers.j5 : Nat → Bool → Int → Int → Int → Int → Int → Int → Int → Int → Int → Int → Int → Int → Int → Int → Int → Int → Int → Int → Int → Option (Bool)
  | 0, _, _, _, _, _, _, _, _, _, _, _, _, _, _, _, _, _, _, _, _ => none
  | k + 1, x63, x799000, x799001, x799002, x799003, x799004, x800000, x800001, x800002, x800003, x800004, x801000, x801001, x801002, x806000, x806001, x806002, x813000, x813001, x813002 => if x63 = true then ((sat_Add.f x801000 x799000).bind fun t813 => (if x806000 = t813 then (turnstilelaw17_ReserveCovers.j6 k x799000 x799001 x799002 x799003 x799004 x800000 x800001 x800002 x800003 x800004 x801000 x801001 x801002 (IntKind.u64.wrap (x813000 + 1)) x813001 x813002) else (some false))) else (if x806001 = x801001 then (if (IntKind.u64.wrap (x806002 - x801002)) > x799001 then (some false) else (if x806002 > x801002 then (if x806002 > x800003 then (some false) else (if (IntKind.u64.wrap (x813002 + 1)) = 0 then (some true) else ((reserve_Within.f x799000 x799001 x799002 x799003 x799004 x800000 x800001 x800002 x800003 x800004 x801000 x801001 x801002 x813000 x813001 (IntKind.u64.wrap (x813002 + 1))).bind fun t815 => (some (!t815))))) else (if (IntKind.u64.wrap (x813002 + 1)) = 0 then (some true) else ((reserve_Within.f x799000 x799001 x799002 x799003 x799004 x800000 x800001 x800002 x800003 x800004 x801000 x801001 x801002 x813000 x813001 (IntKind.u64.wrap (x813002 + 1))).bind fun t816 => (some (!t816)))))) else (some false))
def turnstilelaw17_ReserveCovers.j6 : Nat → Int → Int → Int → Int → Int → Int → Int → Int → Int → Int → Int → Int → Int → Int → Int → Int → Option (Bool)
  | 0, _, _, _, _, _, _, _, _, _, _, _, _, _, _, _, _ => none
  | k + 1, x799000, x799001, x799002, x799003, x799004, x800000, x800001, x800002, x800003, x800004, x801000, x801001, x801002, x813000, x813001, x813002 => if x813000 = 0 then (some true) else ((reserve_Within.f x799000 x799001 x799002 x799003 x799004 x800000 x800001 x800002 x800003 x800004 x801000 x801001 x801002 x813000 x813001 x813002).bind fun t814 => (some (!t814)))
end
def turnstilelaw17_ReserveCovers.f (k : Nat) (a0_0 : Int) (a0_1 : Int) (a0_2 : Int) (a0_3 : Int) (a0_4 : Int) (a1_0 : Int) (a1_1 : Int) (a1_2 : Int) (a1_3 : Int) (a1_4 : Int) (a2_0 : Int) (a2_1 : Int) (a2_2 : Int) : Option (Bool) := (turnstilelaw17_awake.f k).bind fun t801 => (turnstilelaw17_ReserveCovers.j0 k t801 a0_0 a0_1 a0_2 a0_3 a0_4 a1_0 a1_1 a1_2 a1_3 a1_4 a2_0 a2_1 a2_2)
theorem turnstilelaw17_ReserveCovers.mono_l : ∀ k, (∀ y0 y1 y2 y3 y4 y5 y6 y7 y8 y9 y10 y11 y12 y13, LeO (turnstilelaw17_ReserveCovers.j0 k y0 y1 y2 y3 y4 y5 y6 y7 y8 y9 y10 y11 y12 y13) (turnstilelaw17_ReserveCovers.j0 (k + 1) y0 y1 y2 y3 y4 y5 y6 y7 y8 y9 y10 y11 y12 y13)) ∧ (∀ y0 y1 y2 y3 y4 y5 y6 y7 y8 y9 y10 y11 y12 y13, LeO (turnstilelaw17_ReserveCovers.j1 k y0 y1 y2 y3 y4 y5 y6 y7 y8 y9 y10 y11 y12 y13) (turnstilelaw17_ReserveCovers.j1 (k + 1) y0 y1 y2 y3 y4 y5 y6 y7 y8 y9 y10 y11 y12 y13)) ∧ (∀ y0 y1 y2 y3 y4 y5 y6 y7 y8 y9 y10 y11 y12 y13 y14 y15 y16, LeO (turnstilelaw17_ReserveCovers.j2 k y0 y1 y2 y3 y4 y5 y6 y7 y8 y9 y10 y11 y12 y13 y14 y15 y16) (turnstilelaw17_ReserveCovers.j2 (k + 1) y0 y1 y2 y3 y4 y5 y6 y7 y8 y9 y10 y11 y12 y13 y14 y15 y16)) ∧ (∀ y0 y1 y2 y3 y4 y5 y6 y7 y8 y9 y10 y11 y12 y13 y14 y15 y16, LeO (turnstilelaw17_ReserveCovers.j3 k y0 y1 y2 y3 y4 y5 y6 y7 y8 y9 y10 y11 y12 y13 y14 y15 y16) (turnstilelaw17_ReserveCovers.j3 (k + 1) y0 y1 y2 y3 y4 y5 y6 y7 y8 y9 y10 y11 y12 y13 y14 y15 y16)) ∧ (∀ y0 y1 y2 y3 y4 y5 y6 y7 y8 y9 y10 y11 y12 y13 y14 y15 y16, LeO (turnstilelaw17_ReserveCovers.j4 k y0 y1 y2 y3 y4 y5 y6 y7 y8 y9 y10 y11 y12 y13 y14 y15 y16) (turnstilelaw17_ReserveCovers.j4 (k + 1) y0 y1 y2 y3 y4 y5 y6 y7 y8 y9 y10 y11 y12 y13 y14 y15 y16)) ∧ (∀ y0 y1 y2 y3 y4 y5 y6 y7 y8 y9 y10 y11 y12 y13 y14 y15 y16 y17 y18 y19, LeO (turnstilelaw17_ReserveCovers.j5 k y0 y1 y2 y3 y4 y5 y6 y7 y8 y9 y10 y11 y12 y13 y14 y15 y16 y17 y18 y19) (turnstilelaw17_ReserveCovers.j5 (k + 1) y0 y1 y2 y3 y4 y5 y6 y7 y8 y9 y10 y11 y12 y13 y14 y15 y16 y17 y18 y19)) ∧ (∀ y0 y1 y2 y3 y4 y5 y6 y7 y8 y9 y10 y11 y12 y13 y14 y15, LeO (turnstilelaw17_ReserveCovers.j6 k y0 y1 y2 y3 y4 y5 y6 y7 y8 y9 y10 y11 y12 y13 y14 y15) (turnstilelaw17_ReserveCovers.j6 (k + 1) y0 y1 y2 y3 y4 y5 y6 y7 y8 y9 y10 y11 y12 y13 y14 y15))
  | 0 => ⟨fun _ _ _ _ _ _ _ _ _ _ _ _ _ _ r h => by simp [turnstilelaw17_ReserveCovers.j0] at h, fun _ _ _ _ _ _ _ _ _ _ _ _ _ _ r h => by simp [turnstilelaw17_ReserveCovers.j1] at h, fun _ _ _ _ _ _ _ _ _ _ _ _ _ _ _ _ _ r h => by simp [turnstilelaw17_ReserveCovers.j2] at h, fun _ _ _ _ _ _ _ _ _ _ _ _ _ _ _ _ _ r h => by simp [turnstilelaw17_ReserveCovers.j3] at h, fun _ _ _ _ _ _ _ _ _ _ _ _ _ _ _ _ _ r h => by simp [turnstilelaw17_ReserveCovers.j4] at h, fun _ _ _ _ _ _ _ _ _ _ _ _ _ _ _ _ _ _ _ _ r h => by simp [turnstilelaw17_ReserveCovers.j5] at h, fun _ _ _ _ _ _ _ _ _ _ _ _ _ _ _ _ r h => by simp [turnstilelaw17_ReserveCovers.j6] at h⟩
  | k + 1 => by
    obtain ⟨ih0, ih1, ih2, ih3, ih4, ih5, ih6⟩ := turnstilelaw17_ReserveCovers.mono_l k
    refine ⟨?_, ?_, ?_, ?_, ?_, ?_, ?_⟩
    · intro y0 y1 y2 y3 y4 y5 y6 y7 y8 y9 y10 y11 y12 y13
      unfold turnstilelaw17_ReserveCovers.j0
      repeat' first
      | (with_reducible exact ih0 _ _ _ _ _ _ _ _ _ _ _ _ _ _)
      | (with_reducible exact ih1 _ _ _ _ _ _ _ _ _ _ _ _ _ _)
      | (with_reducible exact ih2 _ _ _ _ _ _ _ _ _ _ _ _ _ _ _ _ _)
      | (with_reducible exact ih3 _ _ _ _ _ _ _ _ _ _ _ _ _ _ _ _ _)
      | (with_reducible exact ih4 _ _ _ _ _ _ _ _ _ _ _ _ _ _ _ _ _)
      | (with_reducible exact ih5 _ _ _ _ _ _ _ _ _ _ _ _ _ _ _ _ _ _ _ _)
      | (with_reducible exact ih6 _ _ _ _ _ _ _ _ _ _ _ _ _ _ _ _)
      | (with_reducible exact turnstilelaw17_awake.mono _)
      | (with_reducible exact LeO.refl _)
      | (with_reducible exact LeO.none _)
      | (with_reducible refine LeO.ite ?_ ?_)
      | (with_reducible refine LeO.bind ?_ (fun _ => ?_))
      | exact ih0 _ _ _ _ _ _ _ _ _ _ _ _ _ _
      | exact ih1 _ _ _ _ _ _ _ _ _ _ _ _ _ _
      | exact ih2 _ _ _ _ _ _ _ _ _ _ _ _ _ _ _ _ _
      | exact ih3 _ _ _ _ _ _ _ _ _ _ _ _ _ _ _ _ _
      | exact ih4 _ _ _ _ _ _ _ _ _ _ _ _ _ _ _ _ _
      | exact ih5 _ _ _ _ _ _ _ _ _ _ _ _ _ _ _ _ _ _ _ _
      | exact ih6 _ _ _ _ _ _ _ _ _ _ _ _ _ _ _ _
      | exact turnstilelaw17_awake.mono _
      | exact LeO.none _
      | refine LeO.ite ?_ ?_
      | refine LeO.bind ?_ (fun _ => ?_)
    · intro y0 y1 y2 y3 y4 y5 y6 y7 y8 y9 y10 y11 y12 y13
      unfold turnstilelaw17_ReserveCovers.j1
      repeat' first
      | (with_reducible exact ih0 _ _ _ _ _ _ _ _ _ _ _ _ _ _)
      | (with_reducible exact ih1 _ _ _ _ _ _ _ _ _ _ _ _ _ _)
      | (with_reducible exact ih2 _ _ _ _ _ _ _ _ _ _ _ _ _ _ _ _ _)
      | (with_reducible exact ih3 _ _ _ _ _ _ _ _ _ _ _ _ _ _ _ _ _)
      | (with_reducible exact ih4 _ _ _ _ _ _ _ _ _ _ _ _ _ _ _ _ _)
      | (with_reducible exact ih5 _ _ _ _ _ _ _ _ _ _ _ _ _ _ _ _ _ _ _ _)
      | (with_reducible exact ih6 _ _ _ _ _ _ _ _ _ _ _ _ _ _ _ _)
      | (with_reducible exact turnstilelaw17_awake.mono _)
      | (with_reducible exact LeO.refl _)
      | (with_reducible exact LeO.none _)
      | (with_reducible refine LeO.ite ?_ ?_)
      | (with_reducible refine LeO.bind ?_ (fun _ => ?_))
      | exact ih0 _ _ _ _ _ _ _ _ _ _ _ _ _ _
      | exact ih1 _ _ _ _ _ _ _ _ _ _ _ _ _ _
      | exact ih2 _ _ _ _ _ _ _ _ _ _ _ _ _ _ _ _ _
      | exact ih3 _ _ _ _ _ _ _ _ _ _ _ _ _ _ _ _ _
      | exact ih4 _ _ _ _ _ _ _ _ _ _ _ _ _ _ _ _ _
      | exact ih5 _ _ _ _ _ _ _ _ _ _ _ _ _ _ _ _ _ _ _ _
      | exact ih6 _ _ _ _ _ _ _ _ _ _ _ _ _ _ _ _
      | exact turnstilelaw17_awake.mono _
      | exact LeO.none _
      | refine LeO.ite ?_ ?_
      | refine LeO.bind ?_ (fun _ => ?_)
    · intro y0 y1 y2 y3 y4 y5 y6 y7 y8 y9 y10 y11 y12 y13 y14 y15 y16
      unfold turnstilelaw17_ReserveCovers.j2
      repeat' first
      | (with_reducible exact ih0 _ _ _ _ _ _ _ _ _ _ _ _ _ _)
      | (with_reducible exact ih1 _ _ _ _ _ _ _ _ _ _ _ _ _ _)
      | (with_reducible exact ih2 _ _ _ _ _ _ _ _ _ _ _ _ _ _ _ _ _)
      | (with_reducible exact ih3 _ _ _ _ _ _ _ _ _ _ _ _ _ _ _ _ _)
      | (with_reducible exact ih4 _ _ _ _ _ _ _ _ _ _ _ _ _ _ _ _ _)
      | (with_reducible exact ih5 _ _ _ _ _ _ _ _ _ _ _ _ _ _ _ _ _ _ _ _)
      | (with_reducible exact ih6 _ _ _ _ _ _ _ _ _ _ _ _ _ _ _ _)
      | (with_reducible exact turnstilelaw17_awake.mono _)
      | (with_reducible exact LeO.refl _)
      | (with_reducible exact LeO.none _)
      | (with_reducible refine LeO.ite ?_ ?_)
      | (with_reducible refine LeO.bind ?_ (fun _ => ?_))
      | exact ih0 _ _ _ _ _ _ _ _ _ _ _ _ _ _
      | exact ih1 _ _ _ _ _ _ _ _ _ _ _ _ _ _
      | exact ih2 _ _ _ _ _ _ _ _ _ _ _ _ _ _ _ _ _
      | exact ih3 _ _ _ _ _ _ _ _ _ _ _ _ _ _ _ _ _
      | exact ih4 _ _ _ _ _ _ _ _ _ _ _ _ _ _ _ _ _
      | exact ih5 _ _ _ _ _ _ _ _ _ _ _ _ _ _ _ _ _ _ _ _
      | exact ih6 _ _ _ _ _ _ _ _ _ _ _ _ _ _ _ _
      | exact turnstilelaw17_awake.mono _
      | exact LeO.none _
      | refine LeO.ite ?_ ?_
      | refine LeO.bind ?_ (fun _ => ?_)
    · intro y0 y1 y2 y3 y4 y5 y6 y7 y8 y9 y10 y11 y12 y13 y14 y15 y16
      unfold turnstilelaw17_ReserveCovers.j3
      repeat' first
      | (with_reducible exact ih0 _ _ _ _ _ _ _ _ _ _ _ _ _ _)
      | (with_reducible exact ih1 _ _ _ _ _ _ _ _ _ _ _ _ _ _)
      | (with_reducible exact ih2 _ _ _ _ _ _ _ _ _ _ _ _ _ _ _ _ _)
      | (with_reducible exact ih3 _ _ _ _ _ _ _ _ _ _ _ _ _ _ _ _ _)
      | (with_reducible exact ih4 _ _ _ _ _ _ _ _ _ _ _ _ _ _ _ _ _)
      | (with_reducible exact ih5 _ _ _ _ _ _ _ _ _ _ _ _ _ _ _ _ _ _ _ _)
      | (with_reducible exact ih6 _ _ _ _ _ _ _ _ _ _ _ _ _ _ _ _)
      | (with_reducible exact turnstilelaw17_awake.mono _)
      | (with_reducible exact LeO.refl _)
      | (with_reducible exact LeO.none _)
      | (with_reducible refine LeO.ite ?_ ?_)
      | (with_reducible refine LeO.bind ?_ (fun _ => ?_))
      | exact ih0 _ _ _ _ _ _ _ _ _ _ _ _ _ _
      | exact ih1 _ _ _ _ _ _ _ _ _ _ _ _ _ _
      | exact ih2 _ _ _ _ _ _ _ _ _ _ _ _ _ _ _ _ _
      | exact ih3 _ _ _ _ _ _ _ _ _ _ _ _ _ _ _ _ _
      | exact ih4 _ _ _ _ _ _ _ _ _ _ _ _ _ _ _ _ _
      | exact ih5 _ _ _ _ _ _ _ _ _ _ _ _ _ _ _ _ _ _ _ _
      | exact ih6 _ _ _ _ _ _ _ _ _ _ _ _ _ _ _ _
      | exact turnstilelaw17_awake.mono _
      | exact LeO.none _
      | refine LeO.ite ?_ ?_
      | refine LeO.bind ?_ (fun _ => ?_)
    · intro y0 y1 y2 y3 y4 y5 y6 y7 y8 y9 y10 y11 y12 y13 y14 y15 y16
      unfold turnstilelaw17_ReserveCovers.j4
      repeat' first
      | (with_reducible exact ih0 _ _ _ _ _ _ _ _ _ _ _ _ _ _)
      | (with_reducible exact ih1 _ _ _ _ _ _ _ _ _ _ _ _ _ _)
      | (with_reducible exact ih2 _ _ _ _ _ _ _ _ _ _ _ _ _ _ _ _ _)
      | (with_reducible exact ih3 _ _ _ _ _ _ _ _ _ _ _ _ _ _ _ _ _)
      | (with_reducible exact ih4 _ _ _ _ _ _ _ _ _ _ _ _ _ _ _ _ _)
      | (with_reducible exact ih5 _ _ _ _ _ _ _ _ _ _ _ _ _ _ _ _ _ _ _ _)
      | (with_reducible exact ih6 _ _ _ _ _ _ _ _ _ _ _ _ _ _ _ _)
      | (with_reducible exact turnstilelaw17_awake.mono _)
      | (with_reducible exact LeO.refl _)
      | (with_reducible exact LeO.none _)
      | (with_reducible refine LeO.ite ?_ ?_)
      | (with_reducible refine LeO.bind ?_ (fun _ => ?_))
      | exact ih0 _ _ _ _ _ _ _ _ _ _ _ _ _ _
      | exact ih1 _ _ _ _ _ _ _ _ _ _ _ _ _ _
      | exact ih2 _ _ _ _ _ _ _ _ _ _ _ _ _ _ _ _ _
      | exact ih3 _ _ _ _ _ _ _ _ _ _ _ _ _ _ _ _ _
      | exact ih4 _ _ _ _ _ _ _ _ _ _ _ _ _ _ _ _ _
      | exact ih5 _ _ _ _ _ _ _ _ _ _ _ _ _ _ _ _ _ _ _ _
      | exact ih6 _ _ _ _ _ _ _ _ _ _ _ _ _ _ _ _
      | exact turnstilelaw17_awake.mono _
      | exact LeO.none _
      | refine LeO.ite ?_ ?_
      | refine LeO.bind ?_ (fun _ => ?_)
    · intro y0 y1 y2 y3 y4 y5 y6 y7 y8 y9 y10 y11 y12 y13 y14 y15 y16 y17 y18 y19
      unfold turnstilelaw17_ReserveCovers.j5
      repeat' first
      | (with_reducible exact ih0 _ _ _ _ _ _ _ _ _ _ _ _ _ _)
      | (with_reducible exact ih1 _ _ _ _ _ _ _ _ _ _ _ _ _ _)
      | (with_reducible exact ih2 _ _ _ _ _ _ _ _ _ _ _ _ _ _ _ _ _)
      | (with_reducible exact ih3 _ _ _ _ _ _ _ _ _ _ _ _ _ _ _ _ _)
      | (with_reducible exact ih4 _ _ _ _ _ _ _ _ _ _ _ _ _ _ _ _ _)
      | (with_reducible exact ih5 _ _ _ _ _ _ _ _ _ _ _ _ _ _ _ _ _ _ _ _)
      | (with_reducible exact ih6 _ _ _ _ _ _ _ _ _ _ _ _ _ _ _ _)
      | (with_reducible exact turnstilelaw17_awake.mono _)
      | (with_reducible exact LeO.refl _)
      | (with_reducible exact LeO.none _)
      | (with_reducible refine LeO.ite ?_ ?_)
      | (with_reducible refine LeO.bind ?_ (fun _ => ?_))
      | exact ih0 _ _ _ _ _ _ _ _ _ _ _ _ _ _
      | exact ih1 _ _ _ _ _ _ _ _ _ _ _ _ _ _
      | exact ih2 _ _ _ _ _ _ _ _ _ _ _ _ _ _ _ _ _
      | exact ih3 _ _ _ _ _ _ _ _ _ _ _ _ _ _ _ _ _
      | exact ih4 _ _ _ _ _ _ _ _ _ _ _ _ _ _ _ _ _
      | exact ih5 _ _ _ _ _ _ _ _ _ _ _ _ _ _ _ _ _ _ _ _
      | exact ih6 _ _ _ _ _ _ _ _ _ _ _ _ _ _ _ _
      | exact turnstilelaw17_awake.mono _
      | exact LeO.none _
      | refine LeO.ite ?_ ?_
      | refine LeO.bind ?_ (fun _ => ?_)
    · intro y0 y1 y2 y3 y4 y5 y6 y7 y8 y9 y10 y11 y12 y13 y14 y15
      unfold turnstilelaw17_ReserveCovers.j6
      repeat' first
      | (with_reducible exact ih0 _ _ _ _ _ _ _ _ _ _ _ _ _ _)
      | (with_reducible exact ih1 _ _ _ _ _ _ _ _ _ _ _ _ _ _)
      | (with_reducible exact ih2 _ _ _ _ _ _ _ _ _ _ _ _ _ _ _ _ _)
      | (with_reducible exact ih3 _ _ _ _ _ _ _ _ _ _ _ _ _ _ _ _ _)
      | (with_reducible exact ih4 _ _ _ _ _ _ _ _ _ _ _ _ _ _ _ _ _)
      | (with_reducible exact ih5 _ _ _ _ _ _ _ _ _ _ _ _ _ _ _ _ _ _ _ _)
      | (with_reducible exact ih6 _ _ _ _ _ _ _ _ _ _ _ _ _ _ _ _)
      | (with_reducible exact turnstilelaw17_awake.mono _)
      | (with_reducible exact LeO.refl _)
      | (with_reducible exact LeO.none _)
      | (with_reducible refine LeO.ite ?_ ?_)
      | (with_reducible refine LeO.bind ?_ (fun _ => ?_))
      | exact ih0 _ _ _ _ _ _ _ _ _ _ _ _ _ _
      | exact ih1 _ _ _ _ _ _ _ _ _ _ _ _ _ _
      | exact ih2 _ _ _ _ _ _ _ _ _ _ _ _ _ _ _ _ _
      | exact ih3 _ _ _ _ _ _ _ _ _ _ _ _ _ _ _ _ _
      | exact ih4 _ _ _ _ _ _ _ _ _ _ _ _ _ _ _ _ _
      | exact ih5 _ _ _ _ _ _ _ _ _ _ _ _ _ _ _ _ _ _ _ _
      | exact ih6 _ _ _ _ _ _ _ _ _ _ _ _ _ _ _ _
      | exact turnstilelaw17_awake.mono _
      | exact LeO.none _
      | refine LeO.ite ?_ ?_
      | refine LeO.bind ?_ (fun _ => ?_)
theorem turnstilelaw17_ReserveCovers.mono : ∀ a0 a1 a2 a3 a4 a5 a6 a7 a8 a9 a10 a11 a12 k, LeO (turnstilelaw17_ReserveCovers.f k a0 a1 a2 a3 a4 a5 a6 a7 a8 a9 a10 a11 a12) (turnstilelaw17_ReserveCovers.f (k + 1) a0 a1 a2 a3 a4 a5 a6 a7 a8 a9 a10 a11 a12) := by
  intro a0 a1 a2 a3 a4 a5 a6 a7 a8 a9 a10 a11 a12 k
  obtain ⟨ih0, ih1, ih2, ih3, ih4, ih5, ih6⟩ := turnstilelaw17_ReserveCovers.mono_l k
  unfold turnstilelaw17_ReserveCovers.f
  repeat' first
      | (with_reducible exact ih0 _ _ _ _ _ _ _ _ _ _ _ _ _ _)
      | (with_reducible exact ih1 _ _ _ _ _ _ _ _ _ _ _ _ _ _)
      | (with_reducible exact ih2 _ _ _ _ _ _ _ _ _ _ _ _ _ _ _ _ _)
      | (with_reducible exact ih3 _ _ _ _ _ _ _ _ _ _ _ _ _ _ _ _ _)
      | (with_reducible exact ih4 _ _ _ _ _ _ _ _ _ _ _ _ _ _ _ _ _)
      | (with_reducible exact ih5 _ _ _ _ _ _ _ _ _ _ _ _ _ _ _ _ _ _ _ _)
      | (with_reducible exact ih6 _ _ _ _ _ _ _ _ _ _ _ _ _ _ _ _)
      | (with_reducible exact turnstilelaw17_awake.mono _)
      | (with_reducible exact LeO.refl _)
      | (with_reducible exact LeO.none _)
      | (with_reducible refine LeO.ite ?_ ?_)
      | (with_reducible refine LeO.bind ?_ (fun _ => ?_))
      | exact ih0 _ _ _ _ _ _ _ _ _ _ _ _ _ _
      | exact ih1 _ _ _ _ _ _ _ _ _ _ _ _ _ _
      | exact ih2 _ _ _ _ _ _ _ _ _ _ _ _ _ _ _ _ _
      | exact ih3 _ _ _ _ _ _ _ _ _ _ _ _ _ _ _ _ _
      | exact ih4 _ _ _ _ _ _ _ _ _ _ _ _ _ _ _ _ _
      | exact ih5 _ _ _ _ _ _ _ _ _ _ _ _ _ _ _ _ _ _ _ _
      | exact ih6 _ _ _ _ _ _ _ _ _ _ _ _ _ _ _ _
      | exact turnstilelaw17_awake.mono _
      | exact LeO.none _
      | refine LeO.ite ?_ ?_
      | refine LeO.bind ?_ (fun _ => ?_)
set_option maxHeartbeats 8000000 in
set_option maxRecDepth 100000 in
theorem turnstilelaw17_ReserveCovers.calls (k : Nat) (a0_0 : Int) (a0_1 : Int) (a0_2 : Int) (a0_3 : Int) (a0_4 : Int) (a1_0 : Int) (a1_1 : Int) (a1_2 : Int) (a1_3 : Int) (a1_4 : Int) (a2_0 : Int) (a2_1 : Int) (a2_2 : Int) (r : Bool) (w : World) (h : turnstilelaw17_ReserveCovers.f k a0_0 a0_1 a0_2 a0_3 a0_4 a1_0 a1_1 a1_2 a1_3 a1_4 a2_0 a2_1 a2_2 = some r) :
    Calls Try.prog 13 #[.agg #[.int .u64 a0_0, .int .u64 a0_1, .int .i64 a0_2, .int .i64 a0_3, .int .i64 a0_4], .agg #[.int .i64 a1_0, .int .u64 a1_1, .int .u64 a1_2, .int .u64 a1_3, .int .u64 a1_4], .agg #[.int .u64 a2_0, .int .u64 a2_1, .int .u64 a2_2]] w fun e w' => e = .returned (.bool r) ∧ Below w.heap.size w w' := by
  have hu53 := Try.underlying53
  have hu27 := Try.underlying27
  have hu29 := Try.underlying29
  have HB := Aside0.mk (Below.refl w.heap.size w)
  have H : ((turnstilelaw17_awake.f k).bind fun t801 => (turnstilelaw17_ReserveCovers.j0 k t801 a0_0 a0_1 a0_2 a0_3 a0_4 a1_0 a1_1 a1_2 a1_3 a1_4 a2_0 a2_1 a2_2)) = some r := h
  clear h
  have HC4 := Aside0.mk H
  clear H
  go_enter Try.func13, Try.ntmps13
  go_upto_region 1 with (first | ((with_reducible refine gate_dst (N := 3) rfl ?_); refine bx 3 #[.int .u64 a0_0, .int .u64 a0_1, .int .i64 a0_2, .int .i64 a0_3, .int .i64 a0_4] 53 ?_; intro gb798 hg w5 hbox hb; have n0_ := bs HB hb; have n1_ := Aside0.mk (hbox); have n2_ := sz HB hg; have n3_ := sz HB hg; clear HB; have HB := n0_; have BK798 := n1_; have GW798 := n2_; have GE798 := n3_; clear n0_ n1_ n2_ n3_; clear hb hbox hg) | ((with_reducible refine gate_dst (N := 4) rfl ?_); refine bx 4 #[.int .i64 a1_0, .int .u64 a1_1, .int .u64 a1_2, .int .u64 a1_3, .int .u64 a1_4] 27 ?_; intro gb799 hg w6 hbox hb; have n0_ := bb BK798 hb; have n1_ := bs HB hb; have n2_ := Aside0.mk (hbox); have n3_ := sz HB hg; have n4_ := sz HB hg; have n5_ := nl BK798 hg; have n6_ := nr BK798 hg; clear BK798; clear HB; have BK798 := n0_; have HB := n1_; have BK799 := n2_; have GW799 := n3_; have GE799 := n4_; have NB798_799 := n5_; have NB799_798 := n6_; clear n0_ n1_ n2_ n3_ n4_ n5_ n6_; clear hb hbox hg) | ((with_reducible refine gate_dst (N := 5) rfl ?_); refine bx 5 #[.int .u64 a2_0, .int .u64 a2_1, .int .u64 a2_2] 29 ?_; intro gb800 hg w7 hbox hb; have n0_ := bb BK798 hb; have n1_ := bb BK799 hb; have n2_ := bs HB hb; have n3_ := Aside0.mk (hbox); have n4_ := sz HB hg; have n5_ := sz HB hg; have n6_ := nl BK798 hg; have n7_ := nr BK798 hg; have n8_ := nl BK799 hg; have n9_ := nr BK799 hg; clear BK798; clear BK799; clear HB; have BK798 := n0_; have BK799 := n1_; have HB := n2_; have BK800 := n3_; have GW800 := n4_; have GE800 := n5_; have NB798_800 := n6_; have NB800_798 := n7_; have NB799_800 := n8_; have NB800_799 := n9_; clear n0_ n1_ n2_ n3_ n4_ n5_ n6_ n7_ n8_ n9_; clear hb hbox hg))
  repeat (go_quiet (first | ((with_reducible refine gate_dst (N := 3) rfl ?_); refine bx 3 #[.int .u64 a0_0, .int .u64 a0_1, .int .i64 a0_2, .int .i64 a0_3, .int .i64 a0_4] 53 ?_; intro gb798 hg w5 hbox hb; have n0_ := bs HB hb; have n1_ := Aside0.mk (hbox); have n2_ := sz HB hg; have n3_ := sz HB hg; clear HB; have HB := n0_; have BK798 := n1_; have GW798 := n2_; have GE798 := n3_; clear n0_ n1_ n2_ n3_; clear hb hbox hg) | ((with_reducible refine gate_dst (N := 4) rfl ?_); refine bx 4 #[.int .i64 a1_0, .int .u64 a1_1, .int .u64 a1_2, .int .u64 a1_3, .int .u64 a1_4] 27 ?_; intro gb799 hg w6 hbox hb; have n0_ := bb BK798 hb; have n1_ := bs HB hb; have n2_ := Aside0.mk (hbox); have n3_ := sz HB hg; have n4_ := sz HB hg; have n5_ := nl BK798 hg; have n6_ := nr BK798 hg; clear BK798; clear HB; have BK798 := n0_; have HB := n1_; have BK799 := n2_; have GW799 := n3_; have GE799 := n4_; have NB798_799 := n5_; have NB799_798 := n6_; clear n0_ n1_ n2_ n3_ n4_ n5_ n6_; clear hb hbox hg) | ((with_reducible refine gate_dst (N := 5) rfl ?_); refine bx 5 #[.int .u64 a2_0, .int .u64 a2_1, .int .u64 a2_2] 29 ?_; intro gb800 hg w7 hbox hb; have n0_ := bb BK798 hb; have n1_ := bb BK799 hb; have n2_ := bs HB hb; have n3_ := Aside0.mk (hbox); have n4_ := sz HB hg; have n5_ := sz HB hg; have n6_ := nl BK798 hg; have n7_ := nr BK798 hg; have n8_ := nl BK799 hg; have n9_ := nr BK799 hg; clear BK798; clear BK799; clear HB; have BK798 := n0_; have BK799 := n1_; have HB := n2_; have BK800 := n3_; have GW800 := n4_; have GE800 := n5_; have NB798_800 := n6_; have NB800_798 := n7_; have NB799_800 := n8_; have NB800_799 := n9_; clear n0_ n1_ n2_ n3_ n4_ n5_ n6_ n7_ n8_ n9_; clear hb hbox hg)); go_upto_region 1 with (first | ((with_reducible refine gate_dst (N := 3) rfl ?_); refine bx 3 #[.int .u64 a0_0, .int .u64 a0_1, .int .i64 a0_2, .int .i64 a0_3, .int .i64 a0_4] 53 ?_; intro gb798 hg w5 hbox hb; have n0_ := bs HB hb; have n1_ := Aside0.mk (hbox); have n2_ := sz HB hg; have n3_ := sz HB hg; clear HB; have HB := n0_; have BK798 := n1_; have GW798 := n2_; have GE798 := n3_; clear n0_ n1_ n2_ n3_; clear hb hbox hg) | ((with_reducible refine gate_dst (N := 4) rfl ?_); refine bx 4 #[.int .i64 a1_0, .int .u64 a1_1, .int .u64 a1_2, .int .u64 a1_3, .int .u64 a1_4] 27 ?_; intro gb799 hg w6 hbox hb; have n0_ := bb BK798 hb; have n1_ := bs HB hb; have n2_ := Aside0.mk (hbox); have n3_ := sz HB hg; have n4_ := sz HB hg; have n5_ := nl BK798 hg; have n6_ := nr BK798 hg; clear BK798; clear HB; have BK798 := n0_; have HB := n1_; have BK799 := n2_; have GW799 := n3_; have GE799 := n4_; have NB798_799 := n5_; have NB799_798 := n6_; clear n0_ n1_ n2_ n3_ n4_ n5_ n6_; clear hb hbox hg) | ((with_reducible refine gate_dst (N := 5) rfl ?_); refine bx 5 #[.int .u64 a2_0, .int .u64 a2_1, .int .u64 a2_2] 29 ?_; intro gb800 hg w7 hbox hb; have n0_ := bb BK798 hb; have n1_ := bb BK799 hb; have n2_ := bs HB hb; have n3_ := Aside0.mk (hbox); have n4_ := sz HB hg; have n5_ := sz HB hg; have n6_ := nl BK798 hg; have n7_ := nr BK798 hg; have n8_ := nl BK799 hg; have n9_ := nr BK799 hg; clear BK798; clear BK799; clear HB; have BK798 := n0_; have BK799 := n1_; have HB := n2_; have BK800 := n3_; have GW800 := n4_; have GE800 := n5_; have NB798_800 := n6_; have NB800_798 := n7_; have NB799_800 := n8_; have NB800_799 := n9_; clear n0_ n1_ n2_ n3_ n4_ n5_ n6_ n7_ n8_ n9_; clear hb hbox hg)))
  (try simp only [Act.put, List.setIfInBounds_toArray, List.set_cons_zero, List.set_cons_succ])
  go_cut [7] (fun v7 wc => ∃ (kq : Nat) (x7_3 : Bool), v7 = .bool x7_3 ∧ Aside0 (turnstilelaw17_ReserveCovers.j0 kq x7_3 a0_0 a0_1 a0_2 a0_3 a0_4 a1_0 a1_1 a1_2 a1_3 a1_4 a2_0 a2_1 a2_2 = some r) ∧ Aside0 (kq ≤ k) ∧ Aside0 (wc.heap[gb798]? = some (.cells #[.int .u64 a0_0, .int .u64 a0_1, .int .i64 a0_2, .int .i64 a0_3, .int .i64 a0_4] 53 (0, 0))) ∧ Aside0 (wc.heap[gb799]? = some (.cells #[.int .i64 a1_0, .int .u64 a1_1, .int .u64 a1_2, .int .u64 a1_3, .int .u64 a1_4] 27 (0, 0))) ∧ Aside0 (wc.heap[gb800]? = some (.cells #[.int .u64 a2_0, .int .u64 a2_1, .int .u64 a2_2] 29 (0, 0))) ∧ Aside0 (Below w.heap.size w wc))
  case first =>
    have H := HC4.out
    clear HC4
    replace H := Option.bind_eq_some_iff.mp H
    obtain ⟨t801, A80, H⟩ := H
    replace H : (turnstilelaw17_ReserveCovers.j0 k t801 a0_0 a0_1 a0_2 a0_3 a0_4 a1_0 a1_1 a1_2 a1_3 a1_4 a2_0 a2_1 a2_2) = some r := H
    have A8 := Aside0.mk A80
    clear A80
    have H' := Aside0.mk H
    clear H
    go_wp2_with (first | (go_at_call 28; (with_reducible refine (turnstilelaw17_awake.calls k  t801 _ A8.out).mono ?_); rintro e w9 ⟨rfl, hb⟩; have n0_ := bb BK798 hb; have n1_ := bb BK799 hb; have n2_ := bb BK800 hb; have n3_ := bs HB hb; clear BK798; clear BK799; clear BK800; clear HB; have BK798 := n0_; have BK799 := n1_; have BK800 := n2_; have HB := n3_; clear n0_ n1_ n2_ n3_; (try clear hb); (try clear hb2); (try clear hk); (try clear hi)))
    repeat (go_quiet (first | (go_at_call 28; (with_reducible refine (turnstilelaw17_awake.calls k  t801 _ A8.out).mono ?_); rintro e w9 ⟨rfl, hb⟩; have n0_ := bb BK798 hb; have n1_ := bb BK799 hb; have n2_ := bb BK800 hb; have n3_ := bs HB hb; clear BK798; clear BK799; clear BK800; clear HB; have BK798 := n0_; have BK799 := n1_; have BK800 := n2_; have HB := n3_; clear n0_ n1_ n2_ n3_; (try clear hb); (try clear hb2); (try clear hk); (try clear hi))); try go_wp2_with (first | (go_at_call 28; (with_reducible refine (turnstilelaw17_awake.calls k  t801 _ A8.out).mono ?_); rintro e w9 ⟨rfl, hb⟩; have n0_ := bb BK798 hb; have n1_ := bb BK799 hb; have n2_ := bb BK800 hb; have n3_ := bs HB hb; clear BK798; clear BK799; clear BK800; clear HB; have BK798 := n0_; have BK799 := n1_; have BK800 := n2_; have HB := n3_; clear n0_ n1_ n2_ n3_; (try clear hb); (try clear hb2); (try clear hk); (try clear hi))))
    go_meet
    case rel => exact ⟨_, (t801), rs, H', ⟨by first | omega | exact Nat.le_refl _⟩, ⟨bk BK798⟩, ⟨bk BK799⟩, ⟨bk BK800⟩, ⟨bw HB⟩⟩
  case rest =>
    clear HC4
    try clear c1
    try clear p2
    obtain ⟨kq, x7_3, rfl, HA, HJ3, BK798, BK799, BK800, HB⟩ := hcut
    cases kq with
    | zero => exact absurd HA.out (by simp [turnstilelaw17_ReserveCovers.j0])
    | succ kj3 =>
      have H := HA.out
      clear HA
      simp only [turnstilelaw17_ReserveCovers.j0] at H
      have HC10 := Aside0.mk H
      clear H
      go_upto_region 2 with (fail)
      repeat (go_quiet (fail); go_upto_region 2 with (fail))
      go_cut [13] (fun v13 wc => ∃ (kq : Nat) (x13_9 : Bool), v13 = .bool x13_9 ∧ Aside0 (turnstilelaw17_ReserveCovers.j1 kq x13_9 a0_0 a0_1 a0_2 a0_3 a0_4 a1_0 a1_1 a1_2 a1_3 a1_4 a2_0 a2_1 a2_2 = some r) ∧ Aside0 (kq ≤ kj3) ∧ Aside0 (wc.heap[gb798]? = some (.cells #[.int .u64 a0_0, .int .u64 a0_1, .int .i64 a0_2, .int .i64 a0_3, .int .i64 a0_4] 53 (0, 0))) ∧ Aside0 (wc.heap[gb799]? = some (.cells #[.int .i64 a1_0, .int .u64 a1_1, .int .u64 a1_2, .int .u64 a1_3, .int .u64 a1_4] 27 (0, 0))) ∧ Aside0 (wc.heap[gb800]? = some (.cells #[.int .u64 a2_0, .int .u64 a2_1, .int .u64 a2_2] 29 (0, 0))) ∧ Aside0 (Below w.heap.size w wc))
      case first =>
        have H := HC10.out
        clear HC10
        have H' := Aside0.mk H
        clear H
        go_wp2
        repeat (go_quiet (fail); try go_wp2)
        go_meet
        case rel => exact ⟨_, (!x7_3), rs, H', ⟨by have := HJ3.out; first | omega | exact Nat.le_refl _⟩, ⟨bk BK798⟩, ⟨bk BK799⟩, ⟨bk BK800⟩, ⟨bw HB⟩⟩
      case rest =>
        clear HC10
        try clear c1
        try clear p2
        try clear p2
        obtain ⟨kq, x13_9, rfl, HA, HJ9, BK798, BK799, BK800, HB⟩ := hcut
        cases kq with
        | zero => exact absurd HA.out (by simp [turnstilelaw17_ReserveCovers.j1])
        | succ kj9 =>
          have H := HA.out
          clear HA
          simp only [turnstilelaw17_ReserveCovers.j1] at H
          by_cases c11 : x13_9 = true
          · subst c11
            have H1 : (some false) = some r := by rw [if_pos rfl] at H; exact H
            clear H
            have H := H1
            clear H1
            obtain rfl := Option.some.inj H
            go_wp2
            repeat (go_quiet (fail); try go_wp2)
            go_ret
            exact ⟨re, bw HB⟩
          · replace c11 := Bool.eq_false_iff.mpr c11
            subst c11
            have H1 : ((reserve_Ceiling.f a0_0 a0_1 a0_2 a0_3 a0_4 a1_0 a1_1 a1_2 a1_3 a1_4 a2_0 a2_1 a2_2).bind fun bt802 => ((policy_Valid.f a1_0 a1_1 a1_2 a1_3 a1_4).bind fun t806 => (turnstilelaw17_ReserveCovers.j2 kj9 t806 a0_0 a0_1 a0_2 a0_3 a0_4 a1_0 a1_1 a1_2 a1_3 a1_4 a2_0 a2_1 a2_2 bt802.1 bt802.2.1 bt802.2.2))) = some r := by rw [if_neg (show ¬ (false = true) by decide)] at H; exact H
            clear H
            have H := H1
            clear H1
            replace H := Option.bind_eq_some_iff.mp H
            obtain ⟨⟨t802, t803, t804⟩, A120, H⟩ := H
            replace H : ((policy_Valid.f a1_0 a1_1 a1_2 a1_3 a1_4).bind fun t806 => (turnstilelaw17_ReserveCovers.j2 kj9 t806 a0_0 a0_1 a0_2 a0_3 a0_4 a1_0 a1_1 a1_2 a1_3 a1_4 a2_0 a2_1 a2_2 t802 t803 t804)) = some r := H
            have A12 := Aside0.mk A120
            clear A120
            have HC13 := Aside0.mk H
            clear H
            have hnb14 := NB798_799.out
            have hnc14 := NB799_798.out
            have hnb15 := NB798_800.out
            have hnc15 := NB800_798.out
            obtain ⟨hcz16_0, hcz16_1, hcz16_2, hcz16_3, hcz16_4, hfz16_0, hfz16_1, hfz16_2, hfz16_3, hfz16_4⟩ := bc5 BK798
            have hnb17 := NB799_800.out
            have hnc17 := NB800_799.out
            obtain ⟨hcz18_0, hcz18_1, hcz18_2, hcz18_3, hcz18_4, hfz18_0, hfz18_1, hfz18_2, hfz18_3, hfz18_4⟩ := bc5 BK799
            obtain ⟨hcz19_0, hcz19_1, hcz19_2, hfz19_0, hfz19_1, hfz19_2⟩ := bc3 BK800
            go_upto_region 5 with (first | (go_at_call 32; (with_reducible refine (reserve_Ceiling.calls a0_0 a0_1 a0_2 a0_3 a0_4 a1_0 a1_1 a1_2 a1_3 a1_4 a2_0 a2_1 a2_2 t802 t803 t804 _ A12.out).mono ?_); rintro e w20 ⟨rfl, hb⟩; have n0_ := bb BK798 hb; have n1_ := bb BK799 hb; have n2_ := bb BK800 hb; have n3_ := bs HB hb; clear BK798; clear BK799; clear BK800; clear HB; have BK798 := n0_; have BK799 := n1_; have BK800 := n2_; have HB := n3_; clear n0_ n1_ n2_ n3_; (try clear hb); (try clear hb2); (try clear hk); (try clear hi)) | ((with_reducible refine gate_dst (N := 8) rfl ?_); refine bx 8 #[.int .u64 0, .int .u64 0, .int .u64 0] 29 ?_; intro gb805 hg w21 hbox hb; have n0_ := bb BK798 hb; have n1_ := bb BK799 hb; have n2_ := bb BK800 hb; have n3_ := bs HB hb; have n4_ := Aside0.mk (hbox); have n5_ := sz HB hg; have n6_ := sz HB hg; have n7_ := nl BK798 hg; have n8_ := nr BK798 hg; have n9_ := nl BK799 hg; have n10_ := nr BK799 hg; have n11_ := nl BK800 hg; have n12_ := nr BK800 hg; clear BK798; clear BK799; clear BK800; clear HB; have BK798 := n0_; have BK799 := n1_; have BK800 := n2_; have HB := n3_; have BK805 := n4_; have GW805 := n5_; have GE805 := n6_; have NB798_805 := n7_; have NB805_798 := n8_; have NB799_805 := n9_; have NB805_799 := n10_; have NB800_805 := n11_; have NB805_800 := n12_; clear n0_ n1_ n2_ n3_ n4_ n5_ n6_ n7_ n8_ n9_ n10_ n11_ n12_; clear hb hbox hg; have hnb22 := NB805_798.out; have hnc22 := NB798_805.out; have hnb23 := NB805_799.out; have hnc23 := NB799_805.out; have hnb24 := NB805_800.out; have hnc24 := NB800_805.out; obtain ⟨hcz25_0, hcz25_1, hcz25_2, hfz25_0, hfz25_1, hfz25_2⟩ := bc3 BK805))
            repeat (go_quiet (first | (go_at_call 32; (with_reducible refine (reserve_Ceiling.calls a0_0 a0_1 a0_2 a0_3 a0_4 a1_0 a1_1 a1_2 a1_3 a1_4 a2_0 a2_1 a2_2 t802 t803 t804 _ A12.out).mono ?_); rintro e w20 ⟨rfl, hb⟩; have n0_ := bb BK798 hb; have n1_ := bb BK799 hb; have n2_ := bb BK800 hb; have n3_ := bs HB hb; clear BK798; clear BK799; clear BK800; clear HB; have BK798 := n0_; have BK799 := n1_; have BK800 := n2_; have HB := n3_; clear n0_ n1_ n2_ n3_; (try clear hb); (try clear hb2); (try clear hk); (try clear hi)) | ((with_reducible refine gate_dst (N := 8) rfl ?_); refine bx 8 #[.int .u64 0, .int .u64 0, .int .u64 0] 29 ?_; intro gb805 hg w21 hbox hb; have n0_ := bb BK798 hb; have n1_ := bb BK799 hb; have n2_ := bb BK800 hb; have n3_ := bs HB hb; have n4_ := Aside0.mk (hbox); have n5_ := sz HB hg; have n6_ := sz HB hg; have n7_ := nl BK798 hg; have n8_ := nr BK798 hg; have n9_ := nl BK799 hg; have n10_ := nr BK799 hg; have n11_ := nl BK800 hg; have n12_ := nr BK800 hg; clear BK798; clear BK799; clear BK800; clear HB; have BK798 := n0_; have BK799 := n1_; have BK800 := n2_; have HB := n3_; have BK805 := n4_; have GW805 := n5_; have GE805 := n6_; have NB798_805 := n7_; have NB805_798 := n8_; have NB799_805 := n9_; have NB805_799 := n10_; have NB800_805 := n11_; have NB805_800 := n12_; clear n0_ n1_ n2_ n3_ n4_ n5_ n6_ n7_ n8_ n9_ n10_ n11_ n12_; clear hb hbox hg; have hnb22 := NB805_798.out; have hnc22 := NB798_805.out; have hnb23 := NB805_799.out; have hnc23 := NB799_805.out; have hnb24 := NB805_800.out; have hnc24 := NB800_805.out; obtain ⟨hcz25_0, hcz25_1, hcz25_2, hfz25_0, hfz25_1, hfz25_2⟩ := bc3 BK805)); go_upto_region 5 with (first | (go_at_call 32; (with_reducible refine (reserve_Ceiling.calls a0_0 a0_1 a0_2 a0_3 a0_4 a1_0 a1_1 a1_2 a1_3 a1_4 a2_0 a2_1 a2_2 t802 t803 t804 _ A12.out).mono ?_); rintro e w20 ⟨rfl, hb⟩; have n0_ := bb BK798 hb; have n1_ := bb BK799 hb; have n2_ := bb BK800 hb; have n3_ := bs HB hb; clear BK798; clear BK799; clear BK800; clear HB; have BK798 := n0_; have BK799 := n1_; have BK800 := n2_; have HB := n3_; clear n0_ n1_ n2_ n3_; (try clear hb); (try clear hb2); (try clear hk); (try clear hi)) | ((with_reducible refine gate_dst (N := 8) rfl ?_); refine bx 8 #[.int .u64 0, .int .u64 0, .int .u64 0] 29 ?_; intro gb805 hg w21 hbox hb; have n0_ := bb BK798 hb; have n1_ := bb BK799 hb; have n2_ := bb BK800 hb; have n3_ := bs HB hb; have n4_ := Aside0.mk (hbox); have n5_ := sz HB hg; have n6_ := sz HB hg; have n7_ := nl BK798 hg; have n8_ := nr BK798 hg; have n9_ := nl BK799 hg; have n10_ := nr BK799 hg; have n11_ := nl BK800 hg; have n12_ := nr BK800 hg; clear BK798; clear BK799; clear BK800; clear HB; have BK798 := n0_; have BK799 := n1_; have BK800 := n2_; have HB := n3_; have BK805 := n4_; have GW805 := n5_; have GE805 := n6_; have NB798_805 := n7_; have NB805_798 := n8_; have NB799_805 := n9_; have NB805_799 := n10_; have NB800_805 := n11_; have NB805_800 := n12_; clear n0_ n1_ n2_ n3_ n4_ n5_ n6_ n7_ n8_ n9_ n10_ n11_ n12_; clear hb hbox hg; have hnb22 := NB805_798.out; have hnc22 := NB798_805.out; have hnb23 := NB805_799.out; have hnc23 := NB799_805.out; have hnb24 := NB805_800.out; have hnc24 := NB800_805.out; obtain ⟨hcz25_0, hcz25_1, hcz25_2, hfz25_0, hfz25_1, hfz25_2⟩ := bc3 BK805)))
            (try simp only [Act.put, List.setIfInBounds_toArray, List.set_cons_zero, List.set_cons_succ])
            go_cut [9] (fun v9 wc => ∃ (kq : Nat) (x9_12 : Bool), v9 = .bool x9_12 ∧ Aside0 (turnstilelaw17_ReserveCovers.j2 kq x9_12 a0_0 a0_1 a0_2 a0_3 a0_4 a1_0 a1_1 a1_2 a1_3 a1_4 a2_0 a2_1 a2_2 t802 t803 t804 = some r) ∧ Aside0 (kq ≤ kj9) ∧ Aside0 (wc.heap[gb798]? = some (.cells #[.int .u64 a0_0, .int .u64 a0_1, .int .i64 a0_2, .int .i64 a0_3, .int .i64 a0_4] 53 (0, 0))) ∧ Aside0 (wc.heap[gb799]? = some (.cells #[.int .i64 a1_0, .int .u64 a1_1, .int .u64 a1_2, .int .u64 a1_3, .int .u64 a1_4] 27 (0, 0))) ∧ Aside0 (wc.heap[gb800]? = some (.cells #[.int .u64 a2_0, .int .u64 a2_1, .int .u64 a2_2] 29 (0, 0))) ∧ Aside0 (wc.heap[gb805]? = some (.cells #[.int .u64 t802, .int .u64 t803, .int .u64 t804] 29 (0, 0))) ∧ Aside0 (Below w.heap.size w wc))
            case first =>
              have H := HC13.out
              clear HC13
              replace H := Option.bind_eq_some_iff.mp H
              obtain ⟨t806, A260, H⟩ := H
              replace H : (turnstilelaw17_ReserveCovers.j2 kj9 t806 a0_0 a0_1 a0_2 a0_3 a0_4 a1_0 a1_1 a1_2 a1_3 a1_4 a2_0 a2_1 a2_2 t802 t803 t804) = some r := H
              have A26 := Aside0.mk A260
              clear A260
              have H' := Aside0.mk H
              clear H
              have hnb27 := NB799_798.out
              have hnc27 := NB798_799.out
              have hnb28 := NB799_800.out
              have hnc28 := NB800_799.out
              have hnb29 := NB799_805.out
              have hnc29 := NB805_799.out
              obtain ⟨hcz30_0, hcz30_1, hcz30_2, hcz30_3, hcz30_4, hfz30_0, hfz30_1, hfz30_2, hfz30_3, hfz30_4⟩ := bc5 BK799
              go_wp2_with (first | (go_at_call 18; (with_reducible refine (policy_Valid.calls a1_0 a1_1 a1_2 a1_3 a1_4 t806 _ A26.out).mono ?_); rintro e w31 ⟨rfl, hb⟩; have n0_ := bb BK798 hb; have n1_ := bb BK799 hb; have n2_ := bb BK800 hb; have n3_ := bbp (.cells #[.int .u64 t802, .int .u64 t803, .int .u64 t804] 29 (0, 0)) BK805 hb; have n4_ := bs HB hb; clear BK798; clear BK799; clear BK800; clear BK805; clear HB; have BK798 := n0_; have BK799 := n1_; have BK800 := n2_; have BK805 := n3_; have HB := n4_; clear n0_ n1_ n2_ n3_ n4_; (try clear hb); (try clear hb2); (try clear hk); (try clear hi)))
              repeat (go_quiet (first | (go_at_call 18; (with_reducible refine (policy_Valid.calls a1_0 a1_1 a1_2 a1_3 a1_4 t806 _ A26.out).mono ?_); rintro e w31 ⟨rfl, hb⟩; have n0_ := bb BK798 hb; have n1_ := bb BK799 hb; have n2_ := bb BK800 hb; have n3_ := bbp (.cells #[.int .u64 t802, .int .u64 t803, .int .u64 t804] 29 (0, 0)) BK805 hb; have n4_ := bs HB hb; clear BK798; clear BK799; clear BK800; clear BK805; clear HB; have BK798 := n0_; have BK799 := n1_; have BK800 := n2_; have BK805 := n3_; have HB := n4_; clear n0_ n1_ n2_ n3_ n4_; (try clear hb); (try clear hb2); (try clear hk); (try clear hi))); try go_wp2_with (first | (go_at_call 18; (with_reducible refine (policy_Valid.calls a1_0 a1_1 a1_2 a1_3 a1_4 t806 _ A26.out).mono ?_); rintro e w31 ⟨rfl, hb⟩; have n0_ := bb BK798 hb; have n1_ := bb BK799 hb; have n2_ := bb BK800 hb; have n3_ := bbp (.cells #[.int .u64 t802, .int .u64 t803, .int .u64 t804] 29 (0, 0)) BK805 hb; have n4_ := bs HB hb; clear BK798; clear BK799; clear BK800; clear BK805; clear HB; have BK798 := n0_; have BK799 := n1_; have BK800 := n2_; have BK805 := n3_; have HB := n4_; clear n0_ n1_ n2_ n3_ n4_; (try clear hb); (try clear hb2); (try clear hk); (try clear hi))))
              go_meet
              case rel => exact ⟨_, (t806), rs, H', ⟨by have := HJ3.out; have := HJ9.out; first | omega | exact Nat.le_refl _⟩, ⟨bk BK798⟩, ⟨bk BK799⟩, ⟨bk BK800⟩, ⟨bk BK805⟩, ⟨bw HB⟩⟩
            case rest =>
              clear HC13
              try clear c1
              try clear c2
              try clear p2
              try clear c11
              try clear c13
              try clear c14
              try clear c15
              try clear c17
              try clear c22
              try clear c23
              try clear c24
              try clear c27
              try clear c28
              try clear c29
              try clear hcz16_0
              try clear hcz16_1
              try clear hcz16_2
              try clear hcz16_3
              try clear hcz16_4
              try clear hcz18_0
              try clear hcz18_1
              try clear hcz18_2
              try clear hcz18_3
              try clear hcz18_4
              try clear hcz19_0
              try clear hcz19_1
              try clear hcz19_2
              try clear hcz25_0
              try clear hcz25_1
              try clear hcz25_2
              try clear hcz30_0
              try clear hcz30_1
              try clear hcz30_2
              try clear hcz30_3
              try clear hcz30_4
              try clear hfz16_0
              try clear hfz16_1
              try clear hfz16_2
              try clear hfz16_3
              try clear hfz16_4
              try clear hfz18_0
              try clear hfz18_1
              try clear hfz18_2
              try clear hfz18_3
              try clear hfz18_4
              try clear hfz19_0
              try clear hfz19_1
              try clear hfz19_2
              try clear hfz25_0
              try clear hfz25_1
              try clear hfz25_2
              try clear hfz30_0
              try clear hfz30_1
              try clear hfz30_2
              try clear hfz30_3
              try clear hfz30_4
              try clear p2
              obtain ⟨kq, x9_12, rfl, HA, HJ12, BK798, BK799, BK800, BK805, HB⟩ := hcut
              cases kq with
              | zero => exact absurd HA.out (by simp [turnstilelaw17_ReserveCovers.j2])
              | succ kj12 =>
                have H := HA.out
                clear HA
                simp only [turnstilelaw17_ReserveCovers.j2] at H
                have HC32 := Aside0.mk H
                clear H
                go_upto_region 6 with (fail)
                repeat (go_quiet (fail); go_upto_region 6 with (fail))
                go_cut [21] (fun v21 wc => ∃ (kq : Nat) (x21_31 : Bool), v21 = .bool x21_31 ∧ Aside0 (turnstilelaw17_ReserveCovers.j3 kq x21_31 a0_0 a0_1 a0_2 a0_3 a0_4 a1_0 a1_1 a1_2 a1_3 a1_4 a2_0 a2_1 a2_2 t802 t803 t804 = some r) ∧ Aside0 (kq ≤ kj12) ∧ Aside0 (wc.heap[gb798]? = some (.cells #[.int .u64 a0_0, .int .u64 a0_1, .int .i64 a0_2, .int .i64 a0_3, .int .i64 a0_4] 53 (0, 0))) ∧ Aside0 (wc.heap[gb799]? = some (.cells #[.int .i64 a1_0, .int .u64 a1_1, .int .u64 a1_2, .int .u64 a1_3, .int .u64 a1_4] 27 (0, 0))) ∧ Aside0 (wc.heap[gb800]? = some (.cells #[.int .u64 a2_0, .int .u64 a2_1, .int .u64 a2_2] 29 (0, 0))) ∧ Aside0 (wc.heap[gb805]? = some (.cells #[.int .u64 t802, .int .u64 t803, .int .u64 t804] 29 (0, 0))) ∧ Aside0 (Below w.heap.size w wc))
                case first =>
                  have H := HC32.out
                  clear HC32
                  have H' := Aside0.mk H
                  clear H
                  go_wp2
                  repeat (go_quiet (fail); try go_wp2)
                  go_meet
                  case rel => exact ⟨_, (!x9_12), rs, H', ⟨by have := HJ3.out; have := HJ9.out; have := HJ12.out; first | omega | exact Nat.le_refl _⟩, ⟨bk BK798⟩, ⟨bk BK799⟩, ⟨bk BK800⟩, ⟨bk BK805⟩, ⟨bw HB⟩⟩
                case rest =>
                  clear HC32
                  try clear c1
                  try clear c2
                  try clear p2
                  try clear c11
                  try clear c13
                  try clear c14
                  try clear c15
                  try clear c17
                  try clear c22
                  try clear c23
                  try clear c24
                  try clear c27
                  try clear c28
                  try clear c29
                  try clear hcz16_0
                  try clear hcz16_1
                  try clear hcz16_2
                  try clear hcz16_3
                  try clear hcz16_4
                  try clear hcz18_0
                  try clear hcz18_1
                  try clear hcz18_2
                  try clear hcz18_3
                  try clear hcz18_4
                  try clear hcz19_0
                  try clear hcz19_1
                  try clear hcz19_2
                  try clear hcz25_0
                  try clear hcz25_1
                  try clear hcz25_2
                  try clear hcz30_0
                  try clear hcz30_1
                  try clear hcz30_2
                  try clear hcz30_3
                  try clear hcz30_4
                  try clear hfz16_0
                  try clear hfz16_1
                  try clear hfz16_2
                  try clear hfz16_3
                  try clear hfz16_4
                  try clear hfz18_0
                  try clear hfz18_1
                  try clear hfz18_2
                  try clear hfz18_3
                  try clear hfz18_4
                  try clear hfz19_0
                  try clear hfz19_1
                  try clear hfz19_2
                  try clear hfz25_0
                  try clear hfz25_1
                  try clear hfz25_2
                  try clear hfz30_0
                  try clear hfz30_1
                  try clear hfz30_2
                  try clear hfz30_3
                  try clear hfz30_4
                  try clear p2
                  obtain ⟨kq, x21_31, rfl, HA, HJ31, BK798, BK799, BK800, BK805, HB⟩ := hcut
                  cases kq with
                  | zero => exact absurd HA.out (by simp [turnstilelaw17_ReserveCovers.j3])
                  | succ kj31 =>
                    have H := HA.out
                    clear HA
                    simp only [turnstilelaw17_ReserveCovers.j3] at H
                    by_cases c33 : x21_31 = true
                    · subst c33
                      have H1 : (if (t802 == 0 && (t803 == 0 && (t804 == 0))) = true then ((reserve_Within.f a0_0 a0_1 a0_2 a0_3 a0_4 a1_0 a1_1 a1_2 a1_3 a1_4 a2_0 a2_1 a2_2 a2_0 a2_1 a2_2).bind fun t807 => (some (!t807))) else (some false)) = some r := by rw [if_pos rfl] at H; exact H
                      clear H
                      have H := H1
                      clear H1
                      by_cases c34 : (t802 == 0 && (t803 == 0 && (t804 == 0))) = true
                      · rw [if_pos c34] at H
                        have c34b0 : (t802 == 0 && (t803 == 0 && (t804 == 0))) = true := c34
                        (try (have c34b1 : decide (t802 = 0 && (t803 == 0 && (t804 == 0))) = true := by simpa using c34))
                        (try (have c34b2 : (t802 == 0 && (t803 == 0 && (t804 == 0))) = true := by simpa using c34))
                        clear c34
                        replace H := Option.bind_eq_some_iff.mp H
                        obtain ⟨t807, A350, H⟩ := H
                        replace H : (some (!t807)) = some r := H
                        have A35 := Aside0.mk A350
                        clear A350
                        obtain rfl := Option.some.inj H
                        have hnb36 := NB805_798.out
                        have hnc36 := NB798_805.out
                        have hnb37 := NB805_799.out
                        have hnc37 := NB799_805.out
                        have hnb38 := NB805_800.out
                        have hnc38 := NB800_805.out
                        obtain ⟨hcz39_0, hcz39_1, hcz39_2, hfz39_0, hfz39_1, hfz39_2⟩ := bc3 BK805
                        have hnb40 := NB798_799.out
                        have hnc40 := NB799_798.out
                        have hnb41 := NB798_800.out
                        have hnc41 := NB800_798.out
                        obtain ⟨hcz42_0, hcz42_1, hcz42_2, hcz42_3, hcz42_4, hfz42_0, hfz42_1, hfz42_2, hfz42_3, hfz42_4⟩ := bc5 BK798
                        have hnb43 := NB799_800.out
                        have hnc43 := NB800_799.out
                        obtain ⟨hcz44_0, hcz44_1, hcz44_2, hcz44_3, hcz44_4, hfz44_0, hfz44_1, hfz44_2, hfz44_3, hfz44_4⟩ := bc5 BK799
                        obtain ⟨hcz45_0, hcz45_1, hcz45_2, hfz45_0, hfz45_1, hfz45_2⟩ := bc3 BK800
                        go_wp2_with (first | (go_at_call 31; (with_reducible refine (reserve_Within.calls a0_0 a0_1 a0_2 a0_3 a0_4 a1_0 a1_1 a1_2 a1_3 a1_4 a2_0 a2_1 a2_2 a2_0 a2_1 a2_2 t807 _ A35.out).mono ?_); rintro e w46 ⟨rfl, hb⟩; have n0_ := bb BK798 hb; have n1_ := bb BK799 hb; have n2_ := bb BK800 hb; have n3_ := bb BK805 hb; have n4_ := bs HB hb; clear BK798; clear BK799; clear BK800; clear BK805; clear HB; have BK798 := n0_; have BK799 := n1_; have BK800 := n2_; have BK805 := n3_; have HB := n4_; clear n0_ n1_ n2_ n3_ n4_; (try clear hb); (try clear hb2); (try clear hk); (try clear hi)))
                        repeat (go_quiet (first | (go_at_call 31; (with_reducible refine (reserve_Within.calls a0_0 a0_1 a0_2 a0_3 a0_4 a1_0 a1_1 a1_2 a1_3 a1_4 a2_0 a2_1 a2_2 a2_0 a2_1 a2_2 t807 _ A35.out).mono ?_); rintro e w46 ⟨rfl, hb⟩; have n0_ := bb BK798 hb; have n1_ := bb BK799 hb; have n2_ := bb BK800 hb; have n3_ := bb BK805 hb; have n4_ := bs HB hb; clear BK798; clear BK799; clear BK800; clear BK805; clear HB; have BK798 := n0_; have BK799 := n1_; have BK800 := n2_; have BK805 := n3_; have HB := n4_; clear n0_ n1_ n2_ n3_ n4_; (try clear hb); (try clear hb2); (try clear hk); (try clear hi))); try go_wp2_with (first | (go_at_call 31; (with_reducible refine (reserve_Within.calls a0_0 a0_1 a0_2 a0_3 a0_4 a1_0 a1_1 a1_2 a1_3 a1_4 a2_0 a2_1 a2_2 a2_0 a2_1 a2_2 t807 _ A35.out).mono ?_); rintro e w46 ⟨rfl, hb⟩; have n0_ := bb BK798 hb; have n1_ := bb BK799 hb; have n2_ := bb BK800 hb; have n3_ := bb BK805 hb; have n4_ := bs HB hb; clear BK798; clear BK799; clear BK800; clear BK805; clear HB; have BK798 := n0_; have BK799 := n1_; have BK800 := n2_; have BK805 := n3_; have HB := n4_; clear n0_ n1_ n2_ n3_ n4_; (try clear hb); (try clear hb2); (try clear hk); (try clear hi))))
                        go_ret
                        exact ⟨re, bw HB⟩
                      · rw [if_neg c34] at H
                        have c34b0 : (t802 == 0 && (t803 == 0 && (t804 == 0))) = false := by simpa using c34
                        (try (have c34b1 : decide (t802 = 0 && (t803 == 0 && (t804 == 0))) = false := by simpa using c34))
                        (try (have c34b2 : (t802 == 0 && (t803 == 0 && (t804 == 0))) = false := by simpa using c34))
                        (try (have c34b3 : ¬ (t802 = 0 && (t803 == 0 && (t804 == 0))) := by simpa using c34))
                        clear c34
                        obtain rfl := Option.some.inj H
                        have hnb47 := NB805_798.out
                        have hnc47 := NB798_805.out
                        have hnb48 := NB805_799.out
                        have hnc48 := NB799_805.out
                        have hnb49 := NB805_800.out
                        have hnc49 := NB800_805.out
                        obtain ⟨hcz50_0, hcz50_1, hcz50_2, hfz50_0, hfz50_1, hfz50_2⟩ := bc3 BK805
                        go_wp2
                        repeat (go_quiet (fail); try go_wp2)
                        go_ret
                        exact ⟨re, bw HB⟩
                    · replace c33 := Bool.eq_false_iff.mpr c33
                      subst c33
                      have H1 : ((policy_Fits.f a1_0 a1_1 a1_2 a1_3 a1_4 t802 t803 t804).bind fun t808 => (if t808 = true then ((policy_Covers.f a1_0 a1_1 a1_2 a1_3 a1_4 t802 t803 t804 a2_0 a2_1 a2_2).bind fun t809 => (if t809 = true then ((reserve_Within.f a0_0 a0_1 a0_2 a0_3 a0_4 a1_0 a1_1 a1_2 a1_3 a1_4 a2_0 a2_1 a2_2 t802 t803 t804).bind fun t810 => (if t810 = true then ((reserve_Within.f a0_0 a0_1 a0_2 a0_3 a0_4 a1_0 a1_1 a1_2 a1_3 a1_4 a2_0 a2_1 a2_2 a2_0 a2_1 a2_2).bind fun t811 => (turnstilelaw17_ReserveCovers.j4 kj31 (!t811) a0_0 a0_1 a0_2 a0_3 a0_4 a1_0 a1_1 a1_2 a1_3 a1_4 a2_0 a2_1 a2_2 t802 t803 t804)) else (turnstilelaw17_ReserveCovers.j4 kj31 true a0_0 a0_1 a0_2 a0_3 a0_4 a1_0 a1_1 a1_2 a1_3 a1_4 a2_0 a2_1 a2_2 t802 t803 t804))) else (turnstilelaw17_ReserveCovers.j4 kj31 true a0_0 a0_1 a0_2 a0_3 a0_4 a1_0 a1_1 a1_2 a1_3 a1_4 a2_0 a2_1 a2_2 t802 t803 t804))) else (turnstilelaw17_ReserveCovers.j4 kj31 true a0_0 a0_1 a0_2 a0_3 a0_4 a1_0 a1_1 a1_2 a1_3 a1_4 a2_0 a2_1 a2_2 t802 t803 t804))) = some r := by rw [if_neg (show ¬ (false = true) by decide)] at H; exact H
                      clear H
                      have H := H1
                      clear H1
                      have HC51 := Aside0.mk H
                      clear H
                      go_upto_region 8 with (fail)
                      repeat (go_quiet (fail); go_upto_region 8 with (fail))
                      go_cut [59] (fun v59 wc => ∃ (kq : Nat) (x59_50 : Bool), v59 = .bool x59_50 ∧ Aside0 (turnstilelaw17_ReserveCovers.j4 kq x59_50 a0_0 a0_1 a0_2 a0_3 a0_4 a1_0 a1_1 a1_2 a1_3 a1_4 a2_0 a2_1 a2_2 t802 t803 t804 = some r) ∧ Aside0 (kq ≤ kj31) ∧ Aside0 (wc.heap[gb798]? = some (.cells #[.int .u64 a0_0, .int .u64 a0_1, .int .i64 a0_2, .int .i64 a0_3, .int .i64 a0_4] 53 (0, 0))) ∧ Aside0 (wc.heap[gb799]? = some (.cells #[.int .i64 a1_0, .int .u64 a1_1, .int .u64 a1_2, .int .u64 a1_3, .int .u64 a1_4] 27 (0, 0))) ∧ Aside0 (wc.heap[gb800]? = some (.cells #[.int .u64 a2_0, .int .u64 a2_1, .int .u64 a2_2] 29 (0, 0))) ∧ Aside0 (wc.heap[gb805]? = some (.cells #[.int .u64 t802, .int .u64 t803, .int .u64 t804] 29 (0, 0))) ∧ Aside0 (Below w.heap.size w wc))
                      case first =>
                        have H := HC51.out
                        clear HC51
                        replace H := Option.bind_eq_some_iff.mp H
                        obtain ⟨t808, A520, H⟩ := H
                        replace H : (if t808 = true then ((policy_Covers.f a1_0 a1_1 a1_2 a1_3 a1_4 t802 t803 t804 a2_0 a2_1 a2_2).bind fun t809 => (if t809 = true then ((reserve_Within.f a0_0 a0_1 a0_2 a0_3 a0_4 a1_0 a1_1 a1_2 a1_3 a1_4 a2_0 a2_1 a2_2 t802 t803 t804).bind fun t810 => (if t810 = true then ((reserve_Within.f a0_0 a0_1 a0_2 a0_3 a0_4 a1_0 a1_1 a1_2 a1_3 a1_4 a2_0 a2_1 a2_2 a2_0 a2_1 a2_2).bind fun t811 => (turnstilelaw17_ReserveCovers.j4 kj31 (!t811) a0_0 a0_1 a0_2 a0_3 a0_4 a1_0 a1_1 a1_2 a1_3 a1_4 a2_0 a2_1 a2_2 t802 t803 t804)) else (turnstilelaw17_ReserveCovers.j4 kj31 true a0_0 a0_1 a0_2 a0_3 a0_4 a1_0 a1_1 a1_2 a1_3 a1_4 a2_0 a2_1 a2_2 t802 t803 t804))) else (turnstilelaw17_ReserveCovers.j4 kj31 true a0_0 a0_1 a0_2 a0_3 a0_4 a1_0 a1_1 a1_2 a1_3 a1_4 a2_0 a2_1 a2_2 t802 t803 t804))) else (turnstilelaw17_ReserveCovers.j4 kj31 true a0_0 a0_1 a0_2 a0_3 a0_4 a1_0 a1_1 a1_2 a1_3 a1_4 a2_0 a2_1 a2_2 t802 t803 t804)) = some r := H
                        have A52 := Aside0.mk A520
                        clear A520
                        by_cases c53 : t808 = true
                        · subst c53
                          have H1 : ((policy_Covers.f a1_0 a1_1 a1_2 a1_3 a1_4 t802 t803 t804 a2_0 a2_1 a2_2).bind fun t809 => (if t809 = true then ((reserve_Within.f a0_0 a0_1 a0_2 a0_3 a0_4 a1_0 a1_1 a1_2 a1_3 a1_4 a2_0 a2_1 a2_2 t802 t803 t804).bind fun t810 => (if t810 = true then ((reserve_Within.f a0_0 a0_1 a0_2 a0_3 a0_4 a1_0 a1_1 a1_2 a1_3 a1_4 a2_0 a2_1 a2_2 a2_0 a2_1 a2_2).bind fun t811 => (turnstilelaw17_ReserveCovers.j4 kj31 (!t811) a0_0 a0_1 a0_2 a0_3 a0_4 a1_0 a1_1 a1_2 a1_3 a1_4 a2_0 a2_1 a2_2 t802 t803 t804)) else (turnstilelaw17_ReserveCovers.j4 kj31 true a0_0 a0_1 a0_2 a0_3 a0_4 a1_0 a1_1 a1_2 a1_3 a1_4 a2_0 a2_1 a2_2 t802 t803 t804))) else (turnstilelaw17_ReserveCovers.j4 kj31 true a0_0 a0_1 a0_2 a0_3 a0_4 a1_0 a1_1 a1_2 a1_3 a1_4 a2_0 a2_1 a2_2 t802 t803 t804))) = some r := by rw [if_pos rfl] at H; exact H
                          clear H
                          have H := H1
                          clear H1
                          replace H := Option.bind_eq_some_iff.mp H
                          obtain ⟨t809, A540, H⟩ := H
                          replace H : (if t809 = true then ((reserve_Within.f a0_0 a0_1 a0_2 a0_3 a0_4 a1_0 a1_1 a1_2 a1_3 a1_4 a2_0 a2_1 a2_2 t802 t803 t804).bind fun t810 => (if t810 = true then ((reserve_Within.f a0_0 a0_1 a0_2 a0_3 a0_4 a1_0 a1_1 a1_2 a1_3 a1_4 a2_0 a2_1 a2_2 a2_0 a2_1 a2_2).bind fun t811 => (turnstilelaw17_ReserveCovers.j4 kj31 (!t811) a0_0 a0_1 a0_2 a0_3 a0_4 a1_0 a1_1 a1_2 a1_3 a1_4 a2_0 a2_1 a2_2 t802 t803 t804)) else (turnstilelaw17_ReserveCovers.j4 kj31 true a0_0 a0_1 a0_2 a0_3 a0_4 a1_0 a1_1 a1_2 a1_3 a1_4 a2_0 a2_1 a2_2 t802 t803 t804))) else (turnstilelaw17_ReserveCovers.j4 kj31 true a0_0 a0_1 a0_2 a0_3 a0_4 a1_0 a1_1 a1_2 a1_3 a1_4 a2_0 a2_1 a2_2 t802 t803 t804)) = some r := H
                          have A54 := Aside0.mk A540
                          clear A540
                          by_cases c55 : t809 = true
                          · subst c55
                            have H1 : ((reserve_Within.f a0_0 a0_1 a0_2 a0_3 a0_4 a1_0 a1_1 a1_2 a1_3 a1_4 a2_0 a2_1 a2_2 t802 t803 t804).bind fun t810 => (if t810 = true then ((reserve_Within.f a0_0 a0_1 a0_2 a0_3 a0_4 a1_0 a1_1 a1_2 a1_3 a1_4 a2_0 a2_1 a2_2 a2_0 a2_1 a2_2).bind fun t811 => (turnstilelaw17_ReserveCovers.j4 kj31 (!t811) a0_0 a0_1 a0_2 a0_3 a0_4 a1_0 a1_1 a1_2 a1_3 a1_4 a2_0 a2_1 a2_2 t802 t803 t804)) else (turnstilelaw17_ReserveCovers.j4 kj31 true a0_0 a0_1 a0_2 a0_3 a0_4 a1_0 a1_1 a1_2 a1_3 a1_4 a2_0 a2_1 a2_2 t802 t803 t804))) = some r := by rw [if_pos rfl] at H; exact H
                            clear H
                            have H := H1
                            clear H1
                            replace H := Option.bind_eq_some_iff.mp H
                            obtain ⟨t810, A560, H⟩ := H
                            replace H : (if t810 = true then ((reserve_Within.f a0_0 a0_1 a0_2 a0_3 a0_4 a1_0 a1_1 a1_2 a1_3 a1_4 a2_0 a2_1 a2_2 a2_0 a2_1 a2_2).bind fun t811 => (turnstilelaw17_ReserveCovers.j4 kj31 (!t811) a0_0 a0_1 a0_2 a0_3 a0_4 a1_0 a1_1 a1_2 a1_3 a1_4 a2_0 a2_1 a2_2 t802 t803 t804)) else (turnstilelaw17_ReserveCovers.j4 kj31 true a0_0 a0_1 a0_2 a0_3 a0_4 a1_0 a1_1 a1_2 a1_3 a1_4 a2_0 a2_1 a2_2 t802 t803 t804)) = some r := H
                            have A56 := Aside0.mk A560
                            clear A560
                            by_cases c57 : t810 = true
                            · subst c57
                              have H1 : ((reserve_Within.f a0_0 a0_1 a0_2 a0_3 a0_4 a1_0 a1_1 a1_2 a1_3 a1_4 a2_0 a2_1 a2_2 a2_0 a2_1 a2_2).bind fun t811 => (turnstilelaw17_ReserveCovers.j4 kj31 (!t811) a0_0 a0_1 a0_2 a0_3 a0_4 a1_0 a1_1 a1_2 a1_3 a1_4 a2_0 a2_1 a2_2 t802 t803 t804)) = some r := by rw [if_pos rfl] at H; exact H
                              clear H
                              have H := H1
                              clear H1
                              replace H := Option.bind_eq_some_iff.mp H
                              obtain ⟨t811, A580, H⟩ := H
                              replace H : (turnstilelaw17_ReserveCovers.j4 kj31 (!t811) a0_0 a0_1 a0_2 a0_3 a0_4 a1_0 a1_1 a1_2 a1_3 a1_4 a2_0 a2_1 a2_2 t802 t803 t804) = some r := H
                              have A58 := Aside0.mk A580
                              clear A580
                              have H' := Aside0.mk H
                              clear H
                              have hnb59 := NB799_798.out
                              have hnc59 := NB798_799.out
                              have hnb60 := NB799_800.out
                              have hnc60 := NB800_799.out
                              have hnb61 := NB799_805.out
                              have hnc61 := NB805_799.out
                              obtain ⟨hcz62_0, hcz62_1, hcz62_2, hcz62_3, hcz62_4, hfz62_0, hfz62_1, hfz62_2, hfz62_3, hfz62_4⟩ := bc5 BK799
                              have hnb63 := NB805_798.out
                              have hnc63 := NB798_805.out
                              have hnb64 := NB805_800.out
                              have hnc64 := NB800_805.out
                              obtain ⟨hcz65_0, hcz65_1, hcz65_2, hfz65_0, hfz65_1, hfz65_2⟩ := bc3 BK805
                              go_wp2_with (first | (go_at_call 25; (with_reducible refine (policy_Fits.calls a1_0 a1_1 a1_2 a1_3 a1_4 t802 t803 t804 true _ A52.out).mono ?_); rintro e w66 ⟨rfl, hb⟩; have n0_ := bb BK798 hb; have n1_ := bb BK799 hb; have n2_ := bb BK800 hb; have n3_ := bb BK805 hb; have n4_ := bs HB hb; clear BK798; clear BK799; clear BK800; clear BK805; clear HB; have BK798 := n0_; have BK799 := n1_; have BK800 := n2_; have BK805 := n3_; have HB := n4_; clear n0_ n1_ n2_ n3_ n4_; (try clear hb); (try clear hb2); (try clear hk); (try clear hi); obtain ⟨hcz67_0, hcz67_1, hcz67_2, hcz67_3, hcz67_4, hfz67_0, hfz67_1, hfz67_2, hfz67_3, hfz67_4⟩ := bc5 BK799; obtain ⟨hcz68_0, hcz68_1, hcz68_2, hfz68_0, hfz68_1, hfz68_2⟩ := bc3 BK805; have hnb69 := NB800_798.out; have hnc69 := NB798_800.out; obtain ⟨hcz70_0, hcz70_1, hcz70_2, hfz70_0, hfz70_1, hfz70_2⟩ := bc3 BK800) | (go_at_call 27; (with_reducible refine (policy_Covers.calls a1_0 a1_1 a1_2 a1_3 a1_4 t802 t803 t804 a2_0 a2_1 a2_2 true _ A54.out).mono ?_); rintro e w71 ⟨rfl, hb⟩; have n0_ := bb BK798 hb; have n1_ := bb BK799 hb; have n2_ := bb BK800 hb; have n3_ := bb BK805 hb; have n4_ := bs HB hb; clear BK798; clear BK799; clear BK800; clear BK805; clear HB; have BK798 := n0_; have BK799 := n1_; have BK800 := n2_; have BK805 := n3_; have HB := n4_; clear n0_ n1_ n2_ n3_ n4_; (try clear hb); (try clear hb2); (try clear hk); (try clear hi); obtain ⟨hcz72_0, hcz72_1, hcz72_2, hcz72_3, hcz72_4, hfz72_0, hfz72_1, hfz72_2, hfz72_3, hfz72_4⟩ := bc5 BK798; obtain ⟨hcz73_0, hcz73_1, hcz73_2, hcz73_3, hcz73_4, hfz73_0, hfz73_1, hfz73_2, hfz73_3, hfz73_4⟩ := bc5 BK799; obtain ⟨hcz74_0, hcz74_1, hcz74_2, hfz74_0, hfz74_1, hfz74_2⟩ := bc3 BK800; obtain ⟨hcz75_0, hcz75_1, hcz75_2, hfz75_0, hfz75_1, hfz75_2⟩ := bc3 BK805) | (go_at_call 31; (with_reducible refine (reserve_Within.calls a0_0 a0_1 a0_2 a0_3 a0_4 a1_0 a1_1 a1_2 a1_3 a1_4 a2_0 a2_1 a2_2 t802 t803 t804 true _ A56.out).mono ?_); rintro e w76 ⟨rfl, hb⟩; have n0_ := bb BK798 hb; have n1_ := bb BK799 hb; have n2_ := bb BK800 hb; have n3_ := bb BK805 hb; have n4_ := bs HB hb; clear BK798; clear BK799; clear BK800; clear BK805; clear HB; have BK798 := n0_; have BK799 := n1_; have BK800 := n2_; have BK805 := n3_; have HB := n4_; clear n0_ n1_ n2_ n3_ n4_; (try clear hb); (try clear hb2); (try clear hk); (try clear hi); obtain ⟨hcz77_0, hcz77_1, hcz77_2, hcz77_3, hcz77_4, hfz77_0, hfz77_1, hfz77_2, hfz77_3, hfz77_4⟩ := bc5 BK798; obtain ⟨hcz78_0, hcz78_1, hcz78_2, hcz78_3, hcz78_4, hfz78_0, hfz78_1, hfz78_2, hfz78_3, hfz78_4⟩ := bc5 BK799; obtain ⟨hcz79_0, hcz79_1, hcz79_2, hfz79_0, hfz79_1, hfz79_2⟩ := bc3 BK800) | (go_at_call 31; (with_reducible refine (reserve_Within.calls a0_0 a0_1 a0_2 a0_3 a0_4 a1_0 a1_1 a1_2 a1_3 a1_4 a2_0 a2_1 a2_2 a2_0 a2_1 a2_2 t811 _ A58.out).mono ?_); rintro e w80 ⟨rfl, hb⟩; have n0_ := bb BK798 hb; have n1_ := bb BK799 hb; have n2_ := bb BK800 hb; have n3_ := bb BK805 hb; have n4_ := bs HB hb; clear BK798; clear BK799; clear BK800; clear BK805; clear HB; have BK798 := n0_; have BK799 := n1_; have BK800 := n2_; have BK805 := n3_; have HB := n4_; clear n0_ n1_ n2_ n3_ n4_; (try clear hb); (try clear hb2); (try clear hk); (try clear hi)))
                              repeat (go_quiet (first | (go_at_call 25; (with_reducible refine (policy_Fits.calls a1_0 a1_1 a1_2 a1_3 a1_4 t802 t803 t804 true _ A52.out).mono ?_); rintro e w66 ⟨rfl, hb⟩; have n0_ := bb BK798 hb; have n1_ := bb BK799 hb; have n2_ := bb BK800 hb; have n3_ := bb BK805 hb; have n4_ := bs HB hb; clear BK798; clear BK799; clear BK800; clear BK805; clear HB; have BK798 := n0_; have BK799 := n1_; have BK800 := n2_; have BK805 := n3_; have HB := n4_; clear n0_ n1_ n2_ n3_ n4_; (try clear hb); (try clear hb2); (try clear hk); (try clear hi); obtain ⟨hcz67_0, hcz67_1, hcz67_2, hcz67_3, hcz67_4, hfz67_0, hfz67_1, hfz67_2, hfz67_3, hfz67_4⟩ := bc5 BK799; obtain ⟨hcz68_0, hcz68_1, hcz68_2, hfz68_0, hfz68_1, hfz68_2⟩ := bc3 BK805; have hnb69 := NB800_798.out; have hnc69 := NB798_800.out; obtain ⟨hcz70_0, hcz70_1, hcz70_2, hfz70_0, hfz70_1, hfz70_2⟩ := bc3 BK800) | (go_at_call 27; (with_reducible refine (policy_Covers.calls a1_0 a1_1 a1_2 a1_3 a1_4 t802 t803 t804 a2_0 a2_1 a2_2 true _ A54.out).mono ?_); rintro e w71 ⟨rfl, hb⟩; have n0_ := bb BK798 hb; have n1_ := bb BK799 hb; have n2_ := bb BK800 hb; have n3_ := bb BK805 hb; have n4_ := bs HB hb; clear BK798; clear BK799; clear BK800; clear BK805; clear HB; have BK798 := n0_; have BK799 := n1_; have BK800 := n2_; have BK805 := n3_; have HB := n4_; clear n0_ n1_ n2_ n3_ n4_; (try clear hb); (try clear hb2); (try clear hk); (try clear hi); obtain ⟨hcz72_0, hcz72_1, hcz72_2, hcz72_3, hcz72_4, hfz72_0, hfz72_1, hfz72_2, hfz72_3, hfz72_4⟩ := bc5 BK798; obtain ⟨hcz73_0, hcz73_1, hcz73_2, hcz73_3, hcz73_4, hfz73_0, hfz73_1, hfz73_2, hfz73_3, hfz73_4⟩ := bc5 BK799; obtain ⟨hcz74_0, hcz74_1, hcz74_2, hfz74_0, hfz74_1, hfz74_2⟩ := bc3 BK800; obtain ⟨hcz75_0, hcz75_1, hcz75_2, hfz75_0, hfz75_1, hfz75_2⟩ := bc3 BK805) | (go_at_call 31; (with_reducible refine (reserve_Within.calls a0_0 a0_1 a0_2 a0_3 a0_4 a1_0 a1_1 a1_2 a1_3 a1_4 a2_0 a2_1 a2_2 t802 t803 t804 true _ A56.out).mono ?_); rintro e w76 ⟨rfl, hb⟩; have n0_ := bb BK798 hb; have n1_ := bb BK799 hb; have n2_ := bb BK800 hb; have n3_ := bb BK805 hb; have n4_ := bs HB hb; clear BK798; clear BK799; clear BK800; clear BK805; clear HB; have BK798 := n0_; have BK799 := n1_; have BK800 := n2_; have BK805 := n3_; have HB := n4_; clear n0_ n1_ n2_ n3_ n4_; (try clear hb); (try clear hb2); (try clear hk); (try clear hi); obtain ⟨hcz77_0, hcz77_1, hcz77_2, hcz77_3, hcz77_4, hfz77_0, hfz77_1, hfz77_2, hfz77_3, hfz77_4⟩ := bc5 BK798; obtain ⟨hcz78_0, hcz78_1, hcz78_2, hcz78_3, hcz78_4, hfz78_0, hfz78_1, hfz78_2, hfz78_3, hfz78_4⟩ := bc5 BK799; obtain ⟨hcz79_0, hcz79_1, hcz79_2, hfz79_0, hfz79_1, hfz79_2⟩ := bc3 BK800) | (go_at_call 31; (with_reducible refine (reserve_Within.calls a0_0 a0_1 a0_2 a0_3 a0_4 a1_0 a1_1 a1_2 a1_3 a1_4 a2_0 a2_1 a2_2 a2_0 a2_1 a2_2 t811 _ A58.out).mono ?_); rintro e w80 ⟨rfl, hb⟩; have n0_ := bb BK798 hb; have n1_ := bb BK799 hb; have n2_ := bb BK800 hb; have n3_ := bb BK805 hb; have n4_ := bs HB hb; clear BK798; clear BK799; clear BK800; clear BK805; clear HB; have BK798 := n0_; have BK799 := n1_; have BK800 := n2_; have BK805 := n3_; have HB := n4_; clear n0_ n1_ n2_ n3_ n4_; (try clear hb); (try clear hb2); (try clear hk); (try clear hi))); try go_wp2_with (first | (go_at_call 25; (with_reducible refine (policy_Fits.calls a1_0 a1_1 a1_2 a1_3 a1_4 t802 t803 t804 true _ A52.out).mono ?_); rintro e w66 ⟨rfl, hb⟩; have n0_ := bb BK798 hb; have n1_ := bb BK799 hb; have n2_ := bb BK800 hb; have n3_ := bb BK805 hb; have n4_ := bs HB hb; clear BK798; clear BK799; clear BK800; clear BK805; clear HB; have BK798 := n0_; have BK799 := n1_; have BK800 := n2_; have BK805 := n3_; have HB := n4_; clear n0_ n1_ n2_ n3_ n4_; (try clear hb); (try clear hb2); (try clear hk); (try clear hi); obtain ⟨hcz67_0, hcz67_1, hcz67_2, hcz67_3, hcz67_4, hfz67_0, hfz67_1, hfz67_2, hfz67_3, hfz67_4⟩ := bc5 BK799; obtain ⟨hcz68_0, hcz68_1, hcz68_2, hfz68_0, hfz68_1, hfz68_2⟩ := bc3 BK805; have hnb69 := NB800_798.out; have hnc69 := NB798_800.out; obtain ⟨hcz70_0, hcz70_1, hcz70_2, hfz70_0, hfz70_1, hfz70_2⟩ := bc3 BK800) | (go_at_call 27; (with_reducible refine (policy_Covers.calls a1_0 a1_1 a1_2 a1_3 a1_4 t802 t803 t804 a2_0 a2_1 a2_2 true _ A54.out).mono ?_); rintro e w71 ⟨rfl, hb⟩; have n0_ := bb BK798 hb; have n1_ := bb BK799 hb; have n2_ := bb BK800 hb; have n3_ := bb BK805 hb; have n4_ := bs HB hb; clear BK798; clear BK799; clear BK800; clear BK805; clear HB; have BK798 := n0_; have BK799 := n1_; have BK800 := n2_; have BK805 := n3_; have HB := n4_; clear n0_ n1_ n2_ n3_ n4_; (try clear hb); (try clear hb2); (try clear hk); (try clear hi); obtain ⟨hcz72_0, hcz72_1, hcz72_2, hcz72_3, hcz72_4, hfz72_0, hfz72_1, hfz72_2, hfz72_3, hfz72_4⟩ := bc5 BK798; obtain ⟨hcz73_0, hcz73_1, hcz73_2, hcz73_3, hcz73_4, hfz73_0, hfz73_1, hfz73_2, hfz73_3, hfz73_4⟩ := bc5 BK799; obtain ⟨hcz74_0, hcz74_1, hcz74_2, hfz74_0, hfz74_1, hfz74_2⟩ := bc3 BK800; obtain ⟨hcz75_0, hcz75_1, hcz75_2, hfz75_0, hfz75_1, hfz75_2⟩ := bc3 BK805) | (go_at_call 31; (with_reducible refine (reserve_Within.calls a0_0 a0_1 a0_2 a0_3 a0_4 a1_0 a1_1 a1_2 a1_3 a1_4 a2_0 a2_1 a2_2 t802 t803 t804 true _ A56.out).mono ?_); rintro e w76 ⟨rfl, hb⟩; have n0_ := bb BK798 hb; have n1_ := bb BK799 hb; have n2_ := bb BK800 hb; have n3_ := bb BK805 hb; have n4_ := bs HB hb; clear BK798; clear BK799; clear BK800; clear BK805; clear HB; have BK798 := n0_; have BK799 := n1_; have BK800 := n2_; have BK805 := n3_; have HB := n4_; clear n0_ n1_ n2_ n3_ n4_; (try clear hb); (try clear hb2); (try clear hk); (try clear hi); obtain ⟨hcz77_0, hcz77_1, hcz77_2, hcz77_3, hcz77_4, hfz77_0, hfz77_1, hfz77_2, hfz77_3, hfz77_4⟩ := bc5 BK798; obtain ⟨hcz78_0, hcz78_1, hcz78_2, hcz78_3, hcz78_4, hfz78_0, hfz78_1, hfz78_2, hfz78_3, hfz78_4⟩ := bc5 BK799; obtain ⟨hcz79_0, hcz79_1, hcz79_2, hfz79_0, hfz79_1, hfz79_2⟩ := bc3 BK800) | (go_at_call 31; (with_reducible refine (reserve_Within.calls a0_0 a0_1 a0_2 a0_3 a0_4 a1_0 a1_1 a1_2 a1_3 a1_4 a2_0 a2_1 a2_2 a2_0 a2_1 a2_2 t811 _ A58.out).mono ?_); rintro e w80 ⟨rfl, hb⟩; have n0_ := bb BK798 hb; have n1_ := bb BK799 hb; have n2_ := bb BK800 hb; have n3_ := bb BK805 hb; have n4_ := bs HB hb; clear BK798; clear BK799; clear BK800; clear BK805; clear HB; have BK798 := n0_; have BK799 := n1_; have BK800 := n2_; have BK805 := n3_; have HB := n4_; clear n0_ n1_ n2_ n3_ n4_; (try clear hb); (try clear hb2); (try clear hk); (try clear hi))))
                              go_meet
                              case rel => exact ⟨_, (!t811), rs, H', ⟨by have := HJ3.out; have := HJ9.out; have := HJ12.out; have := HJ31.out; first | omega | exact Nat.le_refl _⟩, ⟨bk BK798⟩, ⟨bk BK799⟩, ⟨bk BK800⟩, ⟨bk BK805⟩, ⟨bw HB⟩⟩
                            · replace c57 := Bool.eq_false_iff.mpr c57
                              subst c57
                              have H1 : (turnstilelaw17_ReserveCovers.j4 kj31 true a0_0 a0_1 a0_2 a0_3 a0_4 a1_0 a1_1 a1_2 a1_3 a1_4 a2_0 a2_1 a2_2 t802 t803 t804) = some r := by rw [if_neg (show ¬ (false = true) by decide)] at H; exact H
                              clear H
                              have H := H1
                              clear H1
                              have H' := Aside0.mk H
                              clear H
                              have hnb81 := NB799_798.out
                              have hnc81 := NB798_799.out
                              have hnb82 := NB799_800.out
                              have hnc82 := NB800_799.out
                              have hnb83 := NB799_805.out
                              have hnc83 := NB805_799.out
                              obtain ⟨hcz84_0, hcz84_1, hcz84_2, hcz84_3, hcz84_4, hfz84_0, hfz84_1, hfz84_2, hfz84_3, hfz84_4⟩ := bc5 BK799
                              have hnb85 := NB805_798.out
                              have hnc85 := NB798_805.out
                              have hnb86 := NB805_800.out
                              have hnc86 := NB800_805.out
                              obtain ⟨hcz87_0, hcz87_1, hcz87_2, hfz87_0, hfz87_1, hfz87_2⟩ := bc3 BK805
                              go_wp2_with (first | (go_at_call 25; (with_reducible refine (policy_Fits.calls a1_0 a1_1 a1_2 a1_3 a1_4 t802 t803 t804 true _ A52.out).mono ?_); rintro e w88 ⟨rfl, hb⟩; have n0_ := bb BK798 hb; have n1_ := bb BK799 hb; have n2_ := bb BK800 hb; have n3_ := bb BK805 hb; have n4_ := bs HB hb; clear BK798; clear BK799; clear BK800; clear BK805; clear HB; have BK798 := n0_; have BK799 := n1_; have BK800 := n2_; have BK805 := n3_; have HB := n4_; clear n0_ n1_ n2_ n3_ n4_; (try clear hb); (try clear hb2); (try clear hk); (try clear hi); obtain ⟨hcz89_0, hcz89_1, hcz89_2, hcz89_3, hcz89_4, hfz89_0, hfz89_1, hfz89_2, hfz89_3, hfz89_4⟩ := bc5 BK799; obtain ⟨hcz90_0, hcz90_1, hcz90_2, hfz90_0, hfz90_1, hfz90_2⟩ := bc3 BK805; have hnb91 := NB800_798.out; have hnc91 := NB798_800.out; obtain ⟨hcz92_0, hcz92_1, hcz92_2, hfz92_0, hfz92_1, hfz92_2⟩ := bc3 BK800) | (go_at_call 27; (with_reducible refine (policy_Covers.calls a1_0 a1_1 a1_2 a1_3 a1_4 t802 t803 t804 a2_0 a2_1 a2_2 true _ A54.out).mono ?_); rintro e w93 ⟨rfl, hb⟩; have n0_ := bb BK798 hb; have n1_ := bb BK799 hb; have n2_ := bb BK800 hb; have n3_ := bb BK805 hb; have n4_ := bs HB hb; clear BK798; clear BK799; clear BK800; clear BK805; clear HB; have BK798 := n0_; have BK799 := n1_; have BK800 := n2_; have BK805 := n3_; have HB := n4_; clear n0_ n1_ n2_ n3_ n4_; (try clear hb); (try clear hb2); (try clear hk); (try clear hi); obtain ⟨hcz94_0, hcz94_1, hcz94_2, hcz94_3, hcz94_4, hfz94_0, hfz94_1, hfz94_2, hfz94_3, hfz94_4⟩ := bc5 BK798; obtain ⟨hcz95_0, hcz95_1, hcz95_2, hcz95_3, hcz95_4, hfz95_0, hfz95_1, hfz95_2, hfz95_3, hfz95_4⟩ := bc5 BK799; obtain ⟨hcz96_0, hcz96_1, hcz96_2, hfz96_0, hfz96_1, hfz96_2⟩ := bc3 BK800; obtain ⟨hcz97_0, hcz97_1, hcz97_2, hfz97_0, hfz97_1, hfz97_2⟩ := bc3 BK805) | (go_at_call 31; (with_reducible refine (reserve_Within.calls a0_0 a0_1 a0_2 a0_3 a0_4 a1_0 a1_1 a1_2 a1_3 a1_4 a2_0 a2_1 a2_2 t802 t803 t804 false _ A56.out).mono ?_); rintro e w98 ⟨rfl, hb⟩; have n0_ := bb BK798 hb; have n1_ := bb BK799 hb; have n2_ := bb BK800 hb; have n3_ := bb BK805 hb; have n4_ := bs HB hb; clear BK798; clear BK799; clear BK800; clear BK805; clear HB; have BK798 := n0_; have BK799 := n1_; have BK800 := n2_; have BK805 := n3_; have HB := n4_; clear n0_ n1_ n2_ n3_ n4_; (try clear hb); (try clear hb2); (try clear hk); (try clear hi)))
                              repeat (go_quiet (first | (go_at_call 25; (with_reducible refine (policy_Fits.calls a1_0 a1_1 a1_2 a1_3 a1_4 t802 t803 t804 true _ A52.out).mono ?_); rintro e w88 ⟨rfl, hb⟩; have n0_ := bb BK798 hb; have n1_ := bb BK799 hb; have n2_ := bb BK800 hb; have n3_ := bb BK805 hb; have n4_ := bs HB hb; clear BK798; clear BK799; clear BK800; clear BK805; clear HB; have BK798 := n0_; have BK799 := n1_; have BK800 := n2_; have BK805 := n3_; have HB := n4_; clear n0_ n1_ n2_ n3_ n4_; (try clear hb); (try clear hb2); (try clear hk); (try clear hi); obtain ⟨hcz89_0, hcz89_1, hcz89_2, hcz89_3, hcz89_4, hfz89_0, hfz89_1, hfz89_2, hfz89_3, hfz89_4⟩ := bc5 BK799; obtain ⟨hcz90_0, hcz90_1, hcz90_2, hfz90_0, hfz90_1, hfz90_2⟩ := bc3 BK805; have hnb91 := NB800_798.out; have hnc91 := NB798_800.out; obtain ⟨hcz92_0, hcz92_1, hcz92_2, hfz92_0, hfz92_1, hfz92_2⟩ := bc3 BK800) | (go_at_call 27; (with_reducible refine (policy_Covers.calls a1_0 a1_1 a1_2 a1_3 a1_4 t802 t803 t804 a2_0 a2_1 a2_2 true _ A54.out).mono ?_); rintro e w93 ⟨rfl, hb⟩; have n0_ := bb BK798 hb; have n1_ := bb BK799 hb; have n2_ := bb BK800 hb; have n3_ := bb BK805 hb; have n4_ := bs HB hb; clear BK798; clear BK799; clear BK800; clear BK805; clear HB; have BK798 := n0_; have BK799 := n1_; have BK800 := n2_; have BK805 := n3_; have HB := n4_; clear n0_ n1_ n2_ n3_ n4_; (try clear hb); (try clear hb2); (try clear hk); (try clear hi); obtain ⟨hcz94_0, hcz94_1, hcz94_2, hcz94_3, hcz94_4, hfz94_0, hfz94_1, hfz94_2, hfz94_3, hfz94_4⟩ := bc5 BK798; obtain ⟨hcz95_0, hcz95_1, hcz95_2, hcz95_3, hcz95_4, hfz95_0, hfz95_1, hfz95_2, hfz95_3, hfz95_4⟩ := bc5 BK799; obtain ⟨hcz96_0, hcz96_1, hcz96_2, hfz96_0, hfz96_1, hfz96_2⟩ := bc3 BK800; obtain ⟨hcz97_0, hcz97_1, hcz97_2, hfz97_0, hfz97_1, hfz97_2⟩ := bc3 BK805) | (go_at_call 31; (with_reducible refine (reserve_Within.calls a0_0 a0_1 a0_2 a0_3 a0_4 a1_0 a1_1 a1_2 a1_3 a1_4 a2_0 a2_1 a2_2 t802 t803 t804 false _ A56.out).mono ?_); rintro e w98 ⟨rfl, hb⟩; have n0_ := bb BK798 hb; have n1_ := bb BK799 hb; have n2_ := bb BK800 hb; have n3_ := bb BK805 hb; have n4_ := bs HB hb; clear BK798; clear BK799; clear BK800; clear BK805; clear HB; have BK798 := n0_; have BK799 := n1_; have BK800 := n2_; have BK805 := n3_; have HB := n4_; clear n0_ n1_ n2_ n3_ n4_; (try clear hb); (try clear hb2); (try clear hk); (try clear hi))); try go_wp2_with (first | (go_at_call 25; (with_reducible refine (policy_Fits.calls a1_0 a1_1 a1_2 a1_3 a1_4 t802 t803 t804 true _ A52.out).mono ?_); rintro e w88 ⟨rfl, hb⟩; have n0_ := bb BK798 hb; have n1_ := bb BK799 hb; have n2_ := bb BK800 hb; have n3_ := bb BK805 hb; have n4_ := bs HB hb; clear BK798; clear BK799; clear BK800; clear BK805; clear HB; have BK798 := n0_; have BK799 := n1_; have BK800 := n2_; have BK805 := n3_; have HB := n4_; clear n0_ n1_ n2_ n3_ n4_; (try clear hb); (try clear hb2); (try clear hk); (try clear hi); obtain ⟨hcz89_0, hcz89_1, hcz89_2, hcz89_3, hcz89_4, hfz89_0, hfz89_1, hfz89_2, hfz89_3, hfz89_4⟩ := bc5 BK799; obtain ⟨hcz90_0, hcz90_1, hcz90_2, hfz90_0, hfz90_1, hfz90_2⟩ := bc3 BK805; have hnb91 := NB800_798.out; have hnc91 := NB798_800.out; obtain ⟨hcz92_0, hcz92_1, hcz92_2, hfz92_0, hfz92_1, hfz92_2⟩ := bc3 BK800) | (go_at_call 27; (with_reducible refine (policy_Covers.calls a1_0 a1_1 a1_2 a1_3 a1_4 t802 t803 t804 a2_0 a2_1 a2_2 true _ A54.out).mono ?_); rintro e w93 ⟨rfl, hb⟩; have n0_ := bb BK798 hb; have n1_ := bb BK799 hb; have n2_ := bb BK800 hb; have n3_ := bb BK805 hb; have n4_ := bs HB hb; clear BK798; clear BK799; clear BK800; clear BK805; clear HB; have BK798 := n0_; have BK799 := n1_; have BK800 := n2_; have BK805 := n3_; have HB := n4_; clear n0_ n1_ n2_ n3_ n4_; (try clear hb); (try clear hb2); (try clear hk); (try clear hi); obtain ⟨hcz94_0, hcz94_1, hcz94_2, hcz94_3, hcz94_4, hfz94_0, hfz94_1, hfz94_2, hfz94_3, hfz94_4⟩ := bc5 BK798; obtain ⟨hcz95_0, hcz95_1, hcz95_2, hcz95_3, hcz95_4, hfz95_0, hfz95_1, hfz95_2, hfz95_3, hfz95_4⟩ := bc5 BK799; obtain ⟨hcz96_0, hcz96_1, hcz96_2, hfz96_0, hfz96_1, hfz96_2⟩ := bc3 BK800; obtain ⟨hcz97_0, hcz97_1, hcz97_2, hfz97_0, hfz97_1, hfz97_2⟩ := bc3 BK805) | (go_at_call 31; (with_reducible refine (reserve_Within.calls a0_0 a0_1 a0_2 a0_3 a0_4 a1_0 a1_1 a1_2 a1_3 a1_4 a2_0 a2_1 a2_2 t802 t803 t804 false _ A56.out).mono ?_); rintro e w98 ⟨rfl, hb⟩; have n0_ := bb BK798 hb; have n1_ := bb BK799 hb; have n2_ := bb BK800 hb; have n3_ := bb BK805 hb; have n4_ := bs HB hb; clear BK798; clear BK799; clear BK800; clear BK805; clear HB; have BK798 := n0_; have BK799 := n1_; have BK800 := n2_; have BK805 := n3_; have HB := n4_; clear n0_ n1_ n2_ n3_ n4_; (try clear hb); (try clear hb2); (try clear hk); (try clear hi))))
                              go_meet
                              case rel => exact ⟨_, (true), rs, H', ⟨by have := HJ3.out; have := HJ9.out; have := HJ12.out; have := HJ31.out; first | omega | exact Nat.le_refl _⟩, ⟨bk BK798⟩, ⟨bk BK799⟩, ⟨bk BK800⟩, ⟨bk BK805⟩, ⟨bw HB⟩⟩
                          · replace c55 := Bool.eq_false_iff.mpr c55
                            subst c55
                            have H1 : (turnstilelaw17_ReserveCovers.j4 kj31 true a0_0 a0_1 a0_2 a0_3 a0_4 a1_0 a1_1 a1_2 a1_3 a1_4 a2_0 a2_1 a2_2 t802 t803 t804) = some r := by rw [if_neg (show ¬ (false = true) by decide)] at H; exact H
                            clear H
                            have H := H1
                            clear H1
                            have H' := Aside0.mk H
                            clear H
                            have hnb99 := NB799_798.out
                            have hnc99 := NB798_799.out
                            have hnb100 := NB799_800.out
                            have hnc100 := NB800_799.out
                            have hnb101 := NB799_805.out
                            have hnc101 := NB805_799.out
                            obtain ⟨hcz102_0, hcz102_1, hcz102_2, hcz102_3, hcz102_4, hfz102_0, hfz102_1, hfz102_2, hfz102_3, hfz102_4⟩ := bc5 BK799
                            have hnb103 := NB805_798.out
                            have hnc103 := NB798_805.out
                            have hnb104 := NB805_800.out
                            have hnc104 := NB800_805.out
                            obtain ⟨hcz105_0, hcz105_1, hcz105_2, hfz105_0, hfz105_1, hfz105_2⟩ := bc3 BK805
                            go_wp2_with (first | (go_at_call 25; (with_reducible refine (policy_Fits.calls a1_0 a1_1 a1_2 a1_3 a1_4 t802 t803 t804 true _ A52.out).mono ?_); rintro e w106 ⟨rfl, hb⟩; have n0_ := bb BK798 hb; have n1_ := bb BK799 hb; have n2_ := bb BK800 hb; have n3_ := bb BK805 hb; have n4_ := bs HB hb; clear BK798; clear BK799; clear BK800; clear BK805; clear HB; have BK798 := n0_; have BK799 := n1_; have BK800 := n2_; have BK805 := n3_; have HB := n4_; clear n0_ n1_ n2_ n3_ n4_; (try clear hb); (try clear hb2); (try clear hk); (try clear hi); obtain ⟨hcz107_0, hcz107_1, hcz107_2, hcz107_3, hcz107_4, hfz107_0, hfz107_1, hfz107_2, hfz107_3, hfz107_4⟩ := bc5 BK799; obtain ⟨hcz108_0, hcz108_1, hcz108_2, hfz108_0, hfz108_1, hfz108_2⟩ := bc3 BK805; have hnb109 := NB800_798.out; have hnc109 := NB798_800.out; obtain ⟨hcz110_0, hcz110_1, hcz110_2, hfz110_0, hfz110_1, hfz110_2⟩ := bc3 BK800) | (go_at_call 27; (with_reducible refine (policy_Covers.calls a1_0 a1_1 a1_2 a1_3 a1_4 t802 t803 t804 a2_0 a2_1 a2_2 false _ A54.out).mono ?_); rintro e w111 ⟨rfl, hb⟩; have n0_ := bb BK798 hb; have n1_ := bb BK799 hb; have n2_ := bb BK800 hb; have n3_ := bb BK805 hb; have n4_ := bs HB hb; clear BK798; clear BK799; clear BK800; clear BK805; clear HB; have BK798 := n0_; have BK799 := n1_; have BK800 := n2_; have BK805 := n3_; have HB := n4_; clear n0_ n1_ n2_ n3_ n4_; (try clear hb); (try clear hb2); (try clear hk); (try clear hi)))
                            repeat (go_quiet (first | (go_at_call 25; (with_reducible refine (policy_Fits.calls a1_0 a1_1 a1_2 a1_3 a1_4 t802 t803 t804 true _ A52.out).mono ?_); rintro e w106 ⟨rfl, hb⟩; have n0_ := bb BK798 hb; have n1_ := bb BK799 hb; have n2_ := bb BK800 hb; have n3_ := bb BK805 hb; have n4_ := bs HB hb; clear BK798; clear BK799; clear BK800; clear BK805; clear HB; have BK798 := n0_; have BK799 := n1_; have BK800 := n2_; have BK805 := n3_; have HB := n4_; clear n0_ n1_ n2_ n3_ n4_; (try clear hb); (try clear hb2); (try clear hk); (try clear hi); obtain ⟨hcz107_0, hcz107_1, hcz107_2, hcz107_3, hcz107_4, hfz107_0, hfz107_1, hfz107_2, hfz107_3, hfz107_4⟩ := bc5 BK799; obtain ⟨hcz108_0, hcz108_1, hcz108_2, hfz108_0, hfz108_1, hfz108_2⟩ := bc3 BK805; have hnb109 := NB800_798.out; have hnc109 := NB798_800.out; obtain ⟨hcz110_0, hcz110_1, hcz110_2, hfz110_0, hfz110_1, hfz110_2⟩ := bc3 BK800) | (go_at_call 27; (with_reducible refine (policy_Covers.calls a1_0 a1_1 a1_2 a1_3 a1_4 t802 t803 t804 a2_0 a2_1 a2_2 false _ A54.out).mono ?_); rintro e w111 ⟨rfl, hb⟩; have n0_ := bb BK798 hb; have n1_ := bb BK799 hb; have n2_ := bb BK800 hb; have n3_ := bb BK805 hb; have n4_ := bs HB hb; clear BK798; clear BK799; clear BK800; clear BK805; clear HB; have BK798 := n0_; have BK799 := n1_; have BK800 := n2_; have BK805 := n3_; have HB := n4_; clear n0_ n1_ n2_ n3_ n4_; (try clear hb); (try clear hb2); (try clear hk); (try clear hi))); try go_wp2_with (first | (go_at_call 25; (with_reducible refine (policy_Fits.calls a1_0 a1_1 a1_2 a1_3 a1_4 t802 t803 t804 true _ A52.out).mono ?_); rintro e w106 ⟨rfl, hb⟩; have n0_ := bb BK798 hb; have n1_ := bb BK799 hb; have n2_ := bb BK800 hb; have n3_ := bb BK805 hb; have n4_ := bs HB hb; clear BK798; clear BK799; clear BK800; clear BK805; clear HB; have BK798 := n0_; have BK799 := n1_; have BK800 := n2_; have BK805 := n3_; have HB := n4_; clear n0_ n1_ n2_ n3_ n4_; (try clear hb); (try clear hb2); (try clear hk); (try clear hi); obtain ⟨hcz107_0, hcz107_1, hcz107_2, hcz107_3, hcz107_4, hfz107_0, hfz107_1, hfz107_2, hfz107_3, hfz107_4⟩ := bc5 BK799; obtain ⟨hcz108_0, hcz108_1, hcz108_2, hfz108_0, hfz108_1, hfz108_2⟩ := bc3 BK805; have hnb109 := NB800_798.out; have hnc109 := NB798_800.out; obtain ⟨hcz110_0, hcz110_1, hcz110_2, hfz110_0, hfz110_1, hfz110_2⟩ := bc3 BK800) | (go_at_call 27; (with_reducible refine (policy_Covers.calls a1_0 a1_1 a1_2 a1_3 a1_4 t802 t803 t804 a2_0 a2_1 a2_2 false _ A54.out).mono ?_); rintro e w111 ⟨rfl, hb⟩; have n0_ := bb BK798 hb; have n1_ := bb BK799 hb; have n2_ := bb BK800 hb; have n3_ := bb BK805 hb; have n4_ := bs HB hb; clear BK798; clear BK799; clear BK800; clear BK805; clear HB; have BK798 := n0_; have BK799 := n1_; have BK800 := n2_; have BK805 := n3_; have HB := n4_; clear n0_ n1_ n2_ n3_ n4_; (try clear hb); (try clear hb2); (try clear hk); (try clear hi))))
                            go_meet
                            case rel => exact ⟨_, (true), rs, H', ⟨by have := HJ3.out; have := HJ9.out; have := HJ12.out; have := HJ31.out; first | omega | exact Nat.le_refl _⟩, ⟨bk BK798⟩, ⟨bk BK799⟩, ⟨bk BK800⟩, ⟨bk BK805⟩, ⟨bw HB⟩⟩
                        · replace c53 := Bool.eq_false_iff.mpr c53
                          subst c53
                          have H1 : (turnstilelaw17_ReserveCovers.j4 kj31 true a0_0 a0_1 a0_2 a0_3 a0_4 a1_0 a1_1 a1_2 a1_3 a1_4 a2_0 a2_1 a2_2 t802 t803 t804) = some r := by rw [if_neg (show ¬ (false = true) by decide)] at H; exact H
                          clear H
                          have H := H1
                          clear H1
                          have H' := Aside0.mk H
                          clear H
                          have hnb112 := NB799_798.out
                          have hnc112 := NB798_799.out
                          have hnb113 := NB799_800.out
                          have hnc113 := NB800_799.out
                          have hnb114 := NB799_805.out
                          have hnc114 := NB805_799.out
                          obtain ⟨hcz115_0, hcz115_1, hcz115_2, hcz115_3, hcz115_4, hfz115_0, hfz115_1, hfz115_2, hfz115_3, hfz115_4⟩ := bc5 BK799
                          have hnb116 := NB805_798.out
                          have hnc116 := NB798_805.out
                          have hnb117 := NB805_800.out
                          have hnc117 := NB800_805.out
                          obtain ⟨hcz118_0, hcz118_1, hcz118_2, hfz118_0, hfz118_1, hfz118_2⟩ := bc3 BK805
                          go_wp2_with (first | (go_at_call 25; (with_reducible refine (policy_Fits.calls a1_0 a1_1 a1_2 a1_3 a1_4 t802 t803 t804 false _ A52.out).mono ?_); rintro e w119 ⟨rfl, hb⟩; have n0_ := bb BK798 hb; have n1_ := bb BK799 hb; have n2_ := bb BK800 hb; have n3_ := bb BK805 hb; have n4_ := bs HB hb; clear BK798; clear BK799; clear BK800; clear BK805; clear HB; have BK798 := n0_; have BK799 := n1_; have BK800 := n2_; have BK805 := n3_; have HB := n4_; clear n0_ n1_ n2_ n3_ n4_; (try clear hb); (try clear hb2); (try clear hk); (try clear hi)))
                          repeat (go_quiet (first | (go_at_call 25; (with_reducible refine (policy_Fits.calls a1_0 a1_1 a1_2 a1_3 a1_4 t802 t803 t804 false _ A52.out).mono ?_); rintro e w119 ⟨rfl, hb⟩; have n0_ := bb BK798 hb; have n1_ := bb BK799 hb; have n2_ := bb BK800 hb; have n3_ := bb BK805 hb; have n4_ := bs HB hb; clear BK798; clear BK799; clear BK800; clear BK805; clear HB; have BK798 := n0_; have BK799 := n1_; have BK800 := n2_; have BK805 := n3_; have HB := n4_; clear n0_ n1_ n2_ n3_ n4_; (try clear hb); (try clear hb2); (try clear hk); (try clear hi))); try go_wp2_with (first | (go_at_call 25; (with_reducible refine (policy_Fits.calls a1_0 a1_1 a1_2 a1_3 a1_4 t802 t803 t804 false _ A52.out).mono ?_); rintro e w119 ⟨rfl, hb⟩; have n0_ := bb BK798 hb; have n1_ := bb BK799 hb; have n2_ := bb BK800 hb; have n3_ := bb BK805 hb; have n4_ := bs HB hb; clear BK798; clear BK799; clear BK800; clear BK805; clear HB; have BK798 := n0_; have BK799 := n1_; have BK800 := n2_; have BK805 := n3_; have HB := n4_; clear n0_ n1_ n2_ n3_ n4_; (try clear hb); (try clear hb2); (try clear hk); (try clear hi))))
                          go_meet
                          case rel => exact ⟨_, (true), rs, H', ⟨by have := HJ3.out; have := HJ9.out; have := HJ12.out; have := HJ31.out; first | omega | exact Nat.le_refl _⟩, ⟨bk BK798⟩, ⟨bk BK799⟩, ⟨bk BK800⟩, ⟨bk BK805⟩, ⟨bw HB⟩⟩
                      case rest =>
                        clear HC51
                        try clear c1
                        try clear c2
                        try clear p2
                        try clear c3
                        try clear c4
                        try clear c5
                        try clear c6
                        try clear c8
                        try clear c9
                        try clear c10
                        try clear c11
                        try clear c13
                        try clear c14
                        try clear c15
                        try clear c17
                        try clear c22
                        try clear c23
                        try clear c24
                        try clear c27
                        try clear c28
                        try clear c29
                        try clear c33
                        try clear c34
                        try clear c34b0
                        try clear c34b1
                        try clear c34b2
                        try clear c36
                        try clear c37
                        try clear c38
                        try clear c40
                        try clear c41
                        try clear c43
                        try clear c47
                        try clear c48
                        try clear c49
                        try clear c53
                        try clear c55
                        try clear c57
                        try clear c59
                        try clear c60
                        try clear c61
                        try clear c63
                        try clear c64
                        try clear c69
                        try clear c81
                        try clear c82
                        try clear c83
                        try clear c85
                        try clear c86
                        try clear c91
                        try clear c99
                        try clear c100
                        try clear c101
                        try clear c103
                        try clear c104
                        try clear c109
                        try clear c112
                        try clear c113
                        try clear c114
                        try clear c116
                        try clear c117
                        try clear hcz102_0
                        try clear hcz102_1
                        try clear hcz102_2
                        try clear hcz102_3
                        try clear hcz102_4
                        try clear hcz105_0
                        try clear hcz105_1
                        try clear hcz105_2
                        try clear hcz107_0
                        try clear hcz107_1
                        try clear hcz107_2
                        try clear hcz107_3
                        try clear hcz107_4
                        try clear hcz108_0
                        try clear hcz108_1
                        try clear hcz108_2
                        try clear hcz110_0
                        try clear hcz110_1
                        try clear hcz110_2
                        try clear hcz115_0
                        try clear hcz115_1
                        try clear hcz115_2
                        try clear hcz115_3
                        try clear hcz115_4
                        try clear hcz118_0
                        try clear hcz118_1
                        try clear hcz118_2
                        try clear hcz16_0
                        try clear hcz16_1
                        try clear hcz16_2
                        try clear hcz16_3
                        try clear hcz16_4
                        try clear hcz18_0
                        try clear hcz18_1
                        try clear hcz18_2
                        try clear hcz18_3
                        try clear hcz18_4
                        try clear hcz19_0
                        try clear hcz19_1
                        try clear hcz19_2
                        try clear hcz25_0
                        try clear hcz25_1
                        try clear hcz25_2
                        try clear hcz30_0
                        try clear hcz30_1
                        try clear hcz30_2
                        try clear hcz30_3
                        try clear hcz30_4
                        try clear hcz39_0
                        try clear hcz39_1
                        try clear hcz39_2
                        try clear hcz42_0
                        try clear hcz42_1
                        try clear hcz42_2
                        try clear hcz42_3
                        try clear hcz42_4
                        try clear hcz44_0
                        try clear hcz44_1
                        try clear hcz44_2
                        try clear hcz44_3
                        try clear hcz44_4
                        try clear hcz45_0
                        try clear hcz45_1
                        try clear hcz45_2
                        try clear hcz50_0
                        try clear hcz50_1
                        try clear hcz50_2
                        try clear hcz62_0
                        try clear hcz62_1
                        try clear hcz62_2
                        try clear hcz62_3
                        try clear hcz62_4
                        try clear hcz65_0
                        try clear hcz65_1
                        try clear hcz65_2
                        try clear hcz67_0
                        try clear hcz67_1
                        try clear hcz67_2
                        try clear hcz67_3
                        try clear hcz67_4
                        try clear hcz68_0
                        try clear hcz68_1
                        try clear hcz68_2
                        try clear hcz70_0
                        try clear hcz70_1
                        try clear hcz70_2
                        try clear hcz72_0
                        try clear hcz72_1
                        try clear hcz72_2
                        try clear hcz72_3
                        try clear hcz72_4
                        try clear hcz73_0
                        try clear hcz73_1
                        try clear hcz73_2
                        try clear hcz73_3
                        try clear hcz73_4
                        try clear hcz74_0
                        try clear hcz74_1
                        try clear hcz74_2
                        try clear hcz75_0
                        try clear hcz75_1
                        try clear hcz75_2
                        try clear hcz77_0
                        try clear hcz77_1
                        try clear hcz77_2
                        try clear hcz77_3
                        try clear hcz77_4
                        try clear hcz78_0
                        try clear hcz78_1
                        try clear hcz78_2
                        try clear hcz78_3
                        try clear hcz78_4
                        try clear hcz79_0
                        try clear hcz79_1
                        try clear hcz79_2
                        try clear hcz84_0
                        try clear hcz84_1
                        try clear hcz84_2
                        try clear hcz84_3
                        try clear hcz84_4
                        try clear hcz87_0
                        try clear hcz87_1
                        try clear hcz87_2
                        try clear hcz89_0
                        try clear hcz89_1
                        try clear hcz89_2
                        try clear hcz89_3
                        try clear hcz89_4
                        try clear hcz90_0
                        try clear hcz90_1
                        try clear hcz90_2
                        try clear hcz92_0
                        try clear hcz92_1
                        try clear hcz92_2
                        try clear hcz94_0
                        try clear hcz94_1
                        try clear hcz94_2
                        try clear hcz94_3
                        try clear hcz94_4
                        try clear hcz95_0
                        try clear hcz95_1
                        try clear hcz95_2
                        try clear hcz95_3
                        try clear hcz95_4
                        try clear hcz96_0
                        try clear hcz96_1
                        try clear hcz96_2
                        try clear hcz97_0
                        try clear hcz97_1
                        try clear hcz97_2
                        try clear hfz102_0
                        try clear hfz102_1
                        try clear hfz102_2
                        try clear hfz102_3
                        try clear hfz102_4
                        try clear hfz105_0
                        try clear hfz105_1
                        try clear hfz105_2
                        try clear hfz107_0
                        try clear hfz107_1
                        try clear hfz107_2
                        try clear hfz107_3
                        try clear hfz107_4
                        try clear hfz108_0
                        try clear hfz108_1
                        try clear hfz108_2
                        try clear hfz110_0
                        try clear hfz110_1
                        try clear hfz110_2
                        try clear hfz115_0
                        try clear hfz115_1
                        try clear hfz115_2
                        try clear hfz115_3
                        try clear hfz115_4
                        try clear hfz118_0
                        try clear hfz118_1
                        try clear hfz118_2
                        try clear hfz16_0
                        try clear hfz16_1
                        try clear hfz16_2
                        try clear hfz16_3
                        try clear hfz16_4
                        try clear hfz18_0
                        try clear hfz18_1
                        try clear hfz18_2
                        try clear hfz18_3
                        try clear hfz18_4
                        try clear hfz19_0
                        try clear hfz19_1
                        try clear hfz19_2
                        try clear hfz25_0
                        try clear hfz25_1
                        try clear hfz25_2
                        try clear hfz30_0
                        try clear hfz30_1
                        try clear hfz30_2
                        try clear hfz30_3
                        try clear hfz30_4
                        try clear hfz39_0
                        try clear hfz39_1
                        try clear hfz39_2
                        try clear hfz42_0
                        try clear hfz42_1
                        try clear hfz42_2
                        try clear hfz42_3
                        try clear hfz42_4
                        try clear hfz44_0
                        try clear hfz44_1
                        try clear hfz44_2
                        try clear hfz44_3
                        try clear hfz44_4
                        try clear hfz45_0
                        try clear hfz45_1
                        try clear hfz45_2
                        try clear hfz50_0
                        try clear hfz50_1
                        try clear hfz50_2
                        try clear hfz62_0
                        try clear hfz62_1
                        try clear hfz62_2
                        try clear hfz62_3
                        try clear hfz62_4
                        try clear hfz65_0
                        try clear hfz65_1
                        try clear hfz65_2
                        try clear hfz67_0
                        try clear hfz67_1
                        try clear hfz67_2
                        try clear hfz67_3
                        try clear hfz67_4
                        try clear hfz68_0
                        try clear hfz68_1
                        try clear hfz68_2
                        try clear hfz70_0
                        try clear hfz70_1
                        try clear hfz70_2
                        try clear hfz72_0
                        try clear hfz72_1
                        try clear hfz72_2
                        try clear hfz72_3
                        try clear hfz72_4
                        try clear hfz73_0
                        try clear hfz73_1
                        try clear hfz73_2
                        try clear hfz73_3
                        try clear hfz73_4
                        try clear hfz74_0
                        try clear hfz74_1
                        try clear hfz74_2
                        try clear hfz75_0
                        try clear hfz75_1
                        try clear hfz75_2
                        try clear hfz77_0
                        try clear hfz77_1
                        try clear hfz77_2
                        try clear hfz77_3
                        try clear hfz77_4
                        try clear hfz78_0
                        try clear hfz78_1
                        try clear hfz78_2
                        try clear hfz78_3
                        try clear hfz78_4
                        try clear hfz79_0
                        try clear hfz79_1
                        try clear hfz79_2
                        try clear hfz84_0
                        try clear hfz84_1
                        try clear hfz84_2
                        try clear hfz84_3
                        try clear hfz84_4
                        try clear hfz87_0
                        try clear hfz87_1
                        try clear hfz87_2
                        try clear hfz89_0
                        try clear hfz89_1
                        try clear hfz89_2
                        try clear hfz89_3
                        try clear hfz89_4
                        try clear hfz90_0
                        try clear hfz90_1
                        try clear hfz90_2
                        try clear hfz92_0
                        try clear hfz92_1
                        try clear hfz92_2
                        try clear hfz94_0
                        try clear hfz94_1
                        try clear hfz94_2
                        try clear hfz94_3
                        try clear hfz94_4
                        try clear hfz95_0
                        try clear hfz95_1
                        try clear hfz95_2
                        try clear hfz95_3
                        try clear hfz95_4
                        try clear hfz96_0
                        try clear hfz96_1
                        try clear hfz96_2
                        try clear hfz97_0
                        try clear hfz97_1
                        try clear hfz97_2
                        try clear p2
                        obtain ⟨kq, x59_50, rfl, HA, HJ50, BK798, BK799, BK800, BK805, HB⟩ := hcut
                        cases kq with
                        | zero => exact absurd HA.out (by simp [turnstilelaw17_ReserveCovers.j4])
                        | succ kj50 =>
                          have H := HA.out
                          clear HA
                          simp only [turnstilelaw17_ReserveCovers.j4] at H
                          by_cases c120 : x59_50 = true
                          · subst c120
                            have H1 : (some false) = some r := by rw [if_pos rfl] at H; exact H
                            clear H
                            have H := H1
                            clear H1
                            obtain rfl := Option.some.inj H
                            go_wp2
                            repeat (go_quiet (fail); try go_wp2)
                            go_ret
                            exact ⟨re, bw HB⟩
                          · replace c120 := Bool.eq_false_iff.mpr c120
                            subst c120
                            have H1 : (turnstilelaw17_ReserveCovers.j5 kj50 (a1_0 == 1) a0_0 a0_1 a0_2 a0_3 a0_4 a1_0 a1_1 a1_2 a1_3 a1_4 a2_0 a2_1 a2_2 t802 t803 t804 t802 t803 t804) = some r := by rw [if_neg (show ¬ (false = true) by decide)] at H; exact H
                            clear H
                            have H := H1
                            clear H1
                            have HC121 := Aside0.mk H
                            clear H
                            have hnb122 := NB805_798.out
                            have hnc122 := NB798_805.out
                            have hnb123 := NB805_799.out
                            have hnc123 := NB799_805.out
                            have hnb124 := NB805_800.out
                            have hnc124 := NB800_805.out
                            obtain ⟨hcz125_0, hcz125_1, hcz125_2, hfz125_0, hfz125_1, hfz125_2⟩ := bc3 BK805
                            go_upto_region 11 with (first | ((with_reducible refine gate_dst (N := 10) rfl ?_); refine bx 10 #[.int .u64 0, .int .u64 0, .int .u64 0] 29 ?_; intro gb812 hg w126 hbox hb; have n0_ := bb BK798 hb; have n1_ := bb BK799 hb; have n2_ := bb BK800 hb; have n3_ := bb BK805 hb; have n4_ := bs HB hb; have n5_ := Aside0.mk (hbox); have n6_ := sz HB hg; have n7_ := sz HB hg; have n8_ := nl BK798 hg; have n9_ := nr BK798 hg; have n10_ := nl BK799 hg; have n11_ := nr BK799 hg; have n12_ := nl BK800 hg; have n13_ := nr BK800 hg; have n14_ := nl BK805 hg; have n15_ := nr BK805 hg; clear BK798; clear BK799; clear BK800; clear BK805; clear HB; have BK798 := n0_; have BK799 := n1_; have BK800 := n2_; have BK805 := n3_; have HB := n4_; have BK812 := n5_; have GW812 := n6_; have GE812 := n7_; have NB798_812 := n8_; have NB812_798 := n9_; have NB799_812 := n10_; have NB812_799 := n11_; have NB800_812 := n12_; have NB812_800 := n13_; have NB805_812 := n14_; have NB812_805 := n15_; clear n0_ n1_ n2_ n3_ n4_ n5_ n6_ n7_ n8_ n9_ n10_ n11_ n12_ n13_ n14_ n15_; clear hb hbox hg; have hnb127 := NB812_798.out; have hnc127 := NB798_812.out; have hnb128 := NB812_799.out; have hnc128 := NB799_812.out; have hnb129 := NB812_800.out; have hnc129 := NB800_812.out; have hnb130 := NB812_805.out; have hnc130 := NB805_812.out; obtain ⟨hcz131_0, hcz131_1, hcz131_2, hfz131_0, hfz131_1, hfz131_2⟩ := bc3 BK812))
                            repeat (go_quiet (first | ((with_reducible refine gate_dst (N := 10) rfl ?_); refine bx 10 #[.int .u64 0, .int .u64 0, .int .u64 0] 29 ?_; intro gb812 hg w126 hbox hb; have n0_ := bb BK798 hb; have n1_ := bb BK799 hb; have n2_ := bb BK800 hb; have n3_ := bb BK805 hb; have n4_ := bs HB hb; have n5_ := Aside0.mk (hbox); have n6_ := sz HB hg; have n7_ := sz HB hg; have n8_ := nl BK798 hg; have n9_ := nr BK798 hg; have n10_ := nl BK799 hg; have n11_ := nr BK799 hg; have n12_ := nl BK800 hg; have n13_ := nr BK800 hg; have n14_ := nl BK805 hg; have n15_ := nr BK805 hg; clear BK798; clear BK799; clear BK800; clear BK805; clear HB; have BK798 := n0_; have BK799 := n1_; have BK800 := n2_; have BK805 := n3_; have HB := n4_; have BK812 := n5_; have GW812 := n6_; have GE812 := n7_; have NB798_812 := n8_; have NB812_798 := n9_; have NB799_812 := n10_; have NB812_799 := n11_; have NB800_812 := n12_; have NB812_800 := n13_; have NB805_812 := n14_; have NB812_805 := n15_; clear n0_ n1_ n2_ n3_ n4_ n5_ n6_ n7_ n8_ n9_ n10_ n11_ n12_ n13_ n14_ n15_; clear hb hbox hg; have hnb127 := NB812_798.out; have hnc127 := NB798_812.out; have hnb128 := NB812_799.out; have hnc128 := NB799_812.out; have hnb129 := NB812_800.out; have hnc129 := NB800_812.out; have hnb130 := NB812_805.out; have hnc130 := NB805_812.out; obtain ⟨hcz131_0, hcz131_1, hcz131_2, hfz131_0, hfz131_1, hfz131_2⟩ := bc3 BK812)); go_upto_region 11 with (first | ((with_reducible refine gate_dst (N := 10) rfl ?_); refine bx 10 #[.int .u64 0, .int .u64 0, .int .u64 0] 29 ?_; intro gb812 hg w126 hbox hb; have n0_ := bb BK798 hb; have n1_ := bb BK799 hb; have n2_ := bb BK800 hb; have n3_ := bb BK805 hb; have n4_ := bs HB hb; have n5_ := Aside0.mk (hbox); have n6_ := sz HB hg; have n7_ := sz HB hg; have n8_ := nl BK798 hg; have n9_ := nr BK798 hg; have n10_ := nl BK799 hg; have n11_ := nr BK799 hg; have n12_ := nl BK800 hg; have n13_ := nr BK800 hg; have n14_ := nl BK805 hg; have n15_ := nr BK805 hg; clear BK798; clear BK799; clear BK800; clear BK805; clear HB; have BK798 := n0_; have BK799 := n1_; have BK800 := n2_; have BK805 := n3_; have HB := n4_; have BK812 := n5_; have GW812 := n6_; have GE812 := n7_; have NB798_812 := n8_; have NB812_798 := n9_; have NB799_812 := n10_; have NB812_799 := n11_; have NB800_812 := n12_; have NB812_800 := n13_; have NB805_812 := n14_; have NB812_805 := n15_; clear n0_ n1_ n2_ n3_ n4_ n5_ n6_ n7_ n8_ n9_ n10_ n11_ n12_ n13_ n14_ n15_; clear hb hbox hg; have hnb127 := NB812_798.out; have hnc127 := NB798_812.out; have hnb128 := NB812_799.out; have hnc128 := NB799_812.out; have hnb129 := NB812_800.out; have hnc129 := NB800_812.out; have hnb130 := NB812_805.out; have hnc130 := NB805_812.out; obtain ⟨hcz131_0, hcz131_1, hcz131_2, hfz131_0, hfz131_1, hfz131_2⟩ := bc3 BK812)))
                            (try simp only [Act.put, List.setIfInBounds_toArray, List.set_cons_zero, List.set_cons_succ])
                            go_cut [63] (fun v63 wc => ∃ (kq : Nat) (x63_120 : Bool), v63 = .bool x63_120 ∧ Aside0 (turnstilelaw17_ReserveCovers.j5 kq x63_120 a0_0 a0_1 a0_2 a0_3 a0_4 a1_0 a1_1 a1_2 a1_3 a1_4 a2_0 a2_1 a2_2 t802 t803 t804 t802 t803 t804 = some r) ∧ Aside0 (kq ≤ kj50) ∧ Aside0 (wc.heap[gb798]? = some (.cells #[.int .u64 a0_0, .int .u64 a0_1, .int .i64 a0_2, .int .i64 a0_3, .int .i64 a0_4] 53 (0, 0))) ∧ Aside0 (wc.heap[gb799]? = some (.cells #[.int .i64 a1_0, .int .u64 a1_1, .int .u64 a1_2, .int .u64 a1_3, .int .u64 a1_4] 27 (0, 0))) ∧ Aside0 (wc.heap[gb800]? = some (.cells #[.int .u64 a2_0, .int .u64 a2_1, .int .u64 a2_2] 29 (0, 0))) ∧ Aside0 (wc.heap[gb805]? = some (.cells #[.int .u64 t802, .int .u64 t803, .int .u64 t804] 29 (0, 0))) ∧ Aside0 (wc.heap[gb812]? = some (.cells #[.int .u64 t802, .int .u64 t803, .int .u64 t804] 29 (0, 0))) ∧ Aside0 (Below w.heap.size w wc))
                            case first =>
                              have H := HC121.out
                              clear HC121
                              have H' := Aside0.mk H
                              clear H
                              have hnb132 := NB799_798.out
                              have hnc132 := NB798_799.out
                              have hnb133 := NB799_800.out
                              have hnc133 := NB800_799.out
                              have hnb134 := NB799_805.out
                              have hnc134 := NB805_799.out
                              have hnb135 := NB799_812.out
                              have hnc135 := NB812_799.out
                              obtain ⟨hcz136_0, hcz136_1, hcz136_2, hcz136_3, hcz136_4, hfz136_0, hfz136_1, hfz136_2, hfz136_3, hfz136_4⟩ := bc5 BK799
                              go_wp2
                              repeat (go_quiet (fail); try go_wp2)
                              go_meet
                              case rel => exact ⟨_, ((a1_0 == 1)), rs, H', ⟨by have := HJ3.out; have := HJ9.out; have := HJ12.out; have := HJ31.out; have := HJ50.out; first | omega | exact Nat.le_refl _⟩, ⟨bk BK798⟩, ⟨bk BK799⟩, ⟨bk BK800⟩, ⟨bk BK805⟩, ⟨bk BK812⟩, ⟨bw HB⟩⟩
                            case rest =>
                              clear HC121
                              try clear c1
                              try clear c2
                              try clear p2
                              try clear c3
                              try clear c4
                              try clear c5
                              try clear c6
                              try clear c8
                              try clear c9
                              try clear c10
                              try clear c11
                              try clear c12
                              try clear c13
                              try clear c14
                              try clear c15
                              try clear c17
                              try clear c22
                              try clear c23
                              try clear c24
                              try clear c27
                              try clear c28
                              try clear c29
                              try clear c33
                              try clear c34
                              try clear c34b0
                              try clear c34b1
                              try clear c34b2
                              try clear c36
                              try clear c37
                              try clear c38
                              try clear c40
                              try clear c41
                              try clear c43
                              try clear c47
                              try clear c48
                              try clear c49
                              try clear c53
                              try clear c55
                              try clear c57
                              try clear c59
                              try clear c60
                              try clear c61
                              try clear c63
                              try clear c64
                              try clear c69
                              try clear c81
                              try clear c82
                              try clear c83
                              try clear c85
                              try clear c86
                              try clear c91
                              try clear c99
                              try clear c100
                              try clear c101
                              try clear c103
                              try clear c104
                              try clear c109
                              try clear c112
                              try clear c113
                              try clear c114
                              try clear c116
                              try clear c117
                              try clear c120
                              try clear c122
                              try clear c123
                              try clear c124
                              try clear c127
                              try clear c128
                              try clear c129
                              try clear c130
                              try clear c132
                              try clear c133
                              try clear c134
                              try clear c135
                              try clear hcz102_0
                              try clear hcz102_1
                              try clear hcz102_2
                              try clear hcz102_3
                              try clear hcz102_4
                              try clear hcz105_0
                              try clear hcz105_1
                              try clear hcz105_2
                              try clear hcz107_0
                              try clear hcz107_1
                              try clear hcz107_2
                              try clear hcz107_3
                              try clear hcz107_4
                              try clear hcz108_0
                              try clear hcz108_1
                              try clear hcz108_2
                              try clear hcz110_0
                              try clear hcz110_1
                              try clear hcz110_2
                              try clear hcz115_0
                              try clear hcz115_1
                              try clear hcz115_2
                              try clear hcz115_3
                              try clear hcz115_4
                              try clear hcz118_0
                              try clear hcz118_1
                              try clear hcz118_2
                              try clear hcz125_0
                              try clear hcz125_1
                              try clear hcz125_2
                              try clear hcz131_0
                              try clear hcz131_1
                              try clear hcz131_2
                              try clear hcz136_0
                              try clear hcz136_1
                              try clear hcz136_2
                              try clear hcz136_3
                              try clear hcz136_4
                              try clear hcz16_0
                              try clear hcz16_1
                              try clear hcz16_2
                              try clear hcz16_3
                              try clear hcz16_4
                              try clear hcz18_0
                              try clear hcz18_1
                              try clear hcz18_2
                              try clear hcz18_3
                              try clear hcz18_4
                              try clear hcz19_0
                              try clear hcz19_1
                              try clear hcz19_2
                              try clear hcz25_0
                              try clear hcz25_1
                              try clear hcz25_2
                              try clear hcz30_0
                              try clear hcz30_1
                              try clear hcz30_2
                              try clear hcz30_3
                              try clear hcz30_4
                              try clear hcz39_0
                              try clear hcz39_1
                              try clear hcz39_2
                              try clear hcz42_0
                              try clear hcz42_1
                              try clear hcz42_2
                              try clear hcz42_3
                              try clear hcz42_4
                              try clear hcz44_0
                              try clear hcz44_1
                              try clear hcz44_2
                              try clear hcz44_3
                              try clear hcz44_4
                              try clear hcz45_0
                              try clear hcz45_1
                              try clear hcz45_2
                              try clear hcz50_0
                              try clear hcz50_1
                              try clear hcz50_2
                              try clear hcz62_0
                              try clear hcz62_1
                              try clear hcz62_2
                              try clear hcz62_3
                              try clear hcz62_4
                              try clear hcz65_0
                              try clear hcz65_1
                              try clear hcz65_2
                              try clear hcz67_0
                              try clear hcz67_1
                              try clear hcz67_2
                              try clear hcz67_3
                              try clear hcz67_4
                              try clear hcz68_0
                              try clear hcz68_1
                              try clear hcz68_2
                              try clear hcz70_0
                              try clear hcz70_1
                              try clear hcz70_2
                              try clear hcz72_0
                              try clear hcz72_1
                              try clear hcz72_2
                              try clear hcz72_3
                              try clear hcz72_4
                              try clear hcz73_0
                              try clear hcz73_1
                              try clear hcz73_2
                              try clear hcz73_3
                              try clear hcz73_4
                              try clear hcz74_0
                              try clear hcz74_1
                              try clear hcz74_2
                              try clear hcz75_0
                              try clear hcz75_1
                              try clear hcz75_2
                              try clear hcz77_0
                              try clear hcz77_1
                              try clear hcz77_2
                              try clear hcz77_3
                              try clear hcz77_4
                              try clear hcz78_0
                              try clear hcz78_1
                              try clear hcz78_2
                              try clear hcz78_3
                              try clear hcz78_4
                              try clear hcz79_0
                              try clear hcz79_1
                              try clear hcz79_2
                              try clear hcz84_0
                              try clear hcz84_1
                              try clear hcz84_2
                              try clear hcz84_3
                              try clear hcz84_4
                              try clear hcz87_0
                              try clear hcz87_1
                              try clear hcz87_2
                              try clear hcz89_0
                              try clear hcz89_1
                              try clear hcz89_2
                              try clear hcz89_3
                              try clear hcz89_4
                              try clear hcz90_0
                              try clear hcz90_1
                              try clear hcz90_2
                              try clear hcz92_0
                              try clear hcz92_1
                              try clear hcz92_2
                              try clear hcz94_0
                              try clear hcz94_1
                              try clear hcz94_2
                              try clear hcz94_3
                              try clear hcz94_4
                              try clear hcz95_0
                              try clear hcz95_1
                              try clear hcz95_2
                              try clear hcz95_3
                              try clear hcz95_4
                              try clear hcz96_0
                              try clear hcz96_1
                              try clear hcz96_2
                              try clear hcz97_0
                              try clear hcz97_1
                              try clear hcz97_2
                              try clear hfz102_0
                              try clear hfz102_1
                              try clear hfz102_2
                              try clear hfz102_3
                              try clear hfz102_4
                              try clear hfz105_0
                              try clear hfz105_1
                              try clear hfz105_2
                              try clear hfz107_0
                              try clear hfz107_1
                              try clear hfz107_2
                              try clear hfz107_3
                              try clear hfz107_4
                              try clear hfz108_0
                              try clear hfz108_1
                              try clear hfz108_2
                              try clear hfz110_0
                              try clear hfz110_1
                              try clear hfz110_2
                              try clear hfz115_0
                              try clear hfz115_1
                              try clear hfz115_2
                              try clear hfz115_3
                              try clear hfz115_4
                              try clear hfz118_0
                              try clear hfz118_1
                              try clear hfz118_2
                              try clear hfz125_0
                              try clear hfz125_1
                              try clear hfz125_2
                              try clear hfz131_0
                              try clear hfz131_1
                              try clear hfz131_2
                              try clear hfz136_0
                              try clear hfz136_1
                              try clear hfz136_2
                              try clear hfz136_3
                              try clear hfz136_4
                              try clear hfz16_0
                              try clear hfz16_1
                              try clear hfz16_2
                              try clear hfz16_3
                              try clear hfz16_4
                              try clear hfz18_0
                              try clear hfz18_1
                              try clear hfz18_2
                              try clear hfz18_3
                              try clear hfz18_4
                              try clear hfz19_0
                              try clear hfz19_1
                              try clear hfz19_2
                              try clear hfz25_0
                              try clear hfz25_1
                              try clear hfz25_2
                              try clear hfz30_0
                              try clear hfz30_1
                              try clear hfz30_2
                              try clear hfz30_3
                              try clear hfz30_4
                              try clear hfz39_0
                              try clear hfz39_1
                              try clear hfz39_2
                              try clear hfz42_0
                              try clear hfz42_1
                              try clear hfz42_2
                              try clear hfz42_3
                              try clear hfz42_4
                              try clear hfz44_0
                              try clear hfz44_1
                              try clear hfz44_2
                              try clear hfz44_3
                              try clear hfz44_4
                              try clear hfz45_0
                              try clear hfz45_1
                              try clear hfz45_2
                              try clear hfz50_0
                              try clear hfz50_1
                              try clear hfz50_2
                              try clear hfz62_0
                              try clear hfz62_1
                              try clear hfz62_2
                              try clear hfz62_3
                              try clear hfz62_4
                              try clear hfz65_0
                              try clear hfz65_1
                              try clear hfz65_2
                              try clear hfz67_0
                              try clear hfz67_1
                              try clear hfz67_2
                              try clear hfz67_3
                              try clear hfz67_4
                              try clear hfz68_0
                              try clear hfz68_1
                              try clear hfz68_2
                              try clear hfz70_0
                              try clear hfz70_1
                              try clear hfz70_2
                              try clear hfz72_0
                              try clear hfz72_1
                              try clear hfz72_2
                              try clear hfz72_3
                              try clear hfz72_4
                              try clear hfz73_0
                              try clear hfz73_1
                              try clear hfz73_2
                              try clear hfz73_3
                              try clear hfz73_4
                              try clear hfz74_0
                              try clear hfz74_1
                              try clear hfz74_2
                              try clear hfz75_0
                              try clear hfz75_1
                              try clear hfz75_2
                              try clear hfz77_0
                              try clear hfz77_1
                              try clear hfz77_2
                              try clear hfz77_3
                              try clear hfz77_4
                              try clear hfz78_0
                              try clear hfz78_1
                              try clear hfz78_2
                              try clear hfz78_3
                              try clear hfz78_4
                              try clear hfz79_0
                              try clear hfz79_1
                              try clear hfz79_2
                              try clear hfz84_0
                              try clear hfz84_1
                              try clear hfz84_2
                              try clear hfz84_3
                              try clear hfz84_4
                              try clear hfz87_0
                              try clear hfz87_1
                              try clear hfz87_2
                              try clear hfz89_0
                              try clear hfz89_1
                              try clear hfz89_2
                              try clear hfz89_3
                              try clear hfz89_4
                              try clear hfz90_0
                              try clear hfz90_1
                              try clear hfz90_2
                              try clear hfz92_0
                              try clear hfz92_1
                              try clear hfz92_2
                              try clear hfz94_0
                              try clear hfz94_1
                              try clear hfz94_2
                              try clear hfz94_3
                              try clear hfz94_4
                              try clear hfz95_0
                              try clear hfz95_1
                              try clear hfz95_2
                              try clear hfz95_3
                              try clear hfz95_4
                              try clear hfz96_0
                              try clear hfz96_1
                              try clear hfz96_2
                              try clear hfz97_0
                              try clear hfz97_1
                              try clear hfz97_2
                              try clear p2
                              obtain ⟨kq, x63_120, rfl, HA, HJ120, BK798, BK799, BK800, BK805, BK812, HB⟩ := hcut
                              cases kq with
                              | zero => exact absurd HA.out (by simp [turnstilelaw17_ReserveCovers.j5])
                              | succ kj120 =>
                                have H := HA.out
                                clear HA
                                simp only [turnstilelaw17_ReserveCovers.j5] at H
                                by_cases c137 : x63_120 = true
                                · subst c137
                                  have H1 : ((sat_Add.f a2_0 a0_0).bind fun t813 => (if t802 = t813 then (turnstilelaw17_ReserveCovers.j6 kj120 a0_0 a0_1 a0_2 a0_3 a0_4 a1_0 a1_1 a1_2 a1_3 a1_4 a2_0 a2_1 a2_2 (IntKind.u64.wrap (t802 + 1)) t803 t804) else (some false))) = some r := by rw [if_pos rfl] at H; exact H
                                  clear H
                                  have H := H1
                                  clear H1
                                  replace H := Option.bind_eq_some_iff.mp H
                                  obtain ⟨t813, A1380, H⟩ := H
                                  replace H : (if t802 = t813 then (turnstilelaw17_ReserveCovers.j6 kj120 a0_0 a0_1 a0_2 a0_3 a0_4 a1_0 a1_1 a1_2 a1_3 a1_4 a2_0 a2_1 a2_2 (IntKind.u64.wrap (t802 + 1)) t803 t804) else (some false)) = some r := H
                                  have A138 := Aside0.mk A1380
                                  clear A1380
                                  by_cases c139 : t802 = t813
                                  · rw [if_pos c139] at H
                                    have c139b0 : (t802 == t813) = true := beq_iff_eq.mpr c139
                                    have c139b1 : (t802 != t813) = false := bne_eq_false_iff_eq.mpr c139
                                    clear c139
                                    have HC140 := Aside0.mk H
                                    clear H
                                    have hnb141 := NB805_798.out
                                    have hnc141 := NB798_805.out
                                    have hnb142 := NB805_799.out
                                    have hnc142 := NB799_805.out
                                    have hnb143 := NB805_800.out
                                    have hnc143 := NB800_805.out
                                    have hnb144 := NB805_812.out
                                    have hnc144 := NB812_805.out
                                    obtain ⟨hcz145_0, hcz145_1, hcz145_2, hfz145_0, hfz145_1, hfz145_2⟩ := bc3 BK805
                                    have hnb146 := NB800_798.out
                                    have hnc146 := NB798_800.out
                                    have hnb147 := NB800_799.out
                                    have hnc147 := NB799_800.out
                                    have hnb148 := NB800_812.out
                                    have hnc148 := NB812_800.out
                                    obtain ⟨hcz149_0, hcz149_1, hcz149_2, hfz149_0, hfz149_1, hfz149_2⟩ := bc3 BK800
                                    have hnb150 := NB798_799.out
                                    have hnc150 := NB799_798.out
                                    have hnb151 := NB798_812.out
                                    have hnc151 := NB812_798.out
                                    obtain ⟨hcz152_0, hcz152_1, hcz152_2, hcz152_3, hcz152_4, hfz152_0, hfz152_1, hfz152_2, hfz152_3, hfz152_4⟩ := bc5 BK798
                                    go_upto_region 14 with (first | (go_at_call 38; (with_reducible refine (sat_Add.calls a2_0 a0_0 t813 _ A138.out).mono ?_); rintro e w' ⟨rfl, ⟨nd, rfl⟩⟩; (try first | exact ⟨rfl, _, World.drewN_drewN _ _ _⟩ | exact ⟨rfl, _, Eq.trans (World.drewN_drewN _ _ _) (congrArg (World.drewN _) (Nat.add_assoc _ _ _))⟩)))
                                    repeat (go_quiet (first | (go_at_call 38; (with_reducible refine (sat_Add.calls a2_0 a0_0 t813 _ A138.out).mono ?_); rintro e w' ⟨rfl, ⟨nd, rfl⟩⟩; (try first | exact ⟨rfl, _, World.drewN_drewN _ _ _⟩ | exact ⟨rfl, _, Eq.trans (World.drewN_drewN _ _ _) (congrArg (World.drewN _) (Nat.add_assoc _ _ _))⟩))); go_upto_region 14 with (first | (go_at_call 38; (with_reducible refine (sat_Add.calls a2_0 a0_0 t813 _ A138.out).mono ?_); rintro e w' ⟨rfl, ⟨nd, rfl⟩⟩; (try first | exact ⟨rfl, _, World.drewN_drewN _ _ _⟩ | exact ⟨rfl, _, Eq.trans (World.drewN_drewN _ _ _) (congrArg (World.drewN _) (Nat.add_assoc _ _ _))⟩))))
                                    (try simp only [Act.put, List.setIfInBounds_toArray, List.set_cons_zero, List.set_cons_succ])
                                    go_cut [] (fun wc => ∃ (kq : Nat) (x813000_139 : Int), Aside0 (turnstilelaw17_ReserveCovers.j6 kq a0_0 a0_1 a0_2 a0_3 a0_4 a1_0 a1_1 a1_2 a1_3 a1_4 a2_0 a2_1 a2_2 x813000_139 t803 t804 = some r) ∧ Aside0 (kq ≤ kj120) ∧ Aside0 (wc.heap[gb798]? = some (.cells #[.int .u64 a0_0, .int .u64 a0_1, .int .i64 a0_2, .int .i64 a0_3, .int .i64 a0_4] 53 (0, 0))) ∧ Aside0 (wc.heap[gb799]? = some (.cells #[.int .i64 a1_0, .int .u64 a1_1, .int .u64 a1_2, .int .u64 a1_3, .int .u64 a1_4] 27 (0, 0))) ∧ Aside0 (wc.heap[gb800]? = some (.cells #[.int .u64 a2_0, .int .u64 a2_1, .int .u64 a2_2] 29 (0, 0))) ∧ Aside0 (wc.heap[gb805]? = some (.cells #[.int .u64 t802, .int .u64 t803, .int .u64 t804] 29 (0, 0))) ∧ Aside0 (wc.heap[gb812]? = some (.cells #[.int .u64 x813000_139, .int .u64 t803, .int .u64 t804] 29 (0, 0))) ∧ Aside0 (Below w.heap.size w wc))
                                    case first =>
                                      have H := HC140.out
                                      clear HC140
                                      have H' := Aside0.mk H
                                      clear H
                                      have hnb153 := NB812_798.out
                                      have hnc153 := NB798_812.out
                                      have hnb154 := NB812_799.out
                                      have hnc154 := NB799_812.out
                                      have hnb155 := NB812_800.out
                                      have hnc155 := NB800_812.out
                                      have hnb156 := NB812_805.out
                                      have hnc156 := NB805_812.out
                                      obtain ⟨hcz157_0, hcz157_1, hcz157_2, hfz157_0, hfz157_1, hfz157_2⟩ := bc3 BK812
                                      go_wp2
                                      repeat (go_quiet (fail); try go_wp2)
                                      go_meet
                                      case rel => exact ⟨_, (IntKind.u64.wrap (t802 + 1)), H', ⟨by have := HJ3.out; have := HJ9.out; have := HJ12.out; have := HJ31.out; have := HJ50.out; have := HJ120.out; first | omega | exact Nat.le_refl _⟩, ⟨bk BK798⟩, ⟨bk BK799⟩, ⟨bk BK800⟩, ⟨bk BK805⟩, ⟨bk BK812⟩, ⟨bw HB⟩⟩
                                    case rest =>
                                      clear HC140
                                      try clear c1
                                      try clear c2
                                      try clear p2
                                      try clear c3
                                      try clear c4
                                      try clear c5
                                      try clear c6
                                      try clear c8
                                      try clear c9
                                      try clear c10
                                      try clear c11
                                      try clear c12
                                      try clear c13
                                      try clear c14
                                      try clear c15
                                      try clear c17
                                      try clear c22
                                      try clear c23
                                      try clear c24
                                      try clear c27
                                      try clear c28
                                      try clear c29
                                      try clear c33
                                      try clear c34
                                      try clear c34b0
                                      try clear c34b1
                                      try clear c34b2
                                      try clear c36
                                      try clear c37
                                      try clear c38
                                      try clear c40
                                      try clear c41
                                      try clear c43
                                      try clear c47
                                      try clear c48
                                      try clear c49
                                      try clear c53
                                      try clear c55
                                      try clear c57
                                      try clear c59
                                      try clear c60
                                      try clear c61
                                      try clear c63
                                      try clear c64
                                      try clear c69
                                      try clear c81
                                      try clear c82
                                      try clear c83
                                      try clear c85
                                      try clear c86
                                      try clear c91
                                      try clear c99
                                      try clear c100
                                      try clear c101
                                      try clear c103
                                      try clear c104
                                      try clear c109
                                      try clear c112
                                      try clear c113
                                      try clear c114
                                      try clear c116
                                      try clear c117
                                      try clear c120
                                      try clear c122
                                      try clear c123
                                      try clear c124
                                      try clear c127
                                      try clear c128
                                      try clear c129
                                      try clear c130
                                      try clear c132
                                      try clear c133
                                      try clear c134
                                      try clear c135
                                      try clear c137
                                      try clear c139
                                      try clear c139b0
                                      try clear c139b1
                                      try clear c141
                                      try clear c142
                                      try clear c143
                                      try clear c144
                                      try clear c146
                                      try clear c147
                                      try clear c148
                                      try clear c150
                                      try clear c151
                                      try clear c153
                                      try clear c154
                                      try clear c155
                                      try clear c156
                                      try clear hcz102_0
                                      try clear hcz102_1
                                      try clear hcz102_2
                                      try clear hcz102_3
                                      try clear hcz102_4
                                      try clear hcz105_0
                                      try clear hcz105_1
                                      try clear hcz105_2
                                      try clear hcz107_0
                                      try clear hcz107_1
                                      try clear hcz107_2
                                      try clear hcz107_3
                                      try clear hcz107_4
                                      try clear hcz108_0
                                      try clear hcz108_1
                                      try clear hcz108_2
                                      try clear hcz110_0
                                      try clear hcz110_1
                                      try clear hcz110_2
                                      try clear hcz115_0
                                      try clear hcz115_1
                                      try clear hcz115_2
                                      try clear hcz115_3
                                      try clear hcz115_4
                                      try clear hcz118_0
                                      try clear hcz118_1
                                      try clear hcz118_2
                                      try clear hcz125_0
                                      try clear hcz125_1
                                      try clear hcz125_2
                                      try clear hcz131_0
                                      try clear hcz131_1
                                      try clear hcz131_2
                                      try clear hcz136_0
                                      try clear hcz136_1
                                      try clear hcz136_2
                                      try clear hcz136_3
                                      try clear hcz136_4
                                      try clear hcz145_0
                                      try clear hcz145_1
                                      try clear hcz145_2
                                      try clear hcz149_0
                                      try clear hcz149_1
                                      try clear hcz149_2
                                      try clear hcz152_0
                                      try clear hcz152_1
                                      try clear hcz152_2
                                      try clear hcz152_3
                                      try clear hcz152_4
                                      try clear hcz157_0
                                      try clear hcz157_1
                                      try clear hcz157_2
                                      try clear hcz16_0
                                      try clear hcz16_1
                                      try clear hcz16_2
                                      try clear hcz16_3
                                      try clear hcz16_4
                                      try clear hcz18_0
                                      try clear hcz18_1
                                      try clear hcz18_2
                                      try clear hcz18_3
                                      try clear hcz18_4
                                      try clear hcz19_0
                                      try clear hcz19_1
                                      try clear hcz19_2
                                      try clear hcz25_0
                                      try clear hcz25_1
                                      try clear hcz25_2
                                      try clear hcz30_0
                                      try clear hcz30_1
                                      try clear hcz30_2
                                      try clear hcz30_3
                                      try clear hcz30_4
                                      try clear hcz39_0
                                      try clear hcz39_1
                                      try clear hcz39_2
                                      try clear hcz42_0
                                      try clear hcz42_1
                                      try clear hcz42_2
                                      try clear hcz42_3
                                      try clear hcz42_4
                                      try clear hcz44_0
                                      try clear hcz44_1
                                      try clear hcz44_2
                                      try clear hcz44_3
                                      try clear hcz44_4
                                      try clear hcz45_0
                                      try clear hcz45_1
                                      try clear hcz45_2
                                      try clear hcz50_0
                                      try clear hcz50_1
                                      try clear hcz50_2
                                      try clear hcz62_0
                                      try clear hcz62_1
                                      try clear hcz62_2
                                      try clear hcz62_3
                                      try clear hcz62_4
                                      try clear hcz65_0
                                      try clear hcz65_1
                                      try clear hcz65_2
                                      try clear hcz67_0
                                      try clear hcz67_1
                                      try clear hcz67_2
                                      try clear hcz67_3
                                      try clear hcz67_4
                                      try clear hcz68_0
                                      try clear hcz68_1
                                      try clear hcz68_2
                                      try clear hcz70_0
                                      try clear hcz70_1
                                      try clear hcz70_2
                                      try clear hcz72_0
                                      try clear hcz72_1
                                      try clear hcz72_2
                                      try clear hcz72_3
                                      try clear hcz72_4
                                      try clear hcz73_0
                                      try clear hcz73_1
                                      try clear hcz73_2
                                      try clear hcz73_3
                                      try clear hcz73_4
                                      try clear hcz74_0
                                      try clear hcz74_1
                                      try clear hcz74_2
                                      try clear hcz75_0
                                      try clear hcz75_1
                                      try clear hcz75_2
                                      try clear hcz77_0
                                      try clear hcz77_1
                                      try clear hcz77_2
                                      try clear hcz77_3
                                      try clear hcz77_4
                                      try clear hcz78_0
                                      try clear hcz78_1
                                      try clear hcz78_2
                                      try clear hcz78_3
                                      try clear hcz78_4
                                      try clear hcz79_0
                                      try clear hcz79_1
                                      try clear hcz79_2
                                      try clear hcz84_0
                                      try clear hcz84_1
                                      try clear hcz84_2
                                      try clear hcz84_3
                                      try clear hcz84_4
                                      try clear hcz87_0
                                      try clear hcz87_1
                                      try clear hcz87_2
                                      try clear hcz89_0
                                      try clear hcz89_1
                                      try clear hcz89_2
                                      try clear hcz89_3
                                      try clear hcz89_4
                                      try clear hcz90_0
                                      try clear hcz90_1
                                      try clear hcz90_2
                                      try clear hcz92_0
                                      try clear hcz92_1
                                      try clear hcz92_2
                                      try clear hcz94_0
                                      try clear hcz94_1
                                      try clear hcz94_2
                                      try clear hcz94_3
                                      try clear hcz94_4
                                      try clear hcz95_0
                                      try clear hcz95_1
                                      try clear hcz95_2
                                      try clear hcz95_3
                                      try clear hcz95_4
                                      try clear hcz96_0
                                      try clear hcz96_1
                                      try clear hcz96_2
                                      try clear hcz97_0
                                      try clear hcz97_1
                                      try clear hcz97_2
                                      try clear hfz102_0
                                      try clear hfz102_1
                                      try clear hfz102_2
                                      try clear hfz102_3
                                      try clear hfz102_4
                                      try clear hfz105_0
                                      try clear hfz105_1
                                      try clear hfz105_2
                                      try clear hfz107_0
                                      try clear hfz107_1
                                      try clear hfz107_2
                                      try clear hfz107_3
                                      try clear hfz107_4
                                      try clear hfz108_0
                                      try clear hfz108_1
                                      try clear hfz108_2
                                      try clear hfz110_0
                                      try clear hfz110_1
                                      try clear hfz110_2
                                      try clear hfz115_0
                                      try clear hfz115_1
                                      try clear hfz115_2
                                      try clear hfz115_3
                                      try clear hfz115_4
                                      try clear hfz118_0
                                      try clear hfz118_1
                                      try clear hfz118_2
                                      try clear hfz125_0
                                      try clear hfz125_1
                                      try clear hfz125_2
                                      try clear hfz131_0
                                      try clear hfz131_1
                                      try clear hfz131_2
                                      try clear hfz136_0
                                      try clear hfz136_1
                                      try clear hfz136_2
                                      try clear hfz136_3
                                      try clear hfz136_4
                                      try clear hfz145_0
                                      try clear hfz145_1
                                      try clear hfz145_2
                                      try clear hfz149_0
                                      try clear hfz149_1
                                      try clear hfz149_2
                                      try clear hfz152_0
                                      try clear hfz152_1
                                      try clear hfz152_2
                                      try clear hfz152_3
                                      try clear hfz152_4
                                      try clear hfz157_0
                                      try clear hfz157_1
                                      try clear hfz157_2
                                      try clear hfz16_0
                                      try clear hfz16_1
                                      try clear hfz16_2
                                      try clear hfz16_3
                                      try clear hfz16_4
                                      try clear hfz18_0
                                      try clear hfz18_1
                                      try clear hfz18_2
                                      try clear hfz18_3
                                      try clear hfz18_4
                                      try clear hfz19_0
                                      try clear hfz19_1
                                      try clear hfz19_2
                                      try clear hfz25_0
                                      try clear hfz25_1
                                      try clear hfz25_2
                                      try clear hfz30_0
                                      try clear hfz30_1
                                      try clear hfz30_2
                                      try clear hfz30_3
                                      try clear hfz30_4
                                      try clear hfz39_0
                                      try clear hfz39_1
                                      try clear hfz39_2
                                      try clear hfz42_0
                                      try clear hfz42_1
                                      try clear hfz42_2
                                      try clear hfz42_3
                                      try clear hfz42_4
                                      try clear hfz44_0
                                      try clear hfz44_1
                                      try clear hfz44_2
                                      try clear hfz44_3
                                      try clear hfz44_4
                                      try clear hfz45_0
                                      try clear hfz45_1
                                      try clear hfz45_2
                                      try clear hfz50_0
                                      try clear hfz50_1
                                      try clear hfz50_2
                                      try clear hfz62_0
                                      try clear hfz62_1
                                      try clear hfz62_2
                                      try clear hfz62_3
                                      try clear hfz62_4
                                      try clear hfz65_0
                                      try clear hfz65_1
                                      try clear hfz65_2
                                      try clear hfz67_0
                                      try clear hfz67_1
                                      try clear hfz67_2
                                      try clear hfz67_3
                                      try clear hfz67_4
                                      try clear hfz68_0
                                      try clear hfz68_1
                                      try clear hfz68_2
                                      try clear hfz70_0
                                      try clear hfz70_1
                                      try clear hfz70_2
                                      try clear hfz72_0
                                      try clear hfz72_1
                                      try clear hfz72_2
                                      try clear hfz72_3
                                      try clear hfz72_4
                                      try clear hfz73_0
                                      try clear hfz73_1
                                      try clear hfz73_2
                                      try clear hfz73_3
                                      try clear hfz73_4
                                      try clear hfz74_0
                                      try clear hfz74_1
                                      try clear hfz74_2
                                      try clear hfz75_0
                                      try clear hfz75_1
                                      try clear hfz75_2
                                      try clear hfz77_0
                                      try clear hfz77_1
                                      try clear hfz77_2
                                      try clear hfz77_3
                                      try clear hfz77_4
                                      try clear hfz78_0
                                      try clear hfz78_1
                                      try clear hfz78_2
                                      try clear hfz78_3
                                      try clear hfz78_4
                                      try clear hfz79_0
                                      try clear hfz79_1
                                      try clear hfz79_2
                                      try clear hfz84_0
                                      try clear hfz84_1
                                      try clear hfz84_2
                                      try clear hfz84_3
                                      try clear hfz84_4
                                      try clear hfz87_0
                                      try clear hfz87_1
                                      try clear hfz87_2
                                      try clear hfz89_0
                                      try clear hfz89_1
                                      try clear hfz89_2
                                      try clear hfz89_3
                                      try clear hfz89_4
                                      try clear hfz90_0
                                      try clear hfz90_1
                                      try clear hfz90_2
                                      try clear hfz92_0
                                      try clear hfz92_1
                                      try clear hfz92_2
                                      try clear hfz94_0
                                      try clear hfz94_1
                                      try clear hfz94_2
                                      try clear hfz94_3
                                      try clear hfz94_4
                                      try clear hfz95_0
                                      try clear hfz95_1
                                      try clear hfz95_2
                                      try clear hfz95_3
                                      try clear hfz95_4
                                      try clear hfz96_0
                                      try clear hfz96_1
                                      try clear hfz96_2
                                      try clear hfz97_0
                                      try clear hfz97_1
                                      try clear hfz97_2
                                      try clear p2
                                      obtain ⟨kq, x813000_139, HA, HJ139, BK798, BK799, BK800, BK805, BK812, HB⟩ := hcut
                                      cases kq with
                                      | zero => exact absurd HA.out (by simp [turnstilelaw17_ReserveCovers.j6])
                                      | succ kj139 =>
                                        have H := HA.out
                                        clear HA
                                        simp only [turnstilelaw17_ReserveCovers.j6] at H
                                        by_cases c158 : x813000_139 = 0
                                        · rw [if_pos c158] at H
                                          have c158b0 : (x813000_139 == 0) = true := beq_iff_eq.mpr c158
                                          have c158b1 : (x813000_139 != 0) = false := bne_eq_false_iff_eq.mpr c158
                                          clear c158
                                          obtain rfl := Option.some.inj H
                                          have hnb159 := NB812_798.out
                                          have hnc159 := NB798_812.out
                                          have hnb160 := NB812_799.out
                                          have hnc160 := NB799_812.out
                                          have hnb161 := NB812_800.out
                                          have hnc161 := NB800_812.out
                                          have hnb162 := NB812_805.out
                                          have hnc162 := NB805_812.out
                                          obtain ⟨hcz163_0, hcz163_1, hcz163_2, hfz163_0, hfz163_1, hfz163_2⟩ := bc3 BK812
                                          go_wp2
                                          repeat (go_quiet (fail); try go_wp2)
                                          go_ret
                                          exact ⟨re, bw HB⟩
                                        · rw [if_neg c158] at H
                                          have c158b0 : (x813000_139 == 0) = false := beq_eq_false_iff_ne.mpr c158
                                          have c158b1 : (x813000_139 != 0) = true := bne_iff_ne.mpr c158
                                          replace H := Option.bind_eq_some_iff.mp H
                                          obtain ⟨t814, A1640, H⟩ := H
                                          replace H : (some (!t814)) = some r := H
                                          have A164 := Aside0.mk A1640
                                          clear A1640
                                          obtain rfl := Option.some.inj H
                                          have hnb165 := NB812_798.out
                                          have hnc165 := NB798_812.out
                                          have hnb166 := NB812_799.out
                                          have hnc166 := NB799_812.out
                                          have hnb167 := NB812_800.out
                                          have hnc167 := NB800_812.out
                                          have hnb168 := NB812_805.out
                                          have hnc168 := NB805_812.out
                                          obtain ⟨hcz169_0, hcz169_1, hcz169_2, hfz169_0, hfz169_1, hfz169_2⟩ := bc3 BK812
                                          have hnb170 := NB798_799.out
                                          have hnc170 := NB799_798.out
                                          have hnb171 := NB798_800.out
                                          have hnc171 := NB800_798.out
                                          have hnb172 := NB798_805.out
                                          have hnc172 := NB805_798.out
                                          obtain ⟨hcz173_0, hcz173_1, hcz173_2, hcz173_3, hcz173_4, hfz173_0, hfz173_1, hfz173_2, hfz173_3, hfz173_4⟩ := bc5 BK798
                                          have hnb174 := NB799_800.out
                                          have hnc174 := NB800_799.out
                                          have hnb175 := NB799_805.out
                                          have hnc175 := NB805_799.out
                                          obtain ⟨hcz176_0, hcz176_1, hcz176_2, hcz176_3, hcz176_4, hfz176_0, hfz176_1, hfz176_2, hfz176_3, hfz176_4⟩ := bc5 BK799
                                          have hnb177 := NB800_805.out
                                          have hnc177 := NB805_800.out
                                          obtain ⟨hcz178_0, hcz178_1, hcz178_2, hfz178_0, hfz178_1, hfz178_2⟩ := bc3 BK800
                                          go_wp2_with (first | (go_at_call 31; (with_reducible refine (reserve_Within.calls a0_0 a0_1 a0_2 a0_3 a0_4 a1_0 a1_1 a1_2 a1_3 a1_4 a2_0 a2_1 a2_2 x813000_139 t803 t804 t814 _ A164.out).mono ?_); rintro e w179 ⟨rfl, hb⟩; have n0_ := bb BK798 hb; have n1_ := bb BK799 hb; have n2_ := bb BK800 hb; have n3_ := bb BK805 hb; have n4_ := bb BK812 hb; have n5_ := bs HB hb; clear BK798; clear BK799; clear BK800; clear BK805; clear BK812; clear HB; have BK798 := n0_; have BK799 := n1_; have BK800 := n2_; have BK805 := n3_; have BK812 := n4_; have HB := n5_; clear n0_ n1_ n2_ n3_ n4_ n5_; (try clear hb); (try clear hb2); (try clear hk); (try clear hi)))
                                          repeat (go_quiet (first | (go_at_call 31; (with_reducible refine (reserve_Within.calls a0_0 a0_1 a0_2 a0_3 a0_4 a1_0 a1_1 a1_2 a1_3 a1_4 a2_0 a2_1 a2_2 x813000_139 t803 t804 t814 _ A164.out).mono ?_); rintro e w179 ⟨rfl, hb⟩; have n0_ := bb BK798 hb; have n1_ := bb BK799 hb; have n2_ := bb BK800 hb; have n3_ := bb BK805 hb; have n4_ := bb BK812 hb; have n5_ := bs HB hb; clear BK798; clear BK799; clear BK800; clear BK805; clear BK812; clear HB; have BK798 := n0_; have BK799 := n1_; have BK800 := n2_; have BK805 := n3_; have BK812 := n4_; have HB := n5_; clear n0_ n1_ n2_ n3_ n4_ n5_; (try clear hb); (try clear hb2); (try clear hk); (try clear hi))); try go_wp2_with (first | (go_at_call 31; (with_reducible refine (reserve_Within.calls a0_0 a0_1 a0_2 a0_3 a0_4 a1_0 a1_1 a1_2 a1_3 a1_4 a2_0 a2_1 a2_2 x813000_139 t803 t804 t814 _ A164.out).mono ?_); rintro e w179 ⟨rfl, hb⟩; have n0_ := bb BK798 hb; have n1_ := bb BK799 hb; have n2_ := bb BK800 hb; have n3_ := bb BK805 hb; have n4_ := bb BK812 hb; have n5_ := bs HB hb; clear BK798; clear BK799; clear BK800; clear BK805; clear BK812; clear HB; have BK798 := n0_; have BK799 := n1_; have BK800 := n2_; have BK805 := n3_; have BK812 := n4_; have HB := n5_; clear n0_ n1_ n2_ n3_ n4_ n5_; (try clear hb); (try clear hb2); (try clear hk); (try clear hi))))
                                          go_ret
                                          exact ⟨re, bw HB⟩
                                  · rw [if_neg c139] at H
                                    have c139b0 : (t802 == t813) = false := beq_eq_false_iff_ne.mpr c139
                                    have c139b1 : (t802 != t813) = true := bne_iff_ne.mpr c139
                                    obtain rfl := Option.some.inj H
                                    have hnb180 := NB805_798.out
                                    have hnc180 := NB798_805.out
                                    have hnb181 := NB805_799.out
                                    have hnc181 := NB799_805.out
                                    have hnb182 := NB805_800.out
                                    have hnc182 := NB800_805.out
                                    have hnb183 := NB805_812.out
                                    have hnc183 := NB812_805.out
                                    obtain ⟨hcz184_0, hcz184_1, hcz184_2, hfz184_0, hfz184_1, hfz184_2⟩ := bc3 BK805
                                    have hnb185 := NB800_798.out
                                    have hnc185 := NB798_800.out
                                    have hnb186 := NB800_799.out
                                    have hnc186 := NB799_800.out
                                    have hnb187 := NB800_812.out
                                    have hnc187 := NB812_800.out
                                    obtain ⟨hcz188_0, hcz188_1, hcz188_2, hfz188_0, hfz188_1, hfz188_2⟩ := bc3 BK800
                                    have hnb189 := NB798_799.out
                                    have hnc189 := NB799_798.out
                                    have hnb190 := NB798_812.out
                                    have hnc190 := NB812_798.out
                                    obtain ⟨hcz191_0, hcz191_1, hcz191_2, hcz191_3, hcz191_4, hfz191_0, hfz191_1, hfz191_2, hfz191_3, hfz191_4⟩ := bc5 BK798
                                    go_wp2_with (first | (go_at_call 38; (with_reducible refine (sat_Add.calls a2_0 a0_0 t813 _ A138.out).mono ?_); rintro e w' ⟨rfl, ⟨nd, rfl⟩⟩; (try first | exact ⟨rfl, _, World.drewN_drewN _ _ _⟩ | exact ⟨rfl, _, Eq.trans (World.drewN_drewN _ _ _) (congrArg (World.drewN _) (Nat.add_assoc _ _ _))⟩)))
                                    repeat (go_quiet (first | (go_at_call 38; (with_reducible refine (sat_Add.calls a2_0 a0_0 t813 _ A138.out).mono ?_); rintro e w' ⟨rfl, ⟨nd, rfl⟩⟩; (try first | exact ⟨rfl, _, World.drewN_drewN _ _ _⟩ | exact ⟨rfl, _, Eq.trans (World.drewN_drewN _ _ _) (congrArg (World.drewN _) (Nat.add_assoc _ _ _))⟩))); try go_wp2_with (first | (go_at_call 38; (with_reducible refine (sat_Add.calls a2_0 a0_0 t813 _ A138.out).mono ?_); rintro e w' ⟨rfl, ⟨nd, rfl⟩⟩; (try first | exact ⟨rfl, _, World.drewN_drewN _ _ _⟩ | exact ⟨rfl, _, Eq.trans (World.drewN_drewN _ _ _) (congrArg (World.drewN _) (Nat.add_assoc _ _ _))⟩))))
                                    go_ret
                                    exact ⟨re, bw HB⟩
                                · replace c137 := Bool.eq_false_iff.mpr c137
                                  subst c137
                                  have H1 : (if t803 = a2_1 then (if (IntKind.u64.wrap (t804 - a2_2)) > a0_1 then (some false) else (if t804 > a2_2 then (if t804 > a1_3 then (some false) else (if (IntKind.u64.wrap (t804 + 1)) = 0 then (some true) else ((reserve_Within.f a0_0 a0_1 a0_2 a0_3 a0_4 a1_0 a1_1 a1_2 a1_3 a1_4 a2_0 a2_1 a2_2 t802 t803 (IntKind.u64.wrap (t804 + 1))).bind fun t815 => (some (!t815))))) else (if (IntKind.u64.wrap (t804 + 1)) = 0 then (some true) else ((reserve_Within.f a0_0 a0_1 a0_2 a0_3 a0_4 a1_0 a1_1 a1_2 a1_3 a1_4 a2_0 a2_1 a2_2 t802 t803 (IntKind.u64.wrap (t804 + 1))).bind fun t816 => (some (!t816)))))) else (some false)) = some r := by rw [if_neg (show ¬ (false = true) by decide)] at H; exact H
                                  clear H
                                  have H := H1
                                  clear H1
                                  by_cases c192 : t803 = a2_1
                                  · rw [if_pos c192] at H
                                    have c192b0 : (t803 == a2_1) = true := beq_iff_eq.mpr c192
                                    have c192b1 : (t803 != a2_1) = false := bne_eq_false_iff_eq.mpr c192
                                    clear c192
                                    by_cases c193 : (IntKind.u64.wrap (t804 - a2_2)) > a0_1
                                    · rw [if_pos c193] at H
                                      have c193b0 : decide (a0_1 < (IntKind.u64.wrap (t804 - a2_2))) = true := decide_eq_true c193
                                      clear c193
                                      obtain rfl := Option.some.inj H
                                      have hnb194 := NB805_798.out
                                      have hnc194 := NB798_805.out
                                      have hnb195 := NB805_799.out
                                      have hnc195 := NB799_805.out
                                      have hnb196 := NB805_800.out
                                      have hnc196 := NB800_805.out
                                      have hnb197 := NB805_812.out
                                      have hnc197 := NB812_805.out
                                      obtain ⟨hcz198_0, hcz198_1, hcz198_2, hfz198_0, hfz198_1, hfz198_2⟩ := bc3 BK805
                                      have hnb199 := NB800_798.out
                                      have hnc199 := NB798_800.out
                                      have hnb200 := NB800_799.out
                                      have hnc200 := NB799_800.out
                                      have hnb201 := NB800_812.out
                                      have hnc201 := NB812_800.out
                                      obtain ⟨hcz202_0, hcz202_1, hcz202_2, hfz202_0, hfz202_1, hfz202_2⟩ := bc3 BK800
                                      have hnb203 := NB798_799.out
                                      have hnc203 := NB799_798.out
                                      have hnb204 := NB798_812.out
                                      have hnc204 := NB812_798.out
                                      obtain ⟨hcz205_0, hcz205_1, hcz205_2, hcz205_3, hcz205_4, hfz205_0, hfz205_1, hfz205_2, hfz205_3, hfz205_4⟩ := bc5 BK798
                                      go_wp2
                                      repeat (go_quiet (fail); try go_wp2)
                                      go_ret
                                      exact ⟨re, bw HB⟩
                                    · rw [if_neg c193] at H
                                      have c193b0 : decide (a0_1 < (IntKind.u64.wrap (t804 - a2_2))) = false := decide_eq_false c193
                                      clear c193
                                      by_cases c206 : t804 > a2_2
                                      · rw [if_pos c206] at H
                                        have c206b0 : decide (a2_2 < t804) = true := decide_eq_true c206
                                        clear c206
                                        by_cases c207 : t804 > a1_3
                                        · rw [if_pos c207] at H
                                          have c207b0 : decide (a1_3 < t804) = true := decide_eq_true c207
                                          clear c207
                                          obtain rfl := Option.some.inj H
                                          have hnb208 := NB805_798.out
                                          have hnc208 := NB798_805.out
                                          have hnb209 := NB805_799.out
                                          have hnc209 := NB799_805.out
                                          have hnb210 := NB805_800.out
                                          have hnc210 := NB800_805.out
                                          have hnb211 := NB805_812.out
                                          have hnc211 := NB812_805.out
                                          obtain ⟨hcz212_0, hcz212_1, hcz212_2, hfz212_0, hfz212_1, hfz212_2⟩ := bc3 BK805
                                          have hnb213 := NB800_798.out
                                          have hnc213 := NB798_800.out
                                          have hnb214 := NB800_799.out
                                          have hnc214 := NB799_800.out
                                          have hnb215 := NB800_812.out
                                          have hnc215 := NB812_800.out
                                          obtain ⟨hcz216_0, hcz216_1, hcz216_2, hfz216_0, hfz216_1, hfz216_2⟩ := bc3 BK800
                                          have hnb217 := NB798_799.out
                                          have hnc217 := NB799_798.out
                                          have hnb218 := NB798_812.out
                                          have hnc218 := NB812_798.out
                                          obtain ⟨hcz219_0, hcz219_1, hcz219_2, hcz219_3, hcz219_4, hfz219_0, hfz219_1, hfz219_2, hfz219_3, hfz219_4⟩ := bc5 BK798
                                          have hnb220 := NB799_812.out
                                          have hnc220 := NB812_799.out
                                          obtain ⟨hcz221_0, hcz221_1, hcz221_2, hcz221_3, hcz221_4, hfz221_0, hfz221_1, hfz221_2, hfz221_3, hfz221_4⟩ := bc5 BK799
                                          go_wp2
                                          repeat (go_quiet (fail); try go_wp2)
                                          go_ret
                                          exact ⟨re, bw HB⟩
                                        · rw [if_neg c207] at H
                                          have c207b0 : decide (a1_3 < t804) = false := decide_eq_false c207
                                          clear c207
                                          by_cases c222 : (IntKind.u64.wrap (t804 + 1)) = 0
                                          · rw [if_pos c222] at H
                                            have c222b0 : ((IntKind.u64.wrap (t804 + 1)) == 0) = true := beq_iff_eq.mpr c222
                                            have c222b1 : ((IntKind.u64.wrap (t804 + 1)) != 0) = false := bne_eq_false_iff_eq.mpr c222
                                            clear c222
                                            obtain rfl := Option.some.inj H
                                            have hnb223 := NB805_798.out
                                            have hnc223 := NB798_805.out
                                            have hnb224 := NB805_799.out
                                            have hnc224 := NB799_805.out
                                            have hnb225 := NB805_800.out
                                            have hnc225 := NB800_805.out
                                            have hnb226 := NB805_812.out
                                            have hnc226 := NB812_805.out
                                            obtain ⟨hcz227_0, hcz227_1, hcz227_2, hfz227_0, hfz227_1, hfz227_2⟩ := bc3 BK805
                                            have hnb228 := NB800_798.out
                                            have hnc228 := NB798_800.out
                                            have hnb229 := NB800_799.out
                                            have hnc229 := NB799_800.out
                                            have hnb230 := NB800_812.out
                                            have hnc230 := NB812_800.out
                                            obtain ⟨hcz231_0, hcz231_1, hcz231_2, hfz231_0, hfz231_1, hfz231_2⟩ := bc3 BK800
                                            have hnb232 := NB798_799.out
                                            have hnc232 := NB799_798.out
                                            have hnb233 := NB798_812.out
                                            have hnc233 := NB812_798.out
                                            obtain ⟨hcz234_0, hcz234_1, hcz234_2, hcz234_3, hcz234_4, hfz234_0, hfz234_1, hfz234_2, hfz234_3, hfz234_4⟩ := bc5 BK798
                                            have hnb235 := NB799_812.out
                                            have hnc235 := NB812_799.out
                                            obtain ⟨hcz236_0, hcz236_1, hcz236_2, hcz236_3, hcz236_4, hfz236_0, hfz236_1, hfz236_2, hfz236_3, hfz236_4⟩ := bc5 BK799
                                            obtain ⟨hcz237_0, hcz237_1, hcz237_2, hfz237_0, hfz237_1, hfz237_2⟩ := bc3 BK812
                                            go_wp2
                                            repeat (go_quiet (fail); try go_wp2)
                                            go_ret
                                            exact ⟨re, bw HB⟩
                                          · rw [if_neg c222] at H
                                            have c222b0 : ((IntKind.u64.wrap (t804 + 1)) == 0) = false := beq_eq_false_iff_ne.mpr c222
                                            have c222b1 : ((IntKind.u64.wrap (t804 + 1)) != 0) = true := bne_iff_ne.mpr c222
                                            replace H := Option.bind_eq_some_iff.mp H
                                            obtain ⟨t815, A2380, H⟩ := H
                                            replace H : (some (!t815)) = some r := H
                                            have A238 := Aside0.mk A2380
                                            clear A2380
                                            obtain rfl := Option.some.inj H
                                            have hnb239 := NB805_798.out
                                            have hnc239 := NB798_805.out
                                            have hnb240 := NB805_799.out
                                            have hnc240 := NB799_805.out
                                            have hnb241 := NB805_800.out
                                            have hnc241 := NB800_805.out
                                            have hnb242 := NB805_812.out
                                            have hnc242 := NB812_805.out
                                            obtain ⟨hcz243_0, hcz243_1, hcz243_2, hfz243_0, hfz243_1, hfz243_2⟩ := bc3 BK805
                                            have hnb244 := NB800_798.out
                                            have hnc244 := NB798_800.out
                                            have hnb245 := NB800_799.out
                                            have hnc245 := NB799_800.out
                                            have hnb246 := NB800_812.out
                                            have hnc246 := NB812_800.out
                                            obtain ⟨hcz247_0, hcz247_1, hcz247_2, hfz247_0, hfz247_1, hfz247_2⟩ := bc3 BK800
                                            have hnb248 := NB798_799.out
                                            have hnc248 := NB799_798.out
                                            have hnb249 := NB798_812.out
                                            have hnc249 := NB812_798.out
                                            obtain ⟨hcz250_0, hcz250_1, hcz250_2, hcz250_3, hcz250_4, hfz250_0, hfz250_1, hfz250_2, hfz250_3, hfz250_4⟩ := bc5 BK798
                                            have hnb251 := NB799_812.out
                                            have hnc251 := NB812_799.out
                                            obtain ⟨hcz252_0, hcz252_1, hcz252_2, hcz252_3, hcz252_4, hfz252_0, hfz252_1, hfz252_2, hfz252_3, hfz252_4⟩ := bc5 BK799
                                            obtain ⟨hcz253_0, hcz253_1, hcz253_2, hfz253_0, hfz253_1, hfz253_2⟩ := bc3 BK812
                                            go_wp2_with (first | (go_at_call 31; (with_reducible refine (reserve_Within.calls a0_0 a0_1 a0_2 a0_3 a0_4 a1_0 a1_1 a1_2 a1_3 a1_4 a2_0 a2_1 a2_2 t802 t803 (IntKind.u64.wrap (t804 + 1)) t815 _ A238.out).mono ?_); rintro e w254 ⟨rfl, hb⟩; have n0_ := bb BK798 hb; have n1_ := bb BK799 hb; have n2_ := bb BK800 hb; have n3_ := bb BK805 hb; have n4_ := bbp (.cells #[.int .u64 t802, .int .u64 t803, .int .u64 (IntKind.u64.wrap (t804 + 1))] 29 (0, 0)) BK812 hb; have n5_ := bs HB hb; clear BK798; clear BK799; clear BK800; clear BK805; clear BK812; clear HB; have BK798 := n0_; have BK799 := n1_; have BK800 := n2_; have BK805 := n3_; have BK812 := n4_; have HB := n5_; clear n0_ n1_ n2_ n3_ n4_ n5_; (try clear hb); (try clear hb2); (try clear hk); (try clear hi)))
                                            repeat (go_quiet (first | (go_at_call 31; (with_reducible refine (reserve_Within.calls a0_0 a0_1 a0_2 a0_3 a0_4 a1_0 a1_1 a1_2 a1_3 a1_4 a2_0 a2_1 a2_2 t802 t803 (IntKind.u64.wrap (t804 + 1)) t815 _ A238.out).mono ?_); rintro e w254 ⟨rfl, hb⟩; have n0_ := bb BK798 hb; have n1_ := bb BK799 hb; have n2_ := bb BK800 hb; have n3_ := bb BK805 hb; have n4_ := bbp (.cells #[.int .u64 t802, .int .u64 t803, .int .u64 (IntKind.u64.wrap (t804 + 1))] 29 (0, 0)) BK812 hb; have n5_ := bs HB hb; clear BK798; clear BK799; clear BK800; clear BK805; clear BK812; clear HB; have BK798 := n0_; have BK799 := n1_; have BK800 := n2_; have BK805 := n3_; have BK812 := n4_; have HB := n5_; clear n0_ n1_ n2_ n3_ n4_ n5_; (try clear hb); (try clear hb2); (try clear hk); (try clear hi))); try go_wp2_with (first | (go_at_call 31; (with_reducible refine (reserve_Within.calls a0_0 a0_1 a0_2 a0_3 a0_4 a1_0 a1_1 a1_2 a1_3 a1_4 a2_0 a2_1 a2_2 t802 t803 (IntKind.u64.wrap (t804 + 1)) t815 _ A238.out).mono ?_); rintro e w254 ⟨rfl, hb⟩; have n0_ := bb BK798 hb; have n1_ := bb BK799 hb; have n2_ := bb BK800 hb; have n3_ := bb BK805 hb; have n4_ := bbp (.cells #[.int .u64 t802, .int .u64 t803, .int .u64 (IntKind.u64.wrap (t804 + 1))] 29 (0, 0)) BK812 hb; have n5_ := bs HB hb; clear BK798; clear BK799; clear BK800; clear BK805; clear BK812; clear HB; have BK798 := n0_; have BK799 := n1_; have BK800 := n2_; have BK805 := n3_; have BK812 := n4_; have HB := n5_; clear n0_ n1_ n2_ n3_ n4_ n5_; (try clear hb); (try clear hb2); (try clear hk); (try clear hi))))
                                            go_ret
                                            exact ⟨re, bw HB⟩
                                      · rw [if_neg c206] at H
                                        have c206b0 : decide (a2_2 < t804) = false := decide_eq_false c206
                                        clear c206
                                        by_cases c255 : (IntKind.u64.wrap (t804 + 1)) = 0
                                        · rw [if_pos c255] at H
                                          have c255b0 : ((IntKind.u64.wrap (t804 + 1)) == 0) = true := beq_iff_eq.mpr c255
                                          have c255b1 : ((IntKind.u64.wrap (t804 + 1)) != 0) = false := bne_eq_false_iff_eq.mpr c255
                                          clear c255
                                          obtain rfl := Option.some.inj H
                                          have hnb256 := NB805_798.out
                                          have hnc256 := NB798_805.out
                                          have hnb257 := NB805_799.out
                                          have hnc257 := NB799_805.out
                                          have hnb258 := NB805_800.out
                                          have hnc258 := NB800_805.out
                                          have hnb259 := NB805_812.out
                                          have hnc259 := NB812_805.out
                                          obtain ⟨hcz260_0, hcz260_1, hcz260_2, hfz260_0, hfz260_1, hfz260_2⟩ := bc3 BK805
                                          have hnb261 := NB800_798.out
                                          have hnc261 := NB798_800.out
                                          have hnb262 := NB800_799.out
                                          have hnc262 := NB799_800.out
                                          have hnb263 := NB800_812.out
                                          have hnc263 := NB812_800.out
                                          obtain ⟨hcz264_0, hcz264_1, hcz264_2, hfz264_0, hfz264_1, hfz264_2⟩ := bc3 BK800
                                          have hnb265 := NB798_799.out
                                          have hnc265 := NB799_798.out
                                          have hnb266 := NB798_812.out
                                          have hnc266 := NB812_798.out
                                          obtain ⟨hcz267_0, hcz267_1, hcz267_2, hcz267_3, hcz267_4, hfz267_0, hfz267_1, hfz267_2, hfz267_3, hfz267_4⟩ := bc5 BK798
                                          have hnb268 := NB812_799.out
                                          have hnc268 := NB799_812.out
                                          obtain ⟨hcz269_0, hcz269_1, hcz269_2, hfz269_0, hfz269_1, hfz269_2⟩ := bc3 BK812
                                          go_wp2
                                          repeat (go_quiet (fail); try go_wp2)
                                          go_ret
                                          exact ⟨re, bw HB⟩
                                        · rw [if_neg c255] at H
                                          have c255b0 : ((IntKind.u64.wrap (t804 + 1)) == 0) = false := beq_eq_false_iff_ne.mpr c255
                                          have c255b1 : ((IntKind.u64.wrap (t804 + 1)) != 0) = true := bne_iff_ne.mpr c255
                                          replace H := Option.bind_eq_some_iff.mp H
                                          obtain ⟨t816, A2700, H⟩ := H
                                          replace H : (some (!t816)) = some r := H
                                          have A270 := Aside0.mk A2700
                                          clear A2700
                                          obtain rfl := Option.some.inj H
                                          have hnb271 := NB805_798.out
                                          have hnc271 := NB798_805.out
                                          have hnb272 := NB805_799.out
                                          have hnc272 := NB799_805.out
                                          have hnb273 := NB805_800.out
                                          have hnc273 := NB800_805.out
                                          have hnb274 := NB805_812.out
                                          have hnc274 := NB812_805.out
                                          obtain ⟨hcz275_0, hcz275_1, hcz275_2, hfz275_0, hfz275_1, hfz275_2⟩ := bc3 BK805
                                          have hnb276 := NB800_798.out
                                          have hnc276 := NB798_800.out
                                          have hnb277 := NB800_799.out
                                          have hnc277 := NB799_800.out
                                          have hnb278 := NB800_812.out
                                          have hnc278 := NB812_800.out
                                          obtain ⟨hcz279_0, hcz279_1, hcz279_2, hfz279_0, hfz279_1, hfz279_2⟩ := bc3 BK800
                                          have hnb280 := NB798_799.out
                                          have hnc280 := NB799_798.out
                                          have hnb281 := NB798_812.out
                                          have hnc281 := NB812_798.out
                                          obtain ⟨hcz282_0, hcz282_1, hcz282_2, hcz282_3, hcz282_4, hfz282_0, hfz282_1, hfz282_2, hfz282_3, hfz282_4⟩ := bc5 BK798
                                          have hnb283 := NB812_799.out
                                          have hnc283 := NB799_812.out
                                          obtain ⟨hcz284_0, hcz284_1, hcz284_2, hfz284_0, hfz284_1, hfz284_2⟩ := bc3 BK812
                                          obtain ⟨hcz285_0, hcz285_1, hcz285_2, hcz285_3, hcz285_4, hfz285_0, hfz285_1, hfz285_2, hfz285_3, hfz285_4⟩ := bc5 BK799
                                          go_wp2_with (first | (go_at_call 31; (with_reducible refine (reserve_Within.calls a0_0 a0_1 a0_2 a0_3 a0_4 a1_0 a1_1 a1_2 a1_3 a1_4 a2_0 a2_1 a2_2 t802 t803 (IntKind.u64.wrap (t804 + 1)) t816 _ A270.out).mono ?_); rintro e w286 ⟨rfl, hb⟩; have n0_ := bb BK798 hb; have n1_ := bb BK799 hb; have n2_ := bb BK800 hb; have n3_ := bb BK805 hb; have n4_ := bbp (.cells #[.int .u64 t802, .int .u64 t803, .int .u64 (IntKind.u64.wrap (t804 + 1))] 29 (0, 0)) BK812 hb; have n5_ := bs HB hb; clear BK798; clear BK799; clear BK800; clear BK805; clear BK812; clear HB; have BK798 := n0_; have BK799 := n1_; have BK800 := n2_; have BK805 := n3_; have BK812 := n4_; have HB := n5_; clear n0_ n1_ n2_ n3_ n4_ n5_; (try clear hb); (try clear hb2); (try clear hk); (try clear hi)))
                                          repeat (go_quiet (first | (go_at_call 31; (with_reducible refine (reserve_Within.calls a0_0 a0_1 a0_2 a0_3 a0_4 a1_0 a1_1 a1_2 a1_3 a1_4 a2_0 a2_1 a2_2 t802 t803 (IntKind.u64.wrap (t804 + 1)) t816 _ A270.out).mono ?_); rintro e w286 ⟨rfl, hb⟩; have n0_ := bb BK798 hb; have n1_ := bb BK799 hb; have n2_ := bb BK800 hb; have n3_ := bb BK805 hb; have n4_ := bbp (.cells #[.int .u64 t802, .int .u64 t803, .int .u64 (IntKind.u64.wrap (t804 + 1))] 29 (0, 0)) BK812 hb; have n5_ := bs HB hb; clear BK798; clear BK799; clear BK800; clear BK805; clear BK812; clear HB; have BK798 := n0_; have BK799 := n1_; have BK800 := n2_; have BK805 := n3_; have BK812 := n4_; have HB := n5_; clear n0_ n1_ n2_ n3_ n4_ n5_; (try clear hb); (try clear hb2); (try clear hk); (try clear hi))); try go_wp2_with (first | (go_at_call 31; (with_reducible refine (reserve_Within.calls a0_0 a0_1 a0_2 a0_3 a0_4 a1_0 a1_1 a1_2 a1_3 a1_4 a2_0 a2_1 a2_2 t802 t803 (IntKind.u64.wrap (t804 + 1)) t816 _ A270.out).mono ?_); rintro e w286 ⟨rfl, hb⟩; have n0_ := bb BK798 hb; have n1_ := bb BK799 hb; have n2_ := bb BK800 hb; have n3_ := bb BK805 hb; have n4_ := bbp (.cells #[.int .u64 t802, .int .u64 t803, .int .u64 (IntKind.u64.wrap (t804 + 1))] 29 (0, 0)) BK812 hb; have n5_ := bs HB hb; clear BK798; clear BK799; clear BK800; clear BK805; clear BK812; clear HB; have BK798 := n0_; have BK799 := n1_; have BK800 := n2_; have BK805 := n3_; have BK812 := n4_; have HB := n5_; clear n0_ n1_ n2_ n3_ n4_ n5_; (try clear hb); (try clear hb2); (try clear hk); (try clear hi))))
                                          go_ret
                                          exact ⟨re, bw HB⟩
                                  · rw [if_neg c192] at H
                                    have c192b0 : (t803 == a2_1) = false := beq_eq_false_iff_ne.mpr c192
                                    have c192b1 : (t803 != a2_1) = true := bne_iff_ne.mpr c192
                                    obtain rfl := Option.some.inj H
                                    have hnb287 := NB805_798.out
                                    have hnc287 := NB798_805.out
                                    have hnb288 := NB805_799.out
                                    have hnc288 := NB799_805.out
                                    have hnb289 := NB805_800.out
                                    have hnc289 := NB800_805.out
                                    have hnb290 := NB805_812.out
                                    have hnc290 := NB812_805.out
                                    obtain ⟨hcz291_0, hcz291_1, hcz291_2, hfz291_0, hfz291_1, hfz291_2⟩ := bc3 BK805
                                    have hnb292 := NB800_798.out
                                    have hnc292 := NB798_800.out
                                    have hnb293 := NB800_799.out
                                    have hnc293 := NB799_800.out
                                    have hnb294 := NB800_812.out
                                    have hnc294 := NB812_800.out
                                    obtain ⟨hcz295_0, hcz295_1, hcz295_2, hfz295_0, hfz295_1, hfz295_2⟩ := bc3 BK800
                                    go_wp2
                                    repeat (go_quiet (fail); try go_wp2)
                                    go_ret
                                    exact ⟨re, bw HB⟩


end Go.Proofs.Ytokfhdpokemekaa.Q
