/- Written by the session's own program hyb.py: what functions of the program compute; Lean checks it. -/
import Derived.Test.YtokfhdpokemekaaQx0
import Derived.Test.YtokfhdpokemekaaQx18
import Derived.Test.YtokfhdpokemekaaQx20
import Derived.Test.YtokfhdpokemekaaQx38
import Derived.Test.YtokfhdpokemekaaQx40
namespace Go.Proofs.Ytokfhdpokemekaa.Q
open Go.RowKit Go.Proofs.YtokfhdpokemekaaW.PrintWords Go.Proofs.YtokfhdpokemekaaW.PrintLast Go.Proofs.YtokfhdpokemekaaW.PrintMore Go.Proofs.YtokfhdpokemekaaW.PrintShort
attribute [local go_sem] run_Add64 run_Sub64
attribute [local go_sem] max2_int min2_int max_two min_two max_three min_three max_four min_four   -- for this text's walks alone
set_option linter.unusedVariables false
set_option linter.unusedSimpArgs false

/-! ### turnstilelaw17_ReserveSeldom: function 11 -/
mutual
def turnstilelaw17_ReserveSeldom.j0 : Nat → List (S64) → Bool → Int → Int → Int → Int → Int → Int → Int → Int → Int → Int → Option (Bool)
  | 0, _, _, _, _, _, _, _, _, _, _, _, _ => none
  | k + 1, x2, x7, x735000, x735001, x735002, x735003, x735004, x736000, x736001, x736002, x736003, x736004 => turnstilelaw17_ReserveSeldom.j1 k x2 (!x7) x735000 x735001 x735002 x735003 x735004 x736000 x736001 x736002 x736003 x736004
def turnstilelaw17_ReserveSeldom.j1 : Nat → List (S64) → Bool → Int → Int → Int → Int → Int → Int → Int → Int → Int → Int → Option (Bool)
  | 0, _, _, _, _, _, _, _, _, _, _, _, _ => none
  | k + 1, x2, x15, x735000, x735001, x735002, x735003, x735004, x736000, x736001, x736002, x736003, x736004 => if x15 = true then (some false) else ((policy_Valid.f x736000 x736001 x736002 x736003 x736004).bind fun t739 => (turnstilelaw17_ReserveSeldom.j2 k x2 t739 x735000 x735001 x735002 x735003 x735004 x736000 x736001 x736002 x736003 x736004 0 0 0 0 0 0))
def turnstilelaw17_ReserveSeldom.j2 : Nat → List (S64) → Bool → Int → Int → Int → Int → Int → Int → Int → Int → Int → Int → Int → Int → Int → Int → Int → Int → Option (Bool)
  | 0, _, _, _, _, _, _, _, _, _, _, _, _, _, _, _, _, _, _ => none
  | k + 1, x2, x10, x735000, x735001, x735002, x735003, x735004, x736000, x736001, x736002, x736003, x736004, x738000, x738001, x738002, x739000, x739001, x739002 => turnstilelaw17_ReserveSeldom.j3 k x2 x10 0 x735000 x735001 x735002 x735003 x735004 x736000 x736001 x736002 x736003 x736004 x738000 x738001 x738002 x739000 x739001 x739002
def turnstilelaw17_ReserveSeldom.j3 : Nat → List (S64) → Bool → Int → Int → Int → Int → Int → Int → Int → Int → Int → Int → Int → Int → Int → Int → Int → Int → Int → Option (Bool)
  | 0, _, _, _, _, _, _, _, _, _, _, _, _, _, _, _, _, _, _, _ => none
  | k + 1, x2, x10, x11, x735000, x735001, x735002, x735003, x735004, x736000, x736001, x736002, x736003, x736004, x738000, x738001, x738002, x739000, x739001, x739002 => turnstilelaw17_ReserveSeldom.l0 k x2 x10 x11 x735000 x735001 x735002 x735003 x735004 x736000 x736001 x736002 x736003 x736004 x738000 x738001 x738002 x739000 x739001 x739002
def turnstilelaw17_ReserveSeldom.l0 : Nat → List (S64) → Bool → Int → Int → Int → Int → Int → Int → Int → Int → Int → Int → Int → Int → Int → Int → Int → Int → Int → Option (Bool)
  | 0, _, _, _, _, _, _, _, _, _, _, _, _, _, _, _, _, _, _, _ => none
  | k + 1, x2, x10, x11, x735000, x735001, x735002, x735003, x735004, x736000, x736001, x736002, x736003, x736004, x738000, x738001, x738002, x739000, x739001, x739002 => turnstilelaw17_ReserveSeldom.j5 k x2 x10 x11 (decide (x11 < (x2.length : Int))) x735000 x735001 x735002 x735003 x735004 x736000 x736001 x736002 x736003 x736004 x738000 x738001 x738002 x739000 x739001 x739002
def turnstilelaw17_ReserveSeldom.j5 : Nat → List (S64) → Bool → Int → Bool → Int → Int → Int → Int → Int → Int → Int → Int → Int → Int → Int → Int → Int → Int → Int → Int → Option (Bool)
  | 0, _, _, _, _, _, _, _, _, _, _, _, _, _, _, _, _, _, _, _, _ => none
  | k + 1, x2, x10, x11, x23, x735000, x735001, x735002, x735003, x735004, x736000, x736001, x736002, x736003, x736004, x738000, x738001, x738002, x739000, x739001, x739002 => if x23 = true then (if 0 ≤ x11 then (if x11 < (x2.length : Int) then (turnstilelaw17_ReserveSeldom.j6 k x2 x10 x11 ((rd_T64 x2 x11).f2) x735000 x735001 x735002 x735003 x735004 x736000 x736001 x736002 x736003 x736004 x738000 x738001 x738002 x739000 x739001 x739002) else (none)) else (none)) else (some true)
def turnstilelaw17_ReserveSeldom.j6 : Nat → List (S64) → Bool → Int → Bool → Int → Int → Int → Int → Int → Int → Int → Int → Int → Int → Int → Int → Int → Int → Int → Int → Option (Bool)
  | 0, _, _, _, _, _, _, _, _, _, _, _, _, _, _, _, _, _, _, _, _ => none
  | k + 1, x2, x10, x11, x30, x735000, x735001, x735002, x735003, x735004, x736000, x736001, x736002, x736003, x736004, x738000, x738001, x738002, x739000, x739001, x739002 => if x30 = true then (turnstilelaw17_ReserveSeldom.j7 k x2 x10 x11 x735000 x735001 x735002 x735003 x735004 x736000 x736001 x736002 x736003 x736004 x739000 x739001 x739002 x739000 x739001 x739002) else (turnstilelaw17_ReserveSeldom.j7 k x2 x10 x11 x735000 x735001 x735002 x735003 x735004 x736000 x736001 x736002 x736003 x736004 x738000 x738001 x738002 x739000 x739001 x739002)
def turnstilelaw17_ReserveSeldom.j7 : Nat → List (S64) → Bool → Int → Int → Int → Int → Int → Int → Int → Int → Int → Int → Int → Int → Int → Int → Int → Int → Int → Option (Bool)
  | 0, _, _, _, _, _, _, _, _, _, _, _, _, _, _, _, _, _, _, _ => none
  | k + 1, x2, x10, x11, x735000, x735001, x735002, x735003, x735004, x736000, x736001, x736002, x736003, x736004, x738000, x738001, x738002, x739000, x739001, x739002 => if 0 ≤ x11 then (if x11 < (x2.length : Int) then ((reserve_Choose.f k x735000 x735001 x735002 x735003 x735004 x736000 x736001 x736002 x736003 x736004 x738000 x738001 x738002 x739000 x739001 x739002 ((rd_T64 x2 x11).f0) ((rd_T64 x2 x11).f1)).bind fun bt743 => (turnstilelaw17_ReserveSeldom.j8 k x2 x10 x11 (!x10) x735000 x735001 x735002 x735003 x735004 x736000 x736001 x736002 x736003 x736004 x738000 x738001 x738002 x739000 x739001 x739002 bt743.1 bt743.2.1 bt743.2.2.1 bt743.2.2.2.1 bt743.2.2.2.2.1 bt743.2.2.2.2.2.1 bt743.2.2.2.2.2.2.1 bt743.2.2.2.2.2.2.2.1 bt743.2.2.2.2.2.2.2.2)) else (none)) else (none)
def turnstilelaw17_ReserveSeldom.j8 : Nat → List (S64) → Bool → Int → Bool → Int → Int → Int → Int → Int → Int → Int → Int → Int → Int → Int → Int → Int → Int → Int → Int → Int → Int → Int → Bool → Int → Bool → Int → Int → Int → Option (Bool)
  | 0, _, _, _, _, _, _, _, _, _, _, _, _, _, _, _, _, _, _, _, _, _, _, _, _, _, _, _, _, _ => none
  | k + 1, x2, x10, x11, x48, x735000, x735001, x735002, x735003, x735004, x736000, x736001, x736002, x736003, x736004, x738000, x738001, x738002, x739000, x739001, x739002, x753000, x753001, x753002, x753003, x753004, x753005, x753006, x753007, x753008 => if x48 = true then (if x753003 = true then (some false) else (if x753005 = true then (some false) else (turnstilelaw17_ReserveSeldom.l0 k x2 x10 (wrap64 (x11 + 1)) x735000 x735001 x735002 x735003 x735004 x736000 x736001 x736002 x736003 x736004 x738000 x738001 x738002 x739000 x739001 x739002))) else ((policy_Covers.f x736000 x736001 x736002 x736003 x736004 x753006 x753007 x753008 x753000 x753001 x753002).bind fun t753 => (if t753 = true then ((policy_Covers.f x736000 x736001 x736002 x736003 x736004 x753006 x753007 x753008 x739000 x739001 x739002).bind fun t754 => (if t754 = true then ((policy_Covers.f x736000 x736001 x736002 x736003 x736004 x753000 x753001 x753002 x738000 x738001 x738002).bind fun t755 => (turnstilelaw17_ReserveSeldom.j9 k x2 x10 x11 (!t755) x735000 x735001 x735002 x735003 x735004 x736000 x736001 x736002 x736003 x736004 x739000 x739001 x739002 x753000 x753001 x753002 x753003 x753004 x753005 x753006 x753007 x753008)) else (turnstilelaw17_ReserveSeldom.j9 k x2 x10 x11 true x735000 x735001 x735002 x735003 x735004 x736000 x736001 x736002 x736003 x736004 x739000 x739001 x739002 x753000 x753001 x753002 x753003 x753004 x753005 x753006 x753007 x753008))) else (turnstilelaw17_ReserveSeldom.j9 k x2 x10 x11 true x735000 x735001 x735002 x735003 x735004 x736000 x736001 x736002 x736003 x736004 x739000 x739001 x739002 x753000 x753001 x753002 x753003 x753004 x753005 x753006 x753007 x753008)))
def turnstilelaw17_ReserveSeldom.j9 : Nat → List (S64) → Bool → Int → Bool → Int → Int → Int → Int → Int → Int → Int → Int → Int → Int → Int → Int → Int → Int → Int → Int → Bool → Int → Bool → Int → Int → Int → Option (Bool)
  | 0, _, _, _, _, _, _, _, _, _, _, _, _, _, _, _, _, _, _, _, _, _, _, _, _, _, _ => none
  | k + 1, x2, x10, x11, x77, x735000, x735001, x735002, x735003, x735004, x736000, x736001, x736002, x736003, x736004, x739000, x739001, x739002, x753000, x753001, x753002, x753003, x753004, x753005, x753006, x753007, x753008 => if x77 = true then (some false) else (if x753005 = true then (if x736000 = 1 then (if x753006 = 18446744073709551615 then (turnstilelaw17_ReserveSeldom.l0 k x2 x10 (wrap64 (x11 + 1)) x735000 x735001 x735002 x735003 x735004 x736000 x736001 x736002 x736003 x736004 x753000 x753001 x753002 x753006 x753007 x753008) else (if (IntKind.u64.wrap (x753006 - x739000)) ≤ x735000 then (some false) else (turnstilelaw17_ReserveSeldom.l0 k x2 x10 (wrap64 (x11 + 1)) x735000 x735001 x735002 x735003 x735004 x736000 x736001 x736002 x736003 x736004 x753000 x753001 x753002 x753006 x753007 x753008))) else (turnstilelaw17_ReserveSeldom.l0 k x2 x10 (wrap64 (x11 + 1)) x735000 x735001 x735002 x735003 x735004 x736000 x736001 x736002 x736003 x736004 x753000 x753001 x753002 x753006 x753007 x753008)) else (turnstilelaw17_ReserveSeldom.l0 k x2 x10 (wrap64 (x11 + 1)) x735000 x735001 x735002 x735003 x735004 x736000 x736001 x736002 x736003 x736004 x753000 x753001 x753002 x753006 x753007 x753008))
end
def turnstilelaw17_ReserveSeldom.f (k : Nat) (a0_0 : Int) (a0_1 : Int) (a0_2 : Int) (a0_3 : Int) (a0_4 : Int) (a1_0 : Int) (a1_1 : Int) (a1_2 : Int) (a1_3 : Int) (a1_4 : Int) (l2 : List (S64)) : Option (Bool) := (turnstilelaw17_awake.f k).bind fun t736 => (turnstilelaw17_ReserveSeldom.j0 k l2 t736 a0_0 a0_1 a0_2 a0_3 a0_4 a1_0 a1_1 a1_2 a1_3 a1_4)
theorem turnstilelaw17_ReserveSeldom.mono_l : ∀ k, (∀ y0 y1 y2 y3 y4 y5 y6 y7 y8 y9 y10 y11, LeO (turnstilelaw17_ReserveSeldom.j0 k y0 y1 y2 y3 y4 y5 y6 y7 y8 y9 y10 y11) (turnstilelaw17_ReserveSeldom.j0 (k + 1) y0 y1 y2 y3 y4 y5 y6 y7 y8 y9 y10 y11)) ∧ (∀ y0 y1 y2 y3 y4 y5 y6 y7 y8 y9 y10 y11, LeO (turnstilelaw17_ReserveSeldom.j1 k y0 y1 y2 y3 y4 y5 y6 y7 y8 y9 y10 y11) (turnstilelaw17_ReserveSeldom.j1 (k + 1) y0 y1 y2 y3 y4 y5 y6 y7 y8 y9 y10 y11)) ∧ (∀ y0 y1 y2 y3 y4 y5 y6 y7 y8 y9 y10 y11 y12 y13 y14 y15 y16 y17, LeO (turnstilelaw17_ReserveSeldom.j2 k y0 y1 y2 y3 y4 y5 y6 y7 y8 y9 y10 y11 y12 y13 y14 y15 y16 y17) (turnstilelaw17_ReserveSeldom.j2 (k + 1) y0 y1 y2 y3 y4 y5 y6 y7 y8 y9 y10 y11 y12 y13 y14 y15 y16 y17)) ∧ (∀ y0 y1 y2 y3 y4 y5 y6 y7 y8 y9 y10 y11 y12 y13 y14 y15 y16 y17 y18, LeO (turnstilelaw17_ReserveSeldom.j3 k y0 y1 y2 y3 y4 y5 y6 y7 y8 y9 y10 y11 y12 y13 y14 y15 y16 y17 y18) (turnstilelaw17_ReserveSeldom.j3 (k + 1) y0 y1 y2 y3 y4 y5 y6 y7 y8 y9 y10 y11 y12 y13 y14 y15 y16 y17 y18)) ∧ (∀ y0 y1 y2 y3 y4 y5 y6 y7 y8 y9 y10 y11 y12 y13 y14 y15 y16 y17 y18, LeO (turnstilelaw17_ReserveSeldom.l0 k y0 y1 y2 y3 y4 y5 y6 y7 y8 y9 y10 y11 y12 y13 y14 y15 y16 y17 y18) (turnstilelaw17_ReserveSeldom.l0 (k + 1) y0 y1 y2 y3 y4 y5 y6 y7 y8 y9 y10 y11 y12 y13 y14 y15 y16 y17 y18)) ∧ (∀ y0 y1 y2 y3 y4 y5 y6 y7 y8 y9 y10 y11 y12 y13 y14 y15 y16 y17 y18 y19, LeO (turnstilelaw17_ReserveSeldom.j5 k y0 y1 y2 y3 y4 y5 y6 y7 y8 y9 y10 y11 y12 y13 y14 y15 y16 y17 y18 y19) (turnstilelaw17_ReserveSeldom.j5 (k + 1) y0 y1 y2 y3 y4 y5 y6 y7 y8 y9 y10 y11 y12 y13 y14 y15 y16 y17 y18 y19)) ∧ (∀ y0 y1 y2 y3 y4 y5 y6 y7 y8 y9 y10 y11 y12 y13 y14 y15 y16 y17 y18 y19, LeO (turnstilelaw17_ReserveSeldom.j6 k y0 y1 y2 y3 y4 y5 y6 y7 y8 y9 y10 y11 y12 y13 y14 y15 y16 y17 y18 y19) (turnstilelaw17_ReserveSeldom.j6 (k + 1) y0 y1 y2 y3 y4 y5 y6 y7 y8 y9 y10 y11 y12 y13 y14 y15 y16 y17 y18 y19)) ∧ (∀ y0 y1 y2 y3 y4 y5 y6 y7 y8 y9 y10 y11 y12 y13 y14 y15 y16 y17 y18, LeO (turnstilelaw17_ReserveSeldom.j7 k y0 y1 y2 y3 y4 y5 y6 y7 y8 y9 y10 y11 y12 y13 y14 y15 y16 y17 y18) (turnstilelaw17_ReserveSeldom.j7 (k + 1) y0 y1 y2 y3 y4 y5 y6 y7 y8 y9 y10 y11 y12 y13 y14 y15 y16 y17 y18)) ∧ (∀ y0 y1 y2 y3 y4 y5 y6 y7 y8 y9 y10 y11 y12 y13 y14 y15 y16 y17 y18 y19 y20 y21 y22 y23 y24 y25 y26 y27 y28, LeO (turnstilelaw17_ReserveSeldom.j8 k y0 y1 y2 y3 y4 y5 y6 y7 y8 y9 y10 y11 y12 y13 y14 y15 y16 y17 y18 y19 y20 y21 y22 y23 y24 y25 y26 y27 y28) (turnstilelaw17_ReserveSeldom.j8 (k + 1) y0 y1 y2 y3 y4 y5 y6 y7 y8 y9 y10 y11 y12 y13 y14 y15 y16 y17 y18 y19 y20 y21 y22 y23 y24 y25 y26 y27 y28)) ∧ (∀ y0 y1 y2 y3 y4 y5 y6 y7 y8 y9 y10 y11 y12 y13 y14 y15 y16 y17 y18 y19 y20 y21 y22 y23 y24 y25, LeO (turnstilelaw17_ReserveSeldom.j9 k y0 y1 y2 y3 y4 y5 y6 y7 y8 y9 y10 y11 y12 y13 y14 y15 y16 y17 y18 y19 y20 y21 y22 y23 y24 y25) (turnstilelaw17_ReserveSeldom.j9 (k + 1) y0 y1 y2 y3 y4 y5 y6 y7 y8 y9 y10 y11 y12 y13 y14 y15 y16 y17 y18 y19 y20 y21 y22 y23 y24 y25))
  | 0 => ⟨fun _ _ _ _ _ _ _ _ _ _ _ _ r h => by simp [turnstilelaw17_ReserveSeldom.j0] at h, fun _ _ _ _ _ _ _ _ _ _ _ _ r h => by simp [turnstilelaw17_ReserveSeldom.j1] at h, fun _ _ _ _ _ _ _ _ _ _ _ _ _ _ _ _ _ _ r h => by simp [turnstilelaw17_ReserveSeldom.j2] at h, fun _ _ _ _ _ _ _ _ _ _ _ _ _ _ _ _ _ _ _ r h => by simp [turnstilelaw17_ReserveSeldom.j3] at h, fun _ _ _ _ _ _ _ _ _ _ _ _ _ _ _ _ _ _ _ r h => by simp [turnstilelaw17_ReserveSeldom.l0] at h, fun _ _ _ _ _ _ _ _ _ _ _ _ _ _ _ _ _ _ _ _ r h => by simp [turnstilelaw17_ReserveSeldom.j5] at h, fun _ _ _ _ _ _ _ _ _ _ _ _ _ _ _ _ _ _ _ _ r h => by simp [turnstilelaw17_ReserveSeldom.j6] at h, fun _ _ _ _ _ _ _ _ _ _ _ _ _ _ _ _ _ _ _ r h => by simp [turnstilelaw17_ReserveSeldom.j7] at h, fun _ _ _ _ _ _ _ _ _ _ _ _ _ _ _ _ _ _ _ _ _ _ _ _ _ _ _ _ _ r h => by simp [turnstilelaw17_ReserveSeldom.j8] at h, fun _ _ _ _ _ _ _ _ _ _ _ _ _ _ _ _ _ _ _ _ _ _ _ _ _ _ r h => by simp [turnstilelaw17_ReserveSeldom.j9] at h⟩
  | k + 1 => by
    obtain ⟨ih0, ih1, ih2, ih3, ih4, ih5, ih6, ih7, ih8, ih9⟩ := turnstilelaw17_ReserveSeldom.mono_l k
    refine ⟨?_, ?_, ?_, ?_, ?_, ?_, ?_, ?_, ?_, ?_⟩
    · intro y0 y1 y2 y3 y4 y5 y6 y7 y8 y9 y10 y11
      unfold turnstilelaw17_ReserveSeldom.j0
      repeat' first
      | (with_reducible exact ih0 _ _ _ _ _ _ _ _ _ _ _ _)
      | (with_reducible exact ih1 _ _ _ _ _ _ _ _ _ _ _ _)
      | (with_reducible exact ih2 _ _ _ _ _ _ _ _ _ _ _ _ _ _ _ _ _ _)
      | (with_reducible exact ih3 _ _ _ _ _ _ _ _ _ _ _ _ _ _ _ _ _ _ _)
      | (with_reducible exact ih4 _ _ _ _ _ _ _ _ _ _ _ _ _ _ _ _ _ _ _)
      | (with_reducible exact ih5 _ _ _ _ _ _ _ _ _ _ _ _ _ _ _ _ _ _ _ _)
      | (with_reducible exact ih6 _ _ _ _ _ _ _ _ _ _ _ _ _ _ _ _ _ _ _ _)
      | (with_reducible exact ih7 _ _ _ _ _ _ _ _ _ _ _ _ _ _ _ _ _ _ _)
      | (with_reducible exact ih8 _ _ _ _ _ _ _ _ _ _ _ _ _ _ _ _ _ _ _ _ _ _ _ _ _ _ _ _ _)
      | (with_reducible exact ih9 _ _ _ _ _ _ _ _ _ _ _ _ _ _ _ _ _ _ _ _ _ _ _ _ _ _)
      | (with_reducible exact reserve_Choose.mono _ _ _ _ _ _ _ _ _ _ _ _ _ _ _ _ _ _ _)
      | (with_reducible exact turnstilelaw17_awake.mono _)
      | (with_reducible exact LeO.refl _)
      | (with_reducible exact LeO.none _)
      | (with_reducible refine LeO.ite ?_ ?_)
      | (with_reducible refine LeO.bind ?_ (fun _ => ?_))
      | exact ih0 _ _ _ _ _ _ _ _ _ _ _ _
      | exact ih1 _ _ _ _ _ _ _ _ _ _ _ _
      | exact ih2 _ _ _ _ _ _ _ _ _ _ _ _ _ _ _ _ _ _
      | exact ih3 _ _ _ _ _ _ _ _ _ _ _ _ _ _ _ _ _ _ _
      | exact ih4 _ _ _ _ _ _ _ _ _ _ _ _ _ _ _ _ _ _ _
      | exact ih5 _ _ _ _ _ _ _ _ _ _ _ _ _ _ _ _ _ _ _ _
      | exact ih6 _ _ _ _ _ _ _ _ _ _ _ _ _ _ _ _ _ _ _ _
      | exact ih7 _ _ _ _ _ _ _ _ _ _ _ _ _ _ _ _ _ _ _
      | exact ih8 _ _ _ _ _ _ _ _ _ _ _ _ _ _ _ _ _ _ _ _ _ _ _ _ _ _ _ _ _
      | exact ih9 _ _ _ _ _ _ _ _ _ _ _ _ _ _ _ _ _ _ _ _ _ _ _ _ _ _
      | exact reserve_Choose.mono _ _ _ _ _ _ _ _ _ _ _ _ _ _ _ _ _ _ _
      | exact turnstilelaw17_awake.mono _
      | exact LeO.none _
      | refine LeO.ite ?_ ?_
      | refine LeO.bind ?_ (fun _ => ?_)
    · intro y0 y1 y2 y3 y4 y5 y6 y7 y8 y9 y10 y11
      unfold turnstilelaw17_ReserveSeldom.j1
      repeat' first
      | (with_reducible exact ih0 _ _ _ _ _ _ _ _ _ _ _ _)
      | (with_reducible exact ih1 _ _ _ _ _ _ _ _ _ _ _ _)
      | (with_reducible exact ih2 _ _ _ _ _ _ _ _ _ _ _ _ _ _ _ _ _ _)
      | (with_reducible exact ih3 _ _ _ _ _ _ _ _ _ _ _ _ _ _ _ _ _ _ _)
      | (with_reducible exact ih4 _ _ _ _ _ _ _ _ _ _ _ _ _ _ _ _ _ _ _)
      | (with_reducible exact ih5 _ _ _ _ _ _ _ _ _ _ _ _ _ _ _ _ _ _ _ _)
      | (with_reducible exact ih6 _ _ _ _ _ _ _ _ _ _ _ _ _ _ _ _ _ _ _ _)
      | (with_reducible exact ih7 _ _ _ _ _ _ _ _ _ _ _ _ _ _ _ _ _ _ _)
      | (with_reducible exact ih8 _ _ _ _ _ _ _ _ _ _ _ _ _ _ _ _ _ _ _ _ _ _ _ _ _ _ _ _ _)
      | (with_reducible exact ih9 _ _ _ _ _ _ _ _ _ _ _ _ _ _ _ _ _ _ _ _ _ _ _ _ _ _)
      | (with_reducible exact reserve_Choose.mono _ _ _ _ _ _ _ _ _ _ _ _ _ _ _ _ _ _ _)
      | (with_reducible exact turnstilelaw17_awake.mono _)
      | (with_reducible exact LeO.refl _)
      | (with_reducible exact LeO.none _)
      | (with_reducible refine LeO.ite ?_ ?_)
      | (with_reducible refine LeO.bind ?_ (fun _ => ?_))
      | exact ih0 _ _ _ _ _ _ _ _ _ _ _ _
      | exact ih1 _ _ _ _ _ _ _ _ _ _ _ _
      | exact ih2 _ _ _ _ _ _ _ _ _ _ _ _ _ _ _ _ _ _
      | exact ih3 _ _ _ _ _ _ _ _ _ _ _ _ _ _ _ _ _ _ _
      | exact ih4 _ _ _ _ _ _ _ _ _ _ _ _ _ _ _ _ _ _ _
      | exact ih5 _ _ _ _ _ _ _ _ _ _ _ _ _ _ _ _ _ _ _ _
      | exact ih6 _ _ _ _ _ _ _ _ _ _ _ _ _ _ _ _ _ _ _ _
      | exact ih7 _ _ _ _ _ _ _ _ _ _ _ _ _ _ _ _ _ _ _
      | exact ih8 _ _ _ _ _ _ _ _ _ _ _ _ _ _ _ _ _ _ _ _ _ _ _ _ _ _ _ _ _
      | exact ih9 _ _ _ _ _ _ _ _ _ _ _ _ _ _ _ _ _ _ _ _ _ _ _ _ _ _
      | exact reserve_Choose.mono _ _ _ _ _ _ _ _ _ _ _ _ _ _ _ _ _ _ _
      | exact turnstilelaw17_awake.mono _
      | exact LeO.none _
      | refine LeO.ite ?_ ?_
      | refine LeO.bind ?_ (fun _ => ?_)
    · intro y0 y1 y2 y3 y4 y5 y6 y7 y8 y9 y10 y11 y12 y13 y14 y15 y16 y17
      unfold turnstilelaw17_ReserveSeldom.j2
      repeat' first
      | (with_reducible exact ih0 _ _ _ _ _ _ _ _ _ _ _ _)
      | (with_reducible exact ih1 _ _ _ _ _ _ _ _ _ _ _ _)
      | (with_reducible exact ih2 _ _ _ _ _ _ _ _ _ _ _ _ _ _ _ _ _ _)
      | (with_reducible exact ih3 _ _ _ _ _ _ _ _ _ _ _ _ _ _ _ _ _ _ _)
      | (with_reducible exact ih4 _ _ _ _ _ _ _ _ _ _ _ _ _ _ _ _ _ _ _)
      | (with_reducible exact ih5 _ _ _ _ _ _ _ _ _ _ _ _ _ _ _ _ _ _ _ _)
      | (with_reducible exact ih6 _ _ _ _ _ _ _ _ _ _ _ _ _ _ _ _ _ _ _ _)
      | (with_reducible exact ih7 _ _ _ _ _ _ _ _ _ _ _ _ _ _ _ _ _ _ _)
      | (with_reducible exact ih8 _ _ _ _ _ _ _ _ _ _ _ _ _ _ _ _ _ _ _ _ _ _ _ _ _ _ _ _ _)
      | (with_reducible exact ih9 _ _ _ _ _ _ _ _ _ _ _ _ _ _ _ _ _ _ _ _ _ _ _ _ _ _)
      | (with_reducible exact reserve_Choose.mono _ _ _ _ _ _ _ _ _ _ _ _ _ _ _ _ _ _ _)
      | (with_reducible exact turnstilelaw17_awake.mono _)
      | (with_reducible exact LeO.refl _)
      | (with_reducible exact LeO.none _)
      | (with_reducible refine LeO.ite ?_ ?_)
      | (with_reducible refine LeO.bind ?_ (fun _ => ?_))
      | exact ih0 _ _ _ _ _ _ _ _ _ _ _ _
      | exact ih1 _ _ _ _ _ _ _ _ _ _ _ _
      | exact ih2 _ _ _ _ _ _ _ _ _ _ _ _ _ _ _ _ _ _
      | exact ih3 _ _ _ _ _ _ _ _ _ _ _ _ _ _ _ _ _ _ _
      | exact ih4 _ _ _ _ _ _ _ _ _ _ _ _ _ _ _ _ _ _ _
      | exact ih5 _ _ _ _ _ _ _ _ _ _ _ _ _ _ _ _ _ _ _ _
      | exact ih6 _ _ _ _ _ _ _ _ _ _ _ _ _ _ _ _ _ _ _ _
      | exact ih7 _ _ _ _ _ _ _ _ _ _ _ _ _ _ _ _ _ _ _
      | exact ih8 _ _ _ _ _ _ _ _ _ _ _ _ _ _ _ _ _ _ _ _ _ _ _ _ _ _ _ _ _
      | exact ih9 _ _ _ _ _ _ _ _ _ _ _ _ _ _ _ _ _ _ _ _ _ _ _ _ _ _
      | exact reserve_Choose.mono _ _ _ _ _ _ _ _ _ _ _ _ _ _ _ _ _ _ _
      | exact turnstilelaw17_awake.mono _
      | exact LeO.none _
      | refine LeO.ite ?_ ?_
      | refine LeO.bind ?_ (fun _ => ?_)
    · intro y0 y1 y2 y3 y4 y5 y6 y7 y8 y9 y10 y11 y12 y13 y14 y15 y16 y17 y18
      unfold turnstilelaw17_ReserveSeldom.j3
      repeat' first
      | (with_reducible exact ih0 _ _ _ _ _ _ _ _ _ _ _ _)
      | (with_reducible exact ih1 _ _ _ _ _ _ _ _ _ _ _ _)
      | (with_reducible exact ih2 _ _ _ _ _ _ _ _ _ _ _ _ _ _ _ _ _ _)
      | (with_reducible exact ih3 _ _ _ _ _ _ _ _ _ _ _ _ _ _ _ _ _ _ _)
      | (with_reducible exact ih4 _ _ _ _ _ _ _ _ _ _ _ _ _ _ _ _ _ _ _)
      | (with_reducible exact ih5 _ _ _ _ _ _ _ _ _ _ _ _ _ _ _ _ _ _ _ _)
      | (with_reducible exact ih6 _ _ _ _ _ _ _ _ _ _ _ _ _ _ _ _ _ _ _ _)
      | (with_reducible exact ih7 _ _ _ _ _ _ _ _ _ _ _ _ _ _ _ _ _ _ _)
      | (with_reducible exact ih8 _ _ _ _ _ _ _ _ _ _ _ _ _ _ _ _ _ _ _ _ _ _ _ _ _ _ _ _ _)
      | (with_reducible exact ih9 _ _ _ _ _ _ _ _ _ _ _ _ _ _ _ _ _ _ _ _ _ _ _ _ _ _)
      | (with_reducible exact reserve_Choose.mono _ _ _ _ _ _ _ _ _ _ _ _ _ _ _ _ _ _ _)
      | (with_reducible exact turnstilelaw17_awake.mono _)
      | (with_reducible exact LeO.refl _)
      | (with_reducible exact LeO.none _)
      | (with_reducible refine LeO.ite ?_ ?_)
      | (with_reducible refine LeO.bind ?_ (fun _ => ?_))
      | exact ih0 _ _ _ _ _ _ _ _ _ _ _ _
      | exact ih1 _ _ _ _ _ _ _ _ _ _ _ _
      | exact ih2 _ _ _ _ _ _ _ _ _ _ _ _ _ _ _ _ _ _
      | exact ih3 _ _ _ _ _ _ _ _ _ _ _ _ _ _ _ _ _ _ _
      | exact ih4 _ _ _ _ _ _ _ _ _ _ _ _ _ _ _ _ _ _ _
      | exact ih5 _ _ _ _ _ _ _ _ _ _ _ _ _ _ _ _ _ _ _ _
      | exact ih6 _ _ _ _ _ _ _ _ _ _ _ _ _ _ _ _ _ _ _ _
      | exact ih7 _ _ _ _ _ _ _ _ _ _ _ _ _ _ _ _ _ _ _
      | exact ih8 _ _ _ _ _ _ _ _ _ _ _ _ _ _ _ _ _ _ _ _ _ _ _ _ _ _ _ _ _
      | exact ih9 _ _ _ _ _ _ _ _ _ _ _ _ _ _ _ _ _ _ _ _ _ _ _ _ _ _
      | exact reserve_Choose.mono _ _ _ _ _ _ _ _ _ _ _ _ _ _ _ _ _ _ _
      | exact turnstilelaw17_awake.mono _
      | exact LeO.none _
      | refine LeO.ite ?_ ?_
      | refine LeO.bind ?_ (fun _ => ?_)
    · intro y0 y1 y2 y3 y4 y5 y6 y7 y8 y9 y10 y11 y12 y13 y14 y15 y16 y17 y18
      unfold turnstilelaw17_ReserveSeldom.l0
      repeat' first
      | (with_reducible exact ih0 _ _ _ _ _ _ _ _ _ _ _ _)
      | (with_reducible exact ih1 _ _ _ _ _ _ _ _ _ _ _ _)
      | (with_reducible exact ih2 _ _ _ _ _ _ _ _ _ _ _ _ _ _ _ _ _ _)
      | (with_reducible exact ih3 _ _ _ _ _ _ _ _ _ _ _ _ _ _ _ _ _ _ _)
      | (with_reducible exact ih4 _ _ _ _ _ _ _ _ _ _ _ _ _ _ _ _ _ _ _)
      | (with_reducible exact ih5 _ _ _ _ _ _ _ _ _ _ _ _ _ _ _ _ _ _ _ _)
      | (with_reducible exact ih6 _ _ _ _ _ _ _ _ _ _ _ _ _ _ _ _ _ _ _ _)
      | (with_reducible exact ih7 _ _ _ _ _ _ _ _ _ _ _ _ _ _ _ _ _ _ _)
      | (with_reducible exact ih8 _ _ _ _ _ _ _ _ _ _ _ _ _ _ _ _ _ _ _ _ _ _ _ _ _ _ _ _ _)
      | (with_reducible exact ih9 _ _ _ _ _ _ _ _ _ _ _ _ _ _ _ _ _ _ _ _ _ _ _ _ _ _)
      | (with_reducible exact reserve_Choose.mono _ _ _ _ _ _ _ _ _ _ _ _ _ _ _ _ _ _ _)
      | (with_reducible exact turnstilelaw17_awake.mono _)
      | (with_reducible exact LeO.refl _)
      | (with_reducible exact LeO.none _)
      | (with_reducible refine LeO.ite ?_ ?_)
      | (with_reducible refine LeO.bind ?_ (fun _ => ?_))
      | exact ih0 _ _ _ _ _ _ _ _ _ _ _ _
      | exact ih1 _ _ _ _ _ _ _ _ _ _ _ _
      | exact ih2 _ _ _ _ _ _ _ _ _ _ _ _ _ _ _ _ _ _
      | exact ih3 _ _ _ _ _ _ _ _ _ _ _ _ _ _ _ _ _ _ _
      | exact ih4 _ _ _ _ _ _ _ _ _ _ _ _ _ _ _ _ _ _ _
      | exact ih5 _ _ _ _ _ _ _ _ _ _ _ _ _ _ _ _ _ _ _ _
      | exact ih6 _ _ _ _ _ _ _ _ _ _ _ _ _ _ _ _ _ _ _ _
      | exact ih7 _ _ _ _ _ _ _ _ _ _ _ _ _ _ _ _ _ _ _
      | exact ih8 _ _ _ _ _ _ _ _ _ _ _ _ _ _ _ _ _ _ _ _ _ _ _ _ _ _ _ _ _
      | exact ih9 _ _ _ _ _ _ _ _ _ _ _ _ _ _ _ _ _ _ _ _ _ _ _ _ _ _
      | exact reserve_Choose.mono _ _ _ _ _ _ _ _ _ _ _ _ _ _ _ _ _ _ _
      | exact turnstilelaw17_awake.mono _
      | exact LeO.none _
      | refine LeO.ite ?_ ?_
      | refine LeO.bind ?_ (fun _ => ?_)
    · intro y0 y1 y2 y3 y4 y5 y6 y7 y8 y9 y10 y11 y12 y13 y14 y15 y16 y17 y18 y19
      unfold turnstilelaw17_ReserveSeldom.j5
      repeat' first
      | (with_reducible exact ih0 _ _ _ _ _ _ _ _ _ _ _ _)
      | (with_reducible exact ih1 _ _ _ _ _ _ _ _ _ _ _ _)
      | (with_reducible exact ih2 _ _ _ _ _ _ _ _ _ _ _ _ _ _ _ _ _ _)
      | (with_reducible exact ih3 _ _ _ _ _ _ _ _ _ _ _ _ _ _ _ _ _ _ _)
      | (with_reducible exact ih4 _ _ _ _ _ _ _ _ _ _ _ _ _ _ _ _ _ _ _)
      | (with_reducible exact ih5 _ _ _ _ _ _ _ _ _ _ _ _ _ _ _ _ _ _ _ _)
      | (with_reducible exact ih6 _ _ _ _ _ _ _ _ _ _ _ _ _ _ _ _ _ _ _ _)
      | (with_reducible exact ih7 _ _ _ _ _ _ _ _ _ _ _ _ _ _ _ _ _ _ _)
      | (with_reducible exact ih8 _ _ _ _ _ _ _ _ _ _ _ _ _ _ _ _ _ _ _ _ _ _ _ _ _ _ _ _ _)
      | (with_reducible exact ih9 _ _ _ _ _ _ _ _ _ _ _ _ _ _ _ _ _ _ _ _ _ _ _ _ _ _)
      | (with_reducible exact reserve_Choose.mono _ _ _ _ _ _ _ _ _ _ _ _ _ _ _ _ _ _ _)
      | (with_reducible exact turnstilelaw17_awake.mono _)
      | (with_reducible exact LeO.refl _)
      | (with_reducible exact LeO.none _)
      | (with_reducible refine LeO.ite ?_ ?_)
      | (with_reducible refine LeO.bind ?_ (fun _ => ?_))
      | exact ih0 _ _ _ _ _ _ _ _ _ _ _ _
      | exact ih1 _ _ _ _ _ _ _ _ _ _ _ _
      | exact ih2 _ _ _ _ _ _ _ _ _ _ _ _ _ _ _ _ _ _
      | exact ih3 _ _ _ _ _ _ _ _ _ _ _ _ _ _ _ _ _ _ _
      | exact ih4 _ _ _ _ _ _ _ _ _ _ _ _ _ _ _ _ _ _ _
      | exact ih5 _ _ _ _ _ _ _ _ _ _ _ _ _ _ _ _ _ _ _ _
      | exact ih6 _ _ _ _ _ _ _ _ _ _ _ _ _ _ _ _ _ _ _ _
      | exact ih7 _ _ _ _ _ _ _ _ _ _ _ _ _ _ _ _ _ _ _
      | exact ih8 _ _ _ _ _ _ _ _ _ _ _ _ _ _ _ _ _ _ _ _ _ _ _ _ _ _ _ _ _
      | exact ih9 _ _ _ _ _ _ _ _ _ _ _ _ _ _ _ _ _ _ _ _ _ _ _ _ _ _
      | exact reserve_Choose.mono _ _ _ _ _ _ _ _ _ _ _ _ _ _ _ _ _ _ _
      | exact turnstilelaw17_awake.mono _
      | exact LeO.none _
      | refine LeO.ite ?_ ?_
      | refine LeO.bind ?_ (fun _ => ?_)
    · intro y0 y1 y2 y3 y4 y5 y6 y7 y8 y9 y10 y11 y12 y13 y14 y15 y16 y17 y18 y19
      unfold turnstilelaw17_ReserveSeldom.j6
      repeat' first
      | (with_reducible exact ih0 _ _ _ _ _ _ _ _ _ _ _ _)
      | (with_reducible exact ih1 _ _ _ _ _ _ _ _ _ _ _ _)
      | (with_reducible exact ih2 _ _ _ _ _ _ _ _ _ _ _ _ _ _ _ _ _ _)
      | (with_reducible exact ih3 _ _ _ _ _ _ _ _ _ _ _ _ _ _ _ _ _ _ _)
      | (with_reducible exact ih4 _ _ _ _ _ _ _ _ _ _ _ _ _ _ _ _ _ _ _)
      | (with_reducible exact ih5 _ _ _ _ _ _ _ _ _ _ _ _ _ _ _ _ _ _ _ _)
      | (with_reducible exact ih6 _ _ _ _ _ _ _ _ _ _ _ _ _ _ _ _ _ _ _ _)
      | (with_reducible exact ih7 _ _ _ _ _ _ _ _ _ _ _ _ _ _ _ _ _ _ _)
      | (with_reducible exact ih8 _ _ _ _ _ _ _ _ _ _ _ _ _ _ _ _ _ _ _ _ _ _ _ _ _ _ _ _ _)
      | (with_reducible exact ih9 _ _ _ _ _ _ _ _ _ _ _ _ _ _ _ _ _ _ _ _ _ _ _ _ _ _)
      | (with_reducible exact reserve_Choose.mono _ _ _ _ _ _ _ _ _ _ _ _ _ _ _ _ _ _ _)
      | (with_reducible exact turnstilelaw17_awake.mono _)
      | (with_reducible exact LeO.refl _)
      | (with_reducible exact LeO.none _)
      | (with_reducible refine LeO.ite ?_ ?_)
      | (with_reducible refine LeO.bind ?_ (fun _ => ?_))
      | exact ih0 _ _ _ _ _ _ _ _ _ _ _ _
      | exact ih1 _ _ _ _ _ _ _ _ _ _ _ _
      | exact ih2 _ _ _ _ _ _ _ _ _ _ _ _ _ _ _ _ _ _
      | exact ih3 _ _ _ _ _ _ _ _ _ _ _ _ _ _ _ _ _ _ _
      | exact ih4 _ _ _ _ _ _ _ _ _ _ _ _ _ _ _ _ _ _ _
      | exact ih5 _ _ _ _ _ _ _ _ _ _ _ _ _ _ _ _ _ _ _ _
      | exact ih6 _ _ _ _ _ _ _ _ _ _ _ _ _ _ _ _ _ _ _ _
      | exact ih7 _ _ _ _ _ _ _ _ _ _ _ _ _ _ _ _ _ _ _
      | exact ih8 _ _ _ _ _ _ _ _ _ _ _ _ _ _ _ _ _ _ _ _ _ _ _ _ _ _ _ _ _
      | exact ih9 _ _ _ _ _ _ _ _ _ _ _ _ _ _ _ _ _ _ _ _ _ _ _ _ _ _
      | exact reserve_Choose.mono _ _ _ _ _ _ _ _ _ _ _ _ _ _ _ _ _ _ _
      | exact turnstilelaw17_awake.mono _
      | exact LeO.none _
      | refine LeO.ite ?_ ?_
      | refine LeO.bind ?_ (fun _ => ?_)
    · intro y0 y1 y2 y3 y4 y5 y6 y7 y8 y9 y10 y11 y12 y13 y14 y15 y16 y17 y18
      unfold turnstilelaw17_ReserveSeldom.j7
      repeat' first
      | (with_reducible exact ih0 _ _ _ _ _ _ _ _ _ _ _ _)
      | (with_reducible exact ih1 _ _ _ _ _ _ _ _ _ _ _ _)
      | (with_reducible exact ih2 _ _ _ _ _ _ _ _ _ _ _ _ _ _ _ _ _ _)
      | (with_reducible exact ih3 _ _ _ _ _ _ _ _ _ _ _ _ _ _ _ _ _ _ _)
      | (with_reducible exact ih4 _ _ _ _ _ _ _ _ _ _ _ _ _ _ _ _ _ _ _)
      | (with_reducible exact ih5 _ _ _ _ _ _ _ _ _ _ _ _ _ _ _ _ _ _ _ _)
      | (with_reducible exact ih6 _ _ _ _ _ _ _ _ _ _ _ _ _ _ _ _ _ _ _ _)
      | (with_reducible exact ih7 _ _ _ _ _ _ _ _ _ _ _ _ _ _ _ _ _ _ _)
      | (with_reducible exact ih8 _ _ _ _ _ _ _ _ _ _ _ _ _ _ _ _ _ _ _ _ _ _ _ _ _ _ _ _ _)
      | (with_reducible exact ih9 _ _ _ _ _ _ _ _ _ _ _ _ _ _ _ _ _ _ _ _ _ _ _ _ _ _)
      | (with_reducible exact reserve_Choose.mono _ _ _ _ _ _ _ _ _ _ _ _ _ _ _ _ _ _ _)
      | (with_reducible exact turnstilelaw17_awake.mono _)
      | (with_reducible exact LeO.refl _)
      | (with_reducible exact LeO.none _)
      | (with_reducible refine LeO.ite ?_ ?_)
      | (with_reducible refine LeO.bind ?_ (fun _ => ?_))
      | exact ih0 _ _ _ _ _ _ _ _ _ _ _ _
      | exact ih1 _ _ _ _ _ _ _ _ _ _ _ _
      | exact ih2 _ _ _ _ _ _ _ _ _ _ _ _ _ _ _ _ _ _
      | exact ih3 _ _ _ _ _ _ _ _ _ _ _ _ _ _ _ _ _ _ _
      | exact ih4 _ _ _ _ _ _ _ _ _ _ _ _ _ _ _ _ _ _ _
      | exact ih5 _ _ _ _ _ _ _ _ _ _ _ _ _ _ _ _ _ _ _ _
      | exact ih6 _ _ _ _ _ _ _ _ _ _ _ _ _ _ _ _ _ _ _ _
      | exact ih7 _ _ _ _ _ _ _ _ _ _ _ _ _ _ _ _ _ _ _
      | exact ih8 _ _ _ _ _ _ _ _ _ _ _ _ _ _ _ _ _ _ _ _ _ _ _ _ _ _ _ _ _
      | exact ih9 _ _ _ _ _ _ _ _ _ _ _ _ _ _ _ _ _ _ _ _ _ _ _ _ _ _
      | exact reserve_Choose.mono _ _ _ _ _ _ _ _ _ _ _ _ _ _ _ _ _ _ _
      | exact turnstilelaw17_awake.mono _
      | exact LeO.none _
      | refine LeO.ite ?_ ?_
      | refine LeO.bind ?_ (fun _ => ?_)
    · intro y0 y1 y2 y3 y4 y5 y6 y7 y8 y9 y10 y11 y12 y13 y14 y15 y16 y17 y18 y19 y20 y21 y22 y23 y24 y25 y26 y27 y28
      unfold turnstilelaw17_ReserveSeldom.j8
      repeat' first
      | (with_reducible exact ih0 _ _ _ _ _ _ _ _ _ _ _ _)
      | (with_reducible exact ih1 _ _ _ _ _ _ _ _ _ _ _ _)
      | (with_reducible exact ih2 _ _ _ _ _ _ _ _ _ _ _ _ _ _ _ _ _ _)
      | (with_reducible exact ih3 _ _ _ _ _ _ _ _ _ _ _ _ _ _ _ _ _ _ _)
      | (with_reducible exact ih4 _ _ _ _ _ _ _ _ _ _ _ _ _ _ _ _ _ _ _)
      | (with_reducible exact ih5 _ _ _ _ _ _ _ _ _ _ _ _ _ _ _ _ _ _ _ _)
      | (with_reducible exact ih6 _ _ _ _ _ _ _ _ _ _ _ _ _ _ _ _ _ _ _ _)
      | (with_reducible exact ih7 _ _ _ _ _ _ _ _ _ _ _ _ _ _ _ _ _ _ _)
      | (with_reducible exact ih8 _ _ _ _ _ _ _ _ _ _ _ _ _ _ _ _ _ _ _ _ _ _ _ _ _ _ _ _ _)
      | (with_reducible exact ih9 _ _ _ _ _ _ _ _ _ _ _ _ _ _ _ _ _ _ _ _ _ _ _ _ _ _)
      | (with_reducible exact reserve_Choose.mono _ _ _ _ _ _ _ _ _ _ _ _ _ _ _ _ _ _ _)
      | (with_reducible exact turnstilelaw17_awake.mono _)
      | (with_reducible exact LeO.refl _)
      | (with_reducible exact LeO.none _)
      | (with_reducible refine LeO.ite ?_ ?_)
      | (with_reducible refine LeO.bind ?_ (fun _ => ?_))
      | exact ih0 _ _ _ _ _ _ _ _ _ _ _ _
      | exact ih1 _ _ _ _ _ _ _ _ _ _ _ _
      | exact ih2 _ _ _ _ _ _ _ _ _ _ _ _ _ _ _ _ _ _
      | exact ih3 _ _ _ _ _ _ _ _ _ _ _ _ _ _ _ _ _ _ _
      | exact ih4 _ _ _ _ _ _ _ _ _ _ _ _ _ _ _ _ _ _ _
      | exact ih5 _ _ _ _ _ _ _ _ _ _ _ _ _ _ _ _ _ _ _ _
      | exact ih6 _ _ _ _ _ _ _ _ _ _ _ _ _ _ _ _ _ _ _ _
      | exact ih7 _ _ _ _ _ _ _ _ _ _ _ _ _ _ _ _ _ _ _
      | exact ih8 _ _ _ _ _ _ _ _ _ _ _ _ _ _ _ _ _ _ _ _ _ _ _ _ _ _ _ _ _
      | exact ih9 _ _ _ _ _ _ _ _ _ _ _ _ _ _ _ _ _ _ _ _ _ _ _ _ _ _
      | exact reserve_Choose.mono _ _ _ _ _ _ _ _ _ _ _ _ _ _ _ _ _ _ _
      | exact turnstilelaw17_awake.mono _
      | exact LeO.none _
      | refine LeO.ite ?_ ?_
      | refine LeO.bind ?_ (fun _ => ?_)
    · intro y0 y1 y2 y3 y4 y5 y6 y7 y8 y9 y10 y11 y12 y13 y14 y15 y16 y17 y18 y19 y20 y21 y22 y23 y24 y25
      unfold turnstilelaw17_ReserveSeldom.j9
      repeat' first
      | (with_reducible exact ih0 _ _ _ _ _ _ _ _ _ _ _ _)
      | (with_reducible exact ih1 _ _ _ _ _ _ _ _ _ _ _ _)
      | (with_reducible exact ih2 _ _ _ _ _ _ _ _ _ _ _ _ _ _ _ _ _ _)
      | (with_reducible exact ih3 _ _ _ _ _ _ _ _ _ _ _ _ _ _ _ _ _ _ _)
      | (with_reducible exact ih4 _ _ _ _ _ _ _ _ _ _ _ _ _ _ _ _ _ _ _)
      | (with_reducible exact ih5 _ _ _ _ _ _ _ _ _ _ _ _ _ _ _ _ _ _ _ _)
      | (with_reducible exact ih6 _ _ _ _ _ _ _ _ _ _ _ _ _ _ _ _ _ _ _ _)
      | (with_reducible exact ih7 _ _ _ _ _ _ _ _ _ _ _ _ _ _ _ _ _ _ _)
      | (with_reducible exact ih8 _ _ _ _ _ _ _ _ _ _ _ _ _ _ _ _ _ _ _ _ _ _ _ _ _ _ _ _ _)
      | (with_reducible exact ih9 _ _ _ _ _ _ _ _ _ _ _ _ _ _ _ _ _ _ _ _ _ _ _ _ _ _)
      | (with_reducible exact reserve_Choose.mono _ _ _ _ _ _ _ _ _ _ _ _ _ _ _ _ _ _ _)
      | (with_reducible exact turnstilelaw17_awake.mono _)
      | (with_reducible exact LeO.refl _)
      | (with_reducible exact LeO.none _)
      | (with_reducible refine LeO.ite ?_ ?_)
      | (with_reducible refine LeO.bind ?_ (fun _ => ?_))
      | exact ih0 _ _ _ _ _ _ _ _ _ _ _ _
      | exact ih1 _ _ _ _ _ _ _ _ _ _ _ _
      | exact ih2 _ _ _ _ _ _ _ _ _ _ _ _ _ _ _ _ _ _
      | exact ih3 _ _ _ _ _ _ _ _ _ _ _ _ _ _ _ _ _ _ _
      | exact ih4 _ _ _ _ _ _ _ _ _ _ _ _ _ _ _ _ _ _ _
      | exact ih5 _ _ _ _ _ _ _ _ _ _ _ _ _ _ _ _ _ _ _ _
      | exact ih6 _ _ _ _ _ _ _ _ _ _ _ _ _ _ _ _ _ _ _ _
      | exact ih7 _ _ _ _ _ _ _ _ _ _ _ _ _ _ _ _ _ _ _
      | exact ih8 _ _ _ _ _ _ _ _ _ _ _ _ _ _ _ _ _ _ _ _ _ _ _ _ _ _ _ _ _
      | exact ih9 _ _ _ _ _ _ _ _ _ _ _ _ _ _ _ _ _ _ _ _ _ _ _ _ _ _
      | exact reserve_Choose.mono _ _ _ _ _ _ _ _ _ _ _ _ _ _ _ _ _ _ _
      | exact turnstilelaw17_awake.mono _
      | exact LeO.none _
      | refine LeO.ite ?_ ?_
      | refine LeO.bind ?_ (fun _ => ?_)
theorem turnstilelaw17_ReserveSeldom.mono : ∀ a0 a1 a2 a3 a4 a5 a6 a7 a8 a9 a10 k, LeO (turnstilelaw17_ReserveSeldom.f k a0 a1 a2 a3 a4 a5 a6 a7 a8 a9 a10) (turnstilelaw17_ReserveSeldom.f (k + 1) a0 a1 a2 a3 a4 a5 a6 a7 a8 a9 a10) := by
  intro a0 a1 a2 a3 a4 a5 a6 a7 a8 a9 a10 k
  obtain ⟨ih0, ih1, ih2, ih3, ih4, ih5, ih6, ih7, ih8, ih9⟩ := turnstilelaw17_ReserveSeldom.mono_l k
  unfold turnstilelaw17_ReserveSeldom.f
  repeat' first
      | (with_reducible exact ih0 _ _ _ _ _ _ _ _ _ _ _ _)
      | (with_reducible exact ih1 _ _ _ _ _ _ _ _ _ _ _ _)
      | (with_reducible exact ih2 _ _ _ _ _ _ _ _ _ _ _ _ _ _ _ _ _ _)
      | (with_reducible exact ih3 _ _ _ _ _ _ _ _ _ _ _ _ _ _ _ _ _ _ _)
      | (with_reducible exact ih4 _ _ _ _ _ _ _ _ _ _ _ _ _ _ _ _ _ _ _)
      | (with_reducible exact ih5 _ _ _ _ _ _ _ _ _ _ _ _ _ _ _ _ _ _ _ _)
      | (with_reducible exact ih6 _ _ _ _ _ _ _ _ _ _ _ _ _ _ _ _ _ _ _ _)
      | (with_reducible exact ih7 _ _ _ _ _ _ _ _ _ _ _ _ _ _ _ _ _ _ _)
      | (with_reducible exact ih8 _ _ _ _ _ _ _ _ _ _ _ _ _ _ _ _ _ _ _ _ _ _ _ _ _ _ _ _ _)
      | (with_reducible exact ih9 _ _ _ _ _ _ _ _ _ _ _ _ _ _ _ _ _ _ _ _ _ _ _ _ _ _)
      | (with_reducible exact reserve_Choose.mono _ _ _ _ _ _ _ _ _ _ _ _ _ _ _ _ _ _ _)
      | (with_reducible exact turnstilelaw17_awake.mono _)
      | (with_reducible exact LeO.refl _)
      | (with_reducible exact LeO.none _)
      | (with_reducible refine LeO.ite ?_ ?_)
      | (with_reducible refine LeO.bind ?_ (fun _ => ?_))
      | exact ih0 _ _ _ _ _ _ _ _ _ _ _ _
      | exact ih1 _ _ _ _ _ _ _ _ _ _ _ _
      | exact ih2 _ _ _ _ _ _ _ _ _ _ _ _ _ _ _ _ _ _
      | exact ih3 _ _ _ _ _ _ _ _ _ _ _ _ _ _ _ _ _ _ _
      | exact ih4 _ _ _ _ _ _ _ _ _ _ _ _ _ _ _ _ _ _ _
      | exact ih5 _ _ _ _ _ _ _ _ _ _ _ _ _ _ _ _ _ _ _ _
      | exact ih6 _ _ _ _ _ _ _ _ _ _ _ _ _ _ _ _ _ _ _ _
      | exact ih7 _ _ _ _ _ _ _ _ _ _ _ _ _ _ _ _ _ _ _
      | exact ih8 _ _ _ _ _ _ _ _ _ _ _ _ _ _ _ _ _ _ _ _ _ _ _ _ _ _ _ _ _
      | exact ih9 _ _ _ _ _ _ _ _ _ _ _ _ _ _ _ _ _ _ _ _ _ _ _ _ _ _
      | exact reserve_Choose.mono _ _ _ _ _ _ _ _ _ _ _ _ _ _ _ _ _ _ _
      | exact turnstilelaw17_awake.mono _
      | exact LeO.none _
      | refine LeO.ite ?_ ?_
      | refine LeO.bind ?_ (fun _ => ?_)
def turnstilelaw17_ReserveSeldom.T12 : Bool × List (List Nat × List Nat) := (true, [([], []), ([], []), ([], []), ([], []), ([], []), ([], []), ([4, 5], [4, 5]), ([6], [6]), ([7], [7]), ([], []), ([], []), ([9, 10], [9, 10]), ([11], [11]), ([12], [12]), ([0, 1, 2, 3, 8, 13], [0, 1, 2, 3, 8, 13]), ([], []), ([15, 14, 14, 0, 1, 2, 3, 4, 5, 6, 7, 8, 9, 10, 11, 12, 13, 14, 15], [14, 15])])
def turnstilelaw17_ReserveSeldom.B12 : List Nat := [0, 0, 0, 0, 0, 0, 48, 112, 240, 0, 0, 1536, 3584, 7680, 16383, 0, 65535]
theorem turnstilelaw17_ReserveSeldom.tab12 : rtab .any (opsOf Try.f11 12) = turnstilelaw17_ReserveSeldom.T12 := by kernel_rfl
theorem turnstilelaw17_ReserveSeldom.bits12 : waitsOk turnstilelaw17_ReserveSeldom.T12.2 turnstilelaw17_ReserveSeldom.B12 = true := by kernel_rfl
set_option maxHeartbeats 8000000 in
set_option maxRecDepth 100000 in
theorem turnstilelaw17_ReserveSeldom.calls (k : Nat) (a0_0 : Int) (a0_1 : Int) (a0_2 : Int) (a0_3 : Int) (a0_4 : Int) (a1_0 : Int) (a1_1 : Int) (a1_2 : Int) (a1_3 : Int) (a1_4 : Int) (A2 : Option Addr) (c2 : Nat) (l2 : List (S64)) (r : Bool) (w : World) (hr2 : Kd.C k64 w A2 l2.length l2) (hc2 : l2.length ≤ c2) (h : turnstilelaw17_ReserveSeldom.f k a0_0 a0_1 a0_2 a0_3 a0_4 a1_0 a1_1 a1_2 a1_3 a1_4 l2 = some r) :
    Calls Try.prog 11 #[.agg #[.int .u64 a0_0, .int .u64 a0_1, .int .i64 a0_2, .int .i64 a0_3, .int .i64 a0_4], .agg #[.int .i64 a1_0, .int .u64 a1_1, .int .u64 a1_2, .int .u64 a1_3, .int .u64 a1_4], .slice A2 l2.length c2] w fun e w' => e = .returned (.bool r) ∧ Below w.heap.size w w' := by
  have hu53 := Try.underlying53
  have hu27 := Try.underlying27
  have hu29 := Try.underlying29
  have hu58 := Try.underlying58
  have HR2 := Aside0.mk hr2
  have HC2 := Aside0.mk hc2
  clear hr2 hc2
  have HB := Aside0.mk (Below.refl w.heap.size w)
  have H : ((turnstilelaw17_awake.f k).bind fun t736 => (turnstilelaw17_ReserveSeldom.j0 k l2 t736 a0_0 a0_1 a0_2 a0_3 a0_4 a1_0 a1_1 a1_2 a1_3 a1_4)) = some r := h
  clear h
  have HC4 := Aside0.mk H
  clear H
  go_enter Try.func11, Try.ntmps11
  go_upto_region 1 with (first | ((with_reducible refine gate_dst (N := 3) rfl ?_); refine bx 3 #[.int .u64 a0_0, .int .u64 a0_1, .int .i64 a0_2, .int .i64 a0_3, .int .i64 a0_4] 53 ?_; intro gb734 hg w5 hbox hb; have n0_ := bs HB hb; have n1_ := Aside0.mk (hbox); have n2_ := sz HB hg; have n3_ := sz HB hg; clear HB; have HB := n0_; have BK734 := n1_; have GW734 := n2_; have GE734 := n3_; clear n0_ n1_ n2_ n3_; clear hb hbox hg) | ((with_reducible refine gate_dst (N := 4) rfl ?_); refine bx 4 #[.int .i64 a1_0, .int .u64 a1_1, .int .u64 a1_2, .int .u64 a1_3, .int .u64 a1_4] 27 ?_; intro gb735 hg w6 hbox hb; have n0_ := bb BK734 hb; have n1_ := bs HB hb; have n2_ := Aside0.mk (hbox); have n3_ := sz HB hg; have n4_ := sz HB hg; have n5_ := nl BK734 hg; have n6_ := nr BK734 hg; clear BK734; clear HB; have BK734 := n0_; have HB := n1_; have BK735 := n2_; have GW735 := n3_; have GE735 := n4_; have NB734_735 := n5_; have NB735_734 := n6_; clear n0_ n1_ n2_ n3_ n4_ n5_ n6_; clear hb hbox hg))
  (try simp only [Act.put, List.setIfInBounds_toArray, List.set_cons_zero, List.set_cons_succ])
  go_cut [7] (fun v7 wc => ∃ (kq : Nat) (x7_3 : Bool), v7 = .bool x7_3 ∧ Aside0 (turnstilelaw17_ReserveSeldom.j0 kq l2 x7_3 a0_0 a0_1 a0_2 a0_3 a0_4 a1_0 a1_1 a1_2 a1_3 a1_4 = some r) ∧ Aside0 (kq ≤ k) ∧ Aside0 (wc.heap[gb734]? = some (.cells #[.int .u64 a0_0, .int .u64 a0_1, .int .i64 a0_2, .int .i64 a0_3, .int .i64 a0_4] 53 (0, 0))) ∧ Aside0 (wc.heap[gb735]? = some (.cells #[.int .i64 a1_0, .int .u64 a1_1, .int .u64 a1_2, .int .u64 a1_3, .int .u64 a1_4] 27 (0, 0))) ∧ Aside0 (Below w.heap.size w wc))
  case first =>
    have H := HC4.out
    clear HC4
    replace H := Option.bind_eq_some_iff.mp H
    obtain ⟨t736, A70, H⟩ := H
    replace H : (turnstilelaw17_ReserveSeldom.j0 k l2 t736 a0_0 a0_1 a0_2 a0_3 a0_4 a1_0 a1_1 a1_2 a1_3 a1_4) = some r := H
    have A7 := Aside0.mk A70
    clear A70
    have H' := Aside0.mk H
    clear H
    go_wp2_with (first | ((with_reducible refine gate_callee (f := 28) rfl ?_); refine gm (some 13) Try.func28 #[] (turnstilelaw17_awake.calls k  t736 _ A7.out) ?_; intro w8 hb; have n0_ := bb BK734 hb; have n1_ := bb BK735 hb; have n2_ := bs HB hb; clear BK734; clear BK735; clear HB; have BK734 := n0_; have BK735 := n1_; have HB := n2_; clear n0_ n1_ n2_; (try clear hb); (try clear hb2); (try clear hk); (try clear hi)))
    go_meet
    case rel => exact ⟨_, (t736), rs, H', ⟨by first | omega | exact Nat.le_refl _⟩, ⟨bk BK734⟩, ⟨bk BK735⟩, ⟨bw HB⟩⟩
  case rest =>
    clear HC4
    try clear c1
    try clear c2
    try clear p2
    obtain ⟨kq, x7_3, rfl, HA, HJ3, BK734, BK735, HB⟩ := hcut
    cases kq with
    | zero => exact absurd HA.out (by simp [turnstilelaw17_ReserveSeldom.j0])
    | succ kj3 =>
      have H := HA.out
      clear HA
      simp only [turnstilelaw17_ReserveSeldom.j0] at H
      have HC9 := Aside0.mk H
      clear H
      go_upto_region 2 with (fail)
      go_cut [15] (fun v15 wc => ∃ (kq : Nat) (x15_8 : Bool), v15 = .bool x15_8 ∧ Aside0 (turnstilelaw17_ReserveSeldom.j1 kq l2 x15_8 a0_0 a0_1 a0_2 a0_3 a0_4 a1_0 a1_1 a1_2 a1_3 a1_4 = some r) ∧ Aside0 (kq ≤ kj3) ∧ Aside0 (wc.heap[gb734]? = some (.cells #[.int .u64 a0_0, .int .u64 a0_1, .int .i64 a0_2, .int .i64 a0_3, .int .i64 a0_4] 53 (0, 0))) ∧ Aside0 (wc.heap[gb735]? = some (.cells #[.int .i64 a1_0, .int .u64 a1_1, .int .u64 a1_2, .int .u64 a1_3, .int .u64 a1_4] 27 (0, 0))) ∧ Aside0 (Below w.heap.size w wc))
      case first =>
        have H := HC9.out
        clear HC9
        have H' := Aside0.mk H
        clear H
        go_wp2
        go_meet
        case rel => exact ⟨_, (!x7_3), rs, H', ⟨by have := HJ3.out; first | omega | exact Nat.le_refl _⟩, ⟨bk BK734⟩, ⟨bk BK735⟩, ⟨bw HB⟩⟩
      case rest =>
        clear HC9
        try clear c1
        try clear c2
        try clear p2
        try clear p2
        obtain ⟨kq, x15_8, rfl, HA, HJ8, BK734, BK735, HB⟩ := hcut
        cases kq with
        | zero => exact absurd HA.out (by simp [turnstilelaw17_ReserveSeldom.j1])
        | succ kj8 =>
          have H := HA.out
          clear HA
          simp only [turnstilelaw17_ReserveSeldom.j1] at H
          by_cases c10 : x15_8 = true
          · subst c10
            have H1 : (some false) = some r := by rw [if_pos rfl] at H; exact H
            clear H
            have H := H1
            clear H1
            obtain rfl := Option.some.inj H
            go_wp2
            go_ret
            exact ⟨re, bw HB⟩
          · replace c10 := Bool.eq_false_iff.mpr c10
            subst c10
            have H1 : ((policy_Valid.f a1_0 a1_1 a1_2 a1_3 a1_4).bind fun t739 => (turnstilelaw17_ReserveSeldom.j2 kj8 l2 t739 a0_0 a0_1 a0_2 a0_3 a0_4 a1_0 a1_1 a1_2 a1_3 a1_4 0 0 0 0 0 0)) = some r := by rw [if_neg (show ¬ (false = true) by decide)] at H; exact H
            clear H
            have H := H1
            clear H1
            have HC11 := Aside0.mk H
            clear H
            go_upto_region 6 with (first | ((with_reducible refine gate_dst (N := 8) rfl ?_); refine bx 8 #[.int .u64 0, .int .u64 0, .int .u64 0] 29 ?_; intro gb737 hg w12 hbox hb; have n0_ := bb BK734 hb; have n1_ := bb BK735 hb; have n2_ := bs HB hb; have n3_ := Aside0.mk (hbox); have n4_ := sz HB hg; have n5_ := sz HB hg; have n6_ := nl BK734 hg; have n7_ := nr BK734 hg; have n8_ := nl BK735 hg; have n9_ := nr BK735 hg; clear BK734; clear BK735; clear HB; have BK734 := n0_; have BK735 := n1_; have HB := n2_; have BK737 := n3_; have GW737 := n4_; have GE737 := n5_; have NB734_737 := n6_; have NB737_734 := n7_; have NB735_737 := n8_; have NB737_735 := n9_; clear n0_ n1_ n2_ n3_ n4_ n5_ n6_ n7_ n8_ n9_; clear hb hbox hg; have hnb13 := NB737_734.out; have hnc13 := NB734_737.out; have hnb14 := NB737_735.out; have hnc14 := NB735_737.out; obtain ⟨hcz15_0, hcz15_1, hcz15_2, hfz15_0, hfz15_1, hfz15_2⟩ := bc3 BK737) | ((with_reducible refine gate_dst (N := 9) rfl ?_); refine bx 9 #[.int .u64 0, .int .u64 0, .int .u64 0] 29 ?_; intro gb738 hg w16 hbox hb; have n0_ := bb BK734 hb; have n1_ := bb BK735 hb; have n2_ := bbp (.cells #[.int .u64 0, .int .u64 0, .int .u64 0] 29 (0, 0)) BK737 hb; have n3_ := bs HB hb; have n4_ := Aside0.mk (hbox); have n5_ := sz HB hg; have n6_ := sz HB hg; have n7_ := nl BK734 hg; have n8_ := nr BK734 hg; have n9_ := nl BK735 hg; have n10_ := nr BK735 hg; have n11_ := nlp (.cells #[.int .u64 0, .int .u64 0, .int .u64 0] 29 (0, 0)) BK737 hg; have n12_ := nrp (.cells #[.int .u64 0, .int .u64 0, .int .u64 0] 29 (0, 0)) BK737 hg; clear BK734; clear BK735; clear BK737; clear HB; have BK734 := n0_; have BK735 := n1_; have BK737 := n2_; have HB := n3_; have BK738 := n4_; have GW738 := n5_; have GE738 := n6_; have NB734_738 := n7_; have NB738_734 := n8_; have NB735_738 := n9_; have NB738_735 := n10_; have NB737_738 := n11_; have NB738_737 := n12_; clear n0_ n1_ n2_ n3_ n4_ n5_ n6_ n7_ n8_ n9_ n10_ n11_ n12_; clear hb hbox hg; have hnb17 := NB738_734.out; have hnc17 := NB734_738.out; have hnb18 := NB738_735.out; have hnc18 := NB735_738.out; have hnb19 := NB738_737.out; have hnc19 := NB737_738.out; obtain ⟨hcz20_0, hcz20_1, hcz20_2, hfz20_0, hfz20_1, hfz20_2⟩ := bc3 BK738))
            (try simp only [Act.put, List.setIfInBounds_toArray, List.set_cons_zero, List.set_cons_succ])
            go_cut [10] (fun v10 wc => ∃ (kq : Nat) (x10_10 : Bool), v10 = .bool x10_10 ∧ Aside0 (turnstilelaw17_ReserveSeldom.j2 kq l2 x10_10 a0_0 a0_1 a0_2 a0_3 a0_4 a1_0 a1_1 a1_2 a1_3 a1_4 0 0 0 0 0 0 = some r) ∧ Aside0 (kq ≤ kj8) ∧ Aside0 (wc.heap[gb734]? = some (.cells #[.int .u64 a0_0, .int .u64 a0_1, .int .i64 a0_2, .int .i64 a0_3, .int .i64 a0_4] 53 (0, 0))) ∧ Aside0 (wc.heap[gb735]? = some (.cells #[.int .i64 a1_0, .int .u64 a1_1, .int .u64 a1_2, .int .u64 a1_3, .int .u64 a1_4] 27 (0, 0))) ∧ Aside0 (wc.heap[gb737]? = some (.cells #[.int .u64 0, .int .u64 0, .int .u64 0] 29 (0, 0))) ∧ Aside0 (wc.heap[gb738]? = some (.cells #[.int .u64 0, .int .u64 0, .int .u64 0] 29 (0, 0))) ∧ Aside0 (Below w.heap.size w wc))
            case first =>
              have H := HC11.out
              clear HC11
              replace H := Option.bind_eq_some_iff.mp H
              obtain ⟨t739, A210, H⟩ := H
              replace H : (turnstilelaw17_ReserveSeldom.j2 kj8 l2 t739 a0_0 a0_1 a0_2 a0_3 a0_4 a1_0 a1_1 a1_2 a1_3 a1_4 0 0 0 0 0 0) = some r := H
              have A21 := Aside0.mk A210
              clear A210
              have H' := Aside0.mk H
              clear H
              have hnb22 := NB735_734.out
              have hnc22 := NB734_735.out
              have hnb23 := NB735_737.out
              have hnc23 := NB737_735.out
              have hnb24 := NB735_738.out
              have hnc24 := NB738_735.out
              obtain ⟨hcz25_0, hcz25_1, hcz25_2, hcz25_3, hcz25_4, hfz25_0, hfz25_1, hfz25_2, hfz25_3, hfz25_4⟩ := bc5 BK735
              go_wp2_with (first | ((with_reducible refine gate_callee (f := 18) rfl ?_); refine gm (some 19) Try.func18 #[.agg #[.int .i64 a1_0, .int .u64 a1_1, .int .u64 a1_2, .int .u64 a1_3, .int .u64 a1_4]] (policy_Valid.calls a1_0 a1_1 a1_2 a1_3 a1_4 t739 _ A21.out) ?_; intro w26 hb; have n0_ := bb BK734 hb; have n1_ := bb BK735 hb; have n2_ := bb BK737 hb; have n3_ := bbp (.cells #[.int .u64 0, .int .u64 0, .int .u64 0] 29 (0, 0)) BK738 hb; have n4_ := bs HB hb; clear BK734; clear BK735; clear BK737; clear BK738; clear HB; have BK734 := n0_; have BK735 := n1_; have BK737 := n2_; have BK738 := n3_; have HB := n4_; clear n0_ n1_ n2_ n3_ n4_; (try clear hb); (try clear hb2); (try clear hk); (try clear hi)))
              go_meet
              case rel => exact ⟨_, (t739), rs, H', ⟨by have := HJ3.out; have := HJ8.out; first | omega | exact Nat.le_refl _⟩, ⟨bk BK734⟩, ⟨bk BK735⟩, ⟨bk BK737⟩, ⟨bk BK738⟩, ⟨bw HB⟩⟩
            case rest =>
              clear HC11
              try clear c1
              try clear c2
              try clear p2
              try clear c10
              try clear c11
              try clear c13
              try clear c14
              try clear c17
              try clear c18
              try clear c19
              try clear c22
              try clear c23
              try clear c24
              try clear hcz15_0
              try clear hcz15_1
              try clear hcz15_2
              try clear hcz20_0
              try clear hcz20_1
              try clear hcz20_2
              try clear hcz25_0
              try clear hcz25_1
              try clear hcz25_2
              try clear hcz25_3
              try clear hcz25_4
              try clear hfz15_0
              try clear hfz15_1
              try clear hfz15_2
              try clear hfz20_0
              try clear hfz20_1
              try clear hfz20_2
              try clear hfz25_0
              try clear hfz25_1
              try clear hfz25_2
              try clear hfz25_3
              try clear hfz25_4
              try clear p2
              obtain ⟨kq, x10_10, rfl, HA, HJ10, BK734, BK735, BK737, BK738, HB⟩ := hcut
              cases kq with
              | zero => exact absurd HA.out (by simp [turnstilelaw17_ReserveSeldom.j2])
              | succ kj10 =>
                have H := HA.out
                clear HA
                simp only [turnstilelaw17_ReserveSeldom.j2] at H
                have HC27 := Aside0.mk H
                clear H
                go_upto_region 7 with (fail)
                go_cut [11] (fun v11 wc => ∃ (kq : Nat) (x11_26 : Int), v11 = .int .i64 x11_26 ∧ Aside0 (turnstilelaw17_ReserveSeldom.j3 kq l2 x10_10 x11_26 a0_0 a0_1 a0_2 a0_3 a0_4 a1_0 a1_1 a1_2 a1_3 a1_4 0 0 0 0 0 0 = some r) ∧ Aside0 (kq ≤ kj10) ∧ Aside0 (wc.heap[gb734]? = some (.cells #[.int .u64 a0_0, .int .u64 a0_1, .int .i64 a0_2, .int .i64 a0_3, .int .i64 a0_4] 53 (0, 0))) ∧ Aside0 (wc.heap[gb735]? = some (.cells #[.int .i64 a1_0, .int .u64 a1_1, .int .u64 a1_2, .int .u64 a1_3, .int .u64 a1_4] 27 (0, 0))) ∧ Aside0 (wc.heap[gb737]? = some (.cells #[.int .u64 0, .int .u64 0, .int .u64 0] 29 (0, 0))) ∧ Aside0 (wc.heap[gb738]? = some (.cells #[.int .u64 0, .int .u64 0, .int .u64 0] 29 (0, 0))) ∧ Aside0 (Below w.heap.size w wc))
                case first =>
                  have H := HC27.out
                  clear HC27
                  have H' := Aside0.mk H
                  clear H
                  go_wp2
                  go_meet
                  case rel => exact ⟨_, (0), rs, H', ⟨by have := HJ3.out; have := HJ8.out; have := HJ10.out; first | omega | exact Nat.le_refl _⟩, ⟨bk BK734⟩, ⟨bk BK735⟩, ⟨bk BK737⟩, ⟨bk BK738⟩, ⟨bw HB⟩⟩
                case rest =>
                  clear HC27
                  try clear c1
                  try clear c2
                  try clear p2
                  try clear c10
                  try clear c11
                  try clear c13
                  try clear c14
                  try clear c17
                  try clear c18
                  try clear c19
                  try clear c22
                  try clear c23
                  try clear c24
                  try clear hcz15_0
                  try clear hcz15_1
                  try clear hcz15_2
                  try clear hcz20_0
                  try clear hcz20_1
                  try clear hcz20_2
                  try clear hcz25_0
                  try clear hcz25_1
                  try clear hcz25_2
                  try clear hcz25_3
                  try clear hcz25_4
                  try clear hfz15_0
                  try clear hfz15_1
                  try clear hfz15_2
                  try clear hfz20_0
                  try clear hfz20_1
                  try clear hfz20_2
                  try clear hfz25_0
                  try clear hfz25_1
                  try clear hfz25_2
                  try clear hfz25_3
                  try clear hfz25_4
                  try clear p2
                  obtain ⟨kq, x11_26, rfl, HA, HJ26, BK734, BK735, BK737, BK738, HB⟩ := hcut
                  cases kq with
                  | zero => exact absurd HA.out (by simp [turnstilelaw17_ReserveSeldom.j3])
                  | succ kj26 =>
                    have H := HA.out
                    clear HA
                    simp only [turnstilelaw17_ReserveSeldom.j3] at H
                    have H' := Aside0.mk H
                    clear H
                    go_wp2
                    go_loopg [11] kj26 (fun kq v11 w' => ∃ (x11_5 : Int) (x738000_5 : Int) (x738001_5 : Int) (x738002_5 : Int) (x739000_5 : Int) (x739001_5 : Int) (x739002_5 : Int), v11 = .int .i64 x11_5 ∧ Aside0 (turnstilelaw17_ReserveSeldom.l0 kq l2 x10_10 x11_5 a0_0 a0_1 a0_2 a0_3 a0_4 a1_0 a1_1 a1_2 a1_3 a1_4 x738000_5 x738001_5 x738002_5 x739000_5 x739001_5 x739002_5 = some r) ∧ Aside0 (kq ≤ kj26) ∧ Aside0 (w'.heap[gb734]? = some (.cells #[.int .u64 a0_0, .int .u64 a0_1, .int .i64 a0_2, .int .i64 a0_3, .int .i64 a0_4] 53 (0, 0))) ∧ Aside0 (w'.heap[gb735]? = some (.cells #[.int .i64 a1_0, .int .u64 a1_1, .int .u64 a1_2, .int .u64 a1_3, .int .u64 a1_4] 27 (0, 0))) ∧ Aside0 (w'.heap[gb737]? = some (.cells #[.int .u64 x738000_5, .int .u64 x738001_5, .int .u64 x738002_5] 29 (0, 0))) ∧ Aside0 (w'.heap[gb738]? = some (.cells #[.int .u64 x739000_5, .int .u64 x739001_5, .int .u64 x739002_5] 29 (0, 0))) ∧ Aside0 (Below w.heap.size w w'))
                    case atStart => exact ⟨(x11_26), (0), (0), (0), (0), (0), (0), rs, H', ⟨Nat.le_refl _⟩, ⟨bk BK734⟩, ⟨bk BK735⟩, ⟨bk BK737⟩, ⟨bk BK738⟩, ⟨bw HB⟩⟩
                    case round =>
                      clear H'
                      try clear c1
                      try clear c2
                      try clear p2
                      try clear c10
                      try clear c11
                      try clear c13
                      try clear c14
                      try clear c17
                      try clear c18
                      try clear c19
                      try clear c22
                      try clear c23
                      try clear c24
                      try clear hcz15_0
                      try clear hcz15_1
                      try clear hcz15_2
                      try clear hcz20_0
                      try clear hcz20_1
                      try clear hcz20_2
                      try clear hcz25_0
                      try clear hcz25_1
                      try clear hcz25_2
                      try clear hcz25_3
                      try clear hcz25_4
                      try clear hfz15_0
                      try clear hfz15_1
                      try clear hfz15_2
                      try clear hfz20_0
                      try clear hfz20_1
                      try clear hfz20_2
                      try clear hfz25_0
                      try clear hfz25_1
                      try clear hfz25_2
                      try clear hfz25_3
                      try clear hfz25_4
                      try clear p2
                      obtain ⟨x11_5, x738000_5, x738001_5, x738002_5, x739000_5, x739001_5, x739002_5, rfl, HA, HK5, BK734, BK735, BK737, BK738, HB⟩ := hrel
                      cases gk with
                      | zero => exact absurd HA.out (by simp [turnstilelaw17_ReserveSeldom.l0])
                      | succ k5 =>
                        have H := HA.out
                        clear HA
                        simp only [turnstilelaw17_ReserveSeldom.l0] at H
                        have HC28 := Aside0.mk H
                        clear H
                        go_upto_region 8 with (fail)
                        go_cut [23] (fun v23 wc => ∃ (kq : Nat) (x23_27 : Bool), v23 = .bool x23_27 ∧ Aside0 (turnstilelaw17_ReserveSeldom.j5 kq l2 x10_10 x11_5 x23_27 a0_0 a0_1 a0_2 a0_3 a0_4 a1_0 a1_1 a1_2 a1_3 a1_4 x738000_5 x738001_5 x738002_5 x739000_5 x739001_5 x739002_5 = some r) ∧ Aside0 (kq ≤ k5) ∧ Aside0 (wc.heap[gb734]? = some (.cells #[.int .u64 a0_0, .int .u64 a0_1, .int .i64 a0_2, .int .i64 a0_3, .int .i64 a0_4] 53 (0, 0))) ∧ Aside0 (wc.heap[gb735]? = some (.cells #[.int .i64 a1_0, .int .u64 a1_1, .int .u64 a1_2, .int .u64 a1_3, .int .u64 a1_4] 27 (0, 0))) ∧ Aside0 (wc.heap[gb737]? = some (.cells #[.int .u64 x738000_5, .int .u64 x738001_5, .int .u64 x738002_5] 29 (0, 0))) ∧ Aside0 (wc.heap[gb738]? = some (.cells #[.int .u64 x739000_5, .int .u64 x739001_5, .int .u64 x739002_5] 29 (0, 0))) ∧ Aside0 (Below w.heap.size w wc))
                        case first =>
                          have H := HC28.out
                          clear HC28
                          have H' := Aside0.mk H
                          clear H
                          go_wp2
                          go_meet
                          case rel => exact ⟨_, (decide (x11_5 < (l2.length : Int))), rs, H', ⟨by have := HJ3.out; have := HJ8.out; have := HJ10.out; have := HJ26.out; have := HK5.out; first | omega | exact Nat.le_refl _⟩, ⟨bk BK734⟩, ⟨bk BK735⟩, ⟨bk BK737⟩, ⟨bk BK738⟩, ⟨bw HB⟩⟩
                        case rest =>
                          clear HC28
                          try clear c1
                          try clear c2
                          try clear p2
                          try clear c10
                          try clear c11
                          try clear c13
                          try clear c14
                          try clear c17
                          try clear c18
                          try clear c19
                          try clear c22
                          try clear c23
                          try clear c24
                          try clear c28
                          try clear hcz15_0
                          try clear hcz15_1
                          try clear hcz15_2
                          try clear hcz20_0
                          try clear hcz20_1
                          try clear hcz20_2
                          try clear hcz25_0
                          try clear hcz25_1
                          try clear hcz25_2
                          try clear hcz25_3
                          try clear hcz25_4
                          try clear hfz15_0
                          try clear hfz15_1
                          try clear hfz15_2
                          try clear hfz20_0
                          try clear hfz20_1
                          try clear hfz20_2
                          try clear hfz25_0
                          try clear hfz25_1
                          try clear hfz25_2
                          try clear hfz25_3
                          try clear hfz25_4
                          try clear p2
                          obtain ⟨kq, x23_27, rfl, HA, HJ27, BK734, BK735, BK737, BK738, HB⟩ := hcut
                          cases kq with
                          | zero => exact absurd HA.out (by simp [turnstilelaw17_ReserveSeldom.j5])
                          | succ kj27 =>
                            have H := HA.out
                            clear HA
                            simp only [turnstilelaw17_ReserveSeldom.j5] at H
                            by_cases c29 : x23_27 = true
                            · subst c29
                              have H1 : (if 0 ≤ x11_5 then (if x11_5 < (l2.length : Int) then (turnstilelaw17_ReserveSeldom.j6 kj27 l2 x10_10 x11_5 ((rd_T64 l2 x11_5).f2) a0_0 a0_1 a0_2 a0_3 a0_4 a1_0 a1_1 a1_2 a1_3 a1_4 x738000_5 x738001_5 x738002_5 x739000_5 x739001_5 x739002_5) else (none)) else (none)) = some r := by rw [if_pos rfl] at H; exact H
                              clear H
                              have H := H1
                              clear H1
                              have HC30 := Aside0.mk H
                              clear H
                              go_upto_region 10 with (fail)
                              go_cut [30] (fun v30 wc => ∃ (kq : Nat) (x30_29 : Bool), v30 = .bool x30_29 ∧ Aside0 (turnstilelaw17_ReserveSeldom.j6 kq l2 x10_10 x11_5 x30_29 a0_0 a0_1 a0_2 a0_3 a0_4 a1_0 a1_1 a1_2 a1_3 a1_4 x738000_5 x738001_5 x738002_5 x739000_5 x739001_5 x739002_5 = some r) ∧ Aside0 (kq ≤ kj27) ∧ Aside0 (wc.heap[gb734]? = some (.cells #[.int .u64 a0_0, .int .u64 a0_1, .int .i64 a0_2, .int .i64 a0_3, .int .i64 a0_4] 53 (0, 0))) ∧ Aside0 (wc.heap[gb735]? = some (.cells #[.int .i64 a1_0, .int .u64 a1_1, .int .u64 a1_2, .int .u64 a1_3, .int .u64 a1_4] 27 (0, 0))) ∧ Aside0 (wc.heap[gb737]? = some (.cells #[.int .u64 x738000_5, .int .u64 x738001_5, .int .u64 x738002_5] 29 (0, 0))) ∧ Aside0 (wc.heap[gb738]? = some (.cells #[.int .u64 x739000_5, .int .u64 x739001_5, .int .u64 x739002_5] 29 (0, 0))) ∧ Aside0 (Below w.heap.size w wc))
                              case first =>
                                have H := HC30.out
                                clear HC30
                                by_cases c31 : 0 ≤ x11_5
                                · rw [if_pos c31] at H
                                  have c31b0 : decide (0 ≤ x11_5) = true := decide_eq_true c31
                                  clear c31
                                  (first | rw [c31b0] | (simp only [i64_w, i32_w]; rw [c31b0]) | skip)
                                  by_cases c32 : x11_5 < (l2.length : Int)
                                  · rw [if_pos c32] at H
                                    have c32b0 : decide (x11_5 < (l2.length : Int)) = true := decide_eq_true c32
                                    clear c32
                                    have H' := Aside0.mk H
                                    clear H
                                    have p740 : 0 ≤ (x11_5 : Int) := of_decide_eq_true (by first | (with_reducible assumption) | assumption)
                                    have q740 : x11_5 < (l2.length : Int) := of_decide_eq_true (by first | (with_reducible assumption) | assumption)
                                    obtain ⟨ad740, e740, hx740_0, hx740_1, hx740_2⟩ := at_T64 HR2.out x11_5 p740 q740
                                    cases e740
                                    replace hx740_0 := (HB.out.cell (World.block_lt_of_cell? w _ hx740_0)).trans hx740_0
                                    replace hx740_1 := (HB.out.cell (World.block_lt_of_cell? w _ hx740_1)).trans hx740_1
                                    replace hx740_2 := (HB.out.cell (World.block_lt_of_cell? w _ hx740_2)).trans hx740_2
                                    replace p740 := eq_true p740
                                    replace q740 := eq_true q740
                                    go_wp2
                                    go_meet
                                    case rel => exact ⟨_, ((rd_T64 l2 x11_5).f2), rs, H', ⟨by have := HJ3.out; have := HJ8.out; have := HJ10.out; have := HJ26.out; have := HK5.out; have := HJ27.out; first | omega | exact Nat.le_refl _⟩, ⟨bk BK734⟩, ⟨bk BK735⟩, ⟨bk BK737⟩, ⟨bk BK738⟩, ⟨bw HB⟩⟩
                                  · rw [if_neg c32] at H
                                    exact absurd H (by simp)
                                · rw [if_neg c31] at H
                                  exact absurd H (by simp)
                              case rest =>
                                clear HC30
                                try clear c1
                                try clear c2
                                try clear p2
                                try clear c3
                                try clear p7
                                try clear q7
                                try clear hx7
                                try clear c10
                                try clear c11
                                try clear c13
                                try clear c14
                                try clear c17
                                try clear c18
                                try clear c19
                                try clear c22
                                try clear c23
                                try clear c24
                                try clear c28
                                try clear c29
                                try clear c31
                                try clear c31b0
                                try clear c32
                                try clear c32b0
                                try clear hcz15_0
                                try clear hcz15_1
                                try clear hcz15_2
                                try clear hcz20_0
                                try clear hcz20_1
                                try clear hcz20_2
                                try clear hcz25_0
                                try clear hcz25_1
                                try clear hcz25_2
                                try clear hcz25_3
                                try clear hcz25_4
                                try clear hfz15_0
                                try clear hfz15_1
                                try clear hfz15_2
                                try clear hfz20_0
                                try clear hfz20_1
                                try clear hfz20_2
                                try clear hfz25_0
                                try clear hfz25_1
                                try clear hfz25_2
                                try clear hfz25_3
                                try clear hfz25_4
                                try clear hx740_0
                                try clear hx740_1
                                try clear hx740_2
                                try clear p2
                                try clear p740
                                try clear q740
                                obtain ⟨kq, x30_29, rfl, HA, HJ29, BK734, BK735, BK737, BK738, HB⟩ := hcut
                                cases kq with
                                | zero => exact absurd HA.out (by simp [turnstilelaw17_ReserveSeldom.j6])
                                | succ kj29 =>
                                  have H := HA.out
                                  clear HA
                                  simp only [turnstilelaw17_ReserveSeldom.j6] at H
                                  have HC33 := Aside0.mk H
                                  clear H
                                  go_upto_if 30 with (fail)
                                  go_cut [] (fun wc => ∃ (kq : Nat) (x738000_32 : Int) (x738001_32 : Int) (x738002_32 : Int), Aside0 (turnstilelaw17_ReserveSeldom.j7 kq l2 x10_10 x11_5 a0_0 a0_1 a0_2 a0_3 a0_4 a1_0 a1_1 a1_2 a1_3 a1_4 x738000_32 x738001_32 x738002_32 x739000_5 x739001_5 x739002_5 = some r) ∧ Aside0 (kq ≤ kj29) ∧ Aside0 (wc.heap[gb734]? = some (.cells #[.int .u64 a0_0, .int .u64 a0_1, .int .i64 a0_2, .int .i64 a0_3, .int .i64 a0_4] 53 (0, 0))) ∧ Aside0 (wc.heap[gb735]? = some (.cells #[.int .i64 a1_0, .int .u64 a1_1, .int .u64 a1_2, .int .u64 a1_3, .int .u64 a1_4] 27 (0, 0))) ∧ Aside0 (wc.heap[gb737]? = some (.cells #[.int .u64 x738000_32, .int .u64 x738001_32, .int .u64 x738002_32] 29 (0, 0))) ∧ Aside0 (wc.heap[gb738]? = some (.cells #[.int .u64 x739000_5, .int .u64 x739001_5, .int .u64 x739002_5] 29 (0, 0))) ∧ Aside0 (Below w.heap.size w wc))
                                  case first =>
                                    have H := HC33.out
                                    clear HC33
                                    by_cases c34 : x30_29 = true
                                    · subst c34
                                      have H1 : (turnstilelaw17_ReserveSeldom.j7 kj29 l2 x10_10 x11_5 a0_0 a0_1 a0_2 a0_3 a0_4 a1_0 a1_1 a1_2 a1_3 a1_4 x739000_5 x739001_5 x739002_5 x739000_5 x739001_5 x739002_5) = some r := by rw [if_pos rfl] at H; exact H
                                      clear H
                                      have H := H1
                                      clear H1
                                      have H' := Aside0.mk H
                                      clear H
                                      have hnb35 := NB738_734.out
                                      have hnc35 := NB734_738.out
                                      have hnb36 := NB738_735.out
                                      have hnc36 := NB735_738.out
                                      have hnb37 := NB738_737.out
                                      have hnc37 := NB737_738.out
                                      obtain ⟨hcz38_0, hcz38_1, hcz38_2, hfz38_0, hfz38_1, hfz38_2⟩ := bc3 BK738
                                      have hnb39 := NB737_734.out
                                      have hnc39 := NB734_737.out
                                      have hnb40 := NB737_735.out
                                      have hnc40 := NB735_737.out
                                      obtain ⟨hcz41_0, hcz41_1, hcz41_2, hfz41_0, hfz41_1, hfz41_2⟩ := bc3 BK737
                                      go_wp2
                                      go_meet
                                      case rel => exact ⟨_, (x739000_5), (x739001_5), (x739002_5), H', ⟨by have := HJ3.out; have := HJ8.out; have := HJ10.out; have := HJ26.out; have := HK5.out; have := HJ27.out; have := HJ29.out; first | omega | exact Nat.le_refl _⟩, ⟨bk BK734⟩, ⟨bk BK735⟩, ⟨bk BK737⟩, ⟨bk BK738⟩, ⟨bw HB⟩⟩
                                    · replace c34 := Bool.eq_false_iff.mpr c34
                                      subst c34
                                      have H1 : (turnstilelaw17_ReserveSeldom.j7 kj29 l2 x10_10 x11_5 a0_0 a0_1 a0_2 a0_3 a0_4 a1_0 a1_1 a1_2 a1_3 a1_4 x738000_5 x738001_5 x738002_5 x739000_5 x739001_5 x739002_5) = some r := by rw [if_neg (show ¬ (false = true) by decide)] at H; exact H
                                      clear H
                                      have H := H1
                                      clear H1
                                      have H' := Aside0.mk H
                                      clear H
                                      go_wp2
                                      go_meet
                                      case rel => exact ⟨_, (x738000_5), (x738001_5), (x738002_5), H', ⟨by have := HJ3.out; have := HJ8.out; have := HJ10.out; have := HJ26.out; have := HK5.out; have := HJ27.out; have := HJ29.out; first | omega | exact Nat.le_refl _⟩, ⟨bk BK734⟩, ⟨bk BK735⟩, ⟨bk BK737⟩, ⟨bk BK738⟩, ⟨bw HB⟩⟩
                                  case rest =>
                                    clear HC33
                                    try clear c1
                                    try clear c2
                                    try clear p2
                                    try clear c3
                                    try clear c4
                                    try clear p7
                                    try clear q7
                                    try clear hx7
                                    try clear c10
                                    try clear c11
                                    try clear c13
                                    try clear c14
                                    try clear c17
                                    try clear c18
                                    try clear c19
                                    try clear c22
                                    try clear c23
                                    try clear c24
                                    try clear c28
                                    try clear c29
                                    try clear c31
                                    try clear c31b0
                                    try clear c32
                                    try clear c32b0
                                    try clear c34
                                    try clear c35
                                    try clear c36
                                    try clear c37
                                    try clear c39
                                    try clear c40
                                    try clear hcz15_0
                                    try clear hcz15_1
                                    try clear hcz15_2
                                    try clear hcz20_0
                                    try clear hcz20_1
                                    try clear hcz20_2
                                    try clear hcz25_0
                                    try clear hcz25_1
                                    try clear hcz25_2
                                    try clear hcz25_3
                                    try clear hcz25_4
                                    try clear hcz38_0
                                    try clear hcz38_1
                                    try clear hcz38_2
                                    try clear hcz41_0
                                    try clear hcz41_1
                                    try clear hcz41_2
                                    try clear hfz15_0
                                    try clear hfz15_1
                                    try clear hfz15_2
                                    try clear hfz20_0
                                    try clear hfz20_1
                                    try clear hfz20_2
                                    try clear hfz25_0
                                    try clear hfz25_1
                                    try clear hfz25_2
                                    try clear hfz25_3
                                    try clear hfz25_4
                                    try clear hfz38_0
                                    try clear hfz38_1
                                    try clear hfz38_2
                                    try clear hfz41_0
                                    try clear hfz41_1
                                    try clear hfz41_2
                                    try clear hx740_0
                                    try clear hx740_1
                                    try clear hx740_2
                                    try clear p2
                                    try clear p7
                                    try clear p740
                                    try clear q7
                                    try clear q740
                                    obtain ⟨kq, x738000_32, x738001_32, x738002_32, HA, HJ32, BK734, BK735, BK737, BK738, HB⟩ := hcut
                                    cases kq with
                                    | zero => exact absurd HA.out (by simp [turnstilelaw17_ReserveSeldom.j7])
                                    | succ kj32 =>
                                      have H := HA.out
                                      clear HA
                                      simp only [turnstilelaw17_ReserveSeldom.j7] at H
                                      by_cases c42 : 0 ≤ x11_5
                                      · rw [if_pos c42] at H
                                        have c42b0 : decide (0 ≤ x11_5) = true := decide_eq_true c42
                                        clear c42
                                        by_cases c43 : x11_5 < (l2.length : Int)
                                        · rw [if_pos c43] at H
                                          have c43b0 : decide (x11_5 < (l2.length : Int)) = true := decide_eq_true c43
                                          clear c43
                                          replace H := Option.bind_eq_some_iff.mp H
                                          obtain ⟨⟨t743, t744, t745, t746, t747, t748, t749, t750, t751⟩, A440, H⟩ := H
                                          replace H : (turnstilelaw17_ReserveSeldom.j8 kj32 l2 x10_10 x11_5 (!x10_10) a0_0 a0_1 a0_2 a0_3 a0_4 a1_0 a1_1 a1_2 a1_3 a1_4 x738000_32 x738001_32 x738002_32 x739000_5 x739001_5 x739002_5 t743 t744 t745 t746 t747 t748 t749 t750 t751) = some r := H
                                          have A44 := Aside0.mk A440
                                          clear A440
                                          have HC45 := Aside0.mk H
                                          clear H
                                          try go_wp2
                                          have n0_ := Aside0.mk (blk_drew BK734.out)
                                          have n1_ := Aside0.mk (blk_drew BK735.out)
                                          have n2_ := Aside0.mk (blk_drew BK737.out)
                                          have n3_ := Aside0.mk (blk_drew BK738.out)
                                          have n4_ := Aside0.mk (below_drew1 HB.out)
                                          clear BK734
                                          clear BK735
                                          clear BK737
                                          clear BK738
                                          clear HB
                                          have BK734 := n0_
                                          have BK735 := n1_
                                          have BK737 := n2_
                                          have BK738 := n3_
                                          have HB := n4_
                                          clear n0_ n1_ n2_ n3_ n4_
                                          have p741 : 0 ≤ (x11_5 : Int) := of_decide_eq_true (by first | (with_reducible assumption) | assumption)
                                          have q741 : x11_5 < (l2.length : Int) := of_decide_eq_true (by first | (with_reducible assumption) | assumption)
                                          obtain ⟨ad741, e741, hx741_0, hx741_1, hx741_2⟩ := at_T64 HR2.out x11_5 p741 q741
                                          have hw741_2 := hx741_2
                                          have hw741_1 := hx741_1
                                          have hw741_0 := hx741_0
                                          cases e741
                                          replace hx741_0 := (HB.out.cell (World.block_lt_of_cell? w _ hx741_0)).trans hx741_0
                                          replace hx741_1 := (HB.out.cell (World.block_lt_of_cell? w _ hx741_1)).trans hx741_1
                                          replace hx741_2 := (HB.out.cell (World.block_lt_of_cell? w _ hx741_2)).trans hx741_2
                                          replace p741 := eq_true p741
                                          replace q741 := eq_true q741
                                          have p742 : 0 ≤ (x11_5 : Int) := of_decide_eq_true (by first | (with_reducible assumption) | assumption)
                                          have q742 : x11_5 < (l2.length : Int) := of_decide_eq_true (by first | (with_reducible assumption) | assumption)
                                          obtain ⟨ad742, e742, hx742_0, hx742_1, hx742_2⟩ := at_T64 HR2.out x11_5 p742 q742
                                          have hw742_2 := hx742_2
                                          have hw742_1 := hx742_1
                                          have hw742_0 := hx742_0
                                          obtain rfl : ad741 = ad742 := (by injection e742)
                                          replace hx742_0 := (HB.out.cell (World.block_lt_of_cell? w _ hx742_0)).trans hx742_0
                                          replace hx742_1 := (HB.out.cell (World.block_lt_of_cell? w _ hx742_1)).trans hx742_1
                                          replace hx742_2 := (HB.out.cell (World.block_lt_of_cell? w _ hx742_2)).trans hx742_2
                                          replace p742 := eq_true p742
                                          replace q742 := eq_true q742
                                          refine start_ (n := 17) (S := fun w' => w'.cell? ⟨gb734, 0, none⟩ = some (.int .u64 a0_0) ∧ w'.cell? ⟨gb734, 1, none⟩ = some (.int .u64 a0_1) ∧ w'.cell? ⟨gb734, 2, none⟩ = some (.int .i64 a0_2) ∧ w'.cell? ⟨gb734, 3, none⟩ = some (.int .i64 a0_3) ∧ w'.cell? ⟨gb734, 4, none⟩ = some (.int .i64 a0_4) ∧ w'.cell? ⟨gb735, 0, none⟩ = some (.int .i64 a1_0) ∧ w'.cell? ⟨gb735, 1, none⟩ = some (.int .u64 a1_1) ∧ w'.cell? ⟨gb735, 2, none⟩ = some (.int .u64 a1_2) ∧ w'.cell? ⟨gb735, 3, none⟩ = some (.int .u64 a1_3) ∧ w'.cell? ⟨gb735, 4, none⟩ = some (.int .u64 a1_4) ∧ w'.cell? ⟨gb737, 0, none⟩ = some (.int .u64 x738000_32) ∧ w'.cell? ⟨gb737, 1, none⟩ = some (.int .u64 x738001_32) ∧ w'.cell? ⟨gb737, 2, none⟩ = some (.int .u64 x738002_32) ∧ w'.cell? ⟨gb738, 0, none⟩ = some (.int .u64 x739000_5) ∧ w'.cell? ⟨gb738, 1, none⟩ = some (.int .u64 x739001_5) ∧ w'.cell? ⟨gb738, 2, none⟩ = some (.int .u64 x739002_5) ∧ w'.cell? (ad741.add ((x11_5).toNat * 3)) = some (.int .u64 ((rd_T64 l2 x11_5).f0)) ∧ w'.cell? ⟨(ad741.add ((x11_5).toNat * 3)).block, (ad741.add ((x11_5).toNat * 3)).off + 1, none⟩ = some (.int .u64 ((rd_T64 l2 x11_5).f1)) ∧ w'.cell? ⟨(ad741.add ((x11_5).toNat * 3)).block, (ad741.add ((x11_5).toNat * 3)).off + 2, none⟩ = some (.bool ((rd_T64 l2 x11_5).f2)) ∧ w'.cell? (ad741.add ((x11_5).toNat * 3)) = some (.int .u64 ((rd_T64 l2 x11_5).f0)) ∧ w'.cell? ⟨(ad741.add ((x11_5).toNat * 3)).block, (ad741.add ((x11_5).toNat * 3)).off + 1, none⟩ = some (.int .u64 ((rd_T64 l2 x11_5).f1)) ∧ w'.cell? ⟨(ad741.add ((x11_5).toNat * 3)).block, (ad741.add ((x11_5).toNat * 3)).off + 2, none⟩ = some (.bool ((rd_T64 l2 x11_5).f2))) (ds := []) #[false, false, false, false, false, false, false, false, false, false, false, false, false, false, false, false, false] (by kernel_rfl) rfl rfl ⟨(blk_cell BK734.out 0).trans rfl, (blk_cell BK734.out 1).trans rfl, (blk_cell BK734.out 2).trans rfl, (blk_cell BK734.out 3).trans rfl, (blk_cell BK734.out 4).trans rfl, (blk_cell BK735.out 0).trans rfl, (blk_cell BK735.out 1).trans rfl, (blk_cell BK735.out 2).trans rfl, (blk_cell BK735.out 3).trans rfl, (blk_cell BK735.out 4).trans rfl, (blk_cell BK737.out 0).trans rfl, (blk_cell BK737.out 1).trans rfl, (blk_cell BK737.out 2).trans rfl, (blk_cell BK738.out 0).trans rfl, (blk_cell BK738.out 1).trans rfl, (blk_cell BK738.out 2).trans rfl, ((HB.out.cell (World.block_lt_of_cell? w _ hw741_0)).trans hw741_0), ((HB.out.cell (World.block_lt_of_cell? w _ hw741_1)).trans hw741_1), ((HB.out.cell (World.block_lt_of_cell? w _ hw741_2)).trans hw741_2), ((HB.out.cell (World.block_lt_of_cell? w _ hw742_0)).trans hw742_0), ((HB.out.cell (World.block_lt_of_cell? w _ hw742_1)).trans hw742_1), ((HB.out.cell (World.block_lt_of_cell? w _ hw742_2)).trans hw742_2)⟩ (fun hHeld => ?_); refine with_tabW turnstilelaw17_ReserveSeldom.tab12 turnstilelaw17_ReserveSeldom.bits12 (fun HT_ HW_ => ?_)
                                          generalize wc.drew = w46 at BK734 BK735 BK737 BK738 HB hx741_0 hx741_1 hx741_2 hx742_0 hx742_1 hx742_2 hHeld ⊢
                                          refine chain_ (fuel := 3) [(4, 0, some 36), (5, 0, some 37), (6, 0, some 38), (7, 0, some 39), (9, 0, some 41), (10, 0, some 42), (11, 0, some 43), (12, 0, some 44), (0, 1, some 32), (1, 1, some 33), (2, 1, some 34), (3, 1, some 35), (8, 1, some 40), (13, 1, some 45)] #[true, true, true, true, true, true, true, true, true, true, true, true, true, true, false, false, false] HT_.out HW_.out (by kernel_rfl) (fun _ _ _ _ _ h => h) (Or.inr hHeld) rfl ?_
                                          (iterate 8 refine lkP ?_); (iterate 6 refine lkT ?_); refine .nil ?_
                                          refine join_ (σ := Nat) 1 #[true, true, true, true, true, true, true, true, true, true, true, true, true, true, true, true, false] (fun s_ => [(46, .agg #[.int .u64 t743, .int .u64 t744, .int .u64 t745, .bool t746, .int .u64 t747, .bool t748, .int .u64 t749, .int .u64 t750, .int .u64 t751]), (12, .pointer (some ⟨s_, 0, none⟩))]) (fun s_ w' => (w'.cell? ⟨gb734, 0, none⟩ = some (.int .u64 a0_0) ∧ w'.cell? ⟨gb734, 1, none⟩ = some (.int .u64 a0_1) ∧ w'.cell? ⟨gb734, 2, none⟩ = some (.int .i64 a0_2) ∧ w'.cell? ⟨gb734, 3, none⟩ = some (.int .i64 a0_3) ∧ w'.cell? ⟨gb734, 4, none⟩ = some (.int .i64 a0_4) ∧ w'.cell? ⟨gb735, 0, none⟩ = some (.int .i64 a1_0) ∧ w'.cell? ⟨gb735, 1, none⟩ = some (.int .u64 a1_1) ∧ w'.cell? ⟨gb735, 2, none⟩ = some (.int .u64 a1_2) ∧ w'.cell? ⟨gb735, 3, none⟩ = some (.int .u64 a1_3) ∧ w'.cell? ⟨gb735, 4, none⟩ = some (.int .u64 a1_4) ∧ w'.cell? ⟨gb737, 0, none⟩ = some (.int .u64 x738000_32) ∧ w'.cell? ⟨gb737, 1, none⟩ = some (.int .u64 x738001_32) ∧ w'.cell? ⟨gb737, 2, none⟩ = some (.int .u64 x738002_32) ∧ w'.cell? ⟨gb738, 0, none⟩ = some (.int .u64 x739000_5) ∧ w'.cell? ⟨gb738, 1, none⟩ = some (.int .u64 x739001_5) ∧ w'.cell? ⟨gb738, 2, none⟩ = some (.int .u64 x739002_5) ∧ w'.cell? (ad741.add ((x11_5).toNat * 3)) = some (.int .u64 ((rd_T64 l2 x11_5).f0)) ∧ w'.cell? ⟨(ad741.add ((x11_5).toNat * 3)).block, (ad741.add ((x11_5).toNat * 3)).off + 1, none⟩ = some (.int .u64 ((rd_T64 l2 x11_5).f1)) ∧ w'.cell? ⟨(ad741.add ((x11_5).toNat * 3)).block, (ad741.add ((x11_5).toNat * 3)).off + 2, none⟩ = some (.bool ((rd_T64 l2 x11_5).f2)) ∧ w'.cell? (ad741.add ((x11_5).toNat * 3)) = some (.int .u64 ((rd_T64 l2 x11_5).f0)) ∧ w'.cell? ⟨(ad741.add ((x11_5).toNat * 3)).block, (ad741.add ((x11_5).toNat * 3)).off + 1, none⟩ = some (.int .u64 ((rd_T64 l2 x11_5).f1)) ∧ w'.cell? ⟨(ad741.add ((x11_5).toNat * 3)).block, (ad741.add ((x11_5).toNat * 3)).off + 2, none⟩ = some (.bool ((rd_T64 l2 x11_5).f2))) ∧ (w'.heap[gb734]? = some (.cells #[.int .u64 a0_0, .int .u64 a0_1, .int .i64 a0_2, .int .i64 a0_3, .int .i64 a0_4] 53 (0, 0))) ∧ (w'.heap[gb735]? = some (.cells #[.int .i64 a1_0, .int .u64 a1_1, .int .u64 a1_2, .int .u64 a1_3, .int .u64 a1_4] 27 (0, 0))) ∧ (w'.heap[gb737]? = some (.cells #[.int .u64 x738000_32, .int .u64 x738001_32, .int .u64 x738002_32] 29 (0, 0))) ∧ (w'.heap[gb738]? = some (.cells #[.int .u64 x739000_5, .int .u64 x739001_5, .int .u64 x739002_5] 29 (0, 0))) ∧ (w'.heap[s_]? = some (.cells #[.int .u64 0, .int .u64 0, .int .u64 0, .bool false, .int .u64 0, .bool false, .int .u64 0, .int .u64 0, .int .u64 0] 58 (0, 0))) ∧ (w.heap.size ≤ s_) ∧ (w.heap.size ≤ s_) ∧ (gb734 ≠ s_) ∧ (s_ ≠ gb734) ∧ (gb735 ≠ s_) ∧ (s_ ≠ gb735) ∧ (gb737 ≠ s_) ∧ (s_ ≠ gb737) ∧ (gb738 ≠ s_) ∧ (s_ ≠ gb738) ∧ (Below w.heap.size w w')) ?_ ?_
                                          rotate_left
                                          · intro hCont
                                            refine two_ (i := 14) (j := 15) (Ni := some 46) (Nj := some 12) #[true, true, true, true, true, true, true, true, true, true, true, true, true, true, true, false, false] #[true, true, true, true, true, true, true, true, true, true, true, true, true, true, false, true, false] rfl rfl rfl rfl (two_of HT_.out (by kernel_rfl)) (by decide) (by decide) (fun K hK => ?_) (fun K hK => ?_)
                                            · skip
                                              refine ge Try.func30 #[.agg #[.int .u64 a0_0, .int .u64 a0_1, .int .i64 a0_2, .int .i64 a0_3, .int .i64 a0_4], .agg #[.int .i64 a1_0, .int .u64 a1_1, .int .u64 a1_2, .int .u64 a1_3, .int .u64 a1_4], .agg #[.int .u64 x738000_32, .int .u64 x738001_32, .int .u64 x738002_32], .agg #[.int .u64 x739000_5, .int .u64 x739001_5, .int .u64 x739002_5], .int .u64 ((rd_T64 l2 x11_5).f0), .int .u64 ((rd_T64 l2 x11_5).f1)] ?_
                                              with_reducible refine (reserve_Choose.calls kj32 a0_0 a0_1 a0_2 a0_3 a0_4 a1_0 a1_1 a1_2 a1_3 a1_4 x738000_32 x738001_32 x738002_32 x739000_5 x739001_5 x739002_5 ((rd_T64 l2 x11_5).f0) ((rd_T64 l2 x11_5).f1) t743 t744 t745 t746 t747 t748 t749 t750 t751 _ A44.out).mono ?_
                                              rintro e w47 ⟨rfl, hb⟩
                                              refine ⟨_, rfl, ?_⟩
                                              have n0_ := bb BK734 hb
                                              have n1_ := bb BK735 hb
                                              have n2_ := bb BK737 hb
                                              have n3_ := bb BK738 hb
                                              have n4_ := bs HB hb
                                              clear BK734
                                              clear BK735
                                              clear BK737
                                              clear BK738
                                              clear HB
                                              have BK734 := n0_
                                              have BK735 := n1_
                                              have BK737 := n2_
                                              have BK738 := n3_
                                              have HB := n4_
                                              clear n0_ n1_ n2_ n3_ n4_
                                              (try clear hb)
                                              (try clear hb2)
                                              (try clear hk)
                                              (try clear hi)
                                              refine hK.out _ _ ⟨(blk_cell BK734.out 0).trans rfl, (blk_cell BK734.out 1).trans rfl, (blk_cell BK734.out 2).trans rfl, (blk_cell BK734.out 3).trans rfl, (blk_cell BK734.out 4).trans rfl, (blk_cell BK735.out 0).trans rfl, (blk_cell BK735.out 1).trans rfl, (blk_cell BK735.out 2).trans rfl, (blk_cell BK735.out 3).trans rfl, (blk_cell BK735.out 4).trans rfl, (blk_cell BK737.out 0).trans rfl, (blk_cell BK737.out 1).trans rfl, (blk_cell BK737.out 2).trans rfl, (blk_cell BK738.out 0).trans rfl, (blk_cell BK738.out 1).trans rfl, (blk_cell BK738.out 2).trans rfl, ((HB.out.cell (World.block_lt_of_cell? w _ hw741_0)).trans hw741_0), ((HB.out.cell (World.block_lt_of_cell? w _ hw741_1)).trans hw741_1), ((HB.out.cell (World.block_lt_of_cell? w _ hw741_2)).trans hw741_2), ((HB.out.cell (World.block_lt_of_cell? w _ hw742_0)).trans hw742_0), ((HB.out.cell (World.block_lt_of_cell? w _ hw742_1)).trans hw742_1), ((HB.out.cell (World.block_lt_of_cell? w _ hw742_2)).trans hw742_2)⟩ (fun hHeld => ?_)
                                              clear hK K
                                              refine norm_ (a' := ?_) ?_ ?_
                                              rotate_left
                                              · show Act.put _ (some 46) _ = _
                                                simp only [Act.put, List.setIfInBounds_toArray, List.set_cons_zero, List.set_cons_succ, i64_w, i32_w]
                                                rfl
                                              refine one_ (i := 15) (N := some 12) #[true, true, true, true, true, true, true, true, true, true, true, true, true, true, true, true, false] rfl rfl (one_of HT_.out (by kernel_rfl)) (by decide) (fun K hK => ?_)
                                              refine box_step ?hg (N := 12) ?hd (cs := #[.int .u64 0, .int .u64 0, .int .u64 0, .bool false, .int .u64 0, .bool false, .int .u64 0, .int .u64 0, .int .u64 0]) (t := 58) ?hr ?_; (case hd => rfl); (case hg => rfl); (case hr => first | (go_simp; done) | (go_simp; rfl))
                                              intro gb752 hg w48 hbox hb
                                              have n0_ := bb BK734 hb
                                              have n1_ := bb BK735 hb
                                              have n2_ := bb BK737 hb
                                              have n3_ := bb BK738 hb
                                              have n4_ := bs HB hb
                                              have n5_ := Aside0.mk (hbox)
                                              have n6_ := sz HB hg
                                              have n7_ := sz HB hg
                                              have n8_ := nl BK734 hg
                                              have n9_ := nr BK734 hg
                                              have n10_ := nl BK735 hg
                                              have n11_ := nr BK735 hg
                                              have n12_ := nl BK737 hg
                                              have n13_ := nr BK737 hg
                                              have n14_ := nl BK738 hg
                                              have n15_ := nr BK738 hg
                                              clear BK734
                                              clear BK735
                                              clear BK737
                                              clear BK738
                                              clear HB
                                              have BK734 := n0_
                                              have BK735 := n1_
                                              have BK737 := n2_
                                              have BK738 := n3_
                                              have HB := n4_
                                              have BK752 := n5_
                                              have GW752 := n6_
                                              have GE752 := n7_
                                              have NB734_752 := n8_
                                              have NB752_734 := n9_
                                              have NB735_752 := n10_
                                              have NB752_735 := n11_
                                              have NB737_752 := n12_
                                              have NB752_737 := n13_
                                              have NB738_752 := n14_
                                              have NB752_738 := n15_
                                              clear n0_ n1_ n2_ n3_ n4_ n5_ n6_ n7_ n8_ n9_ n10_ n11_ n12_ n13_ n14_ n15_
                                              clear hb hbox hg
                                              refine hK.out _ _ ⟨(blk_cell BK734.out 0).trans rfl, (blk_cell BK734.out 1).trans rfl, (blk_cell BK734.out 2).trans rfl, (blk_cell BK734.out 3).trans rfl, (blk_cell BK734.out 4).trans rfl, (blk_cell BK735.out 0).trans rfl, (blk_cell BK735.out 1).trans rfl, (blk_cell BK735.out 2).trans rfl, (blk_cell BK735.out 3).trans rfl, (blk_cell BK735.out 4).trans rfl, (blk_cell BK737.out 0).trans rfl, (blk_cell BK737.out 1).trans rfl, (blk_cell BK737.out 2).trans rfl, (blk_cell BK738.out 0).trans rfl, (blk_cell BK738.out 1).trans rfl, (blk_cell BK738.out 2).trans rfl, ((HB.out.cell (World.block_lt_of_cell? w _ hw741_0)).trans hw741_0), ((HB.out.cell (World.block_lt_of_cell? w _ hw741_1)).trans hw741_1), ((HB.out.cell (World.block_lt_of_cell? w _ hw741_2)).trans hw741_2), ((HB.out.cell (World.block_lt_of_cell? w _ hw742_0)).trans hw742_0), ((HB.out.cell (World.block_lt_of_cell? w _ hw742_1)).trans hw742_1), ((HB.out.cell (World.block_lt_of_cell? w _ hw742_2)).trans hw742_2)⟩ (fun hHeld => ?_)
                                              clear hK K
                                              refine norm_ (a' := ?_) ?_ ?_
                                              rotate_left
                                              · show Act.put _ (some 12) _ = _
                                                simp only [Act.put, List.setIfInBounds_toArray, List.set_cons_zero, List.set_cons_succ, i64_w, i32_w]
                                                rfl
                                              exact norm_ (by simp only [putAll, Act.put, List.setIfInBounds_toArray, List.set_cons_zero, List.set_cons_succ]) (hCont (gb752) _ ⟨hHeld, (bk BK734), (bk BK735), (bk BK737), (bk BK738), (bk BK752), GW752.out, GE752.out, NB734_752.out, NB752_734.out, NB735_752.out, NB752_735.out, NB737_752.out, NB752_737.out, NB738_752.out, NB752_738.out, (bw HB)⟩)
                                            · skip
                                              refine box_step ?hg (N := 12) ?hd (cs := #[.int .u64 0, .int .u64 0, .int .u64 0, .bool false, .int .u64 0, .bool false, .int .u64 0, .int .u64 0, .int .u64 0]) (t := 58) ?hr ?_; (case hd => rfl); (case hg => rfl); (case hr => first | (go_simp; done) | (go_simp; rfl))
                                              intro gb752 hg w47 hbox hb
                                              have n0_ := bb BK734 hb
                                              have n1_ := bb BK735 hb
                                              have n2_ := bb BK737 hb
                                              have n3_ := bb BK738 hb
                                              have n4_ := bs HB hb
                                              have n5_ := Aside0.mk (hbox)
                                              have n6_ := sz HB hg
                                              have n7_ := sz HB hg
                                              have n8_ := nl BK734 hg
                                              have n9_ := nr BK734 hg
                                              have n10_ := nl BK735 hg
                                              have n11_ := nr BK735 hg
                                              have n12_ := nl BK737 hg
                                              have n13_ := nr BK737 hg
                                              have n14_ := nl BK738 hg
                                              have n15_ := nr BK738 hg
                                              clear BK734
                                              clear BK735
                                              clear BK737
                                              clear BK738
                                              clear HB
                                              have BK734 := n0_
                                              have BK735 := n1_
                                              have BK737 := n2_
                                              have BK738 := n3_
                                              have HB := n4_
                                              have BK752 := n5_
                                              have GW752 := n6_
                                              have GE752 := n7_
                                              have NB734_752 := n8_
                                              have NB752_734 := n9_
                                              have NB735_752 := n10_
                                              have NB752_735 := n11_
                                              have NB737_752 := n12_
                                              have NB752_737 := n13_
                                              have NB738_752 := n14_
                                              have NB752_738 := n15_
                                              clear n0_ n1_ n2_ n3_ n4_ n5_ n6_ n7_ n8_ n9_ n10_ n11_ n12_ n13_ n14_ n15_
                                              clear hb hbox hg
                                              refine hK.out _ _ ⟨(blk_cell BK734.out 0).trans rfl, (blk_cell BK734.out 1).trans rfl, (blk_cell BK734.out 2).trans rfl, (blk_cell BK734.out 3).trans rfl, (blk_cell BK734.out 4).trans rfl, (blk_cell BK735.out 0).trans rfl, (blk_cell BK735.out 1).trans rfl, (blk_cell BK735.out 2).trans rfl, (blk_cell BK735.out 3).trans rfl, (blk_cell BK735.out 4).trans rfl, (blk_cell BK737.out 0).trans rfl, (blk_cell BK737.out 1).trans rfl, (blk_cell BK737.out 2).trans rfl, (blk_cell BK738.out 0).trans rfl, (blk_cell BK738.out 1).trans rfl, (blk_cell BK738.out 2).trans rfl, ((HB.out.cell (World.block_lt_of_cell? w _ hw741_0)).trans hw741_0), ((HB.out.cell (World.block_lt_of_cell? w _ hw741_1)).trans hw741_1), ((HB.out.cell (World.block_lt_of_cell? w _ hw741_2)).trans hw741_2), ((HB.out.cell (World.block_lt_of_cell? w _ hw742_0)).trans hw742_0), ((HB.out.cell (World.block_lt_of_cell? w _ hw742_1)).trans hw742_1), ((HB.out.cell (World.block_lt_of_cell? w _ hw742_2)).trans hw742_2)⟩ (fun hHeld => ?_)
                                              clear hK K
                                              refine norm_ (a' := ?_) ?_ ?_
                                              rotate_left
                                              · show Act.put _ (some 12) _ = _
                                                simp only [Act.put, List.setIfInBounds_toArray, List.set_cons_zero, List.set_cons_succ, i64_w, i32_w]
                                                rfl
                                              refine one_ (i := 14) (N := some 46) #[true, true, true, true, true, true, true, true, true, true, true, true, true, true, true, true, false] rfl rfl (one_of HT_.out (by kernel_rfl)) (by decide) (fun K hK => ?_)
                                              refine ge Try.func30 #[.agg #[.int .u64 a0_0, .int .u64 a0_1, .int .i64 a0_2, .int .i64 a0_3, .int .i64 a0_4], .agg #[.int .i64 a1_0, .int .u64 a1_1, .int .u64 a1_2, .int .u64 a1_3, .int .u64 a1_4], .agg #[.int .u64 x738000_32, .int .u64 x738001_32, .int .u64 x738002_32], .agg #[.int .u64 x739000_5, .int .u64 x739001_5, .int .u64 x739002_5], .int .u64 ((rd_T64 l2 x11_5).f0), .int .u64 ((rd_T64 l2 x11_5).f1)] ?_
                                              with_reducible refine (reserve_Choose.calls kj32 a0_0 a0_1 a0_2 a0_3 a0_4 a1_0 a1_1 a1_2 a1_3 a1_4 x738000_32 x738001_32 x738002_32 x739000_5 x739001_5 x739002_5 ((rd_T64 l2 x11_5).f0) ((rd_T64 l2 x11_5).f1) t743 t744 t745 t746 t747 t748 t749 t750 t751 _ A44.out).mono ?_
                                              rintro e w48 ⟨rfl, hb⟩
                                              refine ⟨_, rfl, ?_⟩
                                              have n0_ := bb BK734 hb
                                              have n1_ := bb BK735 hb
                                              have n2_ := bb BK737 hb
                                              have n3_ := bb BK738 hb
                                              have n4_ := bb BK752 hb
                                              have n5_ := bs HB hb
                                              clear BK734
                                              clear BK735
                                              clear BK737
                                              clear BK738
                                              clear BK752
                                              clear HB
                                              have BK734 := n0_
                                              have BK735 := n1_
                                              have BK737 := n2_
                                              have BK738 := n3_
                                              have BK752 := n4_
                                              have HB := n5_
                                              clear n0_ n1_ n2_ n3_ n4_ n5_
                                              (try clear hb)
                                              (try clear hb2)
                                              (try clear hk)
                                              (try clear hi)
                                              refine hK.out _ _ ⟨(blk_cell BK734.out 0).trans rfl, (blk_cell BK734.out 1).trans rfl, (blk_cell BK734.out 2).trans rfl, (blk_cell BK734.out 3).trans rfl, (blk_cell BK734.out 4).trans rfl, (blk_cell BK735.out 0).trans rfl, (blk_cell BK735.out 1).trans rfl, (blk_cell BK735.out 2).trans rfl, (blk_cell BK735.out 3).trans rfl, (blk_cell BK735.out 4).trans rfl, (blk_cell BK737.out 0).trans rfl, (blk_cell BK737.out 1).trans rfl, (blk_cell BK737.out 2).trans rfl, (blk_cell BK738.out 0).trans rfl, (blk_cell BK738.out 1).trans rfl, (blk_cell BK738.out 2).trans rfl, ((HB.out.cell (World.block_lt_of_cell? w _ hw741_0)).trans hw741_0), ((HB.out.cell (World.block_lt_of_cell? w _ hw741_1)).trans hw741_1), ((HB.out.cell (World.block_lt_of_cell? w _ hw741_2)).trans hw741_2), ((HB.out.cell (World.block_lt_of_cell? w _ hw742_0)).trans hw742_0), ((HB.out.cell (World.block_lt_of_cell? w _ hw742_1)).trans hw742_1), ((HB.out.cell (World.block_lt_of_cell? w _ hw742_2)).trans hw742_2)⟩ (fun hHeld => ?_)
                                              clear hK K
                                              refine norm_ (a' := ?_) ?_ ?_
                                              rotate_left
                                              · show Act.put _ (some 46) _ = _
                                                simp only [Act.put, List.setIfInBounds_toArray, List.set_cons_zero, List.set_cons_succ, i64_w, i32_w]
                                                rfl
                                              exact norm_ (by simp only [putAll, Act.put, List.setIfInBounds_toArray, List.set_cons_zero, List.set_cons_succ]) (hCont (gb752) _ ⟨hHeld, (bk BK734), (bk BK735), (bk BK737), (bk BK738), (bk BK752), GW752.out, GE752.out, NB734_752.out, NB752_734.out, NB735_752.out, NB752_735.out, NB737_752.out, NB752_737.out, NB738_752.out, NB752_738.out, (bw HB)⟩)
                                          rintro gb752 w49 ⟨hS_, h0_, h1_, h2_, h3_, h4_, h5_, h6_, h7_, h8_, h9_, h10_, h11_, h12_, h13_, h14_, h15_⟩
                                          have n0_ : Aside0 (w49.heap[gb734]? = some (.cells #[.int .u64 a0_0, .int .u64 a0_1, .int .i64 a0_2, .int .i64 a0_3, .int .i64 a0_4] 53 (0, 0))) := ⟨h0_⟩
                                          have n1_ : Aside0 (w49.heap[gb735]? = some (.cells #[.int .i64 a1_0, .int .u64 a1_1, .int .u64 a1_2, .int .u64 a1_3, .int .u64 a1_4] 27 (0, 0))) := ⟨h1_⟩
                                          have n2_ : Aside0 (w49.heap[gb737]? = some (.cells #[.int .u64 x738000_32, .int .u64 x738001_32, .int .u64 x738002_32] 29 (0, 0))) := ⟨h2_⟩
                                          have n3_ : Aside0 (w49.heap[gb738]? = some (.cells #[.int .u64 x739000_5, .int .u64 x739001_5, .int .u64 x739002_5] 29 (0, 0))) := ⟨h3_⟩
                                          have n4_ : Aside0 (w49.heap[gb752]? = some (.cells #[.int .u64 0, .int .u64 0, .int .u64 0, .bool false, .int .u64 0, .bool false, .int .u64 0, .int .u64 0, .int .u64 0] 58 (0, 0))) := ⟨h4_⟩
                                          have n5_ : Aside0 (w.heap.size ≤ gb752) := ⟨h5_⟩
                                          have n6_ : Aside0 (w.heap.size ≤ gb752) := ⟨h6_⟩
                                          have n7_ : Aside0 (gb734 ≠ gb752) := ⟨h7_⟩
                                          have n8_ : Aside0 (gb752 ≠ gb734) := ⟨h8_⟩
                                          have n9_ : Aside0 (gb735 ≠ gb752) := ⟨h9_⟩
                                          have n10_ : Aside0 (gb752 ≠ gb735) := ⟨h10_⟩
                                          have n11_ : Aside0 (gb737 ≠ gb752) := ⟨h11_⟩
                                          have n12_ : Aside0 (gb752 ≠ gb737) := ⟨h12_⟩
                                          have n13_ : Aside0 (gb738 ≠ gb752) := ⟨h13_⟩
                                          have n14_ : Aside0 (gb752 ≠ gb738) := ⟨h14_⟩
                                          have n15_ : Aside0 (Below w.heap.size w w49) := ⟨h15_⟩
                                          clear BK734
                                          clear BK735
                                          clear BK737
                                          clear BK738
                                          clear HB
                                          clear h0_ h1_ h2_ h3_ h4_ h5_ h6_ h7_ h8_ h9_ h10_ h11_ h12_ h13_ h14_ h15_
                                          have BK734 := n0_
                                          have BK735 := n1_
                                          have BK737 := n2_
                                          have BK738 := n3_
                                          have BK752 := n4_
                                          have GW752 := n5_
                                          have GE752 := n6_
                                          have NB734_752 := n7_
                                          have NB752_734 := n8_
                                          have NB735_752 := n9_
                                          have NB752_735 := n10_
                                          have NB737_752 := n11_
                                          have NB752_737 := n12_
                                          have NB738_752 := n13_
                                          have NB752_738 := n14_
                                          have HB := n15_
                                          clear n0_ n1_ n2_ n3_ n4_ n5_ n6_ n7_ n8_ n9_ n10_ n11_ n12_ n13_ n14_ n15_
                                          have hHeld : w49.cell? ⟨gb734, 0, none⟩ = some (.int .u64 a0_0) ∧ w49.cell? ⟨gb734, 1, none⟩ = some (.int .u64 a0_1) ∧ w49.cell? ⟨gb734, 2, none⟩ = some (.int .i64 a0_2) ∧ w49.cell? ⟨gb734, 3, none⟩ = some (.int .i64 a0_3) ∧ w49.cell? ⟨gb734, 4, none⟩ = some (.int .i64 a0_4) ∧ w49.cell? ⟨gb735, 0, none⟩ = some (.int .i64 a1_0) ∧ w49.cell? ⟨gb735, 1, none⟩ = some (.int .u64 a1_1) ∧ w49.cell? ⟨gb735, 2, none⟩ = some (.int .u64 a1_2) ∧ w49.cell? ⟨gb735, 3, none⟩ = some (.int .u64 a1_3) ∧ w49.cell? ⟨gb735, 4, none⟩ = some (.int .u64 a1_4) ∧ w49.cell? ⟨gb737, 0, none⟩ = some (.int .u64 x738000_32) ∧ w49.cell? ⟨gb737, 1, none⟩ = some (.int .u64 x738001_32) ∧ w49.cell? ⟨gb737, 2, none⟩ = some (.int .u64 x738002_32) ∧ w49.cell? ⟨gb738, 0, none⟩ = some (.int .u64 x739000_5) ∧ w49.cell? ⟨gb738, 1, none⟩ = some (.int .u64 x739001_5) ∧ w49.cell? ⟨gb738, 2, none⟩ = some (.int .u64 x739002_5) ∧ w49.cell? (ad741.add ((x11_5).toNat * 3)) = some (.int .u64 ((rd_T64 l2 x11_5).f0)) ∧ w49.cell? ⟨(ad741.add ((x11_5).toNat * 3)).block, (ad741.add ((x11_5).toNat * 3)).off + 1, none⟩ = some (.int .u64 ((rd_T64 l2 x11_5).f1)) ∧ w49.cell? ⟨(ad741.add ((x11_5).toNat * 3)).block, (ad741.add ((x11_5).toNat * 3)).off + 2, none⟩ = some (.bool ((rd_T64 l2 x11_5).f2)) ∧ w49.cell? (ad741.add ((x11_5).toNat * 3)) = some (.int .u64 ((rd_T64 l2 x11_5).f0)) ∧ w49.cell? ⟨(ad741.add ((x11_5).toNat * 3)).block, (ad741.add ((x11_5).toNat * 3)).off + 1, none⟩ = some (.int .u64 ((rd_T64 l2 x11_5).f1)) ∧ w49.cell? ⟨(ad741.add ((x11_5).toNat * 3)).block, (ad741.add ((x11_5).toNat * 3)).off + 2, none⟩ = some (.bool ((rd_T64 l2 x11_5).f2)) := hS_
                                          refine norm_ (a' := ?_) ?_ ?_
                                          rotate_left
                                          · simp only [putAll, Act.put, List.setIfInBounds_toArray, List.set_cons_zero, List.set_cons_succ]
                                            rfl
                                          refine one_ (i := 16) (N := none) #[true, true, true, true, true, true, true, true, true, true, true, true, true, true, true, true, true] rfl rfl (one_of HT_.out (by kernel_rfl)) (by decide) (fun K hK => ?_)
                                          have hs50 : w49.cell? ⟨gb752, 0, none⟩ = some (.int .u64 0) := (blk_cell BK752.out 0).trans rfl
                                          have hfs50 := blk_frozen BK752.out 0
                                          have hns50_0 := NB734_752.out
                                          have hns50_1 := NB735_752.out
                                          have hns50_2 := NB737_752.out
                                          have hns50_3 := NB738_752.out
                                          have hms50_0 := NB752_734.out
                                          have hms50_1 := NB752_735.out
                                          have hms50_2 := NB752_737.out
                                          have hms50_3 := NB752_738.out
                                          have hs51 : w49.cell? ⟨gb752, 1, none⟩ = some (.int .u64 0) := (blk_cell BK752.out 1).trans rfl
                                          have hfs51 := blk_frozen BK752.out 1
                                          have hns51_0 := NB734_752.out
                                          have hns51_1 := NB735_752.out
                                          have hns51_2 := NB737_752.out
                                          have hns51_3 := NB738_752.out
                                          have hms51_0 := NB752_734.out
                                          have hms51_1 := NB752_735.out
                                          have hms51_2 := NB752_737.out
                                          have hms51_3 := NB752_738.out
                                          have hs52 : w49.cell? ⟨gb752, 2, none⟩ = some (.int .u64 0) := (blk_cell BK752.out 2).trans rfl
                                          have hfs52 := blk_frozen BK752.out 2
                                          have hns52_0 := NB734_752.out
                                          have hns52_1 := NB735_752.out
                                          have hns52_2 := NB737_752.out
                                          have hns52_3 := NB738_752.out
                                          have hms52_0 := NB752_734.out
                                          have hms52_1 := NB752_735.out
                                          have hms52_2 := NB752_737.out
                                          have hms52_3 := NB752_738.out
                                          have hs53 : w49.cell? ⟨gb752, 3, none⟩ = some (.bool false) := (blk_cell BK752.out 3).trans rfl
                                          have hfs53 := blk_frozen BK752.out 3
                                          have hns53_0 := NB734_752.out
                                          have hns53_1 := NB735_752.out
                                          have hns53_2 := NB737_752.out
                                          have hns53_3 := NB738_752.out
                                          have hms53_0 := NB752_734.out
                                          have hms53_1 := NB752_735.out
                                          have hms53_2 := NB752_737.out
                                          have hms53_3 := NB752_738.out
                                          have hs54 : w49.cell? ⟨gb752, 4, none⟩ = some (.int .u64 0) := (blk_cell BK752.out 4).trans rfl
                                          have hfs54 := blk_frozen BK752.out 4
                                          have hns54_0 := NB734_752.out
                                          have hns54_1 := NB735_752.out
                                          have hns54_2 := NB737_752.out
                                          have hns54_3 := NB738_752.out
                                          have hms54_0 := NB752_734.out
                                          have hms54_1 := NB752_735.out
                                          have hms54_2 := NB752_737.out
                                          have hms54_3 := NB752_738.out
                                          have hs55 : w49.cell? ⟨gb752, 5, none⟩ = some (.bool false) := (blk_cell BK752.out 5).trans rfl
                                          have hfs55 := blk_frozen BK752.out 5
                                          have hns55_0 := NB734_752.out
                                          have hns55_1 := NB735_752.out
                                          have hns55_2 := NB737_752.out
                                          have hns55_3 := NB738_752.out
                                          have hms55_0 := NB752_734.out
                                          have hms55_1 := NB752_735.out
                                          have hms55_2 := NB752_737.out
                                          have hms55_3 := NB752_738.out
                                          have hs56 : w49.cell? ⟨gb752, 6, none⟩ = some (.int .u64 0) := (blk_cell BK752.out 6).trans rfl
                                          have hfs56 := blk_frozen BK752.out 6
                                          have hns56_0 := NB734_752.out
                                          have hns56_1 := NB735_752.out
                                          have hns56_2 := NB737_752.out
                                          have hns56_3 := NB738_752.out
                                          have hms56_0 := NB752_734.out
                                          have hms56_1 := NB752_735.out
                                          have hms56_2 := NB752_737.out
                                          have hms56_3 := NB752_738.out
                                          have hs57 : w49.cell? ⟨gb752, 7, none⟩ = some (.int .u64 0) := (blk_cell BK752.out 7).trans rfl
                                          have hfs57 := blk_frozen BK752.out 7
                                          have hns57_0 := NB734_752.out
                                          have hns57_1 := NB735_752.out
                                          have hns57_2 := NB737_752.out
                                          have hns57_3 := NB738_752.out
                                          have hms57_0 := NB752_734.out
                                          have hms57_1 := NB752_735.out
                                          have hms57_2 := NB752_737.out
                                          have hms57_3 := NB752_738.out
                                          have hs58 : w49.cell? ⟨gb752, 8, none⟩ = some (.int .u64 0) := (blk_cell BK752.out 8).trans rfl
                                          have hfs58 := blk_frozen BK752.out 8
                                          have hns58_0 := NB734_752.out
                                          have hns58_1 := NB735_752.out
                                          have hns58_2 := NB737_752.out
                                          have hns58_3 := NB738_752.out
                                          have hms58_0 := NB752_734.out
                                          have hms58_1 := NB752_735.out
                                          have hms58_2 := NB752_737.out
                                          have hms58_3 := NB752_738.out
                                          refine skip_ (w1 := ?_) (by rfl) rfl ?_ ?_
                                          rotate_left
                                          · refine Eq.trans (run_row_ ?u1_ty ?u1_x ?u1_y ?u1_cells BK752.out ?u1_1 ?u1_2 ?u1_3 ?u1_4 ?u1_5 ?u1_6) ?u1_7
                                            case u1_1 => rfl
                                            case u1_2 => rfl
                                            case u1_3 => rfl
                                            case u1_4 => exact Nat.le_refl _
                                            case u1_5 => kernel_rfl
                                            case u1_6 => first | (simp [Value.oneCell']; done) | kernel_rfl
                                            simp only [World.setCells, Nat.zero_add, Nat.reduceAdd]
                                            rfl
                                          refine hK.out _ _ ⟨((cell_far (p := ⟨gb752, _, none⟩) NB734_752.out _).trans (((cell_far (p := ⟨gb752, _, none⟩) NB734_752.out _).trans (((cell_far (p := ⟨gb752, _, none⟩) NB734_752.out _).trans (((cell_far (p := ⟨gb752, _, none⟩) NB734_752.out _).trans (((cell_far (p := ⟨gb752, _, none⟩) NB734_752.out _).trans (((cell_far (p := ⟨gb752, _, none⟩) NB734_752.out _).trans (((cell_far (p := ⟨gb752, _, none⟩) NB734_752.out _).trans (((cell_far (p := ⟨gb752, _, none⟩) NB734_752.out _).trans (((cell_far (p := ⟨gb752, _, none⟩) NB734_752.out _).trans (hHeld.1)))))))))))))))))), ((cell_far (p := ⟨gb752, _, none⟩) NB734_752.out _).trans (((cell_far (p := ⟨gb752, _, none⟩) NB734_752.out _).trans (((cell_far (p := ⟨gb752, _, none⟩) NB734_752.out _).trans (((cell_far (p := ⟨gb752, _, none⟩) NB734_752.out _).trans (((cell_far (p := ⟨gb752, _, none⟩) NB734_752.out _).trans (((cell_far (p := ⟨gb752, _, none⟩) NB734_752.out _).trans (((cell_far (p := ⟨gb752, _, none⟩) NB734_752.out _).trans (((cell_far (p := ⟨gb752, _, none⟩) NB734_752.out _).trans (((cell_far (p := ⟨gb752, _, none⟩) NB734_752.out _).trans (hHeld.2.1)))))))))))))))))), ((cell_far (p := ⟨gb752, _, none⟩) NB734_752.out _).trans (((cell_far (p := ⟨gb752, _, none⟩) NB734_752.out _).trans (((cell_far (p := ⟨gb752, _, none⟩) NB734_752.out _).trans (((cell_far (p := ⟨gb752, _, none⟩) NB734_752.out _).trans (((cell_far (p := ⟨gb752, _, none⟩) NB734_752.out _).trans (((cell_far (p := ⟨gb752, _, none⟩) NB734_752.out _).trans (((cell_far (p := ⟨gb752, _, none⟩) NB734_752.out _).trans (((cell_far (p := ⟨gb752, _, none⟩) NB734_752.out _).trans (((cell_far (p := ⟨gb752, _, none⟩) NB734_752.out _).trans (hHeld.2.2.1)))))))))))))))))), ((cell_far (p := ⟨gb752, _, none⟩) NB734_752.out _).trans (((cell_far (p := ⟨gb752, _, none⟩) NB734_752.out _).trans (((cell_far (p := ⟨gb752, _, none⟩) NB734_752.out _).trans (((cell_far (p := ⟨gb752, _, none⟩) NB734_752.out _).trans (((cell_far (p := ⟨gb752, _, none⟩) NB734_752.out _).trans (((cell_far (p := ⟨gb752, _, none⟩) NB734_752.out _).trans (((cell_far (p := ⟨gb752, _, none⟩) NB734_752.out _).trans (((cell_far (p := ⟨gb752, _, none⟩) NB734_752.out _).trans (((cell_far (p := ⟨gb752, _, none⟩) NB734_752.out _).trans (hHeld.2.2.2.1)))))))))))))))))), ((cell_far (p := ⟨gb752, _, none⟩) NB734_752.out _).trans (((cell_far (p := ⟨gb752, _, none⟩) NB734_752.out _).trans (((cell_far (p := ⟨gb752, _, none⟩) NB734_752.out _).trans (((cell_far (p := ⟨gb752, _, none⟩) NB734_752.out _).trans (((cell_far (p := ⟨gb752, _, none⟩) NB734_752.out _).trans (((cell_far (p := ⟨gb752, _, none⟩) NB734_752.out _).trans (((cell_far (p := ⟨gb752, _, none⟩) NB734_752.out _).trans (((cell_far (p := ⟨gb752, _, none⟩) NB734_752.out _).trans (((cell_far (p := ⟨gb752, _, none⟩) NB734_752.out _).trans (hHeld.2.2.2.2.1)))))))))))))))))), ((cell_far (p := ⟨gb752, _, none⟩) NB735_752.out _).trans (((cell_far (p := ⟨gb752, _, none⟩) NB735_752.out _).trans (((cell_far (p := ⟨gb752, _, none⟩) NB735_752.out _).trans (((cell_far (p := ⟨gb752, _, none⟩) NB735_752.out _).trans (((cell_far (p := ⟨gb752, _, none⟩) NB735_752.out _).trans (((cell_far (p := ⟨gb752, _, none⟩) NB735_752.out _).trans (((cell_far (p := ⟨gb752, _, none⟩) NB735_752.out _).trans (((cell_far (p := ⟨gb752, _, none⟩) NB735_752.out _).trans (((cell_far (p := ⟨gb752, _, none⟩) NB735_752.out _).trans (hHeld.2.2.2.2.2.1)))))))))))))))))), ((cell_far (p := ⟨gb752, _, none⟩) NB735_752.out _).trans (((cell_far (p := ⟨gb752, _, none⟩) NB735_752.out _).trans (((cell_far (p := ⟨gb752, _, none⟩) NB735_752.out _).trans (((cell_far (p := ⟨gb752, _, none⟩) NB735_752.out _).trans (((cell_far (p := ⟨gb752, _, none⟩) NB735_752.out _).trans (((cell_far (p := ⟨gb752, _, none⟩) NB735_752.out _).trans (((cell_far (p := ⟨gb752, _, none⟩) NB735_752.out _).trans (((cell_far (p := ⟨gb752, _, none⟩) NB735_752.out _).trans (((cell_far (p := ⟨gb752, _, none⟩) NB735_752.out _).trans (hHeld.2.2.2.2.2.2.1)))))))))))))))))), ((cell_far (p := ⟨gb752, _, none⟩) NB735_752.out _).trans (((cell_far (p := ⟨gb752, _, none⟩) NB735_752.out _).trans (((cell_far (p := ⟨gb752, _, none⟩) NB735_752.out _).trans (((cell_far (p := ⟨gb752, _, none⟩) NB735_752.out _).trans (((cell_far (p := ⟨gb752, _, none⟩) NB735_752.out _).trans (((cell_far (p := ⟨gb752, _, none⟩) NB735_752.out _).trans (((cell_far (p := ⟨gb752, _, none⟩) NB735_752.out _).trans (((cell_far (p := ⟨gb752, _, none⟩) NB735_752.out _).trans (((cell_far (p := ⟨gb752, _, none⟩) NB735_752.out _).trans (hHeld.2.2.2.2.2.2.2.1)))))))))))))))))), ((cell_far (p := ⟨gb752, _, none⟩) NB735_752.out _).trans (((cell_far (p := ⟨gb752, _, none⟩) NB735_752.out _).trans (((cell_far (p := ⟨gb752, _, none⟩) NB735_752.out _).trans (((cell_far (p := ⟨gb752, _, none⟩) NB735_752.out _).trans (((cell_far (p := ⟨gb752, _, none⟩) NB735_752.out _).trans (((cell_far (p := ⟨gb752, _, none⟩) NB735_752.out _).trans (((cell_far (p := ⟨gb752, _, none⟩) NB735_752.out _).trans (((cell_far (p := ⟨gb752, _, none⟩) NB735_752.out _).trans (((cell_far (p := ⟨gb752, _, none⟩) NB735_752.out _).trans (hHeld.2.2.2.2.2.2.2.2.1)))))))))))))))))), ((cell_far (p := ⟨gb752, _, none⟩) NB735_752.out _).trans (((cell_far (p := ⟨gb752, _, none⟩) NB735_752.out _).trans (((cell_far (p := ⟨gb752, _, none⟩) NB735_752.out _).trans (((cell_far (p := ⟨gb752, _, none⟩) NB735_752.out _).trans (((cell_far (p := ⟨gb752, _, none⟩) NB735_752.out _).trans (((cell_far (p := ⟨gb752, _, none⟩) NB735_752.out _).trans (((cell_far (p := ⟨gb752, _, none⟩) NB735_752.out _).trans (((cell_far (p := ⟨gb752, _, none⟩) NB735_752.out _).trans (((cell_far (p := ⟨gb752, _, none⟩) NB735_752.out _).trans (hHeld.2.2.2.2.2.2.2.2.2.1)))))))))))))))))), ((cell_far (p := ⟨gb752, _, none⟩) NB737_752.out _).trans (((cell_far (p := ⟨gb752, _, none⟩) NB737_752.out _).trans (((cell_far (p := ⟨gb752, _, none⟩) NB737_752.out _).trans (((cell_far (p := ⟨gb752, _, none⟩) NB737_752.out _).trans (((cell_far (p := ⟨gb752, _, none⟩) NB737_752.out _).trans (((cell_far (p := ⟨gb752, _, none⟩) NB737_752.out _).trans (((cell_far (p := ⟨gb752, _, none⟩) NB737_752.out _).trans (((cell_far (p := ⟨gb752, _, none⟩) NB737_752.out _).trans (((cell_far (p := ⟨gb752, _, none⟩) NB737_752.out _).trans (hHeld.2.2.2.2.2.2.2.2.2.2.1)))))))))))))))))), ((cell_far (p := ⟨gb752, _, none⟩) NB737_752.out _).trans (((cell_far (p := ⟨gb752, _, none⟩) NB737_752.out _).trans (((cell_far (p := ⟨gb752, _, none⟩) NB737_752.out _).trans (((cell_far (p := ⟨gb752, _, none⟩) NB737_752.out _).trans (((cell_far (p := ⟨gb752, _, none⟩) NB737_752.out _).trans (((cell_far (p := ⟨gb752, _, none⟩) NB737_752.out _).trans (((cell_far (p := ⟨gb752, _, none⟩) NB737_752.out _).trans (((cell_far (p := ⟨gb752, _, none⟩) NB737_752.out _).trans (((cell_far (p := ⟨gb752, _, none⟩) NB737_752.out _).trans (hHeld.2.2.2.2.2.2.2.2.2.2.2.1)))))))))))))))))), ((cell_far (p := ⟨gb752, _, none⟩) NB737_752.out _).trans (((cell_far (p := ⟨gb752, _, none⟩) NB737_752.out _).trans (((cell_far (p := ⟨gb752, _, none⟩) NB737_752.out _).trans (((cell_far (p := ⟨gb752, _, none⟩) NB737_752.out _).trans (((cell_far (p := ⟨gb752, _, none⟩) NB737_752.out _).trans (((cell_far (p := ⟨gb752, _, none⟩) NB737_752.out _).trans (((cell_far (p := ⟨gb752, _, none⟩) NB737_752.out _).trans (((cell_far (p := ⟨gb752, _, none⟩) NB737_752.out _).trans (((cell_far (p := ⟨gb752, _, none⟩) NB737_752.out _).trans (hHeld.2.2.2.2.2.2.2.2.2.2.2.2.1)))))))))))))))))), ((cell_far (p := ⟨gb752, _, none⟩) NB738_752.out _).trans (((cell_far (p := ⟨gb752, _, none⟩) NB738_752.out _).trans (((cell_far (p := ⟨gb752, _, none⟩) NB738_752.out _).trans (((cell_far (p := ⟨gb752, _, none⟩) NB738_752.out _).trans (((cell_far (p := ⟨gb752, _, none⟩) NB738_752.out _).trans (((cell_far (p := ⟨gb752, _, none⟩) NB738_752.out _).trans (((cell_far (p := ⟨gb752, _, none⟩) NB738_752.out _).trans (((cell_far (p := ⟨gb752, _, none⟩) NB738_752.out _).trans (((cell_far (p := ⟨gb752, _, none⟩) NB738_752.out _).trans (hHeld.2.2.2.2.2.2.2.2.2.2.2.2.2.1)))))))))))))))))), ((cell_far (p := ⟨gb752, _, none⟩) NB738_752.out _).trans (((cell_far (p := ⟨gb752, _, none⟩) NB738_752.out _).trans (((cell_far (p := ⟨gb752, _, none⟩) NB738_752.out _).trans (((cell_far (p := ⟨gb752, _, none⟩) NB738_752.out _).trans (((cell_far (p := ⟨gb752, _, none⟩) NB738_752.out _).trans (((cell_far (p := ⟨gb752, _, none⟩) NB738_752.out _).trans (((cell_far (p := ⟨gb752, _, none⟩) NB738_752.out _).trans (((cell_far (p := ⟨gb752, _, none⟩) NB738_752.out _).trans (((cell_far (p := ⟨gb752, _, none⟩) NB738_752.out _).trans (hHeld.2.2.2.2.2.2.2.2.2.2.2.2.2.2.1)))))))))))))))))), ((cell_far (p := ⟨gb752, _, none⟩) NB738_752.out _).trans (((cell_far (p := ⟨gb752, _, none⟩) NB738_752.out _).trans (((cell_far (p := ⟨gb752, _, none⟩) NB738_752.out _).trans (((cell_far (p := ⟨gb752, _, none⟩) NB738_752.out _).trans (((cell_far (p := ⟨gb752, _, none⟩) NB738_752.out _).trans (((cell_far (p := ⟨gb752, _, none⟩) NB738_752.out _).trans (((cell_far (p := ⟨gb752, _, none⟩) NB738_752.out _).trans (((cell_far (p := ⟨gb752, _, none⟩) NB738_752.out _).trans (((cell_far (p := ⟨gb752, _, none⟩) NB738_752.out _).trans (hHeld.2.2.2.2.2.2.2.2.2.2.2.2.2.2.2.1)))))))))))))))))), ((cell_far (p := ⟨gb752, _, none⟩) (by first | exact Nat.ne_of_lt (Nat.lt_of_lt_of_le (by have := World.block_lt_of_cell? _ _ hw741_0; first | rwa [add_block] at this | exact this) GW752.out) | (rw [add_block]; exact Nat.ne_of_lt (Nat.lt_of_lt_of_le (by have := World.block_lt_of_cell? _ _ hw741_0; first | rwa [add_block] at this | exact this) GW752.out)) | (show (Addr.add _ _).block ≠ _; rw [add_block]; exact Nat.ne_of_lt (Nat.lt_of_lt_of_le (by have := World.block_lt_of_cell? _ _ hw741_0; first | rwa [add_block] at this | exact this) GW752.out)) | (dsimp only; exact Nat.ne_of_lt (Nat.lt_of_lt_of_le (by have := World.block_lt_of_cell? _ _ hw741_0; first | rwa [add_block] at this | exact this) GW752.out))) _).trans (((cell_far (p := ⟨gb752, _, none⟩) (by first | exact Nat.ne_of_lt (Nat.lt_of_lt_of_le (by have := World.block_lt_of_cell? _ _ hw741_0; first | rwa [add_block] at this | exact this) GW752.out) | (rw [add_block]; exact Nat.ne_of_lt (Nat.lt_of_lt_of_le (by have := World.block_lt_of_cell? _ _ hw741_0; first | rwa [add_block] at this | exact this) GW752.out)) | (show (Addr.add _ _).block ≠ _; rw [add_block]; exact Nat.ne_of_lt (Nat.lt_of_lt_of_le (by have := World.block_lt_of_cell? _ _ hw741_0; first | rwa [add_block] at this | exact this) GW752.out)) | (dsimp only; exact Nat.ne_of_lt (Nat.lt_of_lt_of_le (by have := World.block_lt_of_cell? _ _ hw741_0; first | rwa [add_block] at this | exact this) GW752.out))) _).trans (((cell_far (p := ⟨gb752, _, none⟩) (by first | exact Nat.ne_of_lt (Nat.lt_of_lt_of_le (by have := World.block_lt_of_cell? _ _ hw741_0; first | rwa [add_block] at this | exact this) GW752.out) | (rw [add_block]; exact Nat.ne_of_lt (Nat.lt_of_lt_of_le (by have := World.block_lt_of_cell? _ _ hw741_0; first | rwa [add_block] at this | exact this) GW752.out)) | (show (Addr.add _ _).block ≠ _; rw [add_block]; exact Nat.ne_of_lt (Nat.lt_of_lt_of_le (by have := World.block_lt_of_cell? _ _ hw741_0; first | rwa [add_block] at this | exact this) GW752.out)) | (dsimp only; exact Nat.ne_of_lt (Nat.lt_of_lt_of_le (by have := World.block_lt_of_cell? _ _ hw741_0; first | rwa [add_block] at this | exact this) GW752.out))) _).trans (((cell_far (p := ⟨gb752, _, none⟩) (by first | exact Nat.ne_of_lt (Nat.lt_of_lt_of_le (by have := World.block_lt_of_cell? _ _ hw741_0; first | rwa [add_block] at this | exact this) GW752.out) | (rw [add_block]; exact Nat.ne_of_lt (Nat.lt_of_lt_of_le (by have := World.block_lt_of_cell? _ _ hw741_0; first | rwa [add_block] at this | exact this) GW752.out)) | (show (Addr.add _ _).block ≠ _; rw [add_block]; exact Nat.ne_of_lt (Nat.lt_of_lt_of_le (by have := World.block_lt_of_cell? _ _ hw741_0; first | rwa [add_block] at this | exact this) GW752.out)) | (dsimp only; exact Nat.ne_of_lt (Nat.lt_of_lt_of_le (by have := World.block_lt_of_cell? _ _ hw741_0; first | rwa [add_block] at this | exact this) GW752.out))) _).trans (((cell_far (p := ⟨gb752, _, none⟩) (by first | exact Nat.ne_of_lt (Nat.lt_of_lt_of_le (by have := World.block_lt_of_cell? _ _ hw741_0; first | rwa [add_block] at this | exact this) GW752.out) | (rw [add_block]; exact Nat.ne_of_lt (Nat.lt_of_lt_of_le (by have := World.block_lt_of_cell? _ _ hw741_0; first | rwa [add_block] at this | exact this) GW752.out)) | (show (Addr.add _ _).block ≠ _; rw [add_block]; exact Nat.ne_of_lt (Nat.lt_of_lt_of_le (by have := World.block_lt_of_cell? _ _ hw741_0; first | rwa [add_block] at this | exact this) GW752.out)) | (dsimp only; exact Nat.ne_of_lt (Nat.lt_of_lt_of_le (by have := World.block_lt_of_cell? _ _ hw741_0; first | rwa [add_block] at this | exact this) GW752.out))) _).trans (((cell_far (p := ⟨gb752, _, none⟩) (by first | exact Nat.ne_of_lt (Nat.lt_of_lt_of_le (by have := World.block_lt_of_cell? _ _ hw741_0; first | rwa [add_block] at this | exact this) GW752.out) | (rw [add_block]; exact Nat.ne_of_lt (Nat.lt_of_lt_of_le (by have := World.block_lt_of_cell? _ _ hw741_0; first | rwa [add_block] at this | exact this) GW752.out)) | (show (Addr.add _ _).block ≠ _; rw [add_block]; exact Nat.ne_of_lt (Nat.lt_of_lt_of_le (by have := World.block_lt_of_cell? _ _ hw741_0; first | rwa [add_block] at this | exact this) GW752.out)) | (dsimp only; exact Nat.ne_of_lt (Nat.lt_of_lt_of_le (by have := World.block_lt_of_cell? _ _ hw741_0; first | rwa [add_block] at this | exact this) GW752.out))) _).trans (((cell_far (p := ⟨gb752, _, none⟩) (by first | exact Nat.ne_of_lt (Nat.lt_of_lt_of_le (by have := World.block_lt_of_cell? _ _ hw741_0; first | rwa [add_block] at this | exact this) GW752.out) | (rw [add_block]; exact Nat.ne_of_lt (Nat.lt_of_lt_of_le (by have := World.block_lt_of_cell? _ _ hw741_0; first | rwa [add_block] at this | exact this) GW752.out)) | (show (Addr.add _ _).block ≠ _; rw [add_block]; exact Nat.ne_of_lt (Nat.lt_of_lt_of_le (by have := World.block_lt_of_cell? _ _ hw741_0; first | rwa [add_block] at this | exact this) GW752.out)) | (dsimp only; exact Nat.ne_of_lt (Nat.lt_of_lt_of_le (by have := World.block_lt_of_cell? _ _ hw741_0; first | rwa [add_block] at this | exact this) GW752.out))) _).trans (((cell_far (p := ⟨gb752, _, none⟩) (by first | exact Nat.ne_of_lt (Nat.lt_of_lt_of_le (by have := World.block_lt_of_cell? _ _ hw741_0; first | rwa [add_block] at this | exact this) GW752.out) | (rw [add_block]; exact Nat.ne_of_lt (Nat.lt_of_lt_of_le (by have := World.block_lt_of_cell? _ _ hw741_0; first | rwa [add_block] at this | exact this) GW752.out)) | (show (Addr.add _ _).block ≠ _; rw [add_block]; exact Nat.ne_of_lt (Nat.lt_of_lt_of_le (by have := World.block_lt_of_cell? _ _ hw741_0; first | rwa [add_block] at this | exact this) GW752.out)) | (dsimp only; exact Nat.ne_of_lt (Nat.lt_of_lt_of_le (by have := World.block_lt_of_cell? _ _ hw741_0; first | rwa [add_block] at this | exact this) GW752.out))) _).trans (((cell_far (p := ⟨gb752, _, none⟩) (by first | exact Nat.ne_of_lt (Nat.lt_of_lt_of_le (by have := World.block_lt_of_cell? _ _ hw741_0; first | rwa [add_block] at this | exact this) GW752.out) | (rw [add_block]; exact Nat.ne_of_lt (Nat.lt_of_lt_of_le (by have := World.block_lt_of_cell? _ _ hw741_0; first | rwa [add_block] at this | exact this) GW752.out)) | (show (Addr.add _ _).block ≠ _; rw [add_block]; exact Nat.ne_of_lt (Nat.lt_of_lt_of_le (by have := World.block_lt_of_cell? _ _ hw741_0; first | rwa [add_block] at this | exact this) GW752.out)) | (dsimp only; exact Nat.ne_of_lt (Nat.lt_of_lt_of_le (by have := World.block_lt_of_cell? _ _ hw741_0; first | rwa [add_block] at this | exact this) GW752.out))) _).trans (hHeld.2.2.2.2.2.2.2.2.2.2.2.2.2.2.2.2.1)))))))))))))))))), ((cell_far (p := ⟨gb752, _, none⟩) (by first | exact Nat.ne_of_lt (Nat.lt_of_lt_of_le (by have := World.block_lt_of_cell? _ _ hw741_1; first | rwa [add_block] at this | exact this) GW752.out) | (rw [add_block]; exact Nat.ne_of_lt (Nat.lt_of_lt_of_le (by have := World.block_lt_of_cell? _ _ hw741_1; first | rwa [add_block] at this | exact this) GW752.out)) | (show (Addr.add _ _).block ≠ _; rw [add_block]; exact Nat.ne_of_lt (Nat.lt_of_lt_of_le (by have := World.block_lt_of_cell? _ _ hw741_1; first | rwa [add_block] at this | exact this) GW752.out)) | (dsimp only; exact Nat.ne_of_lt (Nat.lt_of_lt_of_le (by have := World.block_lt_of_cell? _ _ hw741_1; first | rwa [add_block] at this | exact this) GW752.out))) _).trans (((cell_far (p := ⟨gb752, _, none⟩) (by first | exact Nat.ne_of_lt (Nat.lt_of_lt_of_le (by have := World.block_lt_of_cell? _ _ hw741_1; first | rwa [add_block] at this | exact this) GW752.out) | (rw [add_block]; exact Nat.ne_of_lt (Nat.lt_of_lt_of_le (by have := World.block_lt_of_cell? _ _ hw741_1; first | rwa [add_block] at this | exact this) GW752.out)) | (show (Addr.add _ _).block ≠ _; rw [add_block]; exact Nat.ne_of_lt (Nat.lt_of_lt_of_le (by have := World.block_lt_of_cell? _ _ hw741_1; first | rwa [add_block] at this | exact this) GW752.out)) | (dsimp only; exact Nat.ne_of_lt (Nat.lt_of_lt_of_le (by have := World.block_lt_of_cell? _ _ hw741_1; first | rwa [add_block] at this | exact this) GW752.out))) _).trans (((cell_far (p := ⟨gb752, _, none⟩) (by first | exact Nat.ne_of_lt (Nat.lt_of_lt_of_le (by have := World.block_lt_of_cell? _ _ hw741_1; first | rwa [add_block] at this | exact this) GW752.out) | (rw [add_block]; exact Nat.ne_of_lt (Nat.lt_of_lt_of_le (by have := World.block_lt_of_cell? _ _ hw741_1; first | rwa [add_block] at this | exact this) GW752.out)) | (show (Addr.add _ _).block ≠ _; rw [add_block]; exact Nat.ne_of_lt (Nat.lt_of_lt_of_le (by have := World.block_lt_of_cell? _ _ hw741_1; first | rwa [add_block] at this | exact this) GW752.out)) | (dsimp only; exact Nat.ne_of_lt (Nat.lt_of_lt_of_le (by have := World.block_lt_of_cell? _ _ hw741_1; first | rwa [add_block] at this | exact this) GW752.out))) _).trans (((cell_far (p := ⟨gb752, _, none⟩) (by first | exact Nat.ne_of_lt (Nat.lt_of_lt_of_le (by have := World.block_lt_of_cell? _ _ hw741_1; first | rwa [add_block] at this | exact this) GW752.out) | (rw [add_block]; exact Nat.ne_of_lt (Nat.lt_of_lt_of_le (by have := World.block_lt_of_cell? _ _ hw741_1; first | rwa [add_block] at this | exact this) GW752.out)) | (show (Addr.add _ _).block ≠ _; rw [add_block]; exact Nat.ne_of_lt (Nat.lt_of_lt_of_le (by have := World.block_lt_of_cell? _ _ hw741_1; first | rwa [add_block] at this | exact this) GW752.out)) | (dsimp only; exact Nat.ne_of_lt (Nat.lt_of_lt_of_le (by have := World.block_lt_of_cell? _ _ hw741_1; first | rwa [add_block] at this | exact this) GW752.out))) _).trans (((cell_far (p := ⟨gb752, _, none⟩) (by first | exact Nat.ne_of_lt (Nat.lt_of_lt_of_le (by have := World.block_lt_of_cell? _ _ hw741_1; first | rwa [add_block] at this | exact this) GW752.out) | (rw [add_block]; exact Nat.ne_of_lt (Nat.lt_of_lt_of_le (by have := World.block_lt_of_cell? _ _ hw741_1; first | rwa [add_block] at this | exact this) GW752.out)) | (show (Addr.add _ _).block ≠ _; rw [add_block]; exact Nat.ne_of_lt (Nat.lt_of_lt_of_le (by have := World.block_lt_of_cell? _ _ hw741_1; first | rwa [add_block] at this | exact this) GW752.out)) | (dsimp only; exact Nat.ne_of_lt (Nat.lt_of_lt_of_le (by have := World.block_lt_of_cell? _ _ hw741_1; first | rwa [add_block] at this | exact this) GW752.out))) _).trans (((cell_far (p := ⟨gb752, _, none⟩) (by first | exact Nat.ne_of_lt (Nat.lt_of_lt_of_le (by have := World.block_lt_of_cell? _ _ hw741_1; first | rwa [add_block] at this | exact this) GW752.out) | (rw [add_block]; exact Nat.ne_of_lt (Nat.lt_of_lt_of_le (by have := World.block_lt_of_cell? _ _ hw741_1; first | rwa [add_block] at this | exact this) GW752.out)) | (show (Addr.add _ _).block ≠ _; rw [add_block]; exact Nat.ne_of_lt (Nat.lt_of_lt_of_le (by have := World.block_lt_of_cell? _ _ hw741_1; first | rwa [add_block] at this | exact this) GW752.out)) | (dsimp only; exact Nat.ne_of_lt (Nat.lt_of_lt_of_le (by have := World.block_lt_of_cell? _ _ hw741_1; first | rwa [add_block] at this | exact this) GW752.out))) _).trans (((cell_far (p := ⟨gb752, _, none⟩) (by first | exact Nat.ne_of_lt (Nat.lt_of_lt_of_le (by have := World.block_lt_of_cell? _ _ hw741_1; first | rwa [add_block] at this | exact this) GW752.out) | (rw [add_block]; exact Nat.ne_of_lt (Nat.lt_of_lt_of_le (by have := World.block_lt_of_cell? _ _ hw741_1; first | rwa [add_block] at this | exact this) GW752.out)) | (show (Addr.add _ _).block ≠ _; rw [add_block]; exact Nat.ne_of_lt (Nat.lt_of_lt_of_le (by have := World.block_lt_of_cell? _ _ hw741_1; first | rwa [add_block] at this | exact this) GW752.out)) | (dsimp only; exact Nat.ne_of_lt (Nat.lt_of_lt_of_le (by have := World.block_lt_of_cell? _ _ hw741_1; first | rwa [add_block] at this | exact this) GW752.out))) _).trans (((cell_far (p := ⟨gb752, _, none⟩) (by first | exact Nat.ne_of_lt (Nat.lt_of_lt_of_le (by have := World.block_lt_of_cell? _ _ hw741_1; first | rwa [add_block] at this | exact this) GW752.out) | (rw [add_block]; exact Nat.ne_of_lt (Nat.lt_of_lt_of_le (by have := World.block_lt_of_cell? _ _ hw741_1; first | rwa [add_block] at this | exact this) GW752.out)) | (show (Addr.add _ _).block ≠ _; rw [add_block]; exact Nat.ne_of_lt (Nat.lt_of_lt_of_le (by have := World.block_lt_of_cell? _ _ hw741_1; first | rwa [add_block] at this | exact this) GW752.out)) | (dsimp only; exact Nat.ne_of_lt (Nat.lt_of_lt_of_le (by have := World.block_lt_of_cell? _ _ hw741_1; first | rwa [add_block] at this | exact this) GW752.out))) _).trans (((cell_far (p := ⟨gb752, _, none⟩) (by first | exact Nat.ne_of_lt (Nat.lt_of_lt_of_le (by have := World.block_lt_of_cell? _ _ hw741_1; first | rwa [add_block] at this | exact this) GW752.out) | (rw [add_block]; exact Nat.ne_of_lt (Nat.lt_of_lt_of_le (by have := World.block_lt_of_cell? _ _ hw741_1; first | rwa [add_block] at this | exact this) GW752.out)) | (show (Addr.add _ _).block ≠ _; rw [add_block]; exact Nat.ne_of_lt (Nat.lt_of_lt_of_le (by have := World.block_lt_of_cell? _ _ hw741_1; first | rwa [add_block] at this | exact this) GW752.out)) | (dsimp only; exact Nat.ne_of_lt (Nat.lt_of_lt_of_le (by have := World.block_lt_of_cell? _ _ hw741_1; first | rwa [add_block] at this | exact this) GW752.out))) _).trans (hHeld.2.2.2.2.2.2.2.2.2.2.2.2.2.2.2.2.2.1)))))))))))))))))), ((cell_far (p := ⟨gb752, _, none⟩) (by first | exact Nat.ne_of_lt (Nat.lt_of_lt_of_le (by have := World.block_lt_of_cell? _ _ hw741_2; first | rwa [add_block] at this | exact this) GW752.out) | (rw [add_block]; exact Nat.ne_of_lt (Nat.lt_of_lt_of_le (by have := World.block_lt_of_cell? _ _ hw741_2; first | rwa [add_block] at this | exact this) GW752.out)) | (show (Addr.add _ _).block ≠ _; rw [add_block]; exact Nat.ne_of_lt (Nat.lt_of_lt_of_le (by have := World.block_lt_of_cell? _ _ hw741_2; first | rwa [add_block] at this | exact this) GW752.out)) | (dsimp only; exact Nat.ne_of_lt (Nat.lt_of_lt_of_le (by have := World.block_lt_of_cell? _ _ hw741_2; first | rwa [add_block] at this | exact this) GW752.out))) _).trans (((cell_far (p := ⟨gb752, _, none⟩) (by first | exact Nat.ne_of_lt (Nat.lt_of_lt_of_le (by have := World.block_lt_of_cell? _ _ hw741_2; first | rwa [add_block] at this | exact this) GW752.out) | (rw [add_block]; exact Nat.ne_of_lt (Nat.lt_of_lt_of_le (by have := World.block_lt_of_cell? _ _ hw741_2; first | rwa [add_block] at this | exact this) GW752.out)) | (show (Addr.add _ _).block ≠ _; rw [add_block]; exact Nat.ne_of_lt (Nat.lt_of_lt_of_le (by have := World.block_lt_of_cell? _ _ hw741_2; first | rwa [add_block] at this | exact this) GW752.out)) | (dsimp only; exact Nat.ne_of_lt (Nat.lt_of_lt_of_le (by have := World.block_lt_of_cell? _ _ hw741_2; first | rwa [add_block] at this | exact this) GW752.out))) _).trans (((cell_far (p := ⟨gb752, _, none⟩) (by first | exact Nat.ne_of_lt (Nat.lt_of_lt_of_le (by have := World.block_lt_of_cell? _ _ hw741_2; first | rwa [add_block] at this | exact this) GW752.out) | (rw [add_block]; exact Nat.ne_of_lt (Nat.lt_of_lt_of_le (by have := World.block_lt_of_cell? _ _ hw741_2; first | rwa [add_block] at this | exact this) GW752.out)) | (show (Addr.add _ _).block ≠ _; rw [add_block]; exact Nat.ne_of_lt (Nat.lt_of_lt_of_le (by have := World.block_lt_of_cell? _ _ hw741_2; first | rwa [add_block] at this | exact this) GW752.out)) | (dsimp only; exact Nat.ne_of_lt (Nat.lt_of_lt_of_le (by have := World.block_lt_of_cell? _ _ hw741_2; first | rwa [add_block] at this | exact this) GW752.out))) _).trans (((cell_far (p := ⟨gb752, _, none⟩) (by first | exact Nat.ne_of_lt (Nat.lt_of_lt_of_le (by have := World.block_lt_of_cell? _ _ hw741_2; first | rwa [add_block] at this | exact this) GW752.out) | (rw [add_block]; exact Nat.ne_of_lt (Nat.lt_of_lt_of_le (by have := World.block_lt_of_cell? _ _ hw741_2; first | rwa [add_block] at this | exact this) GW752.out)) | (show (Addr.add _ _).block ≠ _; rw [add_block]; exact Nat.ne_of_lt (Nat.lt_of_lt_of_le (by have := World.block_lt_of_cell? _ _ hw741_2; first | rwa [add_block] at this | exact this) GW752.out)) | (dsimp only; exact Nat.ne_of_lt (Nat.lt_of_lt_of_le (by have := World.block_lt_of_cell? _ _ hw741_2; first | rwa [add_block] at this | exact this) GW752.out))) _).trans (((cell_far (p := ⟨gb752, _, none⟩) (by first | exact Nat.ne_of_lt (Nat.lt_of_lt_of_le (by have := World.block_lt_of_cell? _ _ hw741_2; first | rwa [add_block] at this | exact this) GW752.out) | (rw [add_block]; exact Nat.ne_of_lt (Nat.lt_of_lt_of_le (by have := World.block_lt_of_cell? _ _ hw741_2; first | rwa [add_block] at this | exact this) GW752.out)) | (show (Addr.add _ _).block ≠ _; rw [add_block]; exact Nat.ne_of_lt (Nat.lt_of_lt_of_le (by have := World.block_lt_of_cell? _ _ hw741_2; first | rwa [add_block] at this | exact this) GW752.out)) | (dsimp only; exact Nat.ne_of_lt (Nat.lt_of_lt_of_le (by have := World.block_lt_of_cell? _ _ hw741_2; first | rwa [add_block] at this | exact this) GW752.out))) _).trans (((cell_far (p := ⟨gb752, _, none⟩) (by first | exact Nat.ne_of_lt (Nat.lt_of_lt_of_le (by have := World.block_lt_of_cell? _ _ hw741_2; first | rwa [add_block] at this | exact this) GW752.out) | (rw [add_block]; exact Nat.ne_of_lt (Nat.lt_of_lt_of_le (by have := World.block_lt_of_cell? _ _ hw741_2; first | rwa [add_block] at this | exact this) GW752.out)) | (show (Addr.add _ _).block ≠ _; rw [add_block]; exact Nat.ne_of_lt (Nat.lt_of_lt_of_le (by have := World.block_lt_of_cell? _ _ hw741_2; first | rwa [add_block] at this | exact this) GW752.out)) | (dsimp only; exact Nat.ne_of_lt (Nat.lt_of_lt_of_le (by have := World.block_lt_of_cell? _ _ hw741_2; first | rwa [add_block] at this | exact this) GW752.out))) _).trans (((cell_far (p := ⟨gb752, _, none⟩) (by first | exact Nat.ne_of_lt (Nat.lt_of_lt_of_le (by have := World.block_lt_of_cell? _ _ hw741_2; first | rwa [add_block] at this | exact this) GW752.out) | (rw [add_block]; exact Nat.ne_of_lt (Nat.lt_of_lt_of_le (by have := World.block_lt_of_cell? _ _ hw741_2; first | rwa [add_block] at this | exact this) GW752.out)) | (show (Addr.add _ _).block ≠ _; rw [add_block]; exact Nat.ne_of_lt (Nat.lt_of_lt_of_le (by have := World.block_lt_of_cell? _ _ hw741_2; first | rwa [add_block] at this | exact this) GW752.out)) | (dsimp only; exact Nat.ne_of_lt (Nat.lt_of_lt_of_le (by have := World.block_lt_of_cell? _ _ hw741_2; first | rwa [add_block] at this | exact this) GW752.out))) _).trans (((cell_far (p := ⟨gb752, _, none⟩) (by first | exact Nat.ne_of_lt (Nat.lt_of_lt_of_le (by have := World.block_lt_of_cell? _ _ hw741_2; first | rwa [add_block] at this | exact this) GW752.out) | (rw [add_block]; exact Nat.ne_of_lt (Nat.lt_of_lt_of_le (by have := World.block_lt_of_cell? _ _ hw741_2; first | rwa [add_block] at this | exact this) GW752.out)) | (show (Addr.add _ _).block ≠ _; rw [add_block]; exact Nat.ne_of_lt (Nat.lt_of_lt_of_le (by have := World.block_lt_of_cell? _ _ hw741_2; first | rwa [add_block] at this | exact this) GW752.out)) | (dsimp only; exact Nat.ne_of_lt (Nat.lt_of_lt_of_le (by have := World.block_lt_of_cell? _ _ hw741_2; first | rwa [add_block] at this | exact this) GW752.out))) _).trans (((cell_far (p := ⟨gb752, _, none⟩) (by first | exact Nat.ne_of_lt (Nat.lt_of_lt_of_le (by have := World.block_lt_of_cell? _ _ hw741_2; first | rwa [add_block] at this | exact this) GW752.out) | (rw [add_block]; exact Nat.ne_of_lt (Nat.lt_of_lt_of_le (by have := World.block_lt_of_cell? _ _ hw741_2; first | rwa [add_block] at this | exact this) GW752.out)) | (show (Addr.add _ _).block ≠ _; rw [add_block]; exact Nat.ne_of_lt (Nat.lt_of_lt_of_le (by have := World.block_lt_of_cell? _ _ hw741_2; first | rwa [add_block] at this | exact this) GW752.out)) | (dsimp only; exact Nat.ne_of_lt (Nat.lt_of_lt_of_le (by have := World.block_lt_of_cell? _ _ hw741_2; first | rwa [add_block] at this | exact this) GW752.out))) _).trans (hHeld.2.2.2.2.2.2.2.2.2.2.2.2.2.2.2.2.2.2.1)))))))))))))))))), ((cell_far (p := ⟨gb752, _, none⟩) (by first | exact Nat.ne_of_lt (Nat.lt_of_lt_of_le (by have := World.block_lt_of_cell? _ _ hw742_0; first | rwa [add_block] at this | exact this) GW752.out) | (rw [add_block]; exact Nat.ne_of_lt (Nat.lt_of_lt_of_le (by have := World.block_lt_of_cell? _ _ hw742_0; first | rwa [add_block] at this | exact this) GW752.out)) | (show (Addr.add _ _).block ≠ _; rw [add_block]; exact Nat.ne_of_lt (Nat.lt_of_lt_of_le (by have := World.block_lt_of_cell? _ _ hw742_0; first | rwa [add_block] at this | exact this) GW752.out)) | (dsimp only; exact Nat.ne_of_lt (Nat.lt_of_lt_of_le (by have := World.block_lt_of_cell? _ _ hw742_0; first | rwa [add_block] at this | exact this) GW752.out))) _).trans (((cell_far (p := ⟨gb752, _, none⟩) (by first | exact Nat.ne_of_lt (Nat.lt_of_lt_of_le (by have := World.block_lt_of_cell? _ _ hw742_0; first | rwa [add_block] at this | exact this) GW752.out) | (rw [add_block]; exact Nat.ne_of_lt (Nat.lt_of_lt_of_le (by have := World.block_lt_of_cell? _ _ hw742_0; first | rwa [add_block] at this | exact this) GW752.out)) | (show (Addr.add _ _).block ≠ _; rw [add_block]; exact Nat.ne_of_lt (Nat.lt_of_lt_of_le (by have := World.block_lt_of_cell? _ _ hw742_0; first | rwa [add_block] at this | exact this) GW752.out)) | (dsimp only; exact Nat.ne_of_lt (Nat.lt_of_lt_of_le (by have := World.block_lt_of_cell? _ _ hw742_0; first | rwa [add_block] at this | exact this) GW752.out))) _).trans (((cell_far (p := ⟨gb752, _, none⟩) (by first | exact Nat.ne_of_lt (Nat.lt_of_lt_of_le (by have := World.block_lt_of_cell? _ _ hw742_0; first | rwa [add_block] at this | exact this) GW752.out) | (rw [add_block]; exact Nat.ne_of_lt (Nat.lt_of_lt_of_le (by have := World.block_lt_of_cell? _ _ hw742_0; first | rwa [add_block] at this | exact this) GW752.out)) | (show (Addr.add _ _).block ≠ _; rw [add_block]; exact Nat.ne_of_lt (Nat.lt_of_lt_of_le (by have := World.block_lt_of_cell? _ _ hw742_0; first | rwa [add_block] at this | exact this) GW752.out)) | (dsimp only; exact Nat.ne_of_lt (Nat.lt_of_lt_of_le (by have := World.block_lt_of_cell? _ _ hw742_0; first | rwa [add_block] at this | exact this) GW752.out))) _).trans (((cell_far (p := ⟨gb752, _, none⟩) (by first | exact Nat.ne_of_lt (Nat.lt_of_lt_of_le (by have := World.block_lt_of_cell? _ _ hw742_0; first | rwa [add_block] at this | exact this) GW752.out) | (rw [add_block]; exact Nat.ne_of_lt (Nat.lt_of_lt_of_le (by have := World.block_lt_of_cell? _ _ hw742_0; first | rwa [add_block] at this | exact this) GW752.out)) | (show (Addr.add _ _).block ≠ _; rw [add_block]; exact Nat.ne_of_lt (Nat.lt_of_lt_of_le (by have := World.block_lt_of_cell? _ _ hw742_0; first | rwa [add_block] at this | exact this) GW752.out)) | (dsimp only; exact Nat.ne_of_lt (Nat.lt_of_lt_of_le (by have := World.block_lt_of_cell? _ _ hw742_0; first | rwa [add_block] at this | exact this) GW752.out))) _).trans (((cell_far (p := ⟨gb752, _, none⟩) (by first | exact Nat.ne_of_lt (Nat.lt_of_lt_of_le (by have := World.block_lt_of_cell? _ _ hw742_0; first | rwa [add_block] at this | exact this) GW752.out) | (rw [add_block]; exact Nat.ne_of_lt (Nat.lt_of_lt_of_le (by have := World.block_lt_of_cell? _ _ hw742_0; first | rwa [add_block] at this | exact this) GW752.out)) | (show (Addr.add _ _).block ≠ _; rw [add_block]; exact Nat.ne_of_lt (Nat.lt_of_lt_of_le (by have := World.block_lt_of_cell? _ _ hw742_0; first | rwa [add_block] at this | exact this) GW752.out)) | (dsimp only; exact Nat.ne_of_lt (Nat.lt_of_lt_of_le (by have := World.block_lt_of_cell? _ _ hw742_0; first | rwa [add_block] at this | exact this) GW752.out))) _).trans (((cell_far (p := ⟨gb752, _, none⟩) (by first | exact Nat.ne_of_lt (Nat.lt_of_lt_of_le (by have := World.block_lt_of_cell? _ _ hw742_0; first | rwa [add_block] at this | exact this) GW752.out) | (rw [add_block]; exact Nat.ne_of_lt (Nat.lt_of_lt_of_le (by have := World.block_lt_of_cell? _ _ hw742_0; first | rwa [add_block] at this | exact this) GW752.out)) | (show (Addr.add _ _).block ≠ _; rw [add_block]; exact Nat.ne_of_lt (Nat.lt_of_lt_of_le (by have := World.block_lt_of_cell? _ _ hw742_0; first | rwa [add_block] at this | exact this) GW752.out)) | (dsimp only; exact Nat.ne_of_lt (Nat.lt_of_lt_of_le (by have := World.block_lt_of_cell? _ _ hw742_0; first | rwa [add_block] at this | exact this) GW752.out))) _).trans (((cell_far (p := ⟨gb752, _, none⟩) (by first | exact Nat.ne_of_lt (Nat.lt_of_lt_of_le (by have := World.block_lt_of_cell? _ _ hw742_0; first | rwa [add_block] at this | exact this) GW752.out) | (rw [add_block]; exact Nat.ne_of_lt (Nat.lt_of_lt_of_le (by have := World.block_lt_of_cell? _ _ hw742_0; first | rwa [add_block] at this | exact this) GW752.out)) | (show (Addr.add _ _).block ≠ _; rw [add_block]; exact Nat.ne_of_lt (Nat.lt_of_lt_of_le (by have := World.block_lt_of_cell? _ _ hw742_0; first | rwa [add_block] at this | exact this) GW752.out)) | (dsimp only; exact Nat.ne_of_lt (Nat.lt_of_lt_of_le (by have := World.block_lt_of_cell? _ _ hw742_0; first | rwa [add_block] at this | exact this) GW752.out))) _).trans (((cell_far (p := ⟨gb752, _, none⟩) (by first | exact Nat.ne_of_lt (Nat.lt_of_lt_of_le (by have := World.block_lt_of_cell? _ _ hw742_0; first | rwa [add_block] at this | exact this) GW752.out) | (rw [add_block]; exact Nat.ne_of_lt (Nat.lt_of_lt_of_le (by have := World.block_lt_of_cell? _ _ hw742_0; first | rwa [add_block] at this | exact this) GW752.out)) | (show (Addr.add _ _).block ≠ _; rw [add_block]; exact Nat.ne_of_lt (Nat.lt_of_lt_of_le (by have := World.block_lt_of_cell? _ _ hw742_0; first | rwa [add_block] at this | exact this) GW752.out)) | (dsimp only; exact Nat.ne_of_lt (Nat.lt_of_lt_of_le (by have := World.block_lt_of_cell? _ _ hw742_0; first | rwa [add_block] at this | exact this) GW752.out))) _).trans (((cell_far (p := ⟨gb752, _, none⟩) (by first | exact Nat.ne_of_lt (Nat.lt_of_lt_of_le (by have := World.block_lt_of_cell? _ _ hw742_0; first | rwa [add_block] at this | exact this) GW752.out) | (rw [add_block]; exact Nat.ne_of_lt (Nat.lt_of_lt_of_le (by have := World.block_lt_of_cell? _ _ hw742_0; first | rwa [add_block] at this | exact this) GW752.out)) | (show (Addr.add _ _).block ≠ _; rw [add_block]; exact Nat.ne_of_lt (Nat.lt_of_lt_of_le (by have := World.block_lt_of_cell? _ _ hw742_0; first | rwa [add_block] at this | exact this) GW752.out)) | (dsimp only; exact Nat.ne_of_lt (Nat.lt_of_lt_of_le (by have := World.block_lt_of_cell? _ _ hw742_0; first | rwa [add_block] at this | exact this) GW752.out))) _).trans (hHeld.2.2.2.2.2.2.2.2.2.2.2.2.2.2.2.2.2.2.2.1)))))))))))))))))), ((cell_far (p := ⟨gb752, _, none⟩) (by first | exact Nat.ne_of_lt (Nat.lt_of_lt_of_le (by have := World.block_lt_of_cell? _ _ hw742_1; first | rwa [add_block] at this | exact this) GW752.out) | (rw [add_block]; exact Nat.ne_of_lt (Nat.lt_of_lt_of_le (by have := World.block_lt_of_cell? _ _ hw742_1; first | rwa [add_block] at this | exact this) GW752.out)) | (show (Addr.add _ _).block ≠ _; rw [add_block]; exact Nat.ne_of_lt (Nat.lt_of_lt_of_le (by have := World.block_lt_of_cell? _ _ hw742_1; first | rwa [add_block] at this | exact this) GW752.out)) | (dsimp only; exact Nat.ne_of_lt (Nat.lt_of_lt_of_le (by have := World.block_lt_of_cell? _ _ hw742_1; first | rwa [add_block] at this | exact this) GW752.out))) _).trans (((cell_far (p := ⟨gb752, _, none⟩) (by first | exact Nat.ne_of_lt (Nat.lt_of_lt_of_le (by have := World.block_lt_of_cell? _ _ hw742_1; first | rwa [add_block] at this | exact this) GW752.out) | (rw [add_block]; exact Nat.ne_of_lt (Nat.lt_of_lt_of_le (by have := World.block_lt_of_cell? _ _ hw742_1; first | rwa [add_block] at this | exact this) GW752.out)) | (show (Addr.add _ _).block ≠ _; rw [add_block]; exact Nat.ne_of_lt (Nat.lt_of_lt_of_le (by have := World.block_lt_of_cell? _ _ hw742_1; first | rwa [add_block] at this | exact this) GW752.out)) | (dsimp only; exact Nat.ne_of_lt (Nat.lt_of_lt_of_le (by have := World.block_lt_of_cell? _ _ hw742_1; first | rwa [add_block] at this | exact this) GW752.out))) _).trans (((cell_far (p := ⟨gb752, _, none⟩) (by first | exact Nat.ne_of_lt (Nat.lt_of_lt_of_le (by have := World.block_lt_of_cell? _ _ hw742_1; first | rwa [add_block] at this | exact this) GW752.out) | (rw [add_block]; exact Nat.ne_of_lt (Nat.lt_of_lt_of_le (by have := World.block_lt_of_cell? _ _ hw742_1; first | rwa [add_block] at this | exact this) GW752.out)) | (show (Addr.add _ _).block ≠ _; rw [add_block]; exact Nat.ne_of_lt (Nat.lt_of_lt_of_le (by have := World.block_lt_of_cell? _ _ hw742_1; first | rwa [add_block] at this | exact this) GW752.out)) | (dsimp only; exact Nat.ne_of_lt (Nat.lt_of_lt_of_le (by have := World.block_lt_of_cell? _ _ hw742_1; first | rwa [add_block] at this | exact this) GW752.out))) _).trans (((cell_far (p := ⟨gb752, _, none⟩) (by first | exact Nat.ne_of_lt (Nat.lt_of_lt_of_le (by have := World.block_lt_of_cell? _ _ hw742_1; first | rwa [add_block] at this | exact this) GW752.out) | (rw [add_block]; exact Nat.ne_of_lt (Nat.lt_of_lt_of_le (by have := World.block_lt_of_cell? _ _ hw742_1; first | rwa [add_block] at this | exact this) GW752.out)) | (show (Addr.add _ _).block ≠ _; rw [add_block]; exact Nat.ne_of_lt (Nat.lt_of_lt_of_le (by have := World.block_lt_of_cell? _ _ hw742_1; first | rwa [add_block] at this | exact this) GW752.out)) | (dsimp only; exact Nat.ne_of_lt (Nat.lt_of_lt_of_le (by have := World.block_lt_of_cell? _ _ hw742_1; first | rwa [add_block] at this | exact this) GW752.out))) _).trans (((cell_far (p := ⟨gb752, _, none⟩) (by first | exact Nat.ne_of_lt (Nat.lt_of_lt_of_le (by have := World.block_lt_of_cell? _ _ hw742_1; first | rwa [add_block] at this | exact this) GW752.out) | (rw [add_block]; exact Nat.ne_of_lt (Nat.lt_of_lt_of_le (by have := World.block_lt_of_cell? _ _ hw742_1; first | rwa [add_block] at this | exact this) GW752.out)) | (show (Addr.add _ _).block ≠ _; rw [add_block]; exact Nat.ne_of_lt (Nat.lt_of_lt_of_le (by have := World.block_lt_of_cell? _ _ hw742_1; first | rwa [add_block] at this | exact this) GW752.out)) | (dsimp only; exact Nat.ne_of_lt (Nat.lt_of_lt_of_le (by have := World.block_lt_of_cell? _ _ hw742_1; first | rwa [add_block] at this | exact this) GW752.out))) _).trans (((cell_far (p := ⟨gb752, _, none⟩) (by first | exact Nat.ne_of_lt (Nat.lt_of_lt_of_le (by have := World.block_lt_of_cell? _ _ hw742_1; first | rwa [add_block] at this | exact this) GW752.out) | (rw [add_block]; exact Nat.ne_of_lt (Nat.lt_of_lt_of_le (by have := World.block_lt_of_cell? _ _ hw742_1; first | rwa [add_block] at this | exact this) GW752.out)) | (show (Addr.add _ _).block ≠ _; rw [add_block]; exact Nat.ne_of_lt (Nat.lt_of_lt_of_le (by have := World.block_lt_of_cell? _ _ hw742_1; first | rwa [add_block] at this | exact this) GW752.out)) | (dsimp only; exact Nat.ne_of_lt (Nat.lt_of_lt_of_le (by have := World.block_lt_of_cell? _ _ hw742_1; first | rwa [add_block] at this | exact this) GW752.out))) _).trans (((cell_far (p := ⟨gb752, _, none⟩) (by first | exact Nat.ne_of_lt (Nat.lt_of_lt_of_le (by have := World.block_lt_of_cell? _ _ hw742_1; first | rwa [add_block] at this | exact this) GW752.out) | (rw [add_block]; exact Nat.ne_of_lt (Nat.lt_of_lt_of_le (by have := World.block_lt_of_cell? _ _ hw742_1; first | rwa [add_block] at this | exact this) GW752.out)) | (show (Addr.add _ _).block ≠ _; rw [add_block]; exact Nat.ne_of_lt (Nat.lt_of_lt_of_le (by have := World.block_lt_of_cell? _ _ hw742_1; first | rwa [add_block] at this | exact this) GW752.out)) | (dsimp only; exact Nat.ne_of_lt (Nat.lt_of_lt_of_le (by have := World.block_lt_of_cell? _ _ hw742_1; first | rwa [add_block] at this | exact this) GW752.out))) _).trans (((cell_far (p := ⟨gb752, _, none⟩) (by first | exact Nat.ne_of_lt (Nat.lt_of_lt_of_le (by have := World.block_lt_of_cell? _ _ hw742_1; first | rwa [add_block] at this | exact this) GW752.out) | (rw [add_block]; exact Nat.ne_of_lt (Nat.lt_of_lt_of_le (by have := World.block_lt_of_cell? _ _ hw742_1; first | rwa [add_block] at this | exact this) GW752.out)) | (show (Addr.add _ _).block ≠ _; rw [add_block]; exact Nat.ne_of_lt (Nat.lt_of_lt_of_le (by have := World.block_lt_of_cell? _ _ hw742_1; first | rwa [add_block] at this | exact this) GW752.out)) | (dsimp only; exact Nat.ne_of_lt (Nat.lt_of_lt_of_le (by have := World.block_lt_of_cell? _ _ hw742_1; first | rwa [add_block] at this | exact this) GW752.out))) _).trans (((cell_far (p := ⟨gb752, _, none⟩) (by first | exact Nat.ne_of_lt (Nat.lt_of_lt_of_le (by have := World.block_lt_of_cell? _ _ hw742_1; first | rwa [add_block] at this | exact this) GW752.out) | (rw [add_block]; exact Nat.ne_of_lt (Nat.lt_of_lt_of_le (by have := World.block_lt_of_cell? _ _ hw742_1; first | rwa [add_block] at this | exact this) GW752.out)) | (show (Addr.add _ _).block ≠ _; rw [add_block]; exact Nat.ne_of_lt (Nat.lt_of_lt_of_le (by have := World.block_lt_of_cell? _ _ hw742_1; first | rwa [add_block] at this | exact this) GW752.out)) | (dsimp only; exact Nat.ne_of_lt (Nat.lt_of_lt_of_le (by have := World.block_lt_of_cell? _ _ hw742_1; first | rwa [add_block] at this | exact this) GW752.out))) _).trans (hHeld.2.2.2.2.2.2.2.2.2.2.2.2.2.2.2.2.2.2.2.2.1)))))))))))))))))), ((cell_far (p := ⟨gb752, _, none⟩) (by first | exact Nat.ne_of_lt (Nat.lt_of_lt_of_le (by have := World.block_lt_of_cell? _ _ hw742_2; first | rwa [add_block] at this | exact this) GW752.out) | (rw [add_block]; exact Nat.ne_of_lt (Nat.lt_of_lt_of_le (by have := World.block_lt_of_cell? _ _ hw742_2; first | rwa [add_block] at this | exact this) GW752.out)) | (show (Addr.add _ _).block ≠ _; rw [add_block]; exact Nat.ne_of_lt (Nat.lt_of_lt_of_le (by have := World.block_lt_of_cell? _ _ hw742_2; first | rwa [add_block] at this | exact this) GW752.out)) | (dsimp only; exact Nat.ne_of_lt (Nat.lt_of_lt_of_le (by have := World.block_lt_of_cell? _ _ hw742_2; first | rwa [add_block] at this | exact this) GW752.out))) _).trans (((cell_far (p := ⟨gb752, _, none⟩) (by first | exact Nat.ne_of_lt (Nat.lt_of_lt_of_le (by have := World.block_lt_of_cell? _ _ hw742_2; first | rwa [add_block] at this | exact this) GW752.out) | (rw [add_block]; exact Nat.ne_of_lt (Nat.lt_of_lt_of_le (by have := World.block_lt_of_cell? _ _ hw742_2; first | rwa [add_block] at this | exact this) GW752.out)) | (show (Addr.add _ _).block ≠ _; rw [add_block]; exact Nat.ne_of_lt (Nat.lt_of_lt_of_le (by have := World.block_lt_of_cell? _ _ hw742_2; first | rwa [add_block] at this | exact this) GW752.out)) | (dsimp only; exact Nat.ne_of_lt (Nat.lt_of_lt_of_le (by have := World.block_lt_of_cell? _ _ hw742_2; first | rwa [add_block] at this | exact this) GW752.out))) _).trans (((cell_far (p := ⟨gb752, _, none⟩) (by first | exact Nat.ne_of_lt (Nat.lt_of_lt_of_le (by have := World.block_lt_of_cell? _ _ hw742_2; first | rwa [add_block] at this | exact this) GW752.out) | (rw [add_block]; exact Nat.ne_of_lt (Nat.lt_of_lt_of_le (by have := World.block_lt_of_cell? _ _ hw742_2; first | rwa [add_block] at this | exact this) GW752.out)) | (show (Addr.add _ _).block ≠ _; rw [add_block]; exact Nat.ne_of_lt (Nat.lt_of_lt_of_le (by have := World.block_lt_of_cell? _ _ hw742_2; first | rwa [add_block] at this | exact this) GW752.out)) | (dsimp only; exact Nat.ne_of_lt (Nat.lt_of_lt_of_le (by have := World.block_lt_of_cell? _ _ hw742_2; first | rwa [add_block] at this | exact this) GW752.out))) _).trans (((cell_far (p := ⟨gb752, _, none⟩) (by first | exact Nat.ne_of_lt (Nat.lt_of_lt_of_le (by have := World.block_lt_of_cell? _ _ hw742_2; first | rwa [add_block] at this | exact this) GW752.out) | (rw [add_block]; exact Nat.ne_of_lt (Nat.lt_of_lt_of_le (by have := World.block_lt_of_cell? _ _ hw742_2; first | rwa [add_block] at this | exact this) GW752.out)) | (show (Addr.add _ _).block ≠ _; rw [add_block]; exact Nat.ne_of_lt (Nat.lt_of_lt_of_le (by have := World.block_lt_of_cell? _ _ hw742_2; first | rwa [add_block] at this | exact this) GW752.out)) | (dsimp only; exact Nat.ne_of_lt (Nat.lt_of_lt_of_le (by have := World.block_lt_of_cell? _ _ hw742_2; first | rwa [add_block] at this | exact this) GW752.out))) _).trans (((cell_far (p := ⟨gb752, _, none⟩) (by first | exact Nat.ne_of_lt (Nat.lt_of_lt_of_le (by have := World.block_lt_of_cell? _ _ hw742_2; first | rwa [add_block] at this | exact this) GW752.out) | (rw [add_block]; exact Nat.ne_of_lt (Nat.lt_of_lt_of_le (by have := World.block_lt_of_cell? _ _ hw742_2; first | rwa [add_block] at this | exact this) GW752.out)) | (show (Addr.add _ _).block ≠ _; rw [add_block]; exact Nat.ne_of_lt (Nat.lt_of_lt_of_le (by have := World.block_lt_of_cell? _ _ hw742_2; first | rwa [add_block] at this | exact this) GW752.out)) | (dsimp only; exact Nat.ne_of_lt (Nat.lt_of_lt_of_le (by have := World.block_lt_of_cell? _ _ hw742_2; first | rwa [add_block] at this | exact this) GW752.out))) _).trans (((cell_far (p := ⟨gb752, _, none⟩) (by first | exact Nat.ne_of_lt (Nat.lt_of_lt_of_le (by have := World.block_lt_of_cell? _ _ hw742_2; first | rwa [add_block] at this | exact this) GW752.out) | (rw [add_block]; exact Nat.ne_of_lt (Nat.lt_of_lt_of_le (by have := World.block_lt_of_cell? _ _ hw742_2; first | rwa [add_block] at this | exact this) GW752.out)) | (show (Addr.add _ _).block ≠ _; rw [add_block]; exact Nat.ne_of_lt (Nat.lt_of_lt_of_le (by have := World.block_lt_of_cell? _ _ hw742_2; first | rwa [add_block] at this | exact this) GW752.out)) | (dsimp only; exact Nat.ne_of_lt (Nat.lt_of_lt_of_le (by have := World.block_lt_of_cell? _ _ hw742_2; first | rwa [add_block] at this | exact this) GW752.out))) _).trans (((cell_far (p := ⟨gb752, _, none⟩) (by first | exact Nat.ne_of_lt (Nat.lt_of_lt_of_le (by have := World.block_lt_of_cell? _ _ hw742_2; first | rwa [add_block] at this | exact this) GW752.out) | (rw [add_block]; exact Nat.ne_of_lt (Nat.lt_of_lt_of_le (by have := World.block_lt_of_cell? _ _ hw742_2; first | rwa [add_block] at this | exact this) GW752.out)) | (show (Addr.add _ _).block ≠ _; rw [add_block]; exact Nat.ne_of_lt (Nat.lt_of_lt_of_le (by have := World.block_lt_of_cell? _ _ hw742_2; first | rwa [add_block] at this | exact this) GW752.out)) | (dsimp only; exact Nat.ne_of_lt (Nat.lt_of_lt_of_le (by have := World.block_lt_of_cell? _ _ hw742_2; first | rwa [add_block] at this | exact this) GW752.out))) _).trans (((cell_far (p := ⟨gb752, _, none⟩) (by first | exact Nat.ne_of_lt (Nat.lt_of_lt_of_le (by have := World.block_lt_of_cell? _ _ hw742_2; first | rwa [add_block] at this | exact this) GW752.out) | (rw [add_block]; exact Nat.ne_of_lt (Nat.lt_of_lt_of_le (by have := World.block_lt_of_cell? _ _ hw742_2; first | rwa [add_block] at this | exact this) GW752.out)) | (show (Addr.add _ _).block ≠ _; rw [add_block]; exact Nat.ne_of_lt (Nat.lt_of_lt_of_le (by have := World.block_lt_of_cell? _ _ hw742_2; first | rwa [add_block] at this | exact this) GW752.out)) | (dsimp only; exact Nat.ne_of_lt (Nat.lt_of_lt_of_le (by have := World.block_lt_of_cell? _ _ hw742_2; first | rwa [add_block] at this | exact this) GW752.out))) _).trans (((cell_far (p := ⟨gb752, _, none⟩) (by first | exact Nat.ne_of_lt (Nat.lt_of_lt_of_le (by have := World.block_lt_of_cell? _ _ hw742_2; first | rwa [add_block] at this | exact this) GW752.out) | (rw [add_block]; exact Nat.ne_of_lt (Nat.lt_of_lt_of_le (by have := World.block_lt_of_cell? _ _ hw742_2; first | rwa [add_block] at this | exact this) GW752.out)) | (show (Addr.add _ _).block ≠ _; rw [add_block]; exact Nat.ne_of_lt (Nat.lt_of_lt_of_le (by have := World.block_lt_of_cell? _ _ hw742_2; first | rwa [add_block] at this | exact this) GW752.out)) | (dsimp only; exact Nat.ne_of_lt (Nat.lt_of_lt_of_le (by have := World.block_lt_of_cell? _ _ hw742_2; first | rwa [add_block] at this | exact this) GW752.out))) _).trans (hHeld.2.2.2.2.2.2.2.2.2.2.2.2.2.2.2.2.2.2.2.2.2))))))))))))))))))⟩ (fun hHeld => ?_)
                                          clear hK K
                                          refine done_ (done_of HT_.out (by kernel_rfl)) ?_
                                          go_upto_region 13 with (fail)
                                          go_cut [48] (fun v48 wc => ∃ (kq : Nat) (x48_44 : Bool), v48 = .bool x48_44 ∧ Aside0 (turnstilelaw17_ReserveSeldom.j8 kq l2 x10_10 x11_5 x48_44 a0_0 a0_1 a0_2 a0_3 a0_4 a1_0 a1_1 a1_2 a1_3 a1_4 x738000_32 x738001_32 x738002_32 x739000_5 x739001_5 x739002_5 t743 t744 t745 t746 t747 t748 t749 t750 t751 = some r) ∧ Aside0 (kq ≤ kj32) ∧ Aside0 (wc.heap[gb734]? = some (.cells #[.int .u64 a0_0, .int .u64 a0_1, .int .i64 a0_2, .int .i64 a0_3, .int .i64 a0_4] 53 (0, 0))) ∧ Aside0 (wc.heap[gb735]? = some (.cells #[.int .i64 a1_0, .int .u64 a1_1, .int .u64 a1_2, .int .u64 a1_3, .int .u64 a1_4] 27 (0, 0))) ∧ Aside0 (wc.heap[gb737]? = some (.cells #[.int .u64 x738000_32, .int .u64 x738001_32, .int .u64 x738002_32] 29 (0, 0))) ∧ Aside0 (wc.heap[gb738]? = some (.cells #[.int .u64 x739000_5, .int .u64 x739001_5, .int .u64 x739002_5] 29 (0, 0))) ∧ Aside0 (wc.heap[gb752]? = some (.cells #[.int .u64 t743, .int .u64 t744, .int .u64 t745, .bool t746, .int .u64 t747, .bool t748, .int .u64 t749, .int .u64 t750, .int .u64 t751] 58 (0, 0))) ∧ Aside0 (Below w.heap.size w wc))
                                          case first =>
                                            have H := HC45.out
                                            clear HC45
                                            have H' := Aside0.mk H
                                            clear H
                                            go_wp2
                                            go_meet
                                            case rel => exact ⟨_, (!x10_10), rs, H', ⟨by have := HJ3.out; have := HJ8.out; have := HJ10.out; have := HJ26.out; have := HK5.out; have := HJ27.out; have := HJ29.out; have := HJ32.out; first | omega | exact Nat.le_refl _⟩, ⟨bk BK734⟩, ⟨bk BK735⟩, ⟨bk BK737⟩, ⟨bk BK738⟩, ⟨(put9_ BK752.out)⟩, ⟨bw HB⟩⟩
                                          case rest =>
                                            clear HC45
                                            try clear c1
                                            try clear c2
                                            try clear p2
                                            try clear c3
                                            try clear c4
                                            try clear p7
                                            try clear q7
                                            try clear hx7
                                            try clear c10
                                            try clear c11
                                            try clear c13
                                            try clear c14
                                            try clear c17
                                            try clear c18
                                            try clear c19
                                            try clear c22
                                            try clear c23
                                            try clear c24
                                            try clear c28
                                            try clear c29
                                            try clear c30
                                            try clear c31
                                            try clear c31b0
                                            try clear c32
                                            try clear c32b0
                                            try clear c34
                                            try clear c35
                                            try clear c36
                                            try clear c37
                                            try clear c39
                                            try clear c40
                                            try clear c42
                                            try clear c42b0
                                            try clear c43
                                            try clear c43b0
                                            try clear hcz15_0
                                            try clear hcz15_1
                                            try clear hcz15_2
                                            try clear hcz20_0
                                            try clear hcz20_1
                                            try clear hcz20_2
                                            try clear hcz25_0
                                            try clear hcz25_1
                                            try clear hcz25_2
                                            try clear hcz25_3
                                            try clear hcz25_4
                                            try clear hcz38_0
                                            try clear hcz38_1
                                            try clear hcz38_2
                                            try clear hcz41_0
                                            try clear hcz41_1
                                            try clear hcz41_2
                                            try clear hfz15_0
                                            try clear hfz15_1
                                            try clear hfz15_2
                                            try clear hfz20_0
                                            try clear hfz20_1
                                            try clear hfz20_2
                                            try clear hfz25_0
                                            try clear hfz25_1
                                            try clear hfz25_2
                                            try clear hfz25_3
                                            try clear hfz25_4
                                            try clear hfz38_0
                                            try clear hfz38_1
                                            try clear hfz38_2
                                            try clear hfz41_0
                                            try clear hfz41_1
                                            try clear hfz41_2
                                            try clear hx740_0
                                            try clear hx740_1
                                            try clear hx740_2
                                            try clear hx741_0
                                            try clear hx741_1
                                            try clear hx741_2
                                            try clear hx742_0
                                            try clear hx742_1
                                            try clear hx742_2
                                            try clear p2
                                            try clear p7
                                            try clear p740
                                            try clear p741
                                            try clear p742
                                            try clear q7
                                            try clear q740
                                            try clear q741
                                            try clear q742
                                            obtain ⟨kq, x48_44, rfl, HA, HJ44, BK734, BK735, BK737, BK738, BK752, HB⟩ := hcut
                                            cases kq with
                                            | zero => exact absurd HA.out (by simp [turnstilelaw17_ReserveSeldom.j8])
                                            | succ kj44 =>
                                              have H := HA.out
                                              clear HA
                                              simp only [turnstilelaw17_ReserveSeldom.j8] at H
                                              by_cases c59 : x48_44 = true
                                              · subst c59
                                                have H1 : (if t746 = true then (some false) else (if t748 = true then (some false) else (turnstilelaw17_ReserveSeldom.l0 kj44 l2 x10_10 (wrap64 (x11_5 + 1)) a0_0 a0_1 a0_2 a0_3 a0_4 a1_0 a1_1 a1_2 a1_3 a1_4 x738000_32 x738001_32 x738002_32 x739000_5 x739001_5 x739002_5))) = some r := by rw [if_pos rfl] at H; exact H
                                                clear H
                                                have H := H1
                                                clear H1
                                                by_cases c60 : t746 = true
                                                · subst c60
                                                  have H1 : (some false) = some r := by rw [if_pos rfl] at H; exact H
                                                  clear H
                                                  have H := H1
                                                  clear H1
                                                  obtain rfl := Option.some.inj H
                                                  have hnb61 := NB752_734.out
                                                  have hnc61 := NB734_752.out
                                                  have hnb62 := NB752_735.out
                                                  have hnc62 := NB735_752.out
                                                  have hnb63 := NB752_737.out
                                                  have hnc63 := NB737_752.out
                                                  have hnb64 := NB752_738.out
                                                  have hnc64 := NB738_752.out
                                                  have hcz65_0 : wc.cell? ⟨gb752, 0, none⟩ = some (.int .u64 t743) := (blk_cell BK752.out 0).trans rfl
                                                  have hcz65_1 : wc.cell? ⟨gb752, 1, none⟩ = some (.int .u64 t744) := (blk_cell BK752.out 1).trans rfl
                                                  have hcz65_2 : wc.cell? ⟨gb752, 2, none⟩ = some (.int .u64 t745) := (blk_cell BK752.out 2).trans rfl
                                                  have hcz65_3 : wc.cell? ⟨gb752, 3, none⟩ = some (.bool true) := (blk_cell BK752.out 3).trans rfl
                                                  have hcz65_4 : wc.cell? ⟨gb752, 4, none⟩ = some (.int .u64 t747) := (blk_cell BK752.out 4).trans rfl
                                                  have hcz65_5 : wc.cell? ⟨gb752, 5, none⟩ = some (.bool t748) := (blk_cell BK752.out 5).trans rfl
                                                  have hcz65_6 : wc.cell? ⟨gb752, 6, none⟩ = some (.int .u64 t749) := (blk_cell BK752.out 6).trans rfl
                                                  have hcz65_7 : wc.cell? ⟨gb752, 7, none⟩ = some (.int .u64 t750) := (blk_cell BK752.out 7).trans rfl
                                                  have hcz65_8 : wc.cell? ⟨gb752, 8, none⟩ = some (.int .u64 t751) := (blk_cell BK752.out 8).trans rfl
                                                  have hfz65_0 := blk_frozen BK752.out 0
                                                  have hfz65_1 := blk_frozen BK752.out 1
                                                  have hfz65_2 := blk_frozen BK752.out 2
                                                  have hfz65_3 := blk_frozen BK752.out 3
                                                  have hfz65_4 := blk_frozen BK752.out 4
                                                  have hfz65_5 := blk_frozen BK752.out 5
                                                  have hfz65_6 := blk_frozen BK752.out 6
                                                  have hfz65_7 := blk_frozen BK752.out 7
                                                  have hfz65_8 := blk_frozen BK752.out 8
                                                  go_wp2
                                                  go_ret
                                                  exact ⟨re, bw HB⟩
                                                · replace c60 := Bool.eq_false_iff.mpr c60
                                                  subst c60
                                                  have H1 : (if t748 = true then (some false) else (turnstilelaw17_ReserveSeldom.l0 kj44 l2 x10_10 (wrap64 (x11_5 + 1)) a0_0 a0_1 a0_2 a0_3 a0_4 a1_0 a1_1 a1_2 a1_3 a1_4 x738000_32 x738001_32 x738002_32 x739000_5 x739001_5 x739002_5)) = some r := by rw [if_neg (show ¬ (false = true) by decide)] at H; exact H
                                                  clear H
                                                  have H := H1
                                                  clear H1
                                                  by_cases c66 : t748 = true
                                                  · subst c66
                                                    have H1 : (some false) = some r := by rw [if_pos rfl] at H; exact H
                                                    clear H
                                                    have H := H1
                                                    clear H1
                                                    obtain rfl := Option.some.inj H
                                                    have hnb67 := NB752_734.out
                                                    have hnc67 := NB734_752.out
                                                    have hnb68 := NB752_735.out
                                                    have hnc68 := NB735_752.out
                                                    have hnb69 := NB752_737.out
                                                    have hnc69 := NB737_752.out
                                                    have hnb70 := NB752_738.out
                                                    have hnc70 := NB738_752.out
                                                    have hcz71_0 : wc.cell? ⟨gb752, 0, none⟩ = some (.int .u64 t743) := (blk_cell BK752.out 0).trans rfl
                                                    have hcz71_1 : wc.cell? ⟨gb752, 1, none⟩ = some (.int .u64 t744) := (blk_cell BK752.out 1).trans rfl
                                                    have hcz71_2 : wc.cell? ⟨gb752, 2, none⟩ = some (.int .u64 t745) := (blk_cell BK752.out 2).trans rfl
                                                    have hcz71_3 : wc.cell? ⟨gb752, 3, none⟩ = some (.bool false) := (blk_cell BK752.out 3).trans rfl
                                                    have hcz71_4 : wc.cell? ⟨gb752, 4, none⟩ = some (.int .u64 t747) := (blk_cell BK752.out 4).trans rfl
                                                    have hcz71_5 : wc.cell? ⟨gb752, 5, none⟩ = some (.bool true) := (blk_cell BK752.out 5).trans rfl
                                                    have hcz71_6 : wc.cell? ⟨gb752, 6, none⟩ = some (.int .u64 t749) := (blk_cell BK752.out 6).trans rfl
                                                    have hcz71_7 : wc.cell? ⟨gb752, 7, none⟩ = some (.int .u64 t750) := (blk_cell BK752.out 7).trans rfl
                                                    have hcz71_8 : wc.cell? ⟨gb752, 8, none⟩ = some (.int .u64 t751) := (blk_cell BK752.out 8).trans rfl
                                                    have hfz71_0 := blk_frozen BK752.out 0
                                                    have hfz71_1 := blk_frozen BK752.out 1
                                                    have hfz71_2 := blk_frozen BK752.out 2
                                                    have hfz71_3 := blk_frozen BK752.out 3
                                                    have hfz71_4 := blk_frozen BK752.out 4
                                                    have hfz71_5 := blk_frozen BK752.out 5
                                                    have hfz71_6 := blk_frozen BK752.out 6
                                                    have hfz71_7 := blk_frozen BK752.out 7
                                                    have hfz71_8 := blk_frozen BK752.out 8
                                                    go_wp2
                                                    go_ret
                                                    exact ⟨re, bw HB⟩
                                                  · replace c66 := Bool.eq_false_iff.mpr c66
                                                    subst c66
                                                    have H1 : (turnstilelaw17_ReserveSeldom.l0 kj44 l2 x10_10 (wrap64 (x11_5 + 1)) a0_0 a0_1 a0_2 a0_3 a0_4 a1_0 a1_1 a1_2 a1_3 a1_4 x738000_32 x738001_32 x738002_32 x739000_5 x739001_5 x739002_5) = some r := by rw [if_neg (show ¬ (false = true) by decide)] at H; exact H
                                                    clear H
                                                    have H := H1
                                                    clear H1
                                                    have H' := Aside0.mk H
                                                    clear H
                                                    have hnb72 := NB752_734.out
                                                    have hnc72 := NB734_752.out
                                                    have hnb73 := NB752_735.out
                                                    have hnc73 := NB735_752.out
                                                    have hnb74 := NB752_737.out
                                                    have hnc74 := NB737_752.out
                                                    have hnb75 := NB752_738.out
                                                    have hnc75 := NB738_752.out
                                                    have hcz76_0 : wc.cell? ⟨gb752, 0, none⟩ = some (.int .u64 t743) := (blk_cell BK752.out 0).trans rfl
                                                    have hcz76_1 : wc.cell? ⟨gb752, 1, none⟩ = some (.int .u64 t744) := (blk_cell BK752.out 1).trans rfl
                                                    have hcz76_2 : wc.cell? ⟨gb752, 2, none⟩ = some (.int .u64 t745) := (blk_cell BK752.out 2).trans rfl
                                                    have hcz76_3 : wc.cell? ⟨gb752, 3, none⟩ = some (.bool false) := (blk_cell BK752.out 3).trans rfl
                                                    have hcz76_4 : wc.cell? ⟨gb752, 4, none⟩ = some (.int .u64 t747) := (blk_cell BK752.out 4).trans rfl
                                                    have hcz76_5 : wc.cell? ⟨gb752, 5, none⟩ = some (.bool false) := (blk_cell BK752.out 5).trans rfl
                                                    have hcz76_6 : wc.cell? ⟨gb752, 6, none⟩ = some (.int .u64 t749) := (blk_cell BK752.out 6).trans rfl
                                                    have hcz76_7 : wc.cell? ⟨gb752, 7, none⟩ = some (.int .u64 t750) := (blk_cell BK752.out 7).trans rfl
                                                    have hcz76_8 : wc.cell? ⟨gb752, 8, none⟩ = some (.int .u64 t751) := (blk_cell BK752.out 8).trans rfl
                                                    have hfz76_0 := blk_frozen BK752.out 0
                                                    have hfz76_1 := blk_frozen BK752.out 1
                                                    have hfz76_2 := blk_frozen BK752.out 2
                                                    have hfz76_3 := blk_frozen BK752.out 3
                                                    have hfz76_4 := blk_frozen BK752.out 4
                                                    have hfz76_5 := blk_frozen BK752.out 5
                                                    have hfz76_6 := blk_frozen BK752.out 6
                                                    have hfz76_7 := blk_frozen BK752.out 7
                                                    have hfz76_8 := blk_frozen BK752.out 8
                                                    go_wp2
                                                    go_roundg kj44
                                                    case measure => have := HJ3.out; have := HJ8.out; have := HJ10.out; have := HJ26.out; have := HK5.out; have := HJ27.out; have := HJ29.out; have := HJ32.out; have := HJ44.out; omega
                                                    case rel => exact ⟨(wrap64 (x11_5 + 1)), (x738000_32), (x738001_32), (x738002_32), (x739000_5), (x739001_5), (x739002_5), rs, H', ⟨by have := HJ3.out; have := HJ8.out; have := HJ10.out; have := HJ26.out; have := HK5.out; have := HJ27.out; have := HJ29.out; have := HJ32.out; have := HJ44.out; omega⟩, ⟨bk BK734⟩, ⟨bk BK735⟩, ⟨bk BK737⟩, ⟨bk BK738⟩, ⟨bw HB⟩⟩
                                              · replace c59 := Bool.eq_false_iff.mpr c59
                                                subst c59
                                                have H1 : ((policy_Covers.f a1_0 a1_1 a1_2 a1_3 a1_4 t749 t750 t751 t743 t744 t745).bind fun t753 => (if t753 = true then ((policy_Covers.f a1_0 a1_1 a1_2 a1_3 a1_4 t749 t750 t751 x739000_5 x739001_5 x739002_5).bind fun t754 => (if t754 = true then ((policy_Covers.f a1_0 a1_1 a1_2 a1_3 a1_4 t743 t744 t745 x738000_32 x738001_32 x738002_32).bind fun t755 => (turnstilelaw17_ReserveSeldom.j9 kj44 l2 x10_10 x11_5 (!t755) a0_0 a0_1 a0_2 a0_3 a0_4 a1_0 a1_1 a1_2 a1_3 a1_4 x739000_5 x739001_5 x739002_5 t743 t744 t745 t746 t747 t748 t749 t750 t751)) else (turnstilelaw17_ReserveSeldom.j9 kj44 l2 x10_10 x11_5 true a0_0 a0_1 a0_2 a0_3 a0_4 a1_0 a1_1 a1_2 a1_3 a1_4 x739000_5 x739001_5 x739002_5 t743 t744 t745 t746 t747 t748 t749 t750 t751))) else (turnstilelaw17_ReserveSeldom.j9 kj44 l2 x10_10 x11_5 true a0_0 a0_1 a0_2 a0_3 a0_4 a1_0 a1_1 a1_2 a1_3 a1_4 x739000_5 x739001_5 x739002_5 t743 t744 t745 t746 t747 t748 t749 t750 t751))) = some r := by rw [if_neg (show ¬ (false = true) by decide)] at H; exact H
                                                clear H
                                                have H := H1
                                                clear H1
                                                have HC77 := Aside0.mk H
                                                clear H
                                                go_upto_region 16 with (fail)
                                                go_cut [77] (fun v77 wc => ∃ (kq : Nat) (x77_76 : Bool), v77 = .bool x77_76 ∧ Aside0 (turnstilelaw17_ReserveSeldom.j9 kq l2 x10_10 x11_5 x77_76 a0_0 a0_1 a0_2 a0_3 a0_4 a1_0 a1_1 a1_2 a1_3 a1_4 x739000_5 x739001_5 x739002_5 t743 t744 t745 t746 t747 t748 t749 t750 t751 = some r) ∧ Aside0 (kq ≤ kj44) ∧ Aside0 (wc.heap[gb734]? = some (.cells #[.int .u64 a0_0, .int .u64 a0_1, .int .i64 a0_2, .int .i64 a0_3, .int .i64 a0_4] 53 (0, 0))) ∧ Aside0 (wc.heap[gb735]? = some (.cells #[.int .i64 a1_0, .int .u64 a1_1, .int .u64 a1_2, .int .u64 a1_3, .int .u64 a1_4] 27 (0, 0))) ∧ Aside0 (wc.heap[gb737]? = some (.cells #[.int .u64 x738000_32, .int .u64 x738001_32, .int .u64 x738002_32] 29 (0, 0))) ∧ Aside0 (wc.heap[gb738]? = some (.cells #[.int .u64 x739000_5, .int .u64 x739001_5, .int .u64 x739002_5] 29 (0, 0))) ∧ Aside0 (wc.heap[gb752]? = some (.cells #[.int .u64 t743, .int .u64 t744, .int .u64 t745, .bool t746, .int .u64 t747, .bool t748, .int .u64 t749, .int .u64 t750, .int .u64 t751] 58 (0, 0))) ∧ Aside0 (Below w.heap.size w wc))
                                                case first =>
                                                  have H := HC77.out
                                                  clear HC77
                                                  replace H := Option.bind_eq_some_iff.mp H
                                                  obtain ⟨t753, A780, H⟩ := H
                                                  replace H : (if t753 = true then ((policy_Covers.f a1_0 a1_1 a1_2 a1_3 a1_4 t749 t750 t751 x739000_5 x739001_5 x739002_5).bind fun t754 => (if t754 = true then ((policy_Covers.f a1_0 a1_1 a1_2 a1_3 a1_4 t743 t744 t745 x738000_32 x738001_32 x738002_32).bind fun t755 => (turnstilelaw17_ReserveSeldom.j9 kj44 l2 x10_10 x11_5 (!t755) a0_0 a0_1 a0_2 a0_3 a0_4 a1_0 a1_1 a1_2 a1_3 a1_4 x739000_5 x739001_5 x739002_5 t743 t744 t745 t746 t747 t748 t749 t750 t751)) else (turnstilelaw17_ReserveSeldom.j9 kj44 l2 x10_10 x11_5 true a0_0 a0_1 a0_2 a0_3 a0_4 a1_0 a1_1 a1_2 a1_3 a1_4 x739000_5 x739001_5 x739002_5 t743 t744 t745 t746 t747 t748 t749 t750 t751))) else (turnstilelaw17_ReserveSeldom.j9 kj44 l2 x10_10 x11_5 true a0_0 a0_1 a0_2 a0_3 a0_4 a1_0 a1_1 a1_2 a1_3 a1_4 x739000_5 x739001_5 x739002_5 t743 t744 t745 t746 t747 t748 t749 t750 t751)) = some r := H
                                                  have A78 := Aside0.mk A780
                                                  clear A780
                                                  by_cases c79 : t753 = true
                                                  · subst c79
                                                    have H1 : ((policy_Covers.f a1_0 a1_1 a1_2 a1_3 a1_4 t749 t750 t751 x739000_5 x739001_5 x739002_5).bind fun t754 => (if t754 = true then ((policy_Covers.f a1_0 a1_1 a1_2 a1_3 a1_4 t743 t744 t745 x738000_32 x738001_32 x738002_32).bind fun t755 => (turnstilelaw17_ReserveSeldom.j9 kj44 l2 x10_10 x11_5 (!t755) a0_0 a0_1 a0_2 a0_3 a0_4 a1_0 a1_1 a1_2 a1_3 a1_4 x739000_5 x739001_5 x739002_5 t743 t744 t745 t746 t747 t748 t749 t750 t751)) else (turnstilelaw17_ReserveSeldom.j9 kj44 l2 x10_10 x11_5 true a0_0 a0_1 a0_2 a0_3 a0_4 a1_0 a1_1 a1_2 a1_3 a1_4 x739000_5 x739001_5 x739002_5 t743 t744 t745 t746 t747 t748 t749 t750 t751))) = some r := by rw [if_pos rfl] at H; exact H
                                                    clear H
                                                    have H := H1
                                                    clear H1
                                                    replace H := Option.bind_eq_some_iff.mp H
                                                    obtain ⟨t754, A800, H⟩ := H
                                                    replace H : (if t754 = true then ((policy_Covers.f a1_0 a1_1 a1_2 a1_3 a1_4 t743 t744 t745 x738000_32 x738001_32 x738002_32).bind fun t755 => (turnstilelaw17_ReserveSeldom.j9 kj44 l2 x10_10 x11_5 (!t755) a0_0 a0_1 a0_2 a0_3 a0_4 a1_0 a1_1 a1_2 a1_3 a1_4 x739000_5 x739001_5 x739002_5 t743 t744 t745 t746 t747 t748 t749 t750 t751)) else (turnstilelaw17_ReserveSeldom.j9 kj44 l2 x10_10 x11_5 true a0_0 a0_1 a0_2 a0_3 a0_4 a1_0 a1_1 a1_2 a1_3 a1_4 x739000_5 x739001_5 x739002_5 t743 t744 t745 t746 t747 t748 t749 t750 t751)) = some r := H
                                                    have A80 := Aside0.mk A800
                                                    clear A800
                                                    by_cases c81 : t754 = true
                                                    · subst c81
                                                      have H1 : ((policy_Covers.f a1_0 a1_1 a1_2 a1_3 a1_4 t743 t744 t745 x738000_32 x738001_32 x738002_32).bind fun t755 => (turnstilelaw17_ReserveSeldom.j9 kj44 l2 x10_10 x11_5 (!t755) a0_0 a0_1 a0_2 a0_3 a0_4 a1_0 a1_1 a1_2 a1_3 a1_4 x739000_5 x739001_5 x739002_5 t743 t744 t745 t746 t747 t748 t749 t750 t751)) = some r := by rw [if_pos rfl] at H; exact H
                                                      clear H
                                                      have H := H1
                                                      clear H1
                                                      replace H := Option.bind_eq_some_iff.mp H
                                                      obtain ⟨t755, A820, H⟩ := H
                                                      replace H : (turnstilelaw17_ReserveSeldom.j9 kj44 l2 x10_10 x11_5 (!t755) a0_0 a0_1 a0_2 a0_3 a0_4 a1_0 a1_1 a1_2 a1_3 a1_4 x739000_5 x739001_5 x739002_5 t743 t744 t745 t746 t747 t748 t749 t750 t751) = some r := H
                                                      have A82 := Aside0.mk A820
                                                      clear A820
                                                      have H' := Aside0.mk H
                                                      clear H
                                                      have hnb83 := NB735_734.out
                                                      have hnc83 := NB734_735.out
                                                      have hnb84 := NB735_737.out
                                                      have hnc84 := NB737_735.out
                                                      have hnb85 := NB735_738.out
                                                      have hnc85 := NB738_735.out
                                                      have hnb86 := NB735_752.out
                                                      have hnc86 := NB752_735.out
                                                      obtain ⟨hcz87_0, hcz87_1, hcz87_2, hcz87_3, hcz87_4, hfz87_0, hfz87_1, hfz87_2, hfz87_3, hfz87_4⟩ := bc5 BK735
                                                      have hnb88 := NB752_734.out
                                                      have hnc88 := NB734_752.out
                                                      have hnb89 := NB752_737.out
                                                      have hnc89 := NB737_752.out
                                                      have hnb90 := NB752_738.out
                                                      have hnc90 := NB738_752.out
                                                      have hcz91_0 : wc.cell? ⟨gb752, 0, none⟩ = some (.int .u64 t743) := (blk_cell BK752.out 0).trans rfl
                                                      have hcz91_1 : wc.cell? ⟨gb752, 1, none⟩ = some (.int .u64 t744) := (blk_cell BK752.out 1).trans rfl
                                                      have hcz91_2 : wc.cell? ⟨gb752, 2, none⟩ = some (.int .u64 t745) := (blk_cell BK752.out 2).trans rfl
                                                      have hcz91_3 : wc.cell? ⟨gb752, 3, none⟩ = some (.bool t746) := (blk_cell BK752.out 3).trans rfl
                                                      have hcz91_4 : wc.cell? ⟨gb752, 4, none⟩ = some (.int .u64 t747) := (blk_cell BK752.out 4).trans rfl
                                                      have hcz91_5 : wc.cell? ⟨gb752, 5, none⟩ = some (.bool t748) := (blk_cell BK752.out 5).trans rfl
                                                      have hcz91_6 : wc.cell? ⟨gb752, 6, none⟩ = some (.int .u64 t749) := (blk_cell BK752.out 6).trans rfl
                                                      have hcz91_7 : wc.cell? ⟨gb752, 7, none⟩ = some (.int .u64 t750) := (blk_cell BK752.out 7).trans rfl
                                                      have hcz91_8 : wc.cell? ⟨gb752, 8, none⟩ = some (.int .u64 t751) := (blk_cell BK752.out 8).trans rfl
                                                      have hfz91_0 := blk_frozen BK752.out 0
                                                      have hfz91_1 := blk_frozen BK752.out 1
                                                      have hfz91_2 := blk_frozen BK752.out 2
                                                      have hfz91_3 := blk_frozen BK752.out 3
                                                      have hfz91_4 := blk_frozen BK752.out 4
                                                      have hfz91_5 := blk_frozen BK752.out 5
                                                      have hfz91_6 := blk_frozen BK752.out 6
                                                      have hfz91_7 := blk_frozen BK752.out 7
                                                      have hfz91_8 := blk_frozen BK752.out 8
                                                      go_wp2_with (first | ((with_reducible refine gate_callee (f := 27) rfl ?_); refine gm (some 60) Try.func27 #[.agg #[.int .i64 a1_0, .int .u64 a1_1, .int .u64 a1_2, .int .u64 a1_3, .int .u64 a1_4], .agg #[.int .u64 t749, .int .u64 t750, .int .u64 t751], .agg #[.int .u64 t743, .int .u64 t744, .int .u64 t745]] (policy_Covers.calls a1_0 a1_1 a1_2 a1_3 a1_4 t749 t750 t751 t743 t744 t745 true _ A78.out) ?_; intro w92 hb; have n0_ := bb BK734 hb; have n1_ := bb BK735 hb; have n2_ := bb BK737 hb; have n3_ := bb BK738 hb; have n4_ := bb BK752 hb; have n5_ := bs HB hb; clear BK734; clear BK735; clear BK737; clear BK738; clear BK752; clear HB; have BK734 := n0_; have BK735 := n1_; have BK737 := n2_; have BK738 := n3_; have BK752 := n4_; have HB := n5_; clear n0_ n1_ n2_ n3_ n4_ n5_; (try clear hb); (try clear hb2); (try clear hk); (try clear hi); obtain ⟨hcz93_0, hcz93_1, hcz93_2, hcz93_3, hcz93_4, hfz93_0, hfz93_1, hfz93_2, hfz93_3, hfz93_4⟩ := bc5 BK735; have hcz94_0 : w92.cell? ⟨gb752, 0, none⟩ = some (.int .u64 t743) := (blk_cell BK752.out 0).trans rfl; have hcz94_1 : w92.cell? ⟨gb752, 1, none⟩ = some (.int .u64 t744) := (blk_cell BK752.out 1).trans rfl; have hcz94_2 : w92.cell? ⟨gb752, 2, none⟩ = some (.int .u64 t745) := (blk_cell BK752.out 2).trans rfl; have hcz94_3 : w92.cell? ⟨gb752, 3, none⟩ = some (.bool t746) := (blk_cell BK752.out 3).trans rfl; have hcz94_4 : w92.cell? ⟨gb752, 4, none⟩ = some (.int .u64 t747) := (blk_cell BK752.out 4).trans rfl; have hcz94_5 : w92.cell? ⟨gb752, 5, none⟩ = some (.bool t748) := (blk_cell BK752.out 5).trans rfl; have hcz94_6 : w92.cell? ⟨gb752, 6, none⟩ = some (.int .u64 t749) := (blk_cell BK752.out 6).trans rfl; have hcz94_7 : w92.cell? ⟨gb752, 7, none⟩ = some (.int .u64 t750) := (blk_cell BK752.out 7).trans rfl; have hcz94_8 : w92.cell? ⟨gb752, 8, none⟩ = some (.int .u64 t751) := (blk_cell BK752.out 8).trans rfl; have hfz94_0 := blk_frozen BK752.out 0; have hfz94_1 := blk_frozen BK752.out 1; have hfz94_2 := blk_frozen BK752.out 2; have hfz94_3 := blk_frozen BK752.out 3; have hfz94_4 := blk_frozen BK752.out 4; have hfz94_5 := blk_frozen BK752.out 5; have hfz94_6 := blk_frozen BK752.out 6; have hfz94_7 := blk_frozen BK752.out 7; have hfz94_8 := blk_frozen BK752.out 8; have hnb95 := NB738_734.out; have hnc95 := NB734_738.out; have hnb96 := NB738_737.out; have hnc96 := NB737_738.out; obtain ⟨hcz97_0, hcz97_1, hcz97_2, hfz97_0, hfz97_1, hfz97_2⟩ := bc3 BK738) | (go_at_call 27; (with_reducible refine (policy_Covers.calls a1_0 a1_1 a1_2 a1_3 a1_4 t749 t750 t751 x739000_5 x739001_5 x739002_5 true _ A80.out).mono ?_); rintro e w98 ⟨rfl, hb⟩; have n0_ := bb BK734 hb; have n1_ := bb BK735 hb; have n2_ := bb BK737 hb; have n3_ := bb BK738 hb; have n4_ := bb BK752 hb; have n5_ := bs HB hb; clear BK734; clear BK735; clear BK737; clear BK738; clear BK752; clear HB; have BK734 := n0_; have BK735 := n1_; have BK737 := n2_; have BK738 := n3_; have BK752 := n4_; have HB := n5_; clear n0_ n1_ n2_ n3_ n4_ n5_; (try clear hb); (try clear hb2); (try clear hk); (try clear hi); obtain ⟨hcz99_0, hcz99_1, hcz99_2, hcz99_3, hcz99_4, hfz99_0, hfz99_1, hfz99_2, hfz99_3, hfz99_4⟩ := bc5 BK735; have hcz100_0 : w98.cell? ⟨gb752, 0, none⟩ = some (.int .u64 t743) := (blk_cell BK752.out 0).trans rfl; have hcz100_1 : w98.cell? ⟨gb752, 1, none⟩ = some (.int .u64 t744) := (blk_cell BK752.out 1).trans rfl; have hcz100_2 : w98.cell? ⟨gb752, 2, none⟩ = some (.int .u64 t745) := (blk_cell BK752.out 2).trans rfl; have hcz100_3 : w98.cell? ⟨gb752, 3, none⟩ = some (.bool t746) := (blk_cell BK752.out 3).trans rfl; have hcz100_4 : w98.cell? ⟨gb752, 4, none⟩ = some (.int .u64 t747) := (blk_cell BK752.out 4).trans rfl; have hcz100_5 : w98.cell? ⟨gb752, 5, none⟩ = some (.bool t748) := (blk_cell BK752.out 5).trans rfl; have hcz100_6 : w98.cell? ⟨gb752, 6, none⟩ = some (.int .u64 t749) := (blk_cell BK752.out 6).trans rfl; have hcz100_7 : w98.cell? ⟨gb752, 7, none⟩ = some (.int .u64 t750) := (blk_cell BK752.out 7).trans rfl; have hcz100_8 : w98.cell? ⟨gb752, 8, none⟩ = some (.int .u64 t751) := (blk_cell BK752.out 8).trans rfl; have hfz100_0 := blk_frozen BK752.out 0; have hfz100_1 := blk_frozen BK752.out 1; have hfz100_2 := blk_frozen BK752.out 2; have hfz100_3 := blk_frozen BK752.out 3; have hfz100_4 := blk_frozen BK752.out 4; have hfz100_5 := blk_frozen BK752.out 5; have hfz100_6 := blk_frozen BK752.out 6; have hfz100_7 := blk_frozen BK752.out 7; have hfz100_8 := blk_frozen BK752.out 8; have hnb101 := NB737_734.out; have hnc101 := NB734_737.out; obtain ⟨hcz102_0, hcz102_1, hcz102_2, hfz102_0, hfz102_1, hfz102_2⟩ := bc3 BK737) | (go_at_call 27; (with_reducible refine (policy_Covers.calls a1_0 a1_1 a1_2 a1_3 a1_4 t743 t744 t745 x738000_32 x738001_32 x738002_32 t755 _ A82.out).mono ?_); rintro e w103 ⟨rfl, hb⟩; have n0_ := bb BK734 hb; have n1_ := bb BK735 hb; have n2_ := bb BK737 hb; have n3_ := bb BK738 hb; have n4_ := bb BK752 hb; have n5_ := bs HB hb; clear BK734; clear BK735; clear BK737; clear BK738; clear BK752; clear HB; have BK734 := n0_; have BK735 := n1_; have BK737 := n2_; have BK738 := n3_; have BK752 := n4_; have HB := n5_; clear n0_ n1_ n2_ n3_ n4_ n5_; (try clear hb); (try clear hb2); (try clear hk); (try clear hi)))
                                                      go_meet
                                                      case rel => exact ⟨_, (!t755), rs, H', ⟨by have := HJ3.out; have := HJ8.out; have := HJ10.out; have := HJ26.out; have := HK5.out; have := HJ27.out; have := HJ29.out; have := HJ32.out; have := HJ44.out; first | omega | exact Nat.le_refl _⟩, ⟨bk BK734⟩, ⟨bk BK735⟩, ⟨bk BK737⟩, ⟨bk BK738⟩, ⟨bk BK752⟩, ⟨bw HB⟩⟩
                                                    · replace c81 := Bool.eq_false_iff.mpr c81
                                                      subst c81
                                                      have H1 : (turnstilelaw17_ReserveSeldom.j9 kj44 l2 x10_10 x11_5 true a0_0 a0_1 a0_2 a0_3 a0_4 a1_0 a1_1 a1_2 a1_3 a1_4 x739000_5 x739001_5 x739002_5 t743 t744 t745 t746 t747 t748 t749 t750 t751) = some r := by rw [if_neg (show ¬ (false = true) by decide)] at H; exact H
                                                      clear H
                                                      have H := H1
                                                      clear H1
                                                      have H' := Aside0.mk H
                                                      clear H
                                                      have hnb104 := NB735_734.out
                                                      have hnc104 := NB734_735.out
                                                      have hnb105 := NB735_737.out
                                                      have hnc105 := NB737_735.out
                                                      have hnb106 := NB735_738.out
                                                      have hnc106 := NB738_735.out
                                                      have hnb107 := NB735_752.out
                                                      have hnc107 := NB752_735.out
                                                      obtain ⟨hcz108_0, hcz108_1, hcz108_2, hcz108_3, hcz108_4, hfz108_0, hfz108_1, hfz108_2, hfz108_3, hfz108_4⟩ := bc5 BK735
                                                      have hnb109 := NB752_734.out
                                                      have hnc109 := NB734_752.out
                                                      have hnb110 := NB752_737.out
                                                      have hnc110 := NB737_752.out
                                                      have hnb111 := NB752_738.out
                                                      have hnc111 := NB738_752.out
                                                      have hcz112_0 : wc.cell? ⟨gb752, 0, none⟩ = some (.int .u64 t743) := (blk_cell BK752.out 0).trans rfl
                                                      have hcz112_1 : wc.cell? ⟨gb752, 1, none⟩ = some (.int .u64 t744) := (blk_cell BK752.out 1).trans rfl
                                                      have hcz112_2 : wc.cell? ⟨gb752, 2, none⟩ = some (.int .u64 t745) := (blk_cell BK752.out 2).trans rfl
                                                      have hcz112_3 : wc.cell? ⟨gb752, 3, none⟩ = some (.bool t746) := (blk_cell BK752.out 3).trans rfl
                                                      have hcz112_4 : wc.cell? ⟨gb752, 4, none⟩ = some (.int .u64 t747) := (blk_cell BK752.out 4).trans rfl
                                                      have hcz112_5 : wc.cell? ⟨gb752, 5, none⟩ = some (.bool t748) := (blk_cell BK752.out 5).trans rfl
                                                      have hcz112_6 : wc.cell? ⟨gb752, 6, none⟩ = some (.int .u64 t749) := (blk_cell BK752.out 6).trans rfl
                                                      have hcz112_7 : wc.cell? ⟨gb752, 7, none⟩ = some (.int .u64 t750) := (blk_cell BK752.out 7).trans rfl
                                                      have hcz112_8 : wc.cell? ⟨gb752, 8, none⟩ = some (.int .u64 t751) := (blk_cell BK752.out 8).trans rfl
                                                      have hfz112_0 := blk_frozen BK752.out 0
                                                      have hfz112_1 := blk_frozen BK752.out 1
                                                      have hfz112_2 := blk_frozen BK752.out 2
                                                      have hfz112_3 := blk_frozen BK752.out 3
                                                      have hfz112_4 := blk_frozen BK752.out 4
                                                      have hfz112_5 := blk_frozen BK752.out 5
                                                      have hfz112_6 := blk_frozen BK752.out 6
                                                      have hfz112_7 := blk_frozen BK752.out 7
                                                      have hfz112_8 := blk_frozen BK752.out 8
                                                      go_wp2_with (first | ((with_reducible refine gate_callee (f := 27) rfl ?_); refine gm (some 60) Try.func27 #[.agg #[.int .i64 a1_0, .int .u64 a1_1, .int .u64 a1_2, .int .u64 a1_3, .int .u64 a1_4], .agg #[.int .u64 t749, .int .u64 t750, .int .u64 t751], .agg #[.int .u64 t743, .int .u64 t744, .int .u64 t745]] (policy_Covers.calls a1_0 a1_1 a1_2 a1_3 a1_4 t749 t750 t751 t743 t744 t745 true _ A78.out) ?_; intro w113 hb; have n0_ := bb BK734 hb; have n1_ := bb BK735 hb; have n2_ := bb BK737 hb; have n3_ := bb BK738 hb; have n4_ := bb BK752 hb; have n5_ := bs HB hb; clear BK734; clear BK735; clear BK737; clear BK738; clear BK752; clear HB; have BK734 := n0_; have BK735 := n1_; have BK737 := n2_; have BK738 := n3_; have BK752 := n4_; have HB := n5_; clear n0_ n1_ n2_ n3_ n4_ n5_; (try clear hb); (try clear hb2); (try clear hk); (try clear hi); obtain ⟨hcz114_0, hcz114_1, hcz114_2, hcz114_3, hcz114_4, hfz114_0, hfz114_1, hfz114_2, hfz114_3, hfz114_4⟩ := bc5 BK735; have hcz115_0 : w113.cell? ⟨gb752, 0, none⟩ = some (.int .u64 t743) := (blk_cell BK752.out 0).trans rfl; have hcz115_1 : w113.cell? ⟨gb752, 1, none⟩ = some (.int .u64 t744) := (blk_cell BK752.out 1).trans rfl; have hcz115_2 : w113.cell? ⟨gb752, 2, none⟩ = some (.int .u64 t745) := (blk_cell BK752.out 2).trans rfl; have hcz115_3 : w113.cell? ⟨gb752, 3, none⟩ = some (.bool t746) := (blk_cell BK752.out 3).trans rfl; have hcz115_4 : w113.cell? ⟨gb752, 4, none⟩ = some (.int .u64 t747) := (blk_cell BK752.out 4).trans rfl; have hcz115_5 : w113.cell? ⟨gb752, 5, none⟩ = some (.bool t748) := (blk_cell BK752.out 5).trans rfl; have hcz115_6 : w113.cell? ⟨gb752, 6, none⟩ = some (.int .u64 t749) := (blk_cell BK752.out 6).trans rfl; have hcz115_7 : w113.cell? ⟨gb752, 7, none⟩ = some (.int .u64 t750) := (blk_cell BK752.out 7).trans rfl; have hcz115_8 : w113.cell? ⟨gb752, 8, none⟩ = some (.int .u64 t751) := (blk_cell BK752.out 8).trans rfl; have hfz115_0 := blk_frozen BK752.out 0; have hfz115_1 := blk_frozen BK752.out 1; have hfz115_2 := blk_frozen BK752.out 2; have hfz115_3 := blk_frozen BK752.out 3; have hfz115_4 := blk_frozen BK752.out 4; have hfz115_5 := blk_frozen BK752.out 5; have hfz115_6 := blk_frozen BK752.out 6; have hfz115_7 := blk_frozen BK752.out 7; have hfz115_8 := blk_frozen BK752.out 8; have hnb116 := NB738_734.out; have hnc116 := NB734_738.out; have hnb117 := NB738_737.out; have hnc117 := NB737_738.out; obtain ⟨hcz118_0, hcz118_1, hcz118_2, hfz118_0, hfz118_1, hfz118_2⟩ := bc3 BK738) | (go_at_call 27; (with_reducible refine (policy_Covers.calls a1_0 a1_1 a1_2 a1_3 a1_4 t749 t750 t751 x739000_5 x739001_5 x739002_5 false _ A80.out).mono ?_); rintro e w119 ⟨rfl, hb⟩; have n0_ := bb BK734 hb; have n1_ := bb BK735 hb; have n2_ := bb BK737 hb; have n3_ := bb BK738 hb; have n4_ := bb BK752 hb; have n5_ := bs HB hb; clear BK734; clear BK735; clear BK737; clear BK738; clear BK752; clear HB; have BK734 := n0_; have BK735 := n1_; have BK737 := n2_; have BK738 := n3_; have BK752 := n4_; have HB := n5_; clear n0_ n1_ n2_ n3_ n4_ n5_; (try clear hb); (try clear hb2); (try clear hk); (try clear hi)))
                                                      go_meet
                                                      case rel => exact ⟨_, (true), rs, H', ⟨by have := HJ3.out; have := HJ8.out; have := HJ10.out; have := HJ26.out; have := HK5.out; have := HJ27.out; have := HJ29.out; have := HJ32.out; have := HJ44.out; first | omega | exact Nat.le_refl _⟩, ⟨bk BK734⟩, ⟨bk BK735⟩, ⟨bk BK737⟩, ⟨bk BK738⟩, ⟨bk BK752⟩, ⟨bw HB⟩⟩
                                                  · replace c79 := Bool.eq_false_iff.mpr c79
                                                    subst c79
                                                    have H1 : (turnstilelaw17_ReserveSeldom.j9 kj44 l2 x10_10 x11_5 true a0_0 a0_1 a0_2 a0_3 a0_4 a1_0 a1_1 a1_2 a1_3 a1_4 x739000_5 x739001_5 x739002_5 t743 t744 t745 t746 t747 t748 t749 t750 t751) = some r := by rw [if_neg (show ¬ (false = true) by decide)] at H; exact H
                                                    clear H
                                                    have H := H1
                                                    clear H1
                                                    have H' := Aside0.mk H
                                                    clear H
                                                    have hnb120 := NB735_734.out
                                                    have hnc120 := NB734_735.out
                                                    have hnb121 := NB735_737.out
                                                    have hnc121 := NB737_735.out
                                                    have hnb122 := NB735_738.out
                                                    have hnc122 := NB738_735.out
                                                    have hnb123 := NB735_752.out
                                                    have hnc123 := NB752_735.out
                                                    obtain ⟨hcz124_0, hcz124_1, hcz124_2, hcz124_3, hcz124_4, hfz124_0, hfz124_1, hfz124_2, hfz124_3, hfz124_4⟩ := bc5 BK735
                                                    have hnb125 := NB752_734.out
                                                    have hnc125 := NB734_752.out
                                                    have hnb126 := NB752_737.out
                                                    have hnc126 := NB737_752.out
                                                    have hnb127 := NB752_738.out
                                                    have hnc127 := NB738_752.out
                                                    have hcz128_0 : wc.cell? ⟨gb752, 0, none⟩ = some (.int .u64 t743) := (blk_cell BK752.out 0).trans rfl
                                                    have hcz128_1 : wc.cell? ⟨gb752, 1, none⟩ = some (.int .u64 t744) := (blk_cell BK752.out 1).trans rfl
                                                    have hcz128_2 : wc.cell? ⟨gb752, 2, none⟩ = some (.int .u64 t745) := (blk_cell BK752.out 2).trans rfl
                                                    have hcz128_3 : wc.cell? ⟨gb752, 3, none⟩ = some (.bool t746) := (blk_cell BK752.out 3).trans rfl
                                                    have hcz128_4 : wc.cell? ⟨gb752, 4, none⟩ = some (.int .u64 t747) := (blk_cell BK752.out 4).trans rfl
                                                    have hcz128_5 : wc.cell? ⟨gb752, 5, none⟩ = some (.bool t748) := (blk_cell BK752.out 5).trans rfl
                                                    have hcz128_6 : wc.cell? ⟨gb752, 6, none⟩ = some (.int .u64 t749) := (blk_cell BK752.out 6).trans rfl
                                                    have hcz128_7 : wc.cell? ⟨gb752, 7, none⟩ = some (.int .u64 t750) := (blk_cell BK752.out 7).trans rfl
                                                    have hcz128_8 : wc.cell? ⟨gb752, 8, none⟩ = some (.int .u64 t751) := (blk_cell BK752.out 8).trans rfl
                                                    have hfz128_0 := blk_frozen BK752.out 0
                                                    have hfz128_1 := blk_frozen BK752.out 1
                                                    have hfz128_2 := blk_frozen BK752.out 2
                                                    have hfz128_3 := blk_frozen BK752.out 3
                                                    have hfz128_4 := blk_frozen BK752.out 4
                                                    have hfz128_5 := blk_frozen BK752.out 5
                                                    have hfz128_6 := blk_frozen BK752.out 6
                                                    have hfz128_7 := blk_frozen BK752.out 7
                                                    have hfz128_8 := blk_frozen BK752.out 8
                                                    go_wp2_with (first | ((with_reducible refine gate_callee (f := 27) rfl ?_); refine gm (some 60) Try.func27 #[.agg #[.int .i64 a1_0, .int .u64 a1_1, .int .u64 a1_2, .int .u64 a1_3, .int .u64 a1_4], .agg #[.int .u64 t749, .int .u64 t750, .int .u64 t751], .agg #[.int .u64 t743, .int .u64 t744, .int .u64 t745]] (policy_Covers.calls a1_0 a1_1 a1_2 a1_3 a1_4 t749 t750 t751 t743 t744 t745 false _ A78.out) ?_; intro w129 hb; have n0_ := bb BK734 hb; have n1_ := bb BK735 hb; have n2_ := bb BK737 hb; have n3_ := bb BK738 hb; have n4_ := bb BK752 hb; have n5_ := bs HB hb; clear BK734; clear BK735; clear BK737; clear BK738; clear BK752; clear HB; have BK734 := n0_; have BK735 := n1_; have BK737 := n2_; have BK738 := n3_; have BK752 := n4_; have HB := n5_; clear n0_ n1_ n2_ n3_ n4_ n5_; (try clear hb); (try clear hb2); (try clear hk); (try clear hi)))
                                                    go_meet
                                                    case rel => exact ⟨_, (true), rs, H', ⟨by have := HJ3.out; have := HJ8.out; have := HJ10.out; have := HJ26.out; have := HK5.out; have := HJ27.out; have := HJ29.out; have := HJ32.out; have := HJ44.out; first | omega | exact Nat.le_refl _⟩, ⟨bk BK734⟩, ⟨bk BK735⟩, ⟨bk BK737⟩, ⟨bk BK738⟩, ⟨bk BK752⟩, ⟨bw HB⟩⟩
                                                case rest =>
                                                  clear HC77
                                                  try clear c1
                                                  try clear c2
                                                  try clear p2
                                                  try clear c3
                                                  try clear c4
                                                  try clear c5
                                                  try clear c6
                                                  try clear p6
                                                  try clear c7
                                                  try clear p7
                                                  try clear q7
                                                  try clear hx7
                                                  try clear c8
                                                  try clear c9
                                                  try clear c10
                                                  try clear c11
                                                  try clear c12
                                                  try clear c13
                                                  try clear c14
                                                  try clear c17
                                                  try clear c18
                                                  try clear c19
                                                  try clear c22
                                                  try clear c23
                                                  try clear c24
                                                  try clear c27
                                                  try clear c28
                                                  try clear c29
                                                  try clear c30
                                                  try clear c31
                                                  try clear c31b0
                                                  try clear c32
                                                  try clear c32b0
                                                  try clear c34
                                                  try clear c35
                                                  try clear c36
                                                  try clear c37
                                                  try clear c39
                                                  try clear c40
                                                  try clear c42
                                                  try clear c42b0
                                                  try clear c43
                                                  try clear c43b0
                                                  try clear c59
                                                  try clear c60
                                                  try clear c61
                                                  try clear c62
                                                  try clear c63
                                                  try clear c64
                                                  try clear p64
                                                  try clear c66
                                                  try clear c67
                                                  try clear c68
                                                  try clear c69
                                                  try clear c70
                                                  try clear c72
                                                  try clear c73
                                                  try clear c74
                                                  try clear p74
                                                  try clear q74
                                                  try clear hx74
                                                  try clear c75
                                                  try clear c79
                                                  try clear c81
                                                  try clear c83
                                                  try clear c84
                                                  try clear c85
                                                  try clear c86
                                                  try clear c88
                                                  try clear c89
                                                  try clear c90
                                                  try clear c95
                                                  try clear c96
                                                  try clear c101
                                                  try clear c104
                                                  try clear c105
                                                  try clear c106
                                                  try clear c107
                                                  try clear c109
                                                  try clear c110
                                                  try clear c111
                                                  try clear c116
                                                  try clear c117
                                                  try clear c120
                                                  try clear c121
                                                  try clear c122
                                                  try clear c123
                                                  try clear c125
                                                  try clear c126
                                                  try clear c127
                                                  try clear hcz100_0
                                                  try clear hcz100_1
                                                  try clear hcz100_2
                                                  try clear hcz100_3
                                                  try clear hcz100_4
                                                  try clear hcz100_5
                                                  try clear hcz100_6
                                                  try clear hcz100_7
                                                  try clear hcz100_8
                                                  try clear hcz102_0
                                                  try clear hcz102_1
                                                  try clear hcz102_2
                                                  try clear hcz108_0
                                                  try clear hcz108_1
                                                  try clear hcz108_2
                                                  try clear hcz108_3
                                                  try clear hcz108_4
                                                  try clear hcz112_0
                                                  try clear hcz112_1
                                                  try clear hcz112_2
                                                  try clear hcz112_3
                                                  try clear hcz112_4
                                                  try clear hcz112_5
                                                  try clear hcz112_6
                                                  try clear hcz112_7
                                                  try clear hcz112_8
                                                  try clear hcz114_0
                                                  try clear hcz114_1
                                                  try clear hcz114_2
                                                  try clear hcz114_3
                                                  try clear hcz114_4
                                                  try clear hcz115_0
                                                  try clear hcz115_1
                                                  try clear hcz115_2
                                                  try clear hcz115_3
                                                  try clear hcz115_4
                                                  try clear hcz115_5
                                                  try clear hcz115_6
                                                  try clear hcz115_7
                                                  try clear hcz115_8
                                                  try clear hcz118_0
                                                  try clear hcz118_1
                                                  try clear hcz118_2
                                                  try clear hcz124_0
                                                  try clear hcz124_1
                                                  try clear hcz124_2
                                                  try clear hcz124_3
                                                  try clear hcz124_4
                                                  try clear hcz128_0
                                                  try clear hcz128_1
                                                  try clear hcz128_2
                                                  try clear hcz128_3
                                                  try clear hcz128_4
                                                  try clear hcz128_5
                                                  try clear hcz128_6
                                                  try clear hcz128_7
                                                  try clear hcz128_8
                                                  try clear hcz15_0
                                                  try clear hcz15_1
                                                  try clear hcz15_2
                                                  try clear hcz20_0
                                                  try clear hcz20_1
                                                  try clear hcz20_2
                                                  try clear hcz25_0
                                                  try clear hcz25_1
                                                  try clear hcz25_2
                                                  try clear hcz25_3
                                                  try clear hcz25_4
                                                  try clear hcz38_0
                                                  try clear hcz38_1
                                                  try clear hcz38_2
                                                  try clear hcz41_0
                                                  try clear hcz41_1
                                                  try clear hcz41_2
                                                  try clear hcz65_0
                                                  try clear hcz65_1
                                                  try clear hcz65_2
                                                  try clear hcz65_3
                                                  try clear hcz65_4
                                                  try clear hcz65_5
                                                  try clear hcz65_6
                                                  try clear hcz65_7
                                                  try clear hcz65_8
                                                  try clear hcz71_0
                                                  try clear hcz71_1
                                                  try clear hcz71_2
                                                  try clear hcz71_3
                                                  try clear hcz71_4
                                                  try clear hcz71_5
                                                  try clear hcz71_6
                                                  try clear hcz71_7
                                                  try clear hcz71_8
                                                  try clear hcz76_0
                                                  try clear hcz76_1
                                                  try clear hcz76_2
                                                  try clear hcz76_3
                                                  try clear hcz76_4
                                                  try clear hcz76_5
                                                  try clear hcz76_6
                                                  try clear hcz76_7
                                                  try clear hcz76_8
                                                  try clear hcz87_0
                                                  try clear hcz87_1
                                                  try clear hcz87_2
                                                  try clear hcz87_3
                                                  try clear hcz87_4
                                                  try clear hcz91_0
                                                  try clear hcz91_1
                                                  try clear hcz91_2
                                                  try clear hcz91_3
                                                  try clear hcz91_4
                                                  try clear hcz91_5
                                                  try clear hcz91_6
                                                  try clear hcz91_7
                                                  try clear hcz91_8
                                                  try clear hcz93_0
                                                  try clear hcz93_1
                                                  try clear hcz93_2
                                                  try clear hcz93_3
                                                  try clear hcz93_4
                                                  try clear hcz94_0
                                                  try clear hcz94_1
                                                  try clear hcz94_2
                                                  try clear hcz94_3
                                                  try clear hcz94_4
                                                  try clear hcz94_5
                                                  try clear hcz94_6
                                                  try clear hcz94_7
                                                  try clear hcz94_8
                                                  try clear hcz97_0
                                                  try clear hcz97_1
                                                  try clear hcz97_2
                                                  try clear hcz99_0
                                                  try clear hcz99_1
                                                  try clear hcz99_2
                                                  try clear hcz99_3
                                                  try clear hcz99_4
                                                  try clear hfz100_0
                                                  try clear hfz100_1
                                                  try clear hfz100_2
                                                  try clear hfz100_3
                                                  try clear hfz100_4
                                                  try clear hfz100_5
                                                  try clear hfz100_6
                                                  try clear hfz100_7
                                                  try clear hfz100_8
                                                  try clear hfz102_0
                                                  try clear hfz102_1
                                                  try clear hfz102_2
                                                  try clear hfz108_0
                                                  try clear hfz108_1
                                                  try clear hfz108_2
                                                  try clear hfz108_3
                                                  try clear hfz108_4
                                                  try clear hfz112_0
                                                  try clear hfz112_1
                                                  try clear hfz112_2
                                                  try clear hfz112_3
                                                  try clear hfz112_4
                                                  try clear hfz112_5
                                                  try clear hfz112_6
                                                  try clear hfz112_7
                                                  try clear hfz112_8
                                                  try clear hfz114_0
                                                  try clear hfz114_1
                                                  try clear hfz114_2
                                                  try clear hfz114_3
                                                  try clear hfz114_4
                                                  try clear hfz115_0
                                                  try clear hfz115_1
                                                  try clear hfz115_2
                                                  try clear hfz115_3
                                                  try clear hfz115_4
                                                  try clear hfz115_5
                                                  try clear hfz115_6
                                                  try clear hfz115_7
                                                  try clear hfz115_8
                                                  try clear hfz118_0
                                                  try clear hfz118_1
                                                  try clear hfz118_2
                                                  try clear hfz124_0
                                                  try clear hfz124_1
                                                  try clear hfz124_2
                                                  try clear hfz124_3
                                                  try clear hfz124_4
                                                  try clear hfz128_0
                                                  try clear hfz128_1
                                                  try clear hfz128_2
                                                  try clear hfz128_3
                                                  try clear hfz128_4
                                                  try clear hfz128_5
                                                  try clear hfz128_6
                                                  try clear hfz128_7
                                                  try clear hfz128_8
                                                  try clear hfz15_0
                                                  try clear hfz15_1
                                                  try clear hfz15_2
                                                  try clear hfz20_0
                                                  try clear hfz20_1
                                                  try clear hfz20_2
                                                  try clear hfz25_0
                                                  try clear hfz25_1
                                                  try clear hfz25_2
                                                  try clear hfz25_3
                                                  try clear hfz25_4
                                                  try clear hfz38_0
                                                  try clear hfz38_1
                                                  try clear hfz38_2
                                                  try clear hfz41_0
                                                  try clear hfz41_1
                                                  try clear hfz41_2
                                                  try clear hfz65_0
                                                  try clear hfz65_1
                                                  try clear hfz65_2
                                                  try clear hfz65_3
                                                  try clear hfz65_4
                                                  try clear hfz65_5
                                                  try clear hfz65_6
                                                  try clear hfz65_7
                                                  try clear hfz65_8
                                                  try clear hfz71_0
                                                  try clear hfz71_1
                                                  try clear hfz71_2
                                                  try clear hfz71_3
                                                  try clear hfz71_4
                                                  try clear hfz71_5
                                                  try clear hfz71_6
                                                  try clear hfz71_7
                                                  try clear hfz71_8
                                                  try clear hfz76_0
                                                  try clear hfz76_1
                                                  try clear hfz76_2
                                                  try clear hfz76_3
                                                  try clear hfz76_4
                                                  try clear hfz76_5
                                                  try clear hfz76_6
                                                  try clear hfz76_7
                                                  try clear hfz76_8
                                                  try clear hfz87_0
                                                  try clear hfz87_1
                                                  try clear hfz87_2
                                                  try clear hfz87_3
                                                  try clear hfz87_4
                                                  try clear hfz91_0
                                                  try clear hfz91_1
                                                  try clear hfz91_2
                                                  try clear hfz91_3
                                                  try clear hfz91_4
                                                  try clear hfz91_5
                                                  try clear hfz91_6
                                                  try clear hfz91_7
                                                  try clear hfz91_8
                                                  try clear hfz93_0
                                                  try clear hfz93_1
                                                  try clear hfz93_2
                                                  try clear hfz93_3
                                                  try clear hfz93_4
                                                  try clear hfz94_0
                                                  try clear hfz94_1
                                                  try clear hfz94_2
                                                  try clear hfz94_3
                                                  try clear hfz94_4
                                                  try clear hfz94_5
                                                  try clear hfz94_6
                                                  try clear hfz94_7
                                                  try clear hfz94_8
                                                  try clear hfz97_0
                                                  try clear hfz97_1
                                                  try clear hfz97_2
                                                  try clear hfz99_0
                                                  try clear hfz99_1
                                                  try clear hfz99_2
                                                  try clear hfz99_3
                                                  try clear hfz99_4
                                                  try clear hx740_0
                                                  try clear hx740_1
                                                  try clear hx740_2
                                                  try clear hx741_0
                                                  try clear hx741_1
                                                  try clear hx741_2
                                                  try clear hx742_0
                                                  try clear hx742_1
                                                  try clear hx742_2
                                                  try clear p2
                                                  try clear p7
                                                  try clear p740
                                                  try clear p741
                                                  try clear p742
                                                  try clear q7
                                                  try clear q740
                                                  try clear q741
                                                  try clear q742
                                                  obtain ⟨kq, x77_76, rfl, HA, HJ76, BK734, BK735, BK737, BK738, BK752, HB⟩ := hcut
                                                  cases kq with
                                                  | zero => exact absurd HA.out (by simp [turnstilelaw17_ReserveSeldom.j9])
                                                  | succ kj76 =>
                                                    have H := HA.out
                                                    clear HA
                                                    simp only [turnstilelaw17_ReserveSeldom.j9] at H
                                                    by_cases c130 : x77_76 = true
                                                    · subst c130
                                                      have H1 : (some false) = some r := by rw [if_pos rfl] at H; exact H
                                                      clear H
                                                      have H := H1
                                                      clear H1
                                                      obtain rfl := Option.some.inj H
                                                      go_wp2
                                                      go_ret
                                                      exact ⟨re, bw HB⟩
                                                    · replace c130 := Bool.eq_false_iff.mpr c130
                                                      subst c130
                                                      have H1 : (if t748 = true then (if a1_0 = 1 then (if t749 = 18446744073709551615 then (turnstilelaw17_ReserveSeldom.l0 kj76 l2 x10_10 (wrap64 (x11_5 + 1)) a0_0 a0_1 a0_2 a0_3 a0_4 a1_0 a1_1 a1_2 a1_3 a1_4 t743 t744 t745 t749 t750 t751) else (if (IntKind.u64.wrap (t749 - x739000_5)) ≤ a0_0 then (some false) else (turnstilelaw17_ReserveSeldom.l0 kj76 l2 x10_10 (wrap64 (x11_5 + 1)) a0_0 a0_1 a0_2 a0_3 a0_4 a1_0 a1_1 a1_2 a1_3 a1_4 t743 t744 t745 t749 t750 t751))) else (turnstilelaw17_ReserveSeldom.l0 kj76 l2 x10_10 (wrap64 (x11_5 + 1)) a0_0 a0_1 a0_2 a0_3 a0_4 a1_0 a1_1 a1_2 a1_3 a1_4 t743 t744 t745 t749 t750 t751)) else (turnstilelaw17_ReserveSeldom.l0 kj76 l2 x10_10 (wrap64 (x11_5 + 1)) a0_0 a0_1 a0_2 a0_3 a0_4 a1_0 a1_1 a1_2 a1_3 a1_4 t743 t744 t745 t749 t750 t751)) = some r := by rw [if_neg (show ¬ (false = true) by decide)] at H; exact H
                                                      clear H
                                                      have H := H1
                                                      clear H1
                                                      by_cases c131 : t748 = true
                                                      · subst c131
                                                        have H1 : (if a1_0 = 1 then (if t749 = 18446744073709551615 then (turnstilelaw17_ReserveSeldom.l0 kj76 l2 x10_10 (wrap64 (x11_5 + 1)) a0_0 a0_1 a0_2 a0_3 a0_4 a1_0 a1_1 a1_2 a1_3 a1_4 t743 t744 t745 t749 t750 t751) else (if (IntKind.u64.wrap (t749 - x739000_5)) ≤ a0_0 then (some false) else (turnstilelaw17_ReserveSeldom.l0 kj76 l2 x10_10 (wrap64 (x11_5 + 1)) a0_0 a0_1 a0_2 a0_3 a0_4 a1_0 a1_1 a1_2 a1_3 a1_4 t743 t744 t745 t749 t750 t751))) else (turnstilelaw17_ReserveSeldom.l0 kj76 l2 x10_10 (wrap64 (x11_5 + 1)) a0_0 a0_1 a0_2 a0_3 a0_4 a1_0 a1_1 a1_2 a1_3 a1_4 t743 t744 t745 t749 t750 t751)) = some r := by rw [if_pos rfl] at H; exact H
                                                        clear H
                                                        have H := H1
                                                        clear H1
                                                        by_cases c132 : a1_0 = 1
                                                        · rw [if_pos c132] at H
                                                          have c132b0 : (a1_0 == 1) = true := beq_iff_eq.mpr c132
                                                          have c132b1 : (a1_0 != 1) = false := bne_eq_false_iff_eq.mpr c132
                                                          clear c132
                                                          by_cases c133 : t749 = 18446744073709551615
                                                          · rw [if_pos c133] at H
                                                            have c133b0 : (t749 == 18446744073709551615) = true := beq_iff_eq.mpr c133
                                                            have c133b1 : (t749 != 18446744073709551615) = false := bne_eq_false_iff_eq.mpr c133
                                                            clear c133
                                                            have H' := Aside0.mk H
                                                            clear H
                                                            have hnb134 := NB752_734.out
                                                            have hnc134 := NB734_752.out
                                                            have hnb135 := NB752_735.out
                                                            have hnc135 := NB735_752.out
                                                            have hnb136 := NB752_737.out
                                                            have hnc136 := NB737_752.out
                                                            have hnb137 := NB752_738.out
                                                            have hnc137 := NB738_752.out
                                                            have hcz138_0 : wc.cell? ⟨gb752, 0, none⟩ = some (.int .u64 t743) := (blk_cell BK752.out 0).trans rfl
                                                            have hcz138_1 : wc.cell? ⟨gb752, 1, none⟩ = some (.int .u64 t744) := (blk_cell BK752.out 1).trans rfl
                                                            have hcz138_2 : wc.cell? ⟨gb752, 2, none⟩ = some (.int .u64 t745) := (blk_cell BK752.out 2).trans rfl
                                                            have hcz138_3 : wc.cell? ⟨gb752, 3, none⟩ = some (.bool t746) := (blk_cell BK752.out 3).trans rfl
                                                            have hcz138_4 : wc.cell? ⟨gb752, 4, none⟩ = some (.int .u64 t747) := (blk_cell BK752.out 4).trans rfl
                                                            have hcz138_5 : wc.cell? ⟨gb752, 5, none⟩ = some (.bool true) := (blk_cell BK752.out 5).trans rfl
                                                            have hcz138_6 : wc.cell? ⟨gb752, 6, none⟩ = some (.int .u64 t749) := (blk_cell BK752.out 6).trans rfl
                                                            have hcz138_7 : wc.cell? ⟨gb752, 7, none⟩ = some (.int .u64 t750) := (blk_cell BK752.out 7).trans rfl
                                                            have hcz138_8 : wc.cell? ⟨gb752, 8, none⟩ = some (.int .u64 t751) := (blk_cell BK752.out 8).trans rfl
                                                            have hfz138_0 := blk_frozen BK752.out 0
                                                            have hfz138_1 := blk_frozen BK752.out 1
                                                            have hfz138_2 := blk_frozen BK752.out 2
                                                            have hfz138_3 := blk_frozen BK752.out 3
                                                            have hfz138_4 := blk_frozen BK752.out 4
                                                            have hfz138_5 := blk_frozen BK752.out 5
                                                            have hfz138_6 := blk_frozen BK752.out 6
                                                            have hfz138_7 := blk_frozen BK752.out 7
                                                            have hfz138_8 := blk_frozen BK752.out 8
                                                            have hnb139 := NB735_734.out
                                                            have hnc139 := NB734_735.out
                                                            have hnb140 := NB735_737.out
                                                            have hnc140 := NB737_735.out
                                                            have hnb141 := NB735_738.out
                                                            have hnc141 := NB738_735.out
                                                            obtain ⟨hcz142_0, hcz142_1, hcz142_2, hcz142_3, hcz142_4, hfz142_0, hfz142_1, hfz142_2, hfz142_3, hfz142_4⟩ := bc5 BK735
                                                            have hnb143 := NB737_734.out
                                                            have hnc143 := NB734_737.out
                                                            have hnb144 := NB737_738.out
                                                            have hnc144 := NB738_737.out
                                                            obtain ⟨hcz145_0, hcz145_1, hcz145_2, hfz145_0, hfz145_1, hfz145_2⟩ := bc3 BK737
                                                            have hnb146 := NB738_734.out
                                                            have hnc146 := NB734_738.out
                                                            obtain ⟨hcz147_0, hcz147_1, hcz147_2, hfz147_0, hfz147_1, hfz147_2⟩ := bc3 BK738
                                                            go_wp2
                                                            go_roundg kj76
                                                            case measure => have := HJ3.out; have := HJ8.out; have := HJ10.out; have := HJ26.out; have := HK5.out; have := HJ27.out; have := HJ29.out; have := HJ32.out; have := HJ44.out; have := HJ76.out; omega
                                                            case rel => exact ⟨(wrap64 (x11_5 + 1)), (t743), (t744), (t745), (t749), (t750), (t751), rs, H', ⟨by have := HJ3.out; have := HJ8.out; have := HJ10.out; have := HJ26.out; have := HK5.out; have := HJ27.out; have := HJ29.out; have := HJ32.out; have := HJ44.out; have := HJ76.out; omega⟩, ⟨bk BK734⟩, ⟨bk BK735⟩, ⟨bk BK737⟩, ⟨blk_put (blk_put (blk_put (blk_far (blk_far (blk_far BK738.out NB738_737.out _) NB738_737.out _) NB738_737.out _) 0 _ rfl) 1 _ rfl) 2 _ rfl⟩, ⟨bw HB⟩⟩
                                                          · rw [if_neg c133] at H
                                                            have c133b0 : (t749 == 18446744073709551615) = false := beq_eq_false_iff_ne.mpr c133
                                                            have c133b1 : (t749 != 18446744073709551615) = true := bne_iff_ne.mpr c133
                                                            by_cases c148 : (IntKind.u64.wrap (t749 - x739000_5)) ≤ a0_0
                                                            · rw [if_pos c148] at H
                                                              have c148b0 : decide ((IntKind.u64.wrap (t749 - x739000_5)) ≤ a0_0) = true := decide_eq_true c148
                                                              clear c148
                                                              obtain rfl := Option.some.inj H
                                                              have hnb149 := NB752_734.out
                                                              have hnc149 := NB734_752.out
                                                              have hnb150 := NB752_735.out
                                                              have hnc150 := NB735_752.out
                                                              have hnb151 := NB752_737.out
                                                              have hnc151 := NB737_752.out
                                                              have hnb152 := NB752_738.out
                                                              have hnc152 := NB738_752.out
                                                              have hcz153_0 : wc.cell? ⟨gb752, 0, none⟩ = some (.int .u64 t743) := (blk_cell BK752.out 0).trans rfl
                                                              have hcz153_1 : wc.cell? ⟨gb752, 1, none⟩ = some (.int .u64 t744) := (blk_cell BK752.out 1).trans rfl
                                                              have hcz153_2 : wc.cell? ⟨gb752, 2, none⟩ = some (.int .u64 t745) := (blk_cell BK752.out 2).trans rfl
                                                              have hcz153_3 : wc.cell? ⟨gb752, 3, none⟩ = some (.bool t746) := (blk_cell BK752.out 3).trans rfl
                                                              have hcz153_4 : wc.cell? ⟨gb752, 4, none⟩ = some (.int .u64 t747) := (blk_cell BK752.out 4).trans rfl
                                                              have hcz153_5 : wc.cell? ⟨gb752, 5, none⟩ = some (.bool true) := (blk_cell BK752.out 5).trans rfl
                                                              have hcz153_6 : wc.cell? ⟨gb752, 6, none⟩ = some (.int .u64 t749) := (blk_cell BK752.out 6).trans rfl
                                                              have hcz153_7 : wc.cell? ⟨gb752, 7, none⟩ = some (.int .u64 t750) := (blk_cell BK752.out 7).trans rfl
                                                              have hcz153_8 : wc.cell? ⟨gb752, 8, none⟩ = some (.int .u64 t751) := (blk_cell BK752.out 8).trans rfl
                                                              have hfz153_0 := blk_frozen BK752.out 0
                                                              have hfz153_1 := blk_frozen BK752.out 1
                                                              have hfz153_2 := blk_frozen BK752.out 2
                                                              have hfz153_3 := blk_frozen BK752.out 3
                                                              have hfz153_4 := blk_frozen BK752.out 4
                                                              have hfz153_5 := blk_frozen BK752.out 5
                                                              have hfz153_6 := blk_frozen BK752.out 6
                                                              have hfz153_7 := blk_frozen BK752.out 7
                                                              have hfz153_8 := blk_frozen BK752.out 8
                                                              have hnb154 := NB735_734.out
                                                              have hnc154 := NB734_735.out
                                                              have hnb155 := NB735_737.out
                                                              have hnc155 := NB737_735.out
                                                              have hnb156 := NB735_738.out
                                                              have hnc156 := NB738_735.out
                                                              obtain ⟨hcz157_0, hcz157_1, hcz157_2, hcz157_3, hcz157_4, hfz157_0, hfz157_1, hfz157_2, hfz157_3, hfz157_4⟩ := bc5 BK735
                                                              have hnb158 := NB738_734.out
                                                              have hnc158 := NB734_738.out
                                                              have hnb159 := NB738_737.out
                                                              have hnc159 := NB737_738.out
                                                              obtain ⟨hcz160_0, hcz160_1, hcz160_2, hfz160_0, hfz160_1, hfz160_2⟩ := bc3 BK738
                                                              have hnb161 := NB734_737.out
                                                              have hnc161 := NB737_734.out
                                                              obtain ⟨hcz162_0, hcz162_1, hcz162_2, hcz162_3, hcz162_4, hfz162_0, hfz162_1, hfz162_2, hfz162_3, hfz162_4⟩ := bc5 BK734
                                                              go_wp2
                                                              go_ret
                                                              exact ⟨re, bw HB⟩
                                                            · rw [if_neg c148] at H
                                                              have c148b0 : decide ((IntKind.u64.wrap (t749 - x739000_5)) ≤ a0_0) = false := decide_eq_false c148
                                                              clear c148
                                                              have H' := Aside0.mk H
                                                              clear H
                                                              have hnb163 := NB752_734.out
                                                              have hnc163 := NB734_752.out
                                                              have hnb164 := NB752_735.out
                                                              have hnc164 := NB735_752.out
                                                              have hnb165 := NB752_737.out
                                                              have hnc165 := NB737_752.out
                                                              have hnb166 := NB752_738.out
                                                              have hnc166 := NB738_752.out
                                                              have hcz167_0 : wc.cell? ⟨gb752, 0, none⟩ = some (.int .u64 t743) := (blk_cell BK752.out 0).trans rfl
                                                              have hcz167_1 : wc.cell? ⟨gb752, 1, none⟩ = some (.int .u64 t744) := (blk_cell BK752.out 1).trans rfl
                                                              have hcz167_2 : wc.cell? ⟨gb752, 2, none⟩ = some (.int .u64 t745) := (blk_cell BK752.out 2).trans rfl
                                                              have hcz167_3 : wc.cell? ⟨gb752, 3, none⟩ = some (.bool t746) := (blk_cell BK752.out 3).trans rfl
                                                              have hcz167_4 : wc.cell? ⟨gb752, 4, none⟩ = some (.int .u64 t747) := (blk_cell BK752.out 4).trans rfl
                                                              have hcz167_5 : wc.cell? ⟨gb752, 5, none⟩ = some (.bool true) := (blk_cell BK752.out 5).trans rfl
                                                              have hcz167_6 : wc.cell? ⟨gb752, 6, none⟩ = some (.int .u64 t749) := (blk_cell BK752.out 6).trans rfl
                                                              have hcz167_7 : wc.cell? ⟨gb752, 7, none⟩ = some (.int .u64 t750) := (blk_cell BK752.out 7).trans rfl
                                                              have hcz167_8 : wc.cell? ⟨gb752, 8, none⟩ = some (.int .u64 t751) := (blk_cell BK752.out 8).trans rfl
                                                              have hfz167_0 := blk_frozen BK752.out 0
                                                              have hfz167_1 := blk_frozen BK752.out 1
                                                              have hfz167_2 := blk_frozen BK752.out 2
                                                              have hfz167_3 := blk_frozen BK752.out 3
                                                              have hfz167_4 := blk_frozen BK752.out 4
                                                              have hfz167_5 := blk_frozen BK752.out 5
                                                              have hfz167_6 := blk_frozen BK752.out 6
                                                              have hfz167_7 := blk_frozen BK752.out 7
                                                              have hfz167_8 := blk_frozen BK752.out 8
                                                              have hnb168 := NB735_734.out
                                                              have hnc168 := NB734_735.out
                                                              have hnb169 := NB735_737.out
                                                              have hnc169 := NB737_735.out
                                                              have hnb170 := NB735_738.out
                                                              have hnc170 := NB738_735.out
                                                              obtain ⟨hcz171_0, hcz171_1, hcz171_2, hcz171_3, hcz171_4, hfz171_0, hfz171_1, hfz171_2, hfz171_3, hfz171_4⟩ := bc5 BK735
                                                              have hnb172 := NB738_734.out
                                                              have hnc172 := NB734_738.out
                                                              have hnb173 := NB738_737.out
                                                              have hnc173 := NB737_738.out
                                                              obtain ⟨hcz174_0, hcz174_1, hcz174_2, hfz174_0, hfz174_1, hfz174_2⟩ := bc3 BK738
                                                              have hnb175 := NB734_737.out
                                                              have hnc175 := NB737_734.out
                                                              obtain ⟨hcz176_0, hcz176_1, hcz176_2, hcz176_3, hcz176_4, hfz176_0, hfz176_1, hfz176_2, hfz176_3, hfz176_4⟩ := bc5 BK734
                                                              obtain ⟨hcz177_0, hcz177_1, hcz177_2, hfz177_0, hfz177_1, hfz177_2⟩ := bc3 BK737
                                                              go_wp2
                                                              go_roundg kj76
                                                              case measure => have := HJ3.out; have := HJ8.out; have := HJ10.out; have := HJ26.out; have := HK5.out; have := HJ27.out; have := HJ29.out; have := HJ32.out; have := HJ44.out; have := HJ76.out; omega
                                                              case rel => exact ⟨(wrap64 (x11_5 + 1)), (t743), (t744), (t745), (t749), (t750), (t751), rs, H', ⟨by have := HJ3.out; have := HJ8.out; have := HJ10.out; have := HJ26.out; have := HK5.out; have := HJ27.out; have := HJ29.out; have := HJ32.out; have := HJ44.out; have := HJ76.out; omega⟩, ⟨bk BK734⟩, ⟨bk BK735⟩, ⟨bk BK737⟩, ⟨blk_put (blk_put (blk_put (blk_far (blk_far (blk_far BK738.out NB738_737.out _) NB738_737.out _) NB738_737.out _) 0 _ rfl) 1 _ rfl) 2 _ rfl⟩, ⟨bw HB⟩⟩
                                                        · rw [if_neg c132] at H
                                                          have c132b0 : (a1_0 == 1) = false := beq_eq_false_iff_ne.mpr c132
                                                          have c132b1 : (a1_0 != 1) = true := bne_iff_ne.mpr c132
                                                          have H' := Aside0.mk H
                                                          clear H
                                                          have hnb178 := NB752_734.out
                                                          have hnc178 := NB734_752.out
                                                          have hnb179 := NB752_735.out
                                                          have hnc179 := NB735_752.out
                                                          have hnb180 := NB752_737.out
                                                          have hnc180 := NB737_752.out
                                                          have hnb181 := NB752_738.out
                                                          have hnc181 := NB738_752.out
                                                          have hcz182_0 : wc.cell? ⟨gb752, 0, none⟩ = some (.int .u64 t743) := (blk_cell BK752.out 0).trans rfl
                                                          have hcz182_1 : wc.cell? ⟨gb752, 1, none⟩ = some (.int .u64 t744) := (blk_cell BK752.out 1).trans rfl
                                                          have hcz182_2 : wc.cell? ⟨gb752, 2, none⟩ = some (.int .u64 t745) := (blk_cell BK752.out 2).trans rfl
                                                          have hcz182_3 : wc.cell? ⟨gb752, 3, none⟩ = some (.bool t746) := (blk_cell BK752.out 3).trans rfl
                                                          have hcz182_4 : wc.cell? ⟨gb752, 4, none⟩ = some (.int .u64 t747) := (blk_cell BK752.out 4).trans rfl
                                                          have hcz182_5 : wc.cell? ⟨gb752, 5, none⟩ = some (.bool true) := (blk_cell BK752.out 5).trans rfl
                                                          have hcz182_6 : wc.cell? ⟨gb752, 6, none⟩ = some (.int .u64 t749) := (blk_cell BK752.out 6).trans rfl
                                                          have hcz182_7 : wc.cell? ⟨gb752, 7, none⟩ = some (.int .u64 t750) := (blk_cell BK752.out 7).trans rfl
                                                          have hcz182_8 : wc.cell? ⟨gb752, 8, none⟩ = some (.int .u64 t751) := (blk_cell BK752.out 8).trans rfl
                                                          have hfz182_0 := blk_frozen BK752.out 0
                                                          have hfz182_1 := blk_frozen BK752.out 1
                                                          have hfz182_2 := blk_frozen BK752.out 2
                                                          have hfz182_3 := blk_frozen BK752.out 3
                                                          have hfz182_4 := blk_frozen BK752.out 4
                                                          have hfz182_5 := blk_frozen BK752.out 5
                                                          have hfz182_6 := blk_frozen BK752.out 6
                                                          have hfz182_7 := blk_frozen BK752.out 7
                                                          have hfz182_8 := blk_frozen BK752.out 8
                                                          have hnb183 := NB735_734.out
                                                          have hnc183 := NB734_735.out
                                                          have hnb184 := NB735_737.out
                                                          have hnc184 := NB737_735.out
                                                          have hnb185 := NB735_738.out
                                                          have hnc185 := NB738_735.out
                                                          obtain ⟨hcz186_0, hcz186_1, hcz186_2, hcz186_3, hcz186_4, hfz186_0, hfz186_1, hfz186_2, hfz186_3, hfz186_4⟩ := bc5 BK735
                                                          have hnb187 := NB737_734.out
                                                          have hnc187 := NB734_737.out
                                                          have hnb188 := NB737_738.out
                                                          have hnc188 := NB738_737.out
                                                          obtain ⟨hcz189_0, hcz189_1, hcz189_2, hfz189_0, hfz189_1, hfz189_2⟩ := bc3 BK737
                                                          have hnb190 := NB738_734.out
                                                          have hnc190 := NB734_738.out
                                                          obtain ⟨hcz191_0, hcz191_1, hcz191_2, hfz191_0, hfz191_1, hfz191_2⟩ := bc3 BK738
                                                          go_wp2
                                                          go_roundg kj76
                                                          case measure => have := HJ3.out; have := HJ8.out; have := HJ10.out; have := HJ26.out; have := HK5.out; have := HJ27.out; have := HJ29.out; have := HJ32.out; have := HJ44.out; have := HJ76.out; omega
                                                          case rel => exact ⟨(wrap64 (x11_5 + 1)), (t743), (t744), (t745), (t749), (t750), (t751), rs, H', ⟨by have := HJ3.out; have := HJ8.out; have := HJ10.out; have := HJ26.out; have := HK5.out; have := HJ27.out; have := HJ29.out; have := HJ32.out; have := HJ44.out; have := HJ76.out; omega⟩, ⟨bk BK734⟩, ⟨bk BK735⟩, ⟨bk BK737⟩, ⟨blk_put (blk_put (blk_put (blk_far (blk_far (blk_far BK738.out NB738_737.out _) NB738_737.out _) NB738_737.out _) 0 _ rfl) 1 _ rfl) 2 _ rfl⟩, ⟨bw HB⟩⟩
                                                      · replace c131 := Bool.eq_false_iff.mpr c131
                                                        subst c131
                                                        have H1 : (turnstilelaw17_ReserveSeldom.l0 kj76 l2 x10_10 (wrap64 (x11_5 + 1)) a0_0 a0_1 a0_2 a0_3 a0_4 a1_0 a1_1 a1_2 a1_3 a1_4 t743 t744 t745 t749 t750 t751) = some r := by rw [if_neg (show ¬ (false = true) by decide)] at H; exact H
                                                        clear H
                                                        have H := H1
                                                        clear H1
                                                        have H' := Aside0.mk H
                                                        clear H
                                                        have hnb192 := NB752_734.out
                                                        have hnc192 := NB734_752.out
                                                        have hnb193 := NB752_735.out
                                                        have hnc193 := NB735_752.out
                                                        have hnb194 := NB752_737.out
                                                        have hnc194 := NB737_752.out
                                                        have hnb195 := NB752_738.out
                                                        have hnc195 := NB738_752.out
                                                        have hcz196_0 : wc.cell? ⟨gb752, 0, none⟩ = some (.int .u64 t743) := (blk_cell BK752.out 0).trans rfl
                                                        have hcz196_1 : wc.cell? ⟨gb752, 1, none⟩ = some (.int .u64 t744) := (blk_cell BK752.out 1).trans rfl
                                                        have hcz196_2 : wc.cell? ⟨gb752, 2, none⟩ = some (.int .u64 t745) := (blk_cell BK752.out 2).trans rfl
                                                        have hcz196_3 : wc.cell? ⟨gb752, 3, none⟩ = some (.bool t746) := (blk_cell BK752.out 3).trans rfl
                                                        have hcz196_4 : wc.cell? ⟨gb752, 4, none⟩ = some (.int .u64 t747) := (blk_cell BK752.out 4).trans rfl
                                                        have hcz196_5 : wc.cell? ⟨gb752, 5, none⟩ = some (.bool false) := (blk_cell BK752.out 5).trans rfl
                                                        have hcz196_6 : wc.cell? ⟨gb752, 6, none⟩ = some (.int .u64 t749) := (blk_cell BK752.out 6).trans rfl
                                                        have hcz196_7 : wc.cell? ⟨gb752, 7, none⟩ = some (.int .u64 t750) := (blk_cell BK752.out 7).trans rfl
                                                        have hcz196_8 : wc.cell? ⟨gb752, 8, none⟩ = some (.int .u64 t751) := (blk_cell BK752.out 8).trans rfl
                                                        have hfz196_0 := blk_frozen BK752.out 0
                                                        have hfz196_1 := blk_frozen BK752.out 1
                                                        have hfz196_2 := blk_frozen BK752.out 2
                                                        have hfz196_3 := blk_frozen BK752.out 3
                                                        have hfz196_4 := blk_frozen BK752.out 4
                                                        have hfz196_5 := blk_frozen BK752.out 5
                                                        have hfz196_6 := blk_frozen BK752.out 6
                                                        have hfz196_7 := blk_frozen BK752.out 7
                                                        have hfz196_8 := blk_frozen BK752.out 8
                                                        have hnb197 := NB737_734.out
                                                        have hnc197 := NB734_737.out
                                                        have hnb198 := NB737_735.out
                                                        have hnc198 := NB735_737.out
                                                        have hnb199 := NB737_738.out
                                                        have hnc199 := NB738_737.out
                                                        obtain ⟨hcz200_0, hcz200_1, hcz200_2, hfz200_0, hfz200_1, hfz200_2⟩ := bc3 BK737
                                                        have hnb201 := NB738_734.out
                                                        have hnc201 := NB734_738.out
                                                        have hnb202 := NB738_735.out
                                                        have hnc202 := NB735_738.out
                                                        obtain ⟨hcz203_0, hcz203_1, hcz203_2, hfz203_0, hfz203_1, hfz203_2⟩ := bc3 BK738
                                                        go_wp2
                                                        go_roundg kj76
                                                        case measure => have := HJ3.out; have := HJ8.out; have := HJ10.out; have := HJ26.out; have := HK5.out; have := HJ27.out; have := HJ29.out; have := HJ32.out; have := HJ44.out; have := HJ76.out; omega
                                                        case rel => exact ⟨(wrap64 (x11_5 + 1)), (t743), (t744), (t745), (t749), (t750), (t751), rs, H', ⟨by have := HJ3.out; have := HJ8.out; have := HJ10.out; have := HJ26.out; have := HK5.out; have := HJ27.out; have := HJ29.out; have := HJ32.out; have := HJ44.out; have := HJ76.out; omega⟩, ⟨bk BK734⟩, ⟨bk BK735⟩, ⟨bk BK737⟩, ⟨blk_put (blk_put (blk_put (blk_far (blk_far (blk_far BK738.out NB738_737.out _) NB738_737.out _) NB738_737.out _) 0 _ rfl) 1 _ rfl) 2 _ rfl⟩, ⟨bw HB⟩⟩
                                        · rw [if_neg c43] at H
                                          exact absurd H (by simp)
                                      · rw [if_neg c42] at H
                                        exact absurd H (by simp)
                            · replace c29 := Bool.eq_false_iff.mpr c29
                              subst c29
                              have H1 : (some true) = some r := by rw [if_neg (show ¬ (false = true) by decide)] at H; exact H
                              clear H
                              have H := H1
                              clear H1
                              obtain rfl := Option.some.inj H
                              go_wp2
                              go_ret
                              exact ⟨re, bw HB⟩


end Go.Proofs.Ytokfhdpokemekaa.Q
