/- Written by the session's own program hyb.py: what functions of the program compute; Lean checks it. -/
import Derived.Test.YtokfhdpokemekaaQx0
import Derived.Test.YtokfhdpokemekaaQx14
import Derived.Test.YtokfhdpokemekaaQx15
import Derived.Test.YtokfhdpokemekaaQx18
import Derived.Test.YtokfhdpokemekaaQx19
namespace Go.Proofs.Ytokfhdpokemekaa.Q
open Go.RowKit Go.Proofs.YtokfhdpokemekaaW.PrintWords Go.Proofs.YtokfhdpokemekaaW.PrintLast Go.Proofs.YtokfhdpokemekaaW.PrintMore Go.Proofs.YtokfhdpokemekaaW.PrintShort
attribute [local go_sem] run_Add64 run_Sub64
attribute [local go_sem] max2_int min2_int max_two min_two max_three min_three max_four min_four   -- for this text's walks alone
set_option linter.unusedVariables false
set_option linter.unusedSimpArgs false

/-! ### turnstilelaw06_PolicyRises: function 7 -/
mutual
def turnstilelaw06_PolicyRises.j0 : Nat → Int → Bool → Int → Bool → Int → Int → Int → Int → Int → Int → Int → Int → Int → Int → Int → Int → Int → Int → Int → Int → Int → Int → Int → Int → Int → Option (Bool)
  | 0, _, _, _, _, _, _, _, _, _, _, _, _, _, _, _, _, _, _, _, _, _, _, _, _, _ => none
  | k + 1, x1, x10, x11, x68, x511000, x511001, x511002, x511003, x511004, x511005, x511006, x511007, x511008, x511009, x511010, x511011, x511012, x513000, x513001, x513002, x513003, x513004, x526000, x526001, x526002 => if x68 = true then (some false) else (if x10 = true then ((policy_Covers.f x513000 x513001 x513002 x513003 x513004 x526000 x526001 x526002 x511005 x511006 x511007).bind fun t527 => (if t527 = true then ((policy_Covers.f x513000 x513001 x513002 x513003 x513004 x511005 x511006 x511007 x526000 x526001 x526002).bind fun t528 => (if t528 = true then (some false) else (some (x11 == 0)))) else (some false))) else (if x11 < x511011 then (turnstilelaw06_PolicyRises.j1 k x1 x11 true x511000 x511001 x511002 x511003 x511004 x511005 x511006 x511007 x511008 x511009 x511010 x511011 x511012 x513000 x513001 x513002 x513003 x513004) else ((policy_Covers.f x513000 x513001 x513002 x513003 x513004 x526000 x526001 x526002 x511005 x511006 x511007).bind fun t529 => (if t529 = true then ((policy_Covers.f x513000 x513001 x513002 x513003 x513004 x511005 x511006 x511007 x526000 x526001 x526002).bind fun t530 => (turnstilelaw06_PolicyRises.j1 k x1 x11 (!t530) x511000 x511001 x511002 x511003 x511004 x511005 x511006 x511007 x511008 x511009 x511010 x511011 x511012 x513000 x513001 x513002 x513003 x513004)) else (turnstilelaw06_PolicyRises.j1 k x1 x11 true x511000 x511001 x511002 x511003 x511004 x511005 x511006 x511007 x511008 x511009 x511010 x511011 x511012 x513000 x513001 x513002 x513003 x513004)))))
def turnstilelaw06_PolicyRises.j1 : Nat → Int → Int → Bool → Int → Int → Int → Int → Int → Int → Int → Int → Int → Int → Int → Int → Int → Int → Int → Int → Int → Int → Option (Bool)
  | 0, _, _, _, _, _, _, _, _, _, _, _, _, _, _, _, _, _, _, _, _, _ => none
  | k + 1, x1, x11, x106, x511000, x511001, x511002, x511003, x511004, x511005, x511006, x511007, x511008, x511009, x511010, x511011, x511012, x513000, x513001, x513002, x513003, x513004 => if x106 = true then (some false) else ((policy_Admit.f k x513000 x513001 x513002 x513003 x513004 x511005 x511006 x511007 x11 x511012).bind fun bt531 => (if bt531.2.2.2.1 = true then ((policy_Admit.f k x513000 x513001 x513002 x513003 x513004 x511005 x511006 x511007 x1 x511012).bind fun bt537 => (if bt537.2.2.2.1 = true then (if x1 < x511011 then (some true) else (some (decide (x1 ≥ x11)))) else (some true))) else (if x11 = 18446744073709551615 then ((policy_Admit.f k x513000 x513001 x513002 x513003 x513004 x511005 x511006 x511007 x1 x511012).bind fun bt543 => (if bt543.2.2.2.1 = true then (if x1 < x511011 then (some true) else (some (decide (x1 ≥ x11)))) else (some true))) else (some false))))
end
def turnstilelaw06_PolicyRises.f (k : Nat) (a0_0 : Int) (a0_1 : Int) (a0_2 : Int) (a0_3 : Int) (a0_4 : Int) (a0_5 : Int) (a0_6 : Int) (a0_7 : Int) (a0_8 : Int) (a0_9 : Int) (a0_10 : Int) (a0_11 : Int) (a0_12 : Int) (a1 : Int) : Option (Bool) := (turnstilelaw06_awake.f k).bind fun t511 => (if t511 = true then ((policy_Valid.f a0_0 a0_1 a0_2 a0_3 a0_4).bind fun t513 => (if t513 = true then ((policy_Admit.f k a0_0 a0_1 a0_2 a0_3 a0_4 a0_5 a0_6 a0_7 a0_11 a0_12).bind fun bt520 => ((policy_Left.f k a0_0 a0_1 a0_2 a0_3 a0_4 a0_5 a0_6 a0_7 a0_11).bind fun t526 => (if a0_12 ≥ 1 then (turnstilelaw06_PolicyRises.j0 k a1 bt520.2.2.2.1 bt520.2.2.2.2 (bt520.2.2.2.1 != (decide (a0_12 ≤ t526))) a0_0 a0_1 a0_2 a0_3 a0_4 a0_5 a0_6 a0_7 a0_8 a0_9 a0_10 a0_11 a0_12 a0_0 a0_1 a0_2 a0_3 a0_4 bt520.1 bt520.2.1 bt520.2.2.1) else (turnstilelaw06_PolicyRises.j0 k a1 bt520.2.2.2.1 bt520.2.2.2.2 (bt520.2.2.2.1 != false) a0_0 a0_1 a0_2 a0_3 a0_4 a0_5 a0_6 a0_7 a0_8 a0_9 a0_10 a0_11 a0_12 a0_0 a0_1 a0_2 a0_3 a0_4 bt520.1 bt520.2.1 bt520.2.2.1)))) else ((policy_Admit.f k a0_0 a0_1 a0_2 a0_3 a0_4 a0_5 a0_6 a0_7 a0_11 a0_12).bind fun bt514 => (some (!bt514.2.2.2.1))))) else (some false))
theorem turnstilelaw06_PolicyRises.mono_l : ∀ k, (∀ y0 y1 y2 y3 y4 y5 y6 y7 y8 y9 y10 y11 y12 y13 y14 y15 y16 y17 y18 y19 y20 y21 y22 y23 y24, LeO (turnstilelaw06_PolicyRises.j0 k y0 y1 y2 y3 y4 y5 y6 y7 y8 y9 y10 y11 y12 y13 y14 y15 y16 y17 y18 y19 y20 y21 y22 y23 y24) (turnstilelaw06_PolicyRises.j0 (k + 1) y0 y1 y2 y3 y4 y5 y6 y7 y8 y9 y10 y11 y12 y13 y14 y15 y16 y17 y18 y19 y20 y21 y22 y23 y24)) ∧ (∀ y0 y1 y2 y3 y4 y5 y6 y7 y8 y9 y10 y11 y12 y13 y14 y15 y16 y17 y18 y19 y20, LeO (turnstilelaw06_PolicyRises.j1 k y0 y1 y2 y3 y4 y5 y6 y7 y8 y9 y10 y11 y12 y13 y14 y15 y16 y17 y18 y19 y20) (turnstilelaw06_PolicyRises.j1 (k + 1) y0 y1 y2 y3 y4 y5 y6 y7 y8 y9 y10 y11 y12 y13 y14 y15 y16 y17 y18 y19 y20))
  | 0 => ⟨fun _ _ _ _ _ _ _ _ _ _ _ _ _ _ _ _ _ _ _ _ _ _ _ _ _ r h => by simp [turnstilelaw06_PolicyRises.j0] at h, fun _ _ _ _ _ _ _ _ _ _ _ _ _ _ _ _ _ _ _ _ _ r h => by simp [turnstilelaw06_PolicyRises.j1] at h⟩
  | k + 1 => by
    obtain ⟨ih0, ih1⟩ := turnstilelaw06_PolicyRises.mono_l k
    refine ⟨?_, ?_⟩
    · intro y0 y1 y2 y3 y4 y5 y6 y7 y8 y9 y10 y11 y12 y13 y14 y15 y16 y17 y18 y19 y20 y21 y22 y23 y24
      unfold turnstilelaw06_PolicyRises.j0
      repeat' first
      | (with_reducible exact ih0 _ _ _ _ _ _ _ _ _ _ _ _ _ _ _ _ _ _ _ _ _ _ _ _ _)
      | (with_reducible exact ih1 _ _ _ _ _ _ _ _ _ _ _ _ _ _ _ _ _ _ _ _ _)
      | (with_reducible exact policy_Admit.mono _ _ _ _ _ _ _ _ _ _ _)
      | (with_reducible exact policy_Left.mono _ _ _ _ _ _ _ _ _ _)
      | (with_reducible exact turnstilelaw06_awake.mono _)
      | (with_reducible exact LeO.refl _)
      | (with_reducible exact LeO.none _)
      | (with_reducible refine LeO.ite ?_ ?_)
      | (with_reducible refine LeO.bind ?_ (fun _ => ?_))
      | exact ih0 _ _ _ _ _ _ _ _ _ _ _ _ _ _ _ _ _ _ _ _ _ _ _ _ _
      | exact ih1 _ _ _ _ _ _ _ _ _ _ _ _ _ _ _ _ _ _ _ _ _
      | exact policy_Admit.mono _ _ _ _ _ _ _ _ _ _ _
      | exact policy_Left.mono _ _ _ _ _ _ _ _ _ _
      | exact turnstilelaw06_awake.mono _
      | exact LeO.none _
      | refine LeO.ite ?_ ?_
      | refine LeO.bind ?_ (fun _ => ?_)
    · intro y0 y1 y2 y3 y4 y5 y6 y7 y8 y9 y10 y11 y12 y13 y14 y15 y16 y17 y18 y19 y20
      unfold turnstilelaw06_PolicyRises.j1
      repeat' first
      | (with_reducible exact ih0 _ _ _ _ _ _ _ _ _ _ _ _ _ _ _ _ _ _ _ _ _ _ _ _ _)
      | (with_reducible exact ih1 _ _ _ _ _ _ _ _ _ _ _ _ _ _ _ _ _ _ _ _ _)
      | (with_reducible exact policy_Admit.mono _ _ _ _ _ _ _ _ _ _ _)
      | (with_reducible exact policy_Left.mono _ _ _ _ _ _ _ _ _ _)
      | (with_reducible exact turnstilelaw06_awake.mono _)
      | (with_reducible exact LeO.refl _)
      | (with_reducible exact LeO.none _)
      | (with_reducible refine LeO.ite ?_ ?_)
      | (with_reducible refine LeO.bind ?_ (fun _ => ?_))
      | exact ih0 _ _ _ _ _ _ _ _ _ _ _ _ _ _ _ _ _ _ _ _ _ _ _ _ _
      | exact ih1 _ _ _ _ _ _ _ _ _ _ _ _ _ _ _ _ _ _ _ _ _
      | exact policy_Admit.mono _ _ _ _ _ _ _ _ _ _ _
      | exact policy_Left.mono _ _ _ _ _ _ _ _ _ _
      | exact turnstilelaw06_awake.mono _
      | exact LeO.none _
      | refine LeO.ite ?_ ?_
      | refine LeO.bind ?_ (fun _ => ?_)
theorem turnstilelaw06_PolicyRises.mono : ∀ a0 a1 a2 a3 a4 a5 a6 a7 a8 a9 a10 a11 a12 a13 k, LeO (turnstilelaw06_PolicyRises.f k a0 a1 a2 a3 a4 a5 a6 a7 a8 a9 a10 a11 a12 a13) (turnstilelaw06_PolicyRises.f (k + 1) a0 a1 a2 a3 a4 a5 a6 a7 a8 a9 a10 a11 a12 a13) := by
  intro a0 a1 a2 a3 a4 a5 a6 a7 a8 a9 a10 a11 a12 a13 k
  obtain ⟨ih0, ih1⟩ := turnstilelaw06_PolicyRises.mono_l k
  unfold turnstilelaw06_PolicyRises.f
  repeat' first
      | (with_reducible exact ih0 _ _ _ _ _ _ _ _ _ _ _ _ _ _ _ _ _ _ _ _ _ _ _ _ _)
      | (with_reducible exact ih1 _ _ _ _ _ _ _ _ _ _ _ _ _ _ _ _ _ _ _ _ _)
      | (with_reducible exact policy_Admit.mono _ _ _ _ _ _ _ _ _ _ _)
      | (with_reducible exact policy_Left.mono _ _ _ _ _ _ _ _ _ _)
      | (with_reducible exact turnstilelaw06_awake.mono _)
      | (with_reducible exact LeO.refl _)
      | (with_reducible exact LeO.none _)
      | (with_reducible refine LeO.ite ?_ ?_)
      | (with_reducible refine LeO.bind ?_ (fun _ => ?_))
      | exact ih0 _ _ _ _ _ _ _ _ _ _ _ _ _ _ _ _ _ _ _ _ _ _ _ _ _
      | exact ih1 _ _ _ _ _ _ _ _ _ _ _ _ _ _ _ _ _ _ _ _ _
      | exact policy_Admit.mono _ _ _ _ _ _ _ _ _ _ _
      | exact policy_Left.mono _ _ _ _ _ _ _ _ _ _
      | exact turnstilelaw06_awake.mono _
      | exact LeO.none _
      | refine LeO.ite ?_ ?_
      | refine LeO.bind ?_ (fun _ => ?_)
set_option maxHeartbeats 8000000 in
set_option maxRecDepth 100000 in
theorem turnstilelaw06_PolicyRises.calls (k : Nat) (a0_0 : Int) (a0_1 : Int) (a0_2 : Int) (a0_3 : Int) (a0_4 : Int) (a0_5 : Int) (a0_6 : Int) (a0_7 : Int) (a0_8 : Int) (a0_9 : Int) (a0_10 : Int) (a0_11 : Int) (a0_12 : Int) (a1 : Int) (r : Bool) (w : World) (h : turnstilelaw06_PolicyRises.f k a0_0 a0_1 a0_2 a0_3 a0_4 a0_5 a0_6 a0_7 a0_8 a0_9 a0_10 a0_11 a0_12 a1 = some r) :
    Calls Try.prog 7 #[.agg #[.int .i64 a0_0, .int .u64 a0_1, .int .u64 a0_2, .int .u64 a0_3, .int .u64 a0_4, .int .u64 a0_5, .int .u64 a0_6, .int .u64 a0_7, .int .u64 a0_8, .int .u64 a0_9, .int .u64 a0_10, .int .u64 a0_11, .int .u64 a0_12], .int .u64 a1] w fun e w' => e = .returned (.bool r) ∧ Below w.heap.size w w' := by
  have hu31 := Try.underlying31
  have hu27 := Try.underlying27
  have hu29 := Try.underlying29
  have HB := Aside0.mk (Below.refl w.heap.size w)
  have H : ((turnstilelaw06_awake.f k).bind fun t511 => (if t511 = true then ((policy_Valid.f a0_0 a0_1 a0_2 a0_3 a0_4).bind fun t513 => (if t513 = true then ((policy_Admit.f k a0_0 a0_1 a0_2 a0_3 a0_4 a0_5 a0_6 a0_7 a0_11 a0_12).bind fun bt520 => ((policy_Left.f k a0_0 a0_1 a0_2 a0_3 a0_4 a0_5 a0_6 a0_7 a0_11).bind fun t526 => (if a0_12 ≥ 1 then (turnstilelaw06_PolicyRises.j0 k a1 bt520.2.2.2.1 bt520.2.2.2.2 (bt520.2.2.2.1 != (decide (a0_12 ≤ t526))) a0_0 a0_1 a0_2 a0_3 a0_4 a0_5 a0_6 a0_7 a0_8 a0_9 a0_10 a0_11 a0_12 a0_0 a0_1 a0_2 a0_3 a0_4 bt520.1 bt520.2.1 bt520.2.2.1) else (turnstilelaw06_PolicyRises.j0 k a1 bt520.2.2.2.1 bt520.2.2.2.2 (bt520.2.2.2.1 != false) a0_0 a0_1 a0_2 a0_3 a0_4 a0_5 a0_6 a0_7 a0_8 a0_9 a0_10 a0_11 a0_12 a0_0 a0_1 a0_2 a0_3 a0_4 bt520.1 bt520.2.1 bt520.2.2.1)))) else ((policy_Admit.f k a0_0 a0_1 a0_2 a0_3 a0_4 a0_5 a0_6 a0_7 a0_11 a0_12).bind fun bt514 => (some (!bt514.2.2.2.1))))) else (some false))) = some r := h
  clear h
  replace H := Option.bind_eq_some_iff.mp H
  obtain ⟨t511, A30, H⟩ := H
  replace H : (if t511 = true then ((policy_Valid.f a0_0 a0_1 a0_2 a0_3 a0_4).bind fun t513 => (if t513 = true then ((policy_Admit.f k a0_0 a0_1 a0_2 a0_3 a0_4 a0_5 a0_6 a0_7 a0_11 a0_12).bind fun bt520 => ((policy_Left.f k a0_0 a0_1 a0_2 a0_3 a0_4 a0_5 a0_6 a0_7 a0_11).bind fun t526 => (if a0_12 ≥ 1 then (turnstilelaw06_PolicyRises.j0 k a1 bt520.2.2.2.1 bt520.2.2.2.2 (bt520.2.2.2.1 != (decide (a0_12 ≤ t526))) a0_0 a0_1 a0_2 a0_3 a0_4 a0_5 a0_6 a0_7 a0_8 a0_9 a0_10 a0_11 a0_12 a0_0 a0_1 a0_2 a0_3 a0_4 bt520.1 bt520.2.1 bt520.2.2.1) else (turnstilelaw06_PolicyRises.j0 k a1 bt520.2.2.2.1 bt520.2.2.2.2 (bt520.2.2.2.1 != false) a0_0 a0_1 a0_2 a0_3 a0_4 a0_5 a0_6 a0_7 a0_8 a0_9 a0_10 a0_11 a0_12 a0_0 a0_1 a0_2 a0_3 a0_4 bt520.1 bt520.2.1 bt520.2.2.1)))) else ((policy_Admit.f k a0_0 a0_1 a0_2 a0_3 a0_4 a0_5 a0_6 a0_7 a0_11 a0_12).bind fun bt514 => (some (!bt514.2.2.2.1))))) else (some false)) = some r := H
  have A3 := Aside0.mk A30
  clear A30
  by_cases c4 : t511 = true
  · subst c4
    have H1 : ((policy_Valid.f a0_0 a0_1 a0_2 a0_3 a0_4).bind fun t513 => (if t513 = true then ((policy_Admit.f k a0_0 a0_1 a0_2 a0_3 a0_4 a0_5 a0_6 a0_7 a0_11 a0_12).bind fun bt520 => ((policy_Left.f k a0_0 a0_1 a0_2 a0_3 a0_4 a0_5 a0_6 a0_7 a0_11).bind fun t526 => (if a0_12 ≥ 1 then (turnstilelaw06_PolicyRises.j0 k a1 bt520.2.2.2.1 bt520.2.2.2.2 (bt520.2.2.2.1 != (decide (a0_12 ≤ t526))) a0_0 a0_1 a0_2 a0_3 a0_4 a0_5 a0_6 a0_7 a0_8 a0_9 a0_10 a0_11 a0_12 a0_0 a0_1 a0_2 a0_3 a0_4 bt520.1 bt520.2.1 bt520.2.2.1) else (turnstilelaw06_PolicyRises.j0 k a1 bt520.2.2.2.1 bt520.2.2.2.2 (bt520.2.2.2.1 != false) a0_0 a0_1 a0_2 a0_3 a0_4 a0_5 a0_6 a0_7 a0_8 a0_9 a0_10 a0_11 a0_12 a0_0 a0_1 a0_2 a0_3 a0_4 bt520.1 bt520.2.1 bt520.2.2.1)))) else ((policy_Admit.f k a0_0 a0_1 a0_2 a0_3 a0_4 a0_5 a0_6 a0_7 a0_11 a0_12).bind fun bt514 => (some (!bt514.2.2.2.1))))) = some r := by rw [if_pos rfl] at H; exact H
    clear H
    have H := H1
    clear H1
    replace H := Option.bind_eq_some_iff.mp H
    obtain ⟨t513, A50, H⟩ := H
    replace H : (if t513 = true then ((policy_Admit.f k a0_0 a0_1 a0_2 a0_3 a0_4 a0_5 a0_6 a0_7 a0_11 a0_12).bind fun bt520 => ((policy_Left.f k a0_0 a0_1 a0_2 a0_3 a0_4 a0_5 a0_6 a0_7 a0_11).bind fun t526 => (if a0_12 ≥ 1 then (turnstilelaw06_PolicyRises.j0 k a1 bt520.2.2.2.1 bt520.2.2.2.2 (bt520.2.2.2.1 != (decide (a0_12 ≤ t526))) a0_0 a0_1 a0_2 a0_3 a0_4 a0_5 a0_6 a0_7 a0_8 a0_9 a0_10 a0_11 a0_12 a0_0 a0_1 a0_2 a0_3 a0_4 bt520.1 bt520.2.1 bt520.2.2.1) else (turnstilelaw06_PolicyRises.j0 k a1 bt520.2.2.2.1 bt520.2.2.2.2 (bt520.2.2.2.1 != false) a0_0 a0_1 a0_2 a0_3 a0_4 a0_5 a0_6 a0_7 a0_8 a0_9 a0_10 a0_11 a0_12 a0_0 a0_1 a0_2 a0_3 a0_4 bt520.1 bt520.2.1 bt520.2.2.1)))) else ((policy_Admit.f k a0_0 a0_1 a0_2 a0_3 a0_4 a0_5 a0_6 a0_7 a0_11 a0_12).bind fun bt514 => (some (!bt514.2.2.2.1)))) = some r := H
    have A5 := Aside0.mk A50
    clear A50
    by_cases c6 : t513 = true
    · subst c6
      have H1 : ((policy_Admit.f k a0_0 a0_1 a0_2 a0_3 a0_4 a0_5 a0_6 a0_7 a0_11 a0_12).bind fun bt520 => ((policy_Left.f k a0_0 a0_1 a0_2 a0_3 a0_4 a0_5 a0_6 a0_7 a0_11).bind fun t526 => (if a0_12 ≥ 1 then (turnstilelaw06_PolicyRises.j0 k a1 bt520.2.2.2.1 bt520.2.2.2.2 (bt520.2.2.2.1 != (decide (a0_12 ≤ t526))) a0_0 a0_1 a0_2 a0_3 a0_4 a0_5 a0_6 a0_7 a0_8 a0_9 a0_10 a0_11 a0_12 a0_0 a0_1 a0_2 a0_3 a0_4 bt520.1 bt520.2.1 bt520.2.2.1) else (turnstilelaw06_PolicyRises.j0 k a1 bt520.2.2.2.1 bt520.2.2.2.2 (bt520.2.2.2.1 != false) a0_0 a0_1 a0_2 a0_3 a0_4 a0_5 a0_6 a0_7 a0_8 a0_9 a0_10 a0_11 a0_12 a0_0 a0_1 a0_2 a0_3 a0_4 bt520.1 bt520.2.1 bt520.2.2.1)))) = some r := by rw [if_pos rfl] at H; exact H
      clear H
      have H := H1
      clear H1
      replace H := Option.bind_eq_some_iff.mp H
      obtain ⟨⟨t520, t521, t522, t523, t524⟩, A70, H⟩ := H
      replace H : ((policy_Left.f k a0_0 a0_1 a0_2 a0_3 a0_4 a0_5 a0_6 a0_7 a0_11).bind fun t526 => (if a0_12 ≥ 1 then (turnstilelaw06_PolicyRises.j0 k a1 t523 t524 (t523 != (decide (a0_12 ≤ t526))) a0_0 a0_1 a0_2 a0_3 a0_4 a0_5 a0_6 a0_7 a0_8 a0_9 a0_10 a0_11 a0_12 a0_0 a0_1 a0_2 a0_3 a0_4 t520 t521 t522) else (turnstilelaw06_PolicyRises.j0 k a1 t523 t524 (t523 != false) a0_0 a0_1 a0_2 a0_3 a0_4 a0_5 a0_6 a0_7 a0_8 a0_9 a0_10 a0_11 a0_12 a0_0 a0_1 a0_2 a0_3 a0_4 t520 t521 t522))) = some r := H
      have A7 := Aside0.mk A70
      clear A70
      replace H := Option.bind_eq_some_iff.mp H
      obtain ⟨t526, A80, H⟩ := H
      replace H : (if a0_12 ≥ 1 then (turnstilelaw06_PolicyRises.j0 k a1 t523 t524 (t523 != (decide (a0_12 ≤ t526))) a0_0 a0_1 a0_2 a0_3 a0_4 a0_5 a0_6 a0_7 a0_8 a0_9 a0_10 a0_11 a0_12 a0_0 a0_1 a0_2 a0_3 a0_4 t520 t521 t522) else (turnstilelaw06_PolicyRises.j0 k a1 t523 t524 (t523 != false) a0_0 a0_1 a0_2 a0_3 a0_4 a0_5 a0_6 a0_7 a0_8 a0_9 a0_10 a0_11 a0_12 a0_0 a0_1 a0_2 a0_3 a0_4 t520 t521 t522)) = some r := H
      have A8 := Aside0.mk A80
      clear A80
      have HC9 := Aside0.mk H
      clear H
      go_enter Try.func7, Try.ntmps7
      go_upto_region 9 with (first | ((with_reducible refine gate_dst (N := 2) rfl ?_); refine bx 2 #[.int .i64 a0_0, .int .u64 a0_1, .int .u64 a0_2, .int .u64 a0_3, .int .u64 a0_4, .int .u64 a0_5, .int .u64 a0_6, .int .u64 a0_7, .int .u64 a0_8, .int .u64 a0_9, .int .u64 a0_10, .int .u64 a0_11, .int .u64 a0_12] 31 ?_; intro gb510 hg w10 hbox hb; have n0_ := bs HB hb; have n1_ := Aside0.mk (hbox); have n2_ := sz HB hg; have n3_ := sz HB hg; clear HB; have HB := n0_; have BK510 := n1_; have GW510 := n2_; have GE510 := n3_; clear n0_ n1_ n2_ n3_; clear hb hbox hg) | ((with_reducible refine gate_callee (f := 14) rfl ?_); refine gm (some 19) Try.func14 #[] (turnstilelaw06_awake.calls k  true _ A3.out) ?_; intro w11 hb; have n0_ := bb BK510 hb; have n1_ := bs HB hb; clear BK510; clear HB; have BK510 := n0_; have HB := n1_; clear n0_ n1_; (try clear hb); (try clear hb2); (try clear hk); (try clear hi); have hcz12_0 : w11.cell? ⟨gb510, 0, none⟩ = some (.int .i64 a0_0) := (blk_cell BK510.out 0).trans rfl; have hcz12_1 : w11.cell? ⟨gb510, 1, none⟩ = some (.int .u64 a0_1) := (blk_cell BK510.out 1).trans rfl; have hcz12_2 : w11.cell? ⟨gb510, 2, none⟩ = some (.int .u64 a0_2) := (blk_cell BK510.out 2).trans rfl; have hcz12_3 : w11.cell? ⟨gb510, 3, none⟩ = some (.int .u64 a0_3) := (blk_cell BK510.out 3).trans rfl; have hcz12_4 : w11.cell? ⟨gb510, 4, none⟩ = some (.int .u64 a0_4) := (blk_cell BK510.out 4).trans rfl; have hcz12_5 : w11.cell? ⟨gb510, 5, none⟩ = some (.int .u64 a0_5) := (blk_cell BK510.out 5).trans rfl; have hcz12_6 : w11.cell? ⟨gb510, 6, none⟩ = some (.int .u64 a0_6) := (blk_cell BK510.out 6).trans rfl; have hcz12_7 : w11.cell? ⟨gb510, 7, none⟩ = some (.int .u64 a0_7) := (blk_cell BK510.out 7).trans rfl; have hcz12_8 : w11.cell? ⟨gb510, 8, none⟩ = some (.int .u64 a0_8) := (blk_cell BK510.out 8).trans rfl; have hcz12_9 : w11.cell? ⟨gb510, 9, none⟩ = some (.int .u64 a0_9) := (blk_cell BK510.out 9).trans rfl; have hcz12_10 : w11.cell? ⟨gb510, 10, none⟩ = some (.int .u64 a0_10) := (blk_cell BK510.out 10).trans rfl; have hcz12_11 : w11.cell? ⟨gb510, 11, none⟩ = some (.int .u64 a0_11) := (blk_cell BK510.out 11).trans rfl; have hcz12_12 : w11.cell? ⟨gb510, 12, none⟩ = some (.int .u64 a0_12) := (blk_cell BK510.out 12).trans rfl; have hfz12_0 := blk_frozen BK510.out 0; have hfz12_1 := blk_frozen BK510.out 1; have hfz12_2 := blk_frozen BK510.out 2; have hfz12_3 := blk_frozen BK510.out 3; have hfz12_4 := blk_frozen BK510.out 4; have hfz12_5 := blk_frozen BK510.out 5; have hfz12_6 := blk_frozen BK510.out 6; have hfz12_7 := blk_frozen BK510.out 7; have hfz12_8 := blk_frozen BK510.out 8; have hfz12_9 := blk_frozen BK510.out 9; have hfz12_10 := blk_frozen BK510.out 10; have hfz12_11 := blk_frozen BK510.out 11; have hfz12_12 := blk_frozen BK510.out 12) | ((with_reducible refine gate_dst (N := 5) rfl ?_); refine bx 5 #[.int .i64 0, .int .u64 0, .int .u64 0, .int .u64 0, .int .u64 0] 27 ?_; intro gb512 hg w13 hbox hb; have n0_ := bb BK510 hb; have n1_ := bs HB hb; have n2_ := Aside0.mk (hbox); have n3_ := sz HB hg; have n4_ := sz HB hg; have n5_ := nl BK510 hg; have n6_ := nr BK510 hg; clear BK510; clear HB; have BK510 := n0_; have HB := n1_; have BK512 := n2_; have GW512 := n3_; have GE512 := n4_; have NB510_512 := n5_; have NB512_510 := n6_; clear n0_ n1_ n2_ n3_ n4_ n5_ n6_; clear hb hbox hg; have hnb14 := NB512_510.out; have hnc14 := NB510_512.out; obtain ⟨hcz15_0, hcz15_1, hcz15_2, hcz15_3, hcz15_4, hfz15_0, hfz15_1, hfz15_2, hfz15_3, hfz15_4⟩ := bc5 BK512) | ((with_reducible refine gate_callee (f := 18) rfl ?_); refine gm (some 24) Try.func18 #[.agg #[.int .i64 a0_0, .int .u64 a0_1, .int .u64 a0_2, .int .u64 a0_3, .int .u64 a0_4]] (policy_Valid.calls a0_0 a0_1 a0_2 a0_3 a0_4 true _ A5.out) ?_; intro w16 hb; have n0_ := bb BK510 hb; have n1_ := bbp (.cells #[.int .i64 a0_0, .int .u64 a0_1, .int .u64 a0_2, .int .u64 a0_3, .int .u64 a0_4] 27 (0, 0)) BK512 hb; have n2_ := bs HB hb; clear BK510; clear BK512; clear HB; have BK510 := n0_; have BK512 := n1_; have HB := n2_; clear n0_ n1_ n2_; (try clear hb); (try clear hb2); (try clear hk); (try clear hi); obtain ⟨hcz17_0, hcz17_1, hcz17_2, hcz17_3, hcz17_4, hfz17_0, hfz17_1, hfz17_2, hfz17_3, hfz17_4⟩ := bc5 BK512; have hcz18_0 : w16.cell? ⟨gb510, 0, none⟩ = some (.int .i64 a0_0) := (blk_cell BK510.out 0).trans rfl; have hcz18_1 : w16.cell? ⟨gb510, 1, none⟩ = some (.int .u64 a0_1) := (blk_cell BK510.out 1).trans rfl; have hcz18_2 : w16.cell? ⟨gb510, 2, none⟩ = some (.int .u64 a0_2) := (blk_cell BK510.out 2).trans rfl; have hcz18_3 : w16.cell? ⟨gb510, 3, none⟩ = some (.int .u64 a0_3) := (blk_cell BK510.out 3).trans rfl; have hcz18_4 : w16.cell? ⟨gb510, 4, none⟩ = some (.int .u64 a0_4) := (blk_cell BK510.out 4).trans rfl; have hcz18_5 : w16.cell? ⟨gb510, 5, none⟩ = some (.int .u64 a0_5) := (blk_cell BK510.out 5).trans rfl; have hcz18_6 : w16.cell? ⟨gb510, 6, none⟩ = some (.int .u64 a0_6) := (blk_cell BK510.out 6).trans rfl; have hcz18_7 : w16.cell? ⟨gb510, 7, none⟩ = some (.int .u64 a0_7) := (blk_cell BK510.out 7).trans rfl; have hcz18_8 : w16.cell? ⟨gb510, 8, none⟩ = some (.int .u64 a0_8) := (blk_cell BK510.out 8).trans rfl; have hcz18_9 : w16.cell? ⟨gb510, 9, none⟩ = some (.int .u64 a0_9) := (blk_cell BK510.out 9).trans rfl; have hcz18_10 : w16.cell? ⟨gb510, 10, none⟩ = some (.int .u64 a0_10) := (blk_cell BK510.out 10).trans rfl; have hcz18_11 : w16.cell? ⟨gb510, 11, none⟩ = some (.int .u64 a0_11) := (blk_cell BK510.out 11).trans rfl; have hcz18_12 : w16.cell? ⟨gb510, 12, none⟩ = some (.int .u64 a0_12) := (blk_cell BK510.out 12).trans rfl; have hfz18_0 := blk_frozen BK510.out 0; have hfz18_1 := blk_frozen BK510.out 1; have hfz18_2 := blk_frozen BK510.out 2; have hfz18_3 := blk_frozen BK510.out 3; have hfz18_4 := blk_frozen BK510.out 4; have hfz18_5 := blk_frozen BK510.out 5; have hfz18_6 := blk_frozen BK510.out 6; have hfz18_7 := blk_frozen BK510.out 7; have hfz18_8 := blk_frozen BK510.out 8; have hfz18_9 := blk_frozen BK510.out 9; have hfz18_10 := blk_frozen BK510.out 10; have hfz18_11 := blk_frozen BK510.out 11; have hfz18_12 := blk_frozen BK510.out 12) | ((with_reducible refine gate_callee (f := 16) rfl ?_); refine gm (some 48) Try.func16 #[.agg #[.int .i64 a0_0, .int .u64 a0_1, .int .u64 a0_2, .int .u64 a0_3, .int .u64 a0_4], .agg #[.int .u64 a0_5, .int .u64 a0_6, .int .u64 a0_7], .int .u64 a0_11, .int .u64 a0_12] (policy_Admit.calls k a0_0 a0_1 a0_2 a0_3 a0_4 a0_5 a0_6 a0_7 a0_11 a0_12 t520 t521 t522 t523 t524 _ A7.out) ?_; intro w19 hb; have n0_ := bb BK510 hb; have n1_ := bb BK512 hb; have n2_ := bs HB hb; clear BK510; clear BK512; clear HB; have BK510 := n0_; have BK512 := n1_; have HB := n2_; clear n0_ n1_ n2_; (try clear hb); (try clear hb2); (try clear hk); (try clear hi)) | ((with_reducible refine gate_dst (N := 9) rfl ?_); refine bx 9 #[.int .u64 0, .int .u64 0, .int .u64 0] 29 ?_; intro gb525 hg w20 hbox hb; have n0_ := bb BK510 hb; have n1_ := bb BK512 hb; have n2_ := bs HB hb; have n3_ := Aside0.mk (hbox); have n4_ := sz HB hg; have n5_ := sz HB hg; have n6_ := nl BK510 hg; have n7_ := nr BK510 hg; have n8_ := nl BK512 hg; have n9_ := nr BK512 hg; clear BK510; clear BK512; clear HB; have BK510 := n0_; have BK512 := n1_; have HB := n2_; have BK525 := n3_; have GW525 := n4_; have GE525 := n5_; have NB510_525 := n6_; have NB525_510 := n7_; have NB512_525 := n8_; have NB525_512 := n9_; clear n0_ n1_ n2_ n3_ n4_ n5_ n6_ n7_ n8_ n9_; clear hb hbox hg; have hnb21 := NB525_510.out; have hnc21 := NB510_525.out; have hnb22 := NB525_512.out; have hnc22 := NB512_525.out; obtain ⟨hcz23_0, hcz23_1, hcz23_2, hfz23_0, hfz23_1, hfz23_2⟩ := bc3 BK525; obtain ⟨hcz24_0, hcz24_1, hcz24_2, hcz24_3, hcz24_4, hfz24_0, hfz24_1, hfz24_2, hfz24_3, hfz24_4⟩ := bc5 BK512; have hcz25_0 : w20.cell? ⟨gb510, 0, none⟩ = some (.int .i64 a0_0) := (blk_cell BK510.out 0).trans rfl; have hcz25_1 : w20.cell? ⟨gb510, 1, none⟩ = some (.int .u64 a0_1) := (blk_cell BK510.out 1).trans rfl; have hcz25_2 : w20.cell? ⟨gb510, 2, none⟩ = some (.int .u64 a0_2) := (blk_cell BK510.out 2).trans rfl; have hcz25_3 : w20.cell? ⟨gb510, 3, none⟩ = some (.int .u64 a0_3) := (blk_cell BK510.out 3).trans rfl; have hcz25_4 : w20.cell? ⟨gb510, 4, none⟩ = some (.int .u64 a0_4) := (blk_cell BK510.out 4).trans rfl; have hcz25_5 : w20.cell? ⟨gb510, 5, none⟩ = some (.int .u64 a0_5) := (blk_cell BK510.out 5).trans rfl; have hcz25_6 : w20.cell? ⟨gb510, 6, none⟩ = some (.int .u64 a0_6) := (blk_cell BK510.out 6).trans rfl; have hcz25_7 : w20.cell? ⟨gb510, 7, none⟩ = some (.int .u64 a0_7) := (blk_cell BK510.out 7).trans rfl; have hcz25_8 : w20.cell? ⟨gb510, 8, none⟩ = some (.int .u64 a0_8) := (blk_cell BK510.out 8).trans rfl; have hcz25_9 : w20.cell? ⟨gb510, 9, none⟩ = some (.int .u64 a0_9) := (blk_cell BK510.out 9).trans rfl; have hcz25_10 : w20.cell? ⟨gb510, 10, none⟩ = some (.int .u64 a0_10) := (blk_cell BK510.out 10).trans rfl; have hcz25_11 : w20.cell? ⟨gb510, 11, none⟩ = some (.int .u64 a0_11) := (blk_cell BK510.out 11).trans rfl; have hcz25_12 : w20.cell? ⟨gb510, 12, none⟩ = some (.int .u64 a0_12) := (blk_cell BK510.out 12).trans rfl; have hfz25_0 := blk_frozen BK510.out 0; have hfz25_1 := blk_frozen BK510.out 1; have hfz25_2 := blk_frozen BK510.out 2; have hfz25_3 := blk_frozen BK510.out 3; have hfz25_4 := blk_frozen BK510.out 4; have hfz25_5 := blk_frozen BK510.out 5; have hfz25_6 := blk_frozen BK510.out 6; have hfz25_7 := blk_frozen BK510.out 7; have hfz25_8 := blk_frozen BK510.out 8; have hfz25_9 := blk_frozen BK510.out 9; have hfz25_10 := blk_frozen BK510.out 10; have hfz25_11 := blk_frozen BK510.out 11; have hfz25_12 := blk_frozen BK510.out 12) | ((with_reducible refine gate_callee (f := 17) rfl ?_); refine gm (some 57) Try.func17 #[.agg #[.int .i64 a0_0, .int .u64 a0_1, .int .u64 a0_2, .int .u64 a0_3, .int .u64 a0_4], .agg #[.int .u64 a0_5, .int .u64 a0_6, .int .u64 a0_7], .int .u64 a0_11] (policy_Left.calls k a0_0 a0_1 a0_2 a0_3 a0_4 a0_5 a0_6 a0_7 a0_11 t526 _ A8.out) ?_; intro w26 hb; have n0_ := bb BK510 hb; have n1_ := bb BK512 hb; have n2_ := bbp (.cells #[.int .u64 t520, .int .u64 t521, .int .u64 t522] 29 (0, 0)) BK525 hb; have n3_ := bs HB hb; clear BK510; clear BK512; clear BK525; clear HB; have BK510 := n0_; have BK512 := n1_; have BK525 := n2_; have HB := n3_; clear n0_ n1_ n2_ n3_; (try clear hb); (try clear hb2); (try clear hk); (try clear hi)))
      (try simp only [Act.put, List.setIfInBounds_toArray, List.set_cons_zero, List.set_cons_succ])
      go_cut [68] (fun v68 wc => ∃ (kq : Nat) (x68_8 : Bool), v68 = .bool x68_8 ∧ Aside0 (turnstilelaw06_PolicyRises.j0 kq a1 t523 t524 x68_8 a0_0 a0_1 a0_2 a0_3 a0_4 a0_5 a0_6 a0_7 a0_8 a0_9 a0_10 a0_11 a0_12 a0_0 a0_1 a0_2 a0_3 a0_4 t520 t521 t522 = some r) ∧ Aside0 (kq ≤ k) ∧ Aside0 (wc.heap[gb510]? = some (.cells #[.int .i64 a0_0, .int .u64 a0_1, .int .u64 a0_2, .int .u64 a0_3, .int .u64 a0_4, .int .u64 a0_5, .int .u64 a0_6, .int .u64 a0_7, .int .u64 a0_8, .int .u64 a0_9, .int .u64 a0_10, .int .u64 a0_11, .int .u64 a0_12] 31 (0, 0))) ∧ Aside0 (wc.heap[gb512]? = some (.cells #[.int .i64 a0_0, .int .u64 a0_1, .int .u64 a0_2, .int .u64 a0_3, .int .u64 a0_4] 27 (0, 0))) ∧ Aside0 (wc.heap[gb525]? = some (.cells #[.int .u64 t520, .int .u64 t521, .int .u64 t522] 29 (0, 0))) ∧ Aside0 (Below w.heap.size w wc))
      case first =>
        have H := HC9.out
        clear HC9
        by_cases c27 : a0_12 ≥ 1
        · rw [if_pos c27] at H
          have c27b0 : decide (1 ≤ a0_12) = true := decide_eq_true c27
          clear c27
          (first | rw [c27b0] | (simp only [i64_w, i32_w]; rw [c27b0]) | skip)
          have H' := Aside0.mk H
          clear H
          have hnb28 := NB510_512.out
          have hnc28 := NB512_510.out
          have hnb29 := NB510_525.out
          have hnc29 := NB525_510.out
          have hcz30_0 : w26.cell? ⟨gb510, 0, none⟩ = some (.int .i64 a0_0) := (blk_cell BK510.out 0).trans rfl
          have hcz30_1 : w26.cell? ⟨gb510, 1, none⟩ = some (.int .u64 a0_1) := (blk_cell BK510.out 1).trans rfl
          have hcz30_2 : w26.cell? ⟨gb510, 2, none⟩ = some (.int .u64 a0_2) := (blk_cell BK510.out 2).trans rfl
          have hcz30_3 : w26.cell? ⟨gb510, 3, none⟩ = some (.int .u64 a0_3) := (blk_cell BK510.out 3).trans rfl
          have hcz30_4 : w26.cell? ⟨gb510, 4, none⟩ = some (.int .u64 a0_4) := (blk_cell BK510.out 4).trans rfl
          have hcz30_5 : w26.cell? ⟨gb510, 5, none⟩ = some (.int .u64 a0_5) := (blk_cell BK510.out 5).trans rfl
          have hcz30_6 : w26.cell? ⟨gb510, 6, none⟩ = some (.int .u64 a0_6) := (blk_cell BK510.out 6).trans rfl
          have hcz30_7 : w26.cell? ⟨gb510, 7, none⟩ = some (.int .u64 a0_7) := (blk_cell BK510.out 7).trans rfl
          have hcz30_8 : w26.cell? ⟨gb510, 8, none⟩ = some (.int .u64 a0_8) := (blk_cell BK510.out 8).trans rfl
          have hcz30_9 : w26.cell? ⟨gb510, 9, none⟩ = some (.int .u64 a0_9) := (blk_cell BK510.out 9).trans rfl
          have hcz30_10 : w26.cell? ⟨gb510, 10, none⟩ = some (.int .u64 a0_10) := (blk_cell BK510.out 10).trans rfl
          have hcz30_11 : w26.cell? ⟨gb510, 11, none⟩ = some (.int .u64 a0_11) := (blk_cell BK510.out 11).trans rfl
          have hcz30_12 : w26.cell? ⟨gb510, 12, none⟩ = some (.int .u64 a0_12) := (blk_cell BK510.out 12).trans rfl
          have hfz30_0 := blk_frozen BK510.out 0
          have hfz30_1 := blk_frozen BK510.out 1
          have hfz30_2 := blk_frozen BK510.out 2
          have hfz30_3 := blk_frozen BK510.out 3
          have hfz30_4 := blk_frozen BK510.out 4
          have hfz30_5 := blk_frozen BK510.out 5
          have hfz30_6 := blk_frozen BK510.out 6
          have hfz30_7 := blk_frozen BK510.out 7
          have hfz30_8 := blk_frozen BK510.out 8
          have hfz30_9 := blk_frozen BK510.out 9
          have hfz30_10 := blk_frozen BK510.out 10
          have hfz30_11 := blk_frozen BK510.out 11
          have hfz30_12 := blk_frozen BK510.out 12
          go_wp2
          go_meet
          case rel => exact ⟨_, ((t523 != (decide (a0_12 ≤ t526)))), rs, H', ⟨by first | omega | exact Nat.le_refl _⟩, ⟨bk BK510⟩, ⟨bk BK512⟩, ⟨bk BK525⟩, ⟨bw HB⟩⟩
        · rw [if_neg c27] at H
          have c27b0 : decide (1 ≤ a0_12) = false := decide_eq_false c27
          clear c27
          (first | rw [c27b0] | (simp only [i64_w, i32_w]; rw [c27b0]) | skip)
          have H' := Aside0.mk H
          clear H
          have hnb31 := NB510_512.out
          have hnc31 := NB512_510.out
          have hnb32 := NB510_525.out
          have hnc32 := NB525_510.out
          have hcz33_0 : w26.cell? ⟨gb510, 0, none⟩ = some (.int .i64 a0_0) := (blk_cell BK510.out 0).trans rfl
          have hcz33_1 : w26.cell? ⟨gb510, 1, none⟩ = some (.int .u64 a0_1) := (blk_cell BK510.out 1).trans rfl
          have hcz33_2 : w26.cell? ⟨gb510, 2, none⟩ = some (.int .u64 a0_2) := (blk_cell BK510.out 2).trans rfl
          have hcz33_3 : w26.cell? ⟨gb510, 3, none⟩ = some (.int .u64 a0_3) := (blk_cell BK510.out 3).trans rfl
          have hcz33_4 : w26.cell? ⟨gb510, 4, none⟩ = some (.int .u64 a0_4) := (blk_cell BK510.out 4).trans rfl
          have hcz33_5 : w26.cell? ⟨gb510, 5, none⟩ = some (.int .u64 a0_5) := (blk_cell BK510.out 5).trans rfl
          have hcz33_6 : w26.cell? ⟨gb510, 6, none⟩ = some (.int .u64 a0_6) := (blk_cell BK510.out 6).trans rfl
          have hcz33_7 : w26.cell? ⟨gb510, 7, none⟩ = some (.int .u64 a0_7) := (blk_cell BK510.out 7).trans rfl
          have hcz33_8 : w26.cell? ⟨gb510, 8, none⟩ = some (.int .u64 a0_8) := (blk_cell BK510.out 8).trans rfl
          have hcz33_9 : w26.cell? ⟨gb510, 9, none⟩ = some (.int .u64 a0_9) := (blk_cell BK510.out 9).trans rfl
          have hcz33_10 : w26.cell? ⟨gb510, 10, none⟩ = some (.int .u64 a0_10) := (blk_cell BK510.out 10).trans rfl
          have hcz33_11 : w26.cell? ⟨gb510, 11, none⟩ = some (.int .u64 a0_11) := (blk_cell BK510.out 11).trans rfl
          have hcz33_12 : w26.cell? ⟨gb510, 12, none⟩ = some (.int .u64 a0_12) := (blk_cell BK510.out 12).trans rfl
          have hfz33_0 := blk_frozen BK510.out 0
          have hfz33_1 := blk_frozen BK510.out 1
          have hfz33_2 := blk_frozen BK510.out 2
          have hfz33_3 := blk_frozen BK510.out 3
          have hfz33_4 := blk_frozen BK510.out 4
          have hfz33_5 := blk_frozen BK510.out 5
          have hfz33_6 := blk_frozen BK510.out 6
          have hfz33_7 := blk_frozen BK510.out 7
          have hfz33_8 := blk_frozen BK510.out 8
          have hfz33_9 := blk_frozen BK510.out 9
          have hfz33_10 := blk_frozen BK510.out 10
          have hfz33_11 := blk_frozen BK510.out 11
          have hfz33_12 := blk_frozen BK510.out 12
          go_wp2
          go_meet
          case rel => exact ⟨_, ((t523 != false)), rs, H', ⟨by first | omega | exact Nat.le_refl _⟩, ⟨bk BK510⟩, ⟨bk BK512⟩, ⟨bk BK525⟩, ⟨bw HB⟩⟩
      case rest =>
        clear HC9
        try clear c1
        try clear c2
        try clear p2
        try clear c3
        try clear c4
        try clear c6
        try clear c7
        try clear c14
        try clear c16
        try clear c17
        try clear c18
        try clear c21
        try clear c22
        try clear c27
        try clear c27b0
        try clear c28
        try clear c29
        try clear c31
        try clear c32
        try clear hcz12_0
        try clear hcz12_1
        try clear hcz12_10
        try clear hcz12_11
        try clear hcz12_12
        try clear hcz12_2
        try clear hcz12_3
        try clear hcz12_4
        try clear hcz12_5
        try clear hcz12_6
        try clear hcz12_7
        try clear hcz12_8
        try clear hcz12_9
        try clear hcz15_0
        try clear hcz15_1
        try clear hcz15_2
        try clear hcz15_3
        try clear hcz15_4
        try clear hcz17_0
        try clear hcz17_1
        try clear hcz17_2
        try clear hcz17_3
        try clear hcz17_4
        try clear hcz18_0
        try clear hcz18_1
        try clear hcz18_10
        try clear hcz18_11
        try clear hcz18_12
        try clear hcz18_2
        try clear hcz18_3
        try clear hcz18_4
        try clear hcz18_5
        try clear hcz18_6
        try clear hcz18_7
        try clear hcz18_8
        try clear hcz18_9
        try clear hcz23_0
        try clear hcz23_1
        try clear hcz23_2
        try clear hcz24_0
        try clear hcz24_1
        try clear hcz24_2
        try clear hcz24_3
        try clear hcz24_4
        try clear hcz25_0
        try clear hcz25_1
        try clear hcz25_10
        try clear hcz25_11
        try clear hcz25_12
        try clear hcz25_2
        try clear hcz25_3
        try clear hcz25_4
        try clear hcz25_5
        try clear hcz25_6
        try clear hcz25_7
        try clear hcz25_8
        try clear hcz25_9
        try clear hcz30_0
        try clear hcz30_1
        try clear hcz30_10
        try clear hcz30_11
        try clear hcz30_12
        try clear hcz30_2
        try clear hcz30_3
        try clear hcz30_4
        try clear hcz30_5
        try clear hcz30_6
        try clear hcz30_7
        try clear hcz30_8
        try clear hcz30_9
        try clear hcz33_0
        try clear hcz33_1
        try clear hcz33_10
        try clear hcz33_11
        try clear hcz33_12
        try clear hcz33_2
        try clear hcz33_3
        try clear hcz33_4
        try clear hcz33_5
        try clear hcz33_6
        try clear hcz33_7
        try clear hcz33_8
        try clear hcz33_9
        try clear hfz12_0
        try clear hfz12_1
        try clear hfz12_10
        try clear hfz12_11
        try clear hfz12_12
        try clear hfz12_2
        try clear hfz12_3
        try clear hfz12_4
        try clear hfz12_5
        try clear hfz12_6
        try clear hfz12_7
        try clear hfz12_8
        try clear hfz12_9
        try clear hfz15_0
        try clear hfz15_1
        try clear hfz15_2
        try clear hfz15_3
        try clear hfz15_4
        try clear hfz17_0
        try clear hfz17_1
        try clear hfz17_2
        try clear hfz17_3
        try clear hfz17_4
        try clear hfz18_0
        try clear hfz18_1
        try clear hfz18_10
        try clear hfz18_11
        try clear hfz18_12
        try clear hfz18_2
        try clear hfz18_3
        try clear hfz18_4
        try clear hfz18_5
        try clear hfz18_6
        try clear hfz18_7
        try clear hfz18_8
        try clear hfz18_9
        try clear hfz23_0
        try clear hfz23_1
        try clear hfz23_2
        try clear hfz24_0
        try clear hfz24_1
        try clear hfz24_2
        try clear hfz24_3
        try clear hfz24_4
        try clear hfz25_0
        try clear hfz25_1
        try clear hfz25_10
        try clear hfz25_11
        try clear hfz25_12
        try clear hfz25_2
        try clear hfz25_3
        try clear hfz25_4
        try clear hfz25_5
        try clear hfz25_6
        try clear hfz25_7
        try clear hfz25_8
        try clear hfz25_9
        try clear hfz30_0
        try clear hfz30_1
        try clear hfz30_10
        try clear hfz30_11
        try clear hfz30_12
        try clear hfz30_2
        try clear hfz30_3
        try clear hfz30_4
        try clear hfz30_5
        try clear hfz30_6
        try clear hfz30_7
        try clear hfz30_8
        try clear hfz30_9
        try clear hfz33_0
        try clear hfz33_1
        try clear hfz33_10
        try clear hfz33_11
        try clear hfz33_12
        try clear hfz33_2
        try clear hfz33_3
        try clear hfz33_4
        try clear hfz33_5
        try clear hfz33_6
        try clear hfz33_7
        try clear hfz33_8
        try clear hfz33_9
        obtain ⟨kq, x68_8, rfl, HA, HJ8, BK510, BK512, BK525, HB⟩ := hcut
        cases kq with
        | zero => exact absurd HA.out (by simp [turnstilelaw06_PolicyRises.j0])
        | succ kj8 =>
          have H := HA.out
          clear HA
          simp only [turnstilelaw06_PolicyRises.j0] at H
          by_cases c34 : x68_8 = true
          · subst c34
            have H1 : (some false) = some r := by rw [if_pos rfl] at H; exact H
            clear H
            have H := H1
            clear H1
            obtain rfl := Option.some.inj H
            go_wp2
            go_ret
            exact ⟨re, bw HB⟩
          · replace c34 := Bool.eq_false_iff.mpr c34
            subst c34
            have H1 : (if t523 = true then ((policy_Covers.f a0_0 a0_1 a0_2 a0_3 a0_4 t520 t521 t522 a0_5 a0_6 a0_7).bind fun t527 => (if t527 = true then ((policy_Covers.f a0_0 a0_1 a0_2 a0_3 a0_4 a0_5 a0_6 a0_7 t520 t521 t522).bind fun t528 => (if t528 = true then (some false) else (some (t524 == 0)))) else (some false))) else (if t524 < a0_11 then (turnstilelaw06_PolicyRises.j1 kj8 a1 t524 true a0_0 a0_1 a0_2 a0_3 a0_4 a0_5 a0_6 a0_7 a0_8 a0_9 a0_10 a0_11 a0_12 a0_0 a0_1 a0_2 a0_3 a0_4) else ((policy_Covers.f a0_0 a0_1 a0_2 a0_3 a0_4 t520 t521 t522 a0_5 a0_6 a0_7).bind fun t529 => (if t529 = true then ((policy_Covers.f a0_0 a0_1 a0_2 a0_3 a0_4 a0_5 a0_6 a0_7 t520 t521 t522).bind fun t530 => (turnstilelaw06_PolicyRises.j1 kj8 a1 t524 (!t530) a0_0 a0_1 a0_2 a0_3 a0_4 a0_5 a0_6 a0_7 a0_8 a0_9 a0_10 a0_11 a0_12 a0_0 a0_1 a0_2 a0_3 a0_4)) else (turnstilelaw06_PolicyRises.j1 kj8 a1 t524 true a0_0 a0_1 a0_2 a0_3 a0_4 a0_5 a0_6 a0_7 a0_8 a0_9 a0_10 a0_11 a0_12 a0_0 a0_1 a0_2 a0_3 a0_4))))) = some r := by rw [if_neg (show ¬ (false = true) by decide)] at H; exact H
            clear H
            have H := H1
            clear H1
            by_cases c35 : t523 = true
            · subst c35
              have H1 : ((policy_Covers.f a0_0 a0_1 a0_2 a0_3 a0_4 t520 t521 t522 a0_5 a0_6 a0_7).bind fun t527 => (if t527 = true then ((policy_Covers.f a0_0 a0_1 a0_2 a0_3 a0_4 a0_5 a0_6 a0_7 t520 t521 t522).bind fun t528 => (if t528 = true then (some false) else (some (t524 == 0)))) else (some false))) = some r := by rw [if_pos rfl] at H; exact H
              clear H
              have H := H1
              clear H1
              replace H := Option.bind_eq_some_iff.mp H
              obtain ⟨t527, A360, H⟩ := H
              replace H : (if t527 = true then ((policy_Covers.f a0_0 a0_1 a0_2 a0_3 a0_4 a0_5 a0_6 a0_7 t520 t521 t522).bind fun t528 => (if t528 = true then (some false) else (some (t524 == 0)))) else (some false)) = some r := H
              have A36 := Aside0.mk A360
              clear A360
              by_cases c37 : t527 = true
              · subst c37
                have H1 : ((policy_Covers.f a0_0 a0_1 a0_2 a0_3 a0_4 a0_5 a0_6 a0_7 t520 t521 t522).bind fun t528 => (if t528 = true then (some false) else (some (t524 == 0)))) = some r := by rw [if_pos rfl] at H; exact H
                clear H
                have H := H1
                clear H1
                replace H := Option.bind_eq_some_iff.mp H
                obtain ⟨t528, A380, H⟩ := H
                replace H : (if t528 = true then (some false) else (some (t524 == 0))) = some r := H
                have A38 := Aside0.mk A380
                clear A380
                by_cases c39 : t528 = true
                · subst c39
                  have H1 : (some false) = some r := by rw [if_pos rfl] at H; exact H
                  clear H
                  have H := H1
                  clear H1
                  obtain rfl := Option.some.inj H
                  have hnb40 := NB512_510.out
                  have hnc40 := NB510_512.out
                  have hnb41 := NB512_525.out
                  have hnc41 := NB525_512.out
                  obtain ⟨hcz42_0, hcz42_1, hcz42_2, hcz42_3, hcz42_4, hfz42_0, hfz42_1, hfz42_2, hfz42_3, hfz42_4⟩ := bc5 BK512
                  have hnb43 := NB525_510.out
                  have hnc43 := NB510_525.out
                  obtain ⟨hcz44_0, hcz44_1, hcz44_2, hfz44_0, hfz44_1, hfz44_2⟩ := bc3 BK525
                  have hcz45_0 : wc.cell? ⟨gb510, 0, none⟩ = some (.int .i64 a0_0) := (blk_cell BK510.out 0).trans rfl
                  have hcz45_1 : wc.cell? ⟨gb510, 1, none⟩ = some (.int .u64 a0_1) := (blk_cell BK510.out 1).trans rfl
                  have hcz45_2 : wc.cell? ⟨gb510, 2, none⟩ = some (.int .u64 a0_2) := (blk_cell BK510.out 2).trans rfl
                  have hcz45_3 : wc.cell? ⟨gb510, 3, none⟩ = some (.int .u64 a0_3) := (blk_cell BK510.out 3).trans rfl
                  have hcz45_4 : wc.cell? ⟨gb510, 4, none⟩ = some (.int .u64 a0_4) := (blk_cell BK510.out 4).trans rfl
                  have hcz45_5 : wc.cell? ⟨gb510, 5, none⟩ = some (.int .u64 a0_5) := (blk_cell BK510.out 5).trans rfl
                  have hcz45_6 : wc.cell? ⟨gb510, 6, none⟩ = some (.int .u64 a0_6) := (blk_cell BK510.out 6).trans rfl
                  have hcz45_7 : wc.cell? ⟨gb510, 7, none⟩ = some (.int .u64 a0_7) := (blk_cell BK510.out 7).trans rfl
                  have hcz45_8 : wc.cell? ⟨gb510, 8, none⟩ = some (.int .u64 a0_8) := (blk_cell BK510.out 8).trans rfl
                  have hcz45_9 : wc.cell? ⟨gb510, 9, none⟩ = some (.int .u64 a0_9) := (blk_cell BK510.out 9).trans rfl
                  have hcz45_10 : wc.cell? ⟨gb510, 10, none⟩ = some (.int .u64 a0_10) := (blk_cell BK510.out 10).trans rfl
                  have hcz45_11 : wc.cell? ⟨gb510, 11, none⟩ = some (.int .u64 a0_11) := (blk_cell BK510.out 11).trans rfl
                  have hcz45_12 : wc.cell? ⟨gb510, 12, none⟩ = some (.int .u64 a0_12) := (blk_cell BK510.out 12).trans rfl
                  have hfz45_0 := blk_frozen BK510.out 0
                  have hfz45_1 := blk_frozen BK510.out 1
                  have hfz45_2 := blk_frozen BK510.out 2
                  have hfz45_3 := blk_frozen BK510.out 3
                  have hfz45_4 := blk_frozen BK510.out 4
                  have hfz45_5 := blk_frozen BK510.out 5
                  have hfz45_6 := blk_frozen BK510.out 6
                  have hfz45_7 := blk_frozen BK510.out 7
                  have hfz45_8 := blk_frozen BK510.out 8
                  have hfz45_9 := blk_frozen BK510.out 9
                  have hfz45_10 := blk_frozen BK510.out 10
                  have hfz45_11 := blk_frozen BK510.out 11
                  have hfz45_12 := blk_frozen BK510.out 12
                  go_wp2_with (first | ((with_reducible refine gate_callee (f := 27) rfl ?_); refine gm (some 74) Try.func27 #[.agg #[.int .i64 a0_0, .int .u64 a0_1, .int .u64 a0_2, .int .u64 a0_3, .int .u64 a0_4], .agg #[.int .u64 t520, .int .u64 t521, .int .u64 t522], .agg #[.int .u64 a0_5, .int .u64 a0_6, .int .u64 a0_7]] (policy_Covers.calls a0_0 a0_1 a0_2 a0_3 a0_4 t520 t521 t522 a0_5 a0_6 a0_7 true _ A36.out) ?_; intro w46 hb; have n0_ := bb BK510 hb; have n1_ := bb BK512 hb; have n2_ := bb BK525 hb; have n3_ := bs HB hb; clear BK510; clear BK512; clear BK525; clear HB; have BK510 := n0_; have BK512 := n1_; have BK525 := n2_; have HB := n3_; clear n0_ n1_ n2_ n3_; (try clear hb); (try clear hb2); (try clear hk); (try clear hi); obtain ⟨hcz47_0, hcz47_1, hcz47_2, hcz47_3, hcz47_4, hfz47_0, hfz47_1, hfz47_2, hfz47_3, hfz47_4⟩ := bc5 BK512; have hcz48_0 : w46.cell? ⟨gb510, 0, none⟩ = some (.int .i64 a0_0) := (blk_cell BK510.out 0).trans rfl; have hcz48_1 : w46.cell? ⟨gb510, 1, none⟩ = some (.int .u64 a0_1) := (blk_cell BK510.out 1).trans rfl; have hcz48_2 : w46.cell? ⟨gb510, 2, none⟩ = some (.int .u64 a0_2) := (blk_cell BK510.out 2).trans rfl; have hcz48_3 : w46.cell? ⟨gb510, 3, none⟩ = some (.int .u64 a0_3) := (blk_cell BK510.out 3).trans rfl; have hcz48_4 : w46.cell? ⟨gb510, 4, none⟩ = some (.int .u64 a0_4) := (blk_cell BK510.out 4).trans rfl; have hcz48_5 : w46.cell? ⟨gb510, 5, none⟩ = some (.int .u64 a0_5) := (blk_cell BK510.out 5).trans rfl; have hcz48_6 : w46.cell? ⟨gb510, 6, none⟩ = some (.int .u64 a0_6) := (blk_cell BK510.out 6).trans rfl; have hcz48_7 : w46.cell? ⟨gb510, 7, none⟩ = some (.int .u64 a0_7) := (blk_cell BK510.out 7).trans rfl; have hcz48_8 : w46.cell? ⟨gb510, 8, none⟩ = some (.int .u64 a0_8) := (blk_cell BK510.out 8).trans rfl; have hcz48_9 : w46.cell? ⟨gb510, 9, none⟩ = some (.int .u64 a0_9) := (blk_cell BK510.out 9).trans rfl; have hcz48_10 : w46.cell? ⟨gb510, 10, none⟩ = some (.int .u64 a0_10) := (blk_cell BK510.out 10).trans rfl; have hcz48_11 : w46.cell? ⟨gb510, 11, none⟩ = some (.int .u64 a0_11) := (blk_cell BK510.out 11).trans rfl; have hcz48_12 : w46.cell? ⟨gb510, 12, none⟩ = some (.int .u64 a0_12) := (blk_cell BK510.out 12).trans rfl; have hfz48_0 := blk_frozen BK510.out 0; have hfz48_1 := blk_frozen BK510.out 1; have hfz48_2 := blk_frozen BK510.out 2; have hfz48_3 := blk_frozen BK510.out 3; have hfz48_4 := blk_frozen BK510.out 4; have hfz48_5 := blk_frozen BK510.out 5; have hfz48_6 := blk_frozen BK510.out 6; have hfz48_7 := blk_frozen BK510.out 7; have hfz48_8 := blk_frozen BK510.out 8; have hfz48_9 := blk_frozen BK510.out 9; have hfz48_10 := blk_frozen BK510.out 10; have hfz48_11 := blk_frozen BK510.out 11; have hfz48_12 := blk_frozen BK510.out 12; obtain ⟨hcz49_0, hcz49_1, hcz49_2, hfz49_0, hfz49_1, hfz49_2⟩ := bc3 BK525) | (go_at_call 27; (with_reducible refine (policy_Covers.calls a0_0 a0_1 a0_2 a0_3 a0_4 a0_5 a0_6 a0_7 t520 t521 t522 true _ A38.out).mono ?_); rintro e w50 ⟨rfl, hb⟩; have n0_ := bb BK510 hb; have n1_ := bb BK512 hb; have n2_ := bb BK525 hb; have n3_ := bs HB hb; clear BK510; clear BK512; clear BK525; clear HB; have BK510 := n0_; have BK512 := n1_; have BK525 := n2_; have HB := n3_; clear n0_ n1_ n2_ n3_; (try clear hb); (try clear hb2); (try clear hk); (try clear hi)))
                  go_ret
                  exact ⟨re, bw HB⟩
                · replace c39 := Bool.eq_false_iff.mpr c39
                  subst c39
                  have H1 : (some (t524 == 0)) = some r := by rw [if_neg (show ¬ (false = true) by decide)] at H; exact H
                  clear H
                  have H := H1
                  clear H1
                  obtain rfl := Option.some.inj H
                  have hnb51 := NB512_510.out
                  have hnc51 := NB510_512.out
                  have hnb52 := NB512_525.out
                  have hnc52 := NB525_512.out
                  obtain ⟨hcz53_0, hcz53_1, hcz53_2, hcz53_3, hcz53_4, hfz53_0, hfz53_1, hfz53_2, hfz53_3, hfz53_4⟩ := bc5 BK512
                  have hnb54 := NB525_510.out
                  have hnc54 := NB510_525.out
                  obtain ⟨hcz55_0, hcz55_1, hcz55_2, hfz55_0, hfz55_1, hfz55_2⟩ := bc3 BK525
                  have hcz56_0 : wc.cell? ⟨gb510, 0, none⟩ = some (.int .i64 a0_0) := (blk_cell BK510.out 0).trans rfl
                  have hcz56_1 : wc.cell? ⟨gb510, 1, none⟩ = some (.int .u64 a0_1) := (blk_cell BK510.out 1).trans rfl
                  have hcz56_2 : wc.cell? ⟨gb510, 2, none⟩ = some (.int .u64 a0_2) := (blk_cell BK510.out 2).trans rfl
                  have hcz56_3 : wc.cell? ⟨gb510, 3, none⟩ = some (.int .u64 a0_3) := (blk_cell BK510.out 3).trans rfl
                  have hcz56_4 : wc.cell? ⟨gb510, 4, none⟩ = some (.int .u64 a0_4) := (blk_cell BK510.out 4).trans rfl
                  have hcz56_5 : wc.cell? ⟨gb510, 5, none⟩ = some (.int .u64 a0_5) := (blk_cell BK510.out 5).trans rfl
                  have hcz56_6 : wc.cell? ⟨gb510, 6, none⟩ = some (.int .u64 a0_6) := (blk_cell BK510.out 6).trans rfl
                  have hcz56_7 : wc.cell? ⟨gb510, 7, none⟩ = some (.int .u64 a0_7) := (blk_cell BK510.out 7).trans rfl
                  have hcz56_8 : wc.cell? ⟨gb510, 8, none⟩ = some (.int .u64 a0_8) := (blk_cell BK510.out 8).trans rfl
                  have hcz56_9 : wc.cell? ⟨gb510, 9, none⟩ = some (.int .u64 a0_9) := (blk_cell BK510.out 9).trans rfl
                  have hcz56_10 : wc.cell? ⟨gb510, 10, none⟩ = some (.int .u64 a0_10) := (blk_cell BK510.out 10).trans rfl
                  have hcz56_11 : wc.cell? ⟨gb510, 11, none⟩ = some (.int .u64 a0_11) := (blk_cell BK510.out 11).trans rfl
                  have hcz56_12 : wc.cell? ⟨gb510, 12, none⟩ = some (.int .u64 a0_12) := (blk_cell BK510.out 12).trans rfl
                  have hfz56_0 := blk_frozen BK510.out 0
                  have hfz56_1 := blk_frozen BK510.out 1
                  have hfz56_2 := blk_frozen BK510.out 2
                  have hfz56_3 := blk_frozen BK510.out 3
                  have hfz56_4 := blk_frozen BK510.out 4
                  have hfz56_5 := blk_frozen BK510.out 5
                  have hfz56_6 := blk_frozen BK510.out 6
                  have hfz56_7 := blk_frozen BK510.out 7
                  have hfz56_8 := blk_frozen BK510.out 8
                  have hfz56_9 := blk_frozen BK510.out 9
                  have hfz56_10 := blk_frozen BK510.out 10
                  have hfz56_11 := blk_frozen BK510.out 11
                  have hfz56_12 := blk_frozen BK510.out 12
                  go_wp2_with (first | ((with_reducible refine gate_callee (f := 27) rfl ?_); refine gm (some 74) Try.func27 #[.agg #[.int .i64 a0_0, .int .u64 a0_1, .int .u64 a0_2, .int .u64 a0_3, .int .u64 a0_4], .agg #[.int .u64 t520, .int .u64 t521, .int .u64 t522], .agg #[.int .u64 a0_5, .int .u64 a0_6, .int .u64 a0_7]] (policy_Covers.calls a0_0 a0_1 a0_2 a0_3 a0_4 t520 t521 t522 a0_5 a0_6 a0_7 true _ A36.out) ?_; intro w57 hb; have n0_ := bb BK510 hb; have n1_ := bb BK512 hb; have n2_ := bb BK525 hb; have n3_ := bs HB hb; clear BK510; clear BK512; clear BK525; clear HB; have BK510 := n0_; have BK512 := n1_; have BK525 := n2_; have HB := n3_; clear n0_ n1_ n2_ n3_; (try clear hb); (try clear hb2); (try clear hk); (try clear hi); obtain ⟨hcz58_0, hcz58_1, hcz58_2, hcz58_3, hcz58_4, hfz58_0, hfz58_1, hfz58_2, hfz58_3, hfz58_4⟩ := bc5 BK512; have hcz59_0 : w57.cell? ⟨gb510, 0, none⟩ = some (.int .i64 a0_0) := (blk_cell BK510.out 0).trans rfl; have hcz59_1 : w57.cell? ⟨gb510, 1, none⟩ = some (.int .u64 a0_1) := (blk_cell BK510.out 1).trans rfl; have hcz59_2 : w57.cell? ⟨gb510, 2, none⟩ = some (.int .u64 a0_2) := (blk_cell BK510.out 2).trans rfl; have hcz59_3 : w57.cell? ⟨gb510, 3, none⟩ = some (.int .u64 a0_3) := (blk_cell BK510.out 3).trans rfl; have hcz59_4 : w57.cell? ⟨gb510, 4, none⟩ = some (.int .u64 a0_4) := (blk_cell BK510.out 4).trans rfl; have hcz59_5 : w57.cell? ⟨gb510, 5, none⟩ = some (.int .u64 a0_5) := (blk_cell BK510.out 5).trans rfl; have hcz59_6 : w57.cell? ⟨gb510, 6, none⟩ = some (.int .u64 a0_6) := (blk_cell BK510.out 6).trans rfl; have hcz59_7 : w57.cell? ⟨gb510, 7, none⟩ = some (.int .u64 a0_7) := (blk_cell BK510.out 7).trans rfl; have hcz59_8 : w57.cell? ⟨gb510, 8, none⟩ = some (.int .u64 a0_8) := (blk_cell BK510.out 8).trans rfl; have hcz59_9 : w57.cell? ⟨gb510, 9, none⟩ = some (.int .u64 a0_9) := (blk_cell BK510.out 9).trans rfl; have hcz59_10 : w57.cell? ⟨gb510, 10, none⟩ = some (.int .u64 a0_10) := (blk_cell BK510.out 10).trans rfl; have hcz59_11 : w57.cell? ⟨gb510, 11, none⟩ = some (.int .u64 a0_11) := (blk_cell BK510.out 11).trans rfl; have hcz59_12 : w57.cell? ⟨gb510, 12, none⟩ = some (.int .u64 a0_12) := (blk_cell BK510.out 12).trans rfl; have hfz59_0 := blk_frozen BK510.out 0; have hfz59_1 := blk_frozen BK510.out 1; have hfz59_2 := blk_frozen BK510.out 2; have hfz59_3 := blk_frozen BK510.out 3; have hfz59_4 := blk_frozen BK510.out 4; have hfz59_5 := blk_frozen BK510.out 5; have hfz59_6 := blk_frozen BK510.out 6; have hfz59_7 := blk_frozen BK510.out 7; have hfz59_8 := blk_frozen BK510.out 8; have hfz59_9 := blk_frozen BK510.out 9; have hfz59_10 := blk_frozen BK510.out 10; have hfz59_11 := blk_frozen BK510.out 11; have hfz59_12 := blk_frozen BK510.out 12; obtain ⟨hcz60_0, hcz60_1, hcz60_2, hfz60_0, hfz60_1, hfz60_2⟩ := bc3 BK525) | (go_at_call 27; (with_reducible refine (policy_Covers.calls a0_0 a0_1 a0_2 a0_3 a0_4 a0_5 a0_6 a0_7 t520 t521 t522 false _ A38.out).mono ?_); rintro e w61 ⟨rfl, hb⟩; have n0_ := bb BK510 hb; have n1_ := bb BK512 hb; have n2_ := bb BK525 hb; have n3_ := bs HB hb; clear BK510; clear BK512; clear BK525; clear HB; have BK510 := n0_; have BK512 := n1_; have BK525 := n2_; have HB := n3_; clear n0_ n1_ n2_ n3_; (try clear hb); (try clear hb2); (try clear hk); (try clear hi)))
                  go_ret
                  exact ⟨re, bw HB⟩
              · replace c37 := Bool.eq_false_iff.mpr c37
                subst c37
                have H1 : (some false) = some r := by rw [if_neg (show ¬ (false = true) by decide)] at H; exact H
                clear H
                have H := H1
                clear H1
                obtain rfl := Option.some.inj H
                have hnb62 := NB512_510.out
                have hnc62 := NB510_512.out
                have hnb63 := NB512_525.out
                have hnc63 := NB525_512.out
                obtain ⟨hcz64_0, hcz64_1, hcz64_2, hcz64_3, hcz64_4, hfz64_0, hfz64_1, hfz64_2, hfz64_3, hfz64_4⟩ := bc5 BK512
                have hnb65 := NB525_510.out
                have hnc65 := NB510_525.out
                obtain ⟨hcz66_0, hcz66_1, hcz66_2, hfz66_0, hfz66_1, hfz66_2⟩ := bc3 BK525
                have hcz67_0 : wc.cell? ⟨gb510, 0, none⟩ = some (.int .i64 a0_0) := (blk_cell BK510.out 0).trans rfl
                have hcz67_1 : wc.cell? ⟨gb510, 1, none⟩ = some (.int .u64 a0_1) := (blk_cell BK510.out 1).trans rfl
                have hcz67_2 : wc.cell? ⟨gb510, 2, none⟩ = some (.int .u64 a0_2) := (blk_cell BK510.out 2).trans rfl
                have hcz67_3 : wc.cell? ⟨gb510, 3, none⟩ = some (.int .u64 a0_3) := (blk_cell BK510.out 3).trans rfl
                have hcz67_4 : wc.cell? ⟨gb510, 4, none⟩ = some (.int .u64 a0_4) := (blk_cell BK510.out 4).trans rfl
                have hcz67_5 : wc.cell? ⟨gb510, 5, none⟩ = some (.int .u64 a0_5) := (blk_cell BK510.out 5).trans rfl
                have hcz67_6 : wc.cell? ⟨gb510, 6, none⟩ = some (.int .u64 a0_6) := (blk_cell BK510.out 6).trans rfl
                have hcz67_7 : wc.cell? ⟨gb510, 7, none⟩ = some (.int .u64 a0_7) := (blk_cell BK510.out 7).trans rfl
                have hcz67_8 : wc.cell? ⟨gb510, 8, none⟩ = some (.int .u64 a0_8) := (blk_cell BK510.out 8).trans rfl
                have hcz67_9 : wc.cell? ⟨gb510, 9, none⟩ = some (.int .u64 a0_9) := (blk_cell BK510.out 9).trans rfl
                have hcz67_10 : wc.cell? ⟨gb510, 10, none⟩ = some (.int .u64 a0_10) := (blk_cell BK510.out 10).trans rfl
                have hcz67_11 : wc.cell? ⟨gb510, 11, none⟩ = some (.int .u64 a0_11) := (blk_cell BK510.out 11).trans rfl
                have hcz67_12 : wc.cell? ⟨gb510, 12, none⟩ = some (.int .u64 a0_12) := (blk_cell BK510.out 12).trans rfl
                have hfz67_0 := blk_frozen BK510.out 0
                have hfz67_1 := blk_frozen BK510.out 1
                have hfz67_2 := blk_frozen BK510.out 2
                have hfz67_3 := blk_frozen BK510.out 3
                have hfz67_4 := blk_frozen BK510.out 4
                have hfz67_5 := blk_frozen BK510.out 5
                have hfz67_6 := blk_frozen BK510.out 6
                have hfz67_7 := blk_frozen BK510.out 7
                have hfz67_8 := blk_frozen BK510.out 8
                have hfz67_9 := blk_frozen BK510.out 9
                have hfz67_10 := blk_frozen BK510.out 10
                have hfz67_11 := blk_frozen BK510.out 11
                have hfz67_12 := blk_frozen BK510.out 12
                go_wp2_with (first | ((with_reducible refine gate_callee (f := 27) rfl ?_); refine gm (some 74) Try.func27 #[.agg #[.int .i64 a0_0, .int .u64 a0_1, .int .u64 a0_2, .int .u64 a0_3, .int .u64 a0_4], .agg #[.int .u64 t520, .int .u64 t521, .int .u64 t522], .agg #[.int .u64 a0_5, .int .u64 a0_6, .int .u64 a0_7]] (policy_Covers.calls a0_0 a0_1 a0_2 a0_3 a0_4 t520 t521 t522 a0_5 a0_6 a0_7 false _ A36.out) ?_; intro w68 hb; have n0_ := bb BK510 hb; have n1_ := bb BK512 hb; have n2_ := bb BK525 hb; have n3_ := bs HB hb; clear BK510; clear BK512; clear BK525; clear HB; have BK510 := n0_; have BK512 := n1_; have BK525 := n2_; have HB := n3_; clear n0_ n1_ n2_ n3_; (try clear hb); (try clear hb2); (try clear hk); (try clear hi)))
                go_ret
                exact ⟨re, bw HB⟩
            · replace c35 := Bool.eq_false_iff.mpr c35
              subst c35
              have H1 : (if t524 < a0_11 then (turnstilelaw06_PolicyRises.j1 kj8 a1 t524 true a0_0 a0_1 a0_2 a0_3 a0_4 a0_5 a0_6 a0_7 a0_8 a0_9 a0_10 a0_11 a0_12 a0_0 a0_1 a0_2 a0_3 a0_4) else ((policy_Covers.f a0_0 a0_1 a0_2 a0_3 a0_4 t520 t521 t522 a0_5 a0_6 a0_7).bind fun t529 => (if t529 = true then ((policy_Covers.f a0_0 a0_1 a0_2 a0_3 a0_4 a0_5 a0_6 a0_7 t520 t521 t522).bind fun t530 => (turnstilelaw06_PolicyRises.j1 kj8 a1 t524 (!t530) a0_0 a0_1 a0_2 a0_3 a0_4 a0_5 a0_6 a0_7 a0_8 a0_9 a0_10 a0_11 a0_12 a0_0 a0_1 a0_2 a0_3 a0_4)) else (turnstilelaw06_PolicyRises.j1 kj8 a1 t524 true a0_0 a0_1 a0_2 a0_3 a0_4 a0_5 a0_6 a0_7 a0_8 a0_9 a0_10 a0_11 a0_12 a0_0 a0_1 a0_2 a0_3 a0_4)))) = some r := by rw [if_neg (show ¬ (false = true) by decide)] at H; exact H
              clear H
              have H := H1
              clear H1
              have HC69 := Aside0.mk H
              clear H
              go_upto_region 13 with (fail)
              go_cut [106] (fun v106 wc => ∃ (kq : Nat) (x106_68 : Bool), v106 = .bool x106_68 ∧ Aside0 (turnstilelaw06_PolicyRises.j1 kq a1 t524 x106_68 a0_0 a0_1 a0_2 a0_3 a0_4 a0_5 a0_6 a0_7 a0_8 a0_9 a0_10 a0_11 a0_12 a0_0 a0_1 a0_2 a0_3 a0_4 = some r) ∧ Aside0 (kq ≤ kj8) ∧ Aside0 (wc.heap[gb510]? = some (.cells #[.int .i64 a0_0, .int .u64 a0_1, .int .u64 a0_2, .int .u64 a0_3, .int .u64 a0_4, .int .u64 a0_5, .int .u64 a0_6, .int .u64 a0_7, .int .u64 a0_8, .int .u64 a0_9, .int .u64 a0_10, .int .u64 a0_11, .int .u64 a0_12] 31 (0, 0))) ∧ Aside0 (wc.heap[gb512]? = some (.cells #[.int .i64 a0_0, .int .u64 a0_1, .int .u64 a0_2, .int .u64 a0_3, .int .u64 a0_4] 27 (0, 0))) ∧ Aside0 (wc.heap[gb525]? = some (.cells #[.int .u64 t520, .int .u64 t521, .int .u64 t522] 29 (0, 0))) ∧ Aside0 (Below w.heap.size w wc))
              case first =>
                have H := HC69.out
                clear HC69
                by_cases c70 : t524 < a0_11
                · rw [if_pos c70] at H
                  have c70b0 : decide (t524 < a0_11) = true := decide_eq_true c70
                  clear c70
                  (first | rw [c70b0] | (simp only [i64_w, i32_w]; rw [c70b0]) | skip)
                  have H' := Aside0.mk H
                  clear H
                  have hnb71 := NB510_512.out
                  have hnc71 := NB512_510.out
                  have hnb72 := NB510_525.out
                  have hnc72 := NB525_510.out
                  have hcz73_0 : wc.cell? ⟨gb510, 0, none⟩ = some (.int .i64 a0_0) := (blk_cell BK510.out 0).trans rfl
                  have hcz73_1 : wc.cell? ⟨gb510, 1, none⟩ = some (.int .u64 a0_1) := (blk_cell BK510.out 1).trans rfl
                  have hcz73_2 : wc.cell? ⟨gb510, 2, none⟩ = some (.int .u64 a0_2) := (blk_cell BK510.out 2).trans rfl
                  have hcz73_3 : wc.cell? ⟨gb510, 3, none⟩ = some (.int .u64 a0_3) := (blk_cell BK510.out 3).trans rfl
                  have hcz73_4 : wc.cell? ⟨gb510, 4, none⟩ = some (.int .u64 a0_4) := (blk_cell BK510.out 4).trans rfl
                  have hcz73_5 : wc.cell? ⟨gb510, 5, none⟩ = some (.int .u64 a0_5) := (blk_cell BK510.out 5).trans rfl
                  have hcz73_6 : wc.cell? ⟨gb510, 6, none⟩ = some (.int .u64 a0_6) := (blk_cell BK510.out 6).trans rfl
                  have hcz73_7 : wc.cell? ⟨gb510, 7, none⟩ = some (.int .u64 a0_7) := (blk_cell BK510.out 7).trans rfl
                  have hcz73_8 : wc.cell? ⟨gb510, 8, none⟩ = some (.int .u64 a0_8) := (blk_cell BK510.out 8).trans rfl
                  have hcz73_9 : wc.cell? ⟨gb510, 9, none⟩ = some (.int .u64 a0_9) := (blk_cell BK510.out 9).trans rfl
                  have hcz73_10 : wc.cell? ⟨gb510, 10, none⟩ = some (.int .u64 a0_10) := (blk_cell BK510.out 10).trans rfl
                  have hcz73_11 : wc.cell? ⟨gb510, 11, none⟩ = some (.int .u64 a0_11) := (blk_cell BK510.out 11).trans rfl
                  have hcz73_12 : wc.cell? ⟨gb510, 12, none⟩ = some (.int .u64 a0_12) := (blk_cell BK510.out 12).trans rfl
                  have hfz73_0 := blk_frozen BK510.out 0
                  have hfz73_1 := blk_frozen BK510.out 1
                  have hfz73_2 := blk_frozen BK510.out 2
                  have hfz73_3 := blk_frozen BK510.out 3
                  have hfz73_4 := blk_frozen BK510.out 4
                  have hfz73_5 := blk_frozen BK510.out 5
                  have hfz73_6 := blk_frozen BK510.out 6
                  have hfz73_7 := blk_frozen BK510.out 7
                  have hfz73_8 := blk_frozen BK510.out 8
                  have hfz73_9 := blk_frozen BK510.out 9
                  have hfz73_10 := blk_frozen BK510.out 10
                  have hfz73_11 := blk_frozen BK510.out 11
                  have hfz73_12 := blk_frozen BK510.out 12
                  go_wp2
                  go_meet
                  case rel => exact ⟨_, (true), rs, H', ⟨by have := HJ8.out; first | omega | exact Nat.le_refl _⟩, ⟨bk BK510⟩, ⟨bk BK512⟩, ⟨bk BK525⟩, ⟨bw HB⟩⟩
                · rw [if_neg c70] at H
                  have c70b0 : decide (t524 < a0_11) = false := decide_eq_false c70
                  clear c70
                  (first | rw [c70b0] | (simp only [i64_w, i32_w]; rw [c70b0]) | skip)
                  replace H := Option.bind_eq_some_iff.mp H
                  obtain ⟨t529, A740, H⟩ := H
                  replace H : (if t529 = true then ((policy_Covers.f a0_0 a0_1 a0_2 a0_3 a0_4 a0_5 a0_6 a0_7 t520 t521 t522).bind fun t530 => (turnstilelaw06_PolicyRises.j1 kj8 a1 t524 (!t530) a0_0 a0_1 a0_2 a0_3 a0_4 a0_5 a0_6 a0_7 a0_8 a0_9 a0_10 a0_11 a0_12 a0_0 a0_1 a0_2 a0_3 a0_4)) else (turnstilelaw06_PolicyRises.j1 kj8 a1 t524 true a0_0 a0_1 a0_2 a0_3 a0_4 a0_5 a0_6 a0_7 a0_8 a0_9 a0_10 a0_11 a0_12 a0_0 a0_1 a0_2 a0_3 a0_4)) = some r := H
                  have A74 := Aside0.mk A740
                  clear A740
                  by_cases c75 : t529 = true
                  · subst c75
                    have H1 : ((policy_Covers.f a0_0 a0_1 a0_2 a0_3 a0_4 a0_5 a0_6 a0_7 t520 t521 t522).bind fun t530 => (turnstilelaw06_PolicyRises.j1 kj8 a1 t524 (!t530) a0_0 a0_1 a0_2 a0_3 a0_4 a0_5 a0_6 a0_7 a0_8 a0_9 a0_10 a0_11 a0_12 a0_0 a0_1 a0_2 a0_3 a0_4)) = some r := by rw [if_pos rfl] at H; exact H
                    clear H
                    have H := H1
                    clear H1
                    replace H := Option.bind_eq_some_iff.mp H
                    obtain ⟨t530, A760, H⟩ := H
                    replace H : (turnstilelaw06_PolicyRises.j1 kj8 a1 t524 (!t530) a0_0 a0_1 a0_2 a0_3 a0_4 a0_5 a0_6 a0_7 a0_8 a0_9 a0_10 a0_11 a0_12 a0_0 a0_1 a0_2 a0_3 a0_4) = some r := H
                    have A76 := Aside0.mk A760
                    clear A760
                    have H' := Aside0.mk H
                    clear H
                    have hnb77 := NB510_512.out
                    have hnc77 := NB512_510.out
                    have hnb78 := NB510_525.out
                    have hnc78 := NB525_510.out
                    have hcz79_0 : wc.cell? ⟨gb510, 0, none⟩ = some (.int .i64 a0_0) := (blk_cell BK510.out 0).trans rfl
                    have hcz79_1 : wc.cell? ⟨gb510, 1, none⟩ = some (.int .u64 a0_1) := (blk_cell BK510.out 1).trans rfl
                    have hcz79_2 : wc.cell? ⟨gb510, 2, none⟩ = some (.int .u64 a0_2) := (blk_cell BK510.out 2).trans rfl
                    have hcz79_3 : wc.cell? ⟨gb510, 3, none⟩ = some (.int .u64 a0_3) := (blk_cell BK510.out 3).trans rfl
                    have hcz79_4 : wc.cell? ⟨gb510, 4, none⟩ = some (.int .u64 a0_4) := (blk_cell BK510.out 4).trans rfl
                    have hcz79_5 : wc.cell? ⟨gb510, 5, none⟩ = some (.int .u64 a0_5) := (blk_cell BK510.out 5).trans rfl
                    have hcz79_6 : wc.cell? ⟨gb510, 6, none⟩ = some (.int .u64 a0_6) := (blk_cell BK510.out 6).trans rfl
                    have hcz79_7 : wc.cell? ⟨gb510, 7, none⟩ = some (.int .u64 a0_7) := (blk_cell BK510.out 7).trans rfl
                    have hcz79_8 : wc.cell? ⟨gb510, 8, none⟩ = some (.int .u64 a0_8) := (blk_cell BK510.out 8).trans rfl
                    have hcz79_9 : wc.cell? ⟨gb510, 9, none⟩ = some (.int .u64 a0_9) := (blk_cell BK510.out 9).trans rfl
                    have hcz79_10 : wc.cell? ⟨gb510, 10, none⟩ = some (.int .u64 a0_10) := (blk_cell BK510.out 10).trans rfl
                    have hcz79_11 : wc.cell? ⟨gb510, 11, none⟩ = some (.int .u64 a0_11) := (blk_cell BK510.out 11).trans rfl
                    have hcz79_12 : wc.cell? ⟨gb510, 12, none⟩ = some (.int .u64 a0_12) := (blk_cell BK510.out 12).trans rfl
                    have hfz79_0 := blk_frozen BK510.out 0
                    have hfz79_1 := blk_frozen BK510.out 1
                    have hfz79_2 := blk_frozen BK510.out 2
                    have hfz79_3 := blk_frozen BK510.out 3
                    have hfz79_4 := blk_frozen BK510.out 4
                    have hfz79_5 := blk_frozen BK510.out 5
                    have hfz79_6 := blk_frozen BK510.out 6
                    have hfz79_7 := blk_frozen BK510.out 7
                    have hfz79_8 := blk_frozen BK510.out 8
                    have hfz79_9 := blk_frozen BK510.out 9
                    have hfz79_10 := blk_frozen BK510.out 10
                    have hfz79_11 := blk_frozen BK510.out 11
                    have hfz79_12 := blk_frozen BK510.out 12
                    have hnb80 := NB512_525.out
                    have hnc80 := NB525_512.out
                    obtain ⟨hcz81_0, hcz81_1, hcz81_2, hcz81_3, hcz81_4, hfz81_0, hfz81_1, hfz81_2, hfz81_3, hfz81_4⟩ := bc5 BK512
                    obtain ⟨hcz82_0, hcz82_1, hcz82_2, hfz82_0, hfz82_1, hfz82_2⟩ := bc3 BK525
                    go_wp2_with (first | (go_at_call 27; (with_reducible refine (policy_Covers.calls a0_0 a0_1 a0_2 a0_3 a0_4 t520 t521 t522 a0_5 a0_6 a0_7 true _ A74.out).mono ?_); rintro e w83 ⟨rfl, hb⟩; have n0_ := bb BK510 hb; have n1_ := bb BK512 hb; have n2_ := bb BK525 hb; have n3_ := bs HB hb; clear BK510; clear BK512; clear BK525; clear HB; have BK510 := n0_; have BK512 := n1_; have BK525 := n2_; have HB := n3_; clear n0_ n1_ n2_ n3_; (try clear hb); (try clear hb2); (try clear hk); (try clear hi); obtain ⟨hcz84_0, hcz84_1, hcz84_2, hcz84_3, hcz84_4, hfz84_0, hfz84_1, hfz84_2, hfz84_3, hfz84_4⟩ := bc5 BK512; have hcz85_0 : w83.cell? ⟨gb510, 0, none⟩ = some (.int .i64 a0_0) := (blk_cell BK510.out 0).trans rfl; have hcz85_1 : w83.cell? ⟨gb510, 1, none⟩ = some (.int .u64 a0_1) := (blk_cell BK510.out 1).trans rfl; have hcz85_2 : w83.cell? ⟨gb510, 2, none⟩ = some (.int .u64 a0_2) := (blk_cell BK510.out 2).trans rfl; have hcz85_3 : w83.cell? ⟨gb510, 3, none⟩ = some (.int .u64 a0_3) := (blk_cell BK510.out 3).trans rfl; have hcz85_4 : w83.cell? ⟨gb510, 4, none⟩ = some (.int .u64 a0_4) := (blk_cell BK510.out 4).trans rfl; have hcz85_5 : w83.cell? ⟨gb510, 5, none⟩ = some (.int .u64 a0_5) := (blk_cell BK510.out 5).trans rfl; have hcz85_6 : w83.cell? ⟨gb510, 6, none⟩ = some (.int .u64 a0_6) := (blk_cell BK510.out 6).trans rfl; have hcz85_7 : w83.cell? ⟨gb510, 7, none⟩ = some (.int .u64 a0_7) := (blk_cell BK510.out 7).trans rfl; have hcz85_8 : w83.cell? ⟨gb510, 8, none⟩ = some (.int .u64 a0_8) := (blk_cell BK510.out 8).trans rfl; have hcz85_9 : w83.cell? ⟨gb510, 9, none⟩ = some (.int .u64 a0_9) := (blk_cell BK510.out 9).trans rfl; have hcz85_10 : w83.cell? ⟨gb510, 10, none⟩ = some (.int .u64 a0_10) := (blk_cell BK510.out 10).trans rfl; have hcz85_11 : w83.cell? ⟨gb510, 11, none⟩ = some (.int .u64 a0_11) := (blk_cell BK510.out 11).trans rfl; have hcz85_12 : w83.cell? ⟨gb510, 12, none⟩ = some (.int .u64 a0_12) := (blk_cell BK510.out 12).trans rfl; have hfz85_0 := blk_frozen BK510.out 0; have hfz85_1 := blk_frozen BK510.out 1; have hfz85_2 := blk_frozen BK510.out 2; have hfz85_3 := blk_frozen BK510.out 3; have hfz85_4 := blk_frozen BK510.out 4; have hfz85_5 := blk_frozen BK510.out 5; have hfz85_6 := blk_frozen BK510.out 6; have hfz85_7 := blk_frozen BK510.out 7; have hfz85_8 := blk_frozen BK510.out 8; have hfz85_9 := blk_frozen BK510.out 9; have hfz85_10 := blk_frozen BK510.out 10; have hfz85_11 := blk_frozen BK510.out 11; have hfz85_12 := blk_frozen BK510.out 12; obtain ⟨hcz86_0, hcz86_1, hcz86_2, hfz86_0, hfz86_1, hfz86_2⟩ := bc3 BK525) | (go_at_call 27; (with_reducible refine (policy_Covers.calls a0_0 a0_1 a0_2 a0_3 a0_4 a0_5 a0_6 a0_7 t520 t521 t522 t530 _ A76.out).mono ?_); rintro e w87 ⟨rfl, hb⟩; have n0_ := bb BK510 hb; have n1_ := bb BK512 hb; have n2_ := bb BK525 hb; have n3_ := bs HB hb; clear BK510; clear BK512; clear BK525; clear HB; have BK510 := n0_; have BK512 := n1_; have BK525 := n2_; have HB := n3_; clear n0_ n1_ n2_ n3_; (try clear hb); (try clear hb2); (try clear hk); (try clear hi)))
                    go_meet
                    case rel => exact ⟨_, (!t530), rs, H', ⟨by have := HJ8.out; first | omega | exact Nat.le_refl _⟩, ⟨bk BK510⟩, ⟨bk BK512⟩, ⟨bk BK525⟩, ⟨bw HB⟩⟩
                  · replace c75 := Bool.eq_false_iff.mpr c75
                    subst c75
                    have H1 : (turnstilelaw06_PolicyRises.j1 kj8 a1 t524 true a0_0 a0_1 a0_2 a0_3 a0_4 a0_5 a0_6 a0_7 a0_8 a0_9 a0_10 a0_11 a0_12 a0_0 a0_1 a0_2 a0_3 a0_4) = some r := by rw [if_neg (show ¬ (false = true) by decide)] at H; exact H
                    clear H
                    have H := H1
                    clear H1
                    have H' := Aside0.mk H
                    clear H
                    have hnb88 := NB510_512.out
                    have hnc88 := NB512_510.out
                    have hnb89 := NB510_525.out
                    have hnc89 := NB525_510.out
                    have hcz90_0 : wc.cell? ⟨gb510, 0, none⟩ = some (.int .i64 a0_0) := (blk_cell BK510.out 0).trans rfl
                    have hcz90_1 : wc.cell? ⟨gb510, 1, none⟩ = some (.int .u64 a0_1) := (blk_cell BK510.out 1).trans rfl
                    have hcz90_2 : wc.cell? ⟨gb510, 2, none⟩ = some (.int .u64 a0_2) := (blk_cell BK510.out 2).trans rfl
                    have hcz90_3 : wc.cell? ⟨gb510, 3, none⟩ = some (.int .u64 a0_3) := (blk_cell BK510.out 3).trans rfl
                    have hcz90_4 : wc.cell? ⟨gb510, 4, none⟩ = some (.int .u64 a0_4) := (blk_cell BK510.out 4).trans rfl
                    have hcz90_5 : wc.cell? ⟨gb510, 5, none⟩ = some (.int .u64 a0_5) := (blk_cell BK510.out 5).trans rfl
                    have hcz90_6 : wc.cell? ⟨gb510, 6, none⟩ = some (.int .u64 a0_6) := (blk_cell BK510.out 6).trans rfl
                    have hcz90_7 : wc.cell? ⟨gb510, 7, none⟩ = some (.int .u64 a0_7) := (blk_cell BK510.out 7).trans rfl
                    have hcz90_8 : wc.cell? ⟨gb510, 8, none⟩ = some (.int .u64 a0_8) := (blk_cell BK510.out 8).trans rfl
                    have hcz90_9 : wc.cell? ⟨gb510, 9, none⟩ = some (.int .u64 a0_9) := (blk_cell BK510.out 9).trans rfl
                    have hcz90_10 : wc.cell? ⟨gb510, 10, none⟩ = some (.int .u64 a0_10) := (blk_cell BK510.out 10).trans rfl
                    have hcz90_11 : wc.cell? ⟨gb510, 11, none⟩ = some (.int .u64 a0_11) := (blk_cell BK510.out 11).trans rfl
                    have hcz90_12 : wc.cell? ⟨gb510, 12, none⟩ = some (.int .u64 a0_12) := (blk_cell BK510.out 12).trans rfl
                    have hfz90_0 := blk_frozen BK510.out 0
                    have hfz90_1 := blk_frozen BK510.out 1
                    have hfz90_2 := blk_frozen BK510.out 2
                    have hfz90_3 := blk_frozen BK510.out 3
                    have hfz90_4 := blk_frozen BK510.out 4
                    have hfz90_5 := blk_frozen BK510.out 5
                    have hfz90_6 := blk_frozen BK510.out 6
                    have hfz90_7 := blk_frozen BK510.out 7
                    have hfz90_8 := blk_frozen BK510.out 8
                    have hfz90_9 := blk_frozen BK510.out 9
                    have hfz90_10 := blk_frozen BK510.out 10
                    have hfz90_11 := blk_frozen BK510.out 11
                    have hfz90_12 := blk_frozen BK510.out 12
                    have hnb91 := NB512_525.out
                    have hnc91 := NB525_512.out
                    obtain ⟨hcz92_0, hcz92_1, hcz92_2, hcz92_3, hcz92_4, hfz92_0, hfz92_1, hfz92_2, hfz92_3, hfz92_4⟩ := bc5 BK512
                    obtain ⟨hcz93_0, hcz93_1, hcz93_2, hfz93_0, hfz93_1, hfz93_2⟩ := bc3 BK525
                    go_wp2_with (first | (go_at_call 27; (with_reducible refine (policy_Covers.calls a0_0 a0_1 a0_2 a0_3 a0_4 t520 t521 t522 a0_5 a0_6 a0_7 false _ A74.out).mono ?_); rintro e w94 ⟨rfl, hb⟩; have n0_ := bb BK510 hb; have n1_ := bb BK512 hb; have n2_ := bb BK525 hb; have n3_ := bs HB hb; clear BK510; clear BK512; clear BK525; clear HB; have BK510 := n0_; have BK512 := n1_; have BK525 := n2_; have HB := n3_; clear n0_ n1_ n2_ n3_; (try clear hb); (try clear hb2); (try clear hk); (try clear hi)))
                    go_meet
                    case rel => exact ⟨_, (true), rs, H', ⟨by have := HJ8.out; first | omega | exact Nat.le_refl _⟩, ⟨bk BK510⟩, ⟨bk BK512⟩, ⟨bk BK525⟩, ⟨bw HB⟩⟩
              case rest =>
                clear HC69
                try clear c1
                try clear c2
                try clear p2
                try clear c3
                try clear c4
                try clear c5
                try clear c6
                try clear c7
                try clear c8
                try clear c9
                try clear c14
                try clear c16
                try clear c17
                try clear c18
                try clear c21
                try clear c22
                try clear c27
                try clear c27b0
                try clear c28
                try clear c29
                try clear c31
                try clear c32
                try clear c34
                try clear c35
                try clear c37
                try clear c39
                try clear c40
                try clear c41
                try clear c43
                try clear c51
                try clear c52
                try clear c54
                try clear c62
                try clear c63
                try clear c65
                try clear c70
                try clear c70b0
                try clear c71
                try clear c72
                try clear c75
                try clear c77
                try clear c78
                try clear c80
                try clear c88
                try clear c89
                try clear c91
                try clear hcz12_0
                try clear hcz12_1
                try clear hcz12_10
                try clear hcz12_11
                try clear hcz12_12
                try clear hcz12_2
                try clear hcz12_3
                try clear hcz12_4
                try clear hcz12_5
                try clear hcz12_6
                try clear hcz12_7
                try clear hcz12_8
                try clear hcz12_9
                try clear hcz15_0
                try clear hcz15_1
                try clear hcz15_2
                try clear hcz15_3
                try clear hcz15_4
                try clear hcz17_0
                try clear hcz17_1
                try clear hcz17_2
                try clear hcz17_3
                try clear hcz17_4
                try clear hcz18_0
                try clear hcz18_1
                try clear hcz18_10
                try clear hcz18_11
                try clear hcz18_12
                try clear hcz18_2
                try clear hcz18_3
                try clear hcz18_4
                try clear hcz18_5
                try clear hcz18_6
                try clear hcz18_7
                try clear hcz18_8
                try clear hcz18_9
                try clear hcz23_0
                try clear hcz23_1
                try clear hcz23_2
                try clear hcz24_0
                try clear hcz24_1
                try clear hcz24_2
                try clear hcz24_3
                try clear hcz24_4
                try clear hcz25_0
                try clear hcz25_1
                try clear hcz25_10
                try clear hcz25_11
                try clear hcz25_12
                try clear hcz25_2
                try clear hcz25_3
                try clear hcz25_4
                try clear hcz25_5
                try clear hcz25_6
                try clear hcz25_7
                try clear hcz25_8
                try clear hcz25_9
                try clear hcz30_0
                try clear hcz30_1
                try clear hcz30_10
                try clear hcz30_11
                try clear hcz30_12
                try clear hcz30_2
                try clear hcz30_3
                try clear hcz30_4
                try clear hcz30_5
                try clear hcz30_6
                try clear hcz30_7
                try clear hcz30_8
                try clear hcz30_9
                try clear hcz33_0
                try clear hcz33_1
                try clear hcz33_10
                try clear hcz33_11
                try clear hcz33_12
                try clear hcz33_2
                try clear hcz33_3
                try clear hcz33_4
                try clear hcz33_5
                try clear hcz33_6
                try clear hcz33_7
                try clear hcz33_8
                try clear hcz33_9
                try clear hcz42_0
                try clear hcz42_1
                try clear hcz42_2
                try clear hcz42_3
                try clear hcz42_4
                try clear hcz44_0
                try clear hcz44_1
                try clear hcz44_2
                try clear hcz45_0
                try clear hcz45_1
                try clear hcz45_10
                try clear hcz45_11
                try clear hcz45_12
                try clear hcz45_2
                try clear hcz45_3
                try clear hcz45_4
                try clear hcz45_5
                try clear hcz45_6
                try clear hcz45_7
                try clear hcz45_8
                try clear hcz45_9
                try clear hcz47_0
                try clear hcz47_1
                try clear hcz47_2
                try clear hcz47_3
                try clear hcz47_4
                try clear hcz48_0
                try clear hcz48_1
                try clear hcz48_10
                try clear hcz48_11
                try clear hcz48_12
                try clear hcz48_2
                try clear hcz48_3
                try clear hcz48_4
                try clear hcz48_5
                try clear hcz48_6
                try clear hcz48_7
                try clear hcz48_8
                try clear hcz48_9
                try clear hcz49_0
                try clear hcz49_1
                try clear hcz49_2
                try clear hcz53_0
                try clear hcz53_1
                try clear hcz53_2
                try clear hcz53_3
                try clear hcz53_4
                try clear hcz55_0
                try clear hcz55_1
                try clear hcz55_2
                try clear hcz56_0
                try clear hcz56_1
                try clear hcz56_10
                try clear hcz56_11
                try clear hcz56_12
                try clear hcz56_2
                try clear hcz56_3
                try clear hcz56_4
                try clear hcz56_5
                try clear hcz56_6
                try clear hcz56_7
                try clear hcz56_8
                try clear hcz56_9
                try clear hcz58_0
                try clear hcz58_1
                try clear hcz58_2
                try clear hcz58_3
                try clear hcz58_4
                try clear hcz59_0
                try clear hcz59_1
                try clear hcz59_10
                try clear hcz59_11
                try clear hcz59_12
                try clear hcz59_2
                try clear hcz59_3
                try clear hcz59_4
                try clear hcz59_5
                try clear hcz59_6
                try clear hcz59_7
                try clear hcz59_8
                try clear hcz59_9
                try clear hcz60_0
                try clear hcz60_1
                try clear hcz60_2
                try clear hcz64_0
                try clear hcz64_1
                try clear hcz64_2
                try clear hcz64_3
                try clear hcz64_4
                try clear hcz66_0
                try clear hcz66_1
                try clear hcz66_2
                try clear hcz67_0
                try clear hcz67_1
                try clear hcz67_10
                try clear hcz67_11
                try clear hcz67_12
                try clear hcz67_2
                try clear hcz67_3
                try clear hcz67_4
                try clear hcz67_5
                try clear hcz67_6
                try clear hcz67_7
                try clear hcz67_8
                try clear hcz67_9
                try clear hcz73_0
                try clear hcz73_1
                try clear hcz73_10
                try clear hcz73_11
                try clear hcz73_12
                try clear hcz73_2
                try clear hcz73_3
                try clear hcz73_4
                try clear hcz73_5
                try clear hcz73_6
                try clear hcz73_7
                try clear hcz73_8
                try clear hcz73_9
                try clear hcz79_0
                try clear hcz79_1
                try clear hcz79_10
                try clear hcz79_11
                try clear hcz79_12
                try clear hcz79_2
                try clear hcz79_3
                try clear hcz79_4
                try clear hcz79_5
                try clear hcz79_6
                try clear hcz79_7
                try clear hcz79_8
                try clear hcz79_9
                try clear hcz81_0
                try clear hcz81_1
                try clear hcz81_2
                try clear hcz81_3
                try clear hcz81_4
                try clear hcz82_0
                try clear hcz82_1
                try clear hcz82_2
                try clear hcz84_0
                try clear hcz84_1
                try clear hcz84_2
                try clear hcz84_3
                try clear hcz84_4
                try clear hcz85_0
                try clear hcz85_1
                try clear hcz85_10
                try clear hcz85_11
                try clear hcz85_12
                try clear hcz85_2
                try clear hcz85_3
                try clear hcz85_4
                try clear hcz85_5
                try clear hcz85_6
                try clear hcz85_7
                try clear hcz85_8
                try clear hcz85_9
                try clear hcz86_0
                try clear hcz86_1
                try clear hcz86_2
                try clear hcz90_0
                try clear hcz90_1
                try clear hcz90_10
                try clear hcz90_11
                try clear hcz90_12
                try clear hcz90_2
                try clear hcz90_3
                try clear hcz90_4
                try clear hcz90_5
                try clear hcz90_6
                try clear hcz90_7
                try clear hcz90_8
                try clear hcz90_9
                try clear hcz92_0
                try clear hcz92_1
                try clear hcz92_2
                try clear hcz92_3
                try clear hcz92_4
                try clear hcz93_0
                try clear hcz93_1
                try clear hcz93_2
                try clear hfz12_0
                try clear hfz12_1
                try clear hfz12_10
                try clear hfz12_11
                try clear hfz12_12
                try clear hfz12_2
                try clear hfz12_3
                try clear hfz12_4
                try clear hfz12_5
                try clear hfz12_6
                try clear hfz12_7
                try clear hfz12_8
                try clear hfz12_9
                try clear hfz15_0
                try clear hfz15_1
                try clear hfz15_2
                try clear hfz15_3
                try clear hfz15_4
                try clear hfz17_0
                try clear hfz17_1
                try clear hfz17_2
                try clear hfz17_3
                try clear hfz17_4
                try clear hfz18_0
                try clear hfz18_1
                try clear hfz18_10
                try clear hfz18_11
                try clear hfz18_12
                try clear hfz18_2
                try clear hfz18_3
                try clear hfz18_4
                try clear hfz18_5
                try clear hfz18_6
                try clear hfz18_7
                try clear hfz18_8
                try clear hfz18_9
                try clear hfz23_0
                try clear hfz23_1
                try clear hfz23_2
                try clear hfz24_0
                try clear hfz24_1
                try clear hfz24_2
                try clear hfz24_3
                try clear hfz24_4
                try clear hfz25_0
                try clear hfz25_1
                try clear hfz25_10
                try clear hfz25_11
                try clear hfz25_12
                try clear hfz25_2
                try clear hfz25_3
                try clear hfz25_4
                try clear hfz25_5
                try clear hfz25_6
                try clear hfz25_7
                try clear hfz25_8
                try clear hfz25_9
                try clear hfz30_0
                try clear hfz30_1
                try clear hfz30_10
                try clear hfz30_11
                try clear hfz30_12
                try clear hfz30_2
                try clear hfz30_3
                try clear hfz30_4
                try clear hfz30_5
                try clear hfz30_6
                try clear hfz30_7
                try clear hfz30_8
                try clear hfz30_9
                try clear hfz33_0
                try clear hfz33_1
                try clear hfz33_10
                try clear hfz33_11
                try clear hfz33_12
                try clear hfz33_2
                try clear hfz33_3
                try clear hfz33_4
                try clear hfz33_5
                try clear hfz33_6
                try clear hfz33_7
                try clear hfz33_8
                try clear hfz33_9
                try clear hfz42_0
                try clear hfz42_1
                try clear hfz42_2
                try clear hfz42_3
                try clear hfz42_4
                try clear hfz44_0
                try clear hfz44_1
                try clear hfz44_2
                try clear hfz45_0
                try clear hfz45_1
                try clear hfz45_10
                try clear hfz45_11
                try clear hfz45_12
                try clear hfz45_2
                try clear hfz45_3
                try clear hfz45_4
                try clear hfz45_5
                try clear hfz45_6
                try clear hfz45_7
                try clear hfz45_8
                try clear hfz45_9
                try clear hfz47_0
                try clear hfz47_1
                try clear hfz47_2
                try clear hfz47_3
                try clear hfz47_4
                try clear hfz48_0
                try clear hfz48_1
                try clear hfz48_10
                try clear hfz48_11
                try clear hfz48_12
                try clear hfz48_2
                try clear hfz48_3
                try clear hfz48_4
                try clear hfz48_5
                try clear hfz48_6
                try clear hfz48_7
                try clear hfz48_8
                try clear hfz48_9
                try clear hfz49_0
                try clear hfz49_1
                try clear hfz49_2
                try clear hfz53_0
                try clear hfz53_1
                try clear hfz53_2
                try clear hfz53_3
                try clear hfz53_4
                try clear hfz55_0
                try clear hfz55_1
                try clear hfz55_2
                try clear hfz56_0
                try clear hfz56_1
                try clear hfz56_10
                try clear hfz56_11
                try clear hfz56_12
                try clear hfz56_2
                try clear hfz56_3
                try clear hfz56_4
                try clear hfz56_5
                try clear hfz56_6
                try clear hfz56_7
                try clear hfz56_8
                try clear hfz56_9
                try clear hfz58_0
                try clear hfz58_1
                try clear hfz58_2
                try clear hfz58_3
                try clear hfz58_4
                try clear hfz59_0
                try clear hfz59_1
                try clear hfz59_10
                try clear hfz59_11
                try clear hfz59_12
                try clear hfz59_2
                try clear hfz59_3
                try clear hfz59_4
                try clear hfz59_5
                try clear hfz59_6
                try clear hfz59_7
                try clear hfz59_8
                try clear hfz59_9
                try clear hfz60_0
                try clear hfz60_1
                try clear hfz60_2
                try clear hfz64_0
                try clear hfz64_1
                try clear hfz64_2
                try clear hfz64_3
                try clear hfz64_4
                try clear hfz66_0
                try clear hfz66_1
                try clear hfz66_2
                try clear hfz67_0
                try clear hfz67_1
                try clear hfz67_10
                try clear hfz67_11
                try clear hfz67_12
                try clear hfz67_2
                try clear hfz67_3
                try clear hfz67_4
                try clear hfz67_5
                try clear hfz67_6
                try clear hfz67_7
                try clear hfz67_8
                try clear hfz67_9
                try clear hfz73_0
                try clear hfz73_1
                try clear hfz73_10
                try clear hfz73_11
                try clear hfz73_12
                try clear hfz73_2
                try clear hfz73_3
                try clear hfz73_4
                try clear hfz73_5
                try clear hfz73_6
                try clear hfz73_7
                try clear hfz73_8
                try clear hfz73_9
                try clear hfz79_0
                try clear hfz79_1
                try clear hfz79_10
                try clear hfz79_11
                try clear hfz79_12
                try clear hfz79_2
                try clear hfz79_3
                try clear hfz79_4
                try clear hfz79_5
                try clear hfz79_6
                try clear hfz79_7
                try clear hfz79_8
                try clear hfz79_9
                try clear hfz81_0
                try clear hfz81_1
                try clear hfz81_2
                try clear hfz81_3
                try clear hfz81_4
                try clear hfz82_0
                try clear hfz82_1
                try clear hfz82_2
                try clear hfz84_0
                try clear hfz84_1
                try clear hfz84_2
                try clear hfz84_3
                try clear hfz84_4
                try clear hfz85_0
                try clear hfz85_1
                try clear hfz85_10
                try clear hfz85_11
                try clear hfz85_12
                try clear hfz85_2
                try clear hfz85_3
                try clear hfz85_4
                try clear hfz85_5
                try clear hfz85_6
                try clear hfz85_7
                try clear hfz85_8
                try clear hfz85_9
                try clear hfz86_0
                try clear hfz86_1
                try clear hfz86_2
                try clear hfz90_0
                try clear hfz90_1
                try clear hfz90_10
                try clear hfz90_11
                try clear hfz90_12
                try clear hfz90_2
                try clear hfz90_3
                try clear hfz90_4
                try clear hfz90_5
                try clear hfz90_6
                try clear hfz90_7
                try clear hfz90_8
                try clear hfz90_9
                try clear hfz92_0
                try clear hfz92_1
                try clear hfz92_2
                try clear hfz92_3
                try clear hfz92_4
                try clear hfz93_0
                try clear hfz93_1
                try clear hfz93_2
                try clear p2
                obtain ⟨kq, x106_68, rfl, HA, HJ68, BK510, BK512, BK525, HB⟩ := hcut
                cases kq with
                | zero => exact absurd HA.out (by simp [turnstilelaw06_PolicyRises.j1])
                | succ kj68 =>
                  have H := HA.out
                  clear HA
                  simp only [turnstilelaw06_PolicyRises.j1] at H
                  by_cases c95 : x106_68 = true
                  · subst c95
                    have H1 : (some false) = some r := by rw [if_pos rfl] at H; exact H
                    clear H
                    have H := H1
                    clear H1
                    obtain rfl := Option.some.inj H
                    go_wp2
                    go_ret
                    exact ⟨re, bw HB⟩
                  · replace c95 := Bool.eq_false_iff.mpr c95
                    subst c95
                    have H1 : ((policy_Admit.f kj68 a0_0 a0_1 a0_2 a0_3 a0_4 a0_5 a0_6 a0_7 t524 a0_12).bind fun bt531 => (if bt531.2.2.2.1 = true then ((policy_Admit.f kj68 a0_0 a0_1 a0_2 a0_3 a0_4 a0_5 a0_6 a0_7 a1 a0_12).bind fun bt537 => (if bt537.2.2.2.1 = true then (if a1 < a0_11 then (some true) else (some (decide (a1 ≥ t524)))) else (some true))) else (if t524 = 18446744073709551615 then ((policy_Admit.f kj68 a0_0 a0_1 a0_2 a0_3 a0_4 a0_5 a0_6 a0_7 a1 a0_12).bind fun bt543 => (if bt543.2.2.2.1 = true then (if a1 < a0_11 then (some true) else (some (decide (a1 ≥ t524)))) else (some true))) else (some false)))) = some r := by rw [if_neg (show ¬ (false = true) by decide)] at H; exact H
                    clear H
                    have H := H1
                    clear H1
                    replace H := Option.bind_eq_some_iff.mp H
                    obtain ⟨⟨t531, t532, t533, t534, t535⟩, A960, H⟩ := H
                    replace H : (if t534 = true then ((policy_Admit.f kj68 a0_0 a0_1 a0_2 a0_3 a0_4 a0_5 a0_6 a0_7 a1 a0_12).bind fun bt537 => (if bt537.2.2.2.1 = true then (if a1 < a0_11 then (some true) else (some (decide (a1 ≥ t524)))) else (some true))) else (if t524 = 18446744073709551615 then ((policy_Admit.f kj68 a0_0 a0_1 a0_2 a0_3 a0_4 a0_5 a0_6 a0_7 a1 a0_12).bind fun bt543 => (if bt543.2.2.2.1 = true then (if a1 < a0_11 then (some true) else (some (decide (a1 ≥ t524)))) else (some true))) else (some false))) = some r := H
                    have A96 := Aside0.mk A960
                    clear A960
                    by_cases c97 : t534 = true
                    · subst c97
                      have H1 : ((policy_Admit.f kj68 a0_0 a0_1 a0_2 a0_3 a0_4 a0_5 a0_6 a0_7 a1 a0_12).bind fun bt537 => (if bt537.2.2.2.1 = true then (if a1 < a0_11 then (some true) else (some (decide (a1 ≥ t524)))) else (some true))) = some r := by rw [if_pos rfl] at H; exact H
                      clear H
                      have H := H1
                      clear H1
                      replace H := Option.bind_eq_some_iff.mp H
                      obtain ⟨⟨t537, t538, t539, t540, t541⟩, A980, H⟩ := H
                      replace H : (if t540 = true then (if a1 < a0_11 then (some true) else (some (decide (a1 ≥ t524)))) else (some true)) = some r := H
                      have A98 := Aside0.mk A980
                      clear A980
                      by_cases c99 : t540 = true
                      · subst c99
                        have H1 : (if a1 < a0_11 then (some true) else (some (decide (a1 ≥ t524)))) = some r := by rw [if_pos rfl] at H; exact H
                        clear H
                        have H := H1
                        clear H1
                        by_cases c100 : a1 < a0_11
                        · rw [if_pos c100] at H
                          have c100b0 : decide (a1 < a0_11) = true := decide_eq_true c100
                          clear c100
                          obtain rfl := Option.some.inj H
                          have hnb101 := NB512_510.out
                          have hnc101 := NB510_512.out
                          have hnb102 := NB512_525.out
                          have hnc102 := NB525_512.out
                          obtain ⟨hcz103_0, hcz103_1, hcz103_2, hcz103_3, hcz103_4, hfz103_0, hfz103_1, hfz103_2, hfz103_3, hfz103_4⟩ := bc5 BK512
                          have hnb104 := NB510_525.out
                          have hnc104 := NB525_510.out
                          have hcz105_0 : wc.cell? ⟨gb510, 0, none⟩ = some (.int .i64 a0_0) := (blk_cell BK510.out 0).trans rfl
                          have hcz105_1 : wc.cell? ⟨gb510, 1, none⟩ = some (.int .u64 a0_1) := (blk_cell BK510.out 1).trans rfl
                          have hcz105_2 : wc.cell? ⟨gb510, 2, none⟩ = some (.int .u64 a0_2) := (blk_cell BK510.out 2).trans rfl
                          have hcz105_3 : wc.cell? ⟨gb510, 3, none⟩ = some (.int .u64 a0_3) := (blk_cell BK510.out 3).trans rfl
                          have hcz105_4 : wc.cell? ⟨gb510, 4, none⟩ = some (.int .u64 a0_4) := (blk_cell BK510.out 4).trans rfl
                          have hcz105_5 : wc.cell? ⟨gb510, 5, none⟩ = some (.int .u64 a0_5) := (blk_cell BK510.out 5).trans rfl
                          have hcz105_6 : wc.cell? ⟨gb510, 6, none⟩ = some (.int .u64 a0_6) := (blk_cell BK510.out 6).trans rfl
                          have hcz105_7 : wc.cell? ⟨gb510, 7, none⟩ = some (.int .u64 a0_7) := (blk_cell BK510.out 7).trans rfl
                          have hcz105_8 : wc.cell? ⟨gb510, 8, none⟩ = some (.int .u64 a0_8) := (blk_cell BK510.out 8).trans rfl
                          have hcz105_9 : wc.cell? ⟨gb510, 9, none⟩ = some (.int .u64 a0_9) := (blk_cell BK510.out 9).trans rfl
                          have hcz105_10 : wc.cell? ⟨gb510, 10, none⟩ = some (.int .u64 a0_10) := (blk_cell BK510.out 10).trans rfl
                          have hcz105_11 : wc.cell? ⟨gb510, 11, none⟩ = some (.int .u64 a0_11) := (blk_cell BK510.out 11).trans rfl
                          have hcz105_12 : wc.cell? ⟨gb510, 12, none⟩ = some (.int .u64 a0_12) := (blk_cell BK510.out 12).trans rfl
                          have hfz105_0 := blk_frozen BK510.out 0
                          have hfz105_1 := blk_frozen BK510.out 1
                          have hfz105_2 := blk_frozen BK510.out 2
                          have hfz105_3 := blk_frozen BK510.out 3
                          have hfz105_4 := blk_frozen BK510.out 4
                          have hfz105_5 := blk_frozen BK510.out 5
                          have hfz105_6 := blk_frozen BK510.out 6
                          have hfz105_7 := blk_frozen BK510.out 7
                          have hfz105_8 := blk_frozen BK510.out 8
                          have hfz105_9 := blk_frozen BK510.out 9
                          have hfz105_10 := blk_frozen BK510.out 10
                          have hfz105_11 := blk_frozen BK510.out 11
                          have hfz105_12 := blk_frozen BK510.out 12
                          go_wp2_with (first | ((with_reducible refine gate_callee (f := 16) rfl ?_); refine gm (some 114) Try.func16 #[.agg #[.int .i64 a0_0, .int .u64 a0_1, .int .u64 a0_2, .int .u64 a0_3, .int .u64 a0_4], .agg #[.int .u64 a0_5, .int .u64 a0_6, .int .u64 a0_7], .int .u64 t524, .int .u64 a0_12] (policy_Admit.calls kj68 a0_0 a0_1 a0_2 a0_3 a0_4 a0_5 a0_6 a0_7 t524 a0_12 t531 t532 t533 true t535 _ A96.out) ?_; intro w106 hb; have n0_ := bb BK510 hb; have n1_ := bb BK512 hb; have n2_ := bb BK525 hb; have n3_ := bs HB hb; clear BK510; clear BK512; clear BK525; clear HB; have BK510 := n0_; have BK512 := n1_; have BK525 := n2_; have HB := n3_; clear n0_ n1_ n2_ n3_; (try clear hb); (try clear hb2); (try clear hk); (try clear hi)) | ((with_reducible refine gate_dst (N := 13) rfl ?_); refine bx 13 #[.int .u64 0, .int .u64 0, .int .u64 0] 29 ?_; intro gb536 hg w107 hbox hb; have n0_ := bb BK510 hb; have n1_ := bb BK512 hb; have n2_ := bb BK525 hb; have n3_ := bs HB hb; have n4_ := Aside0.mk (hbox); have n5_ := sz HB hg; have n6_ := sz HB hg; have n7_ := nl BK510 hg; have n8_ := nr BK510 hg; have n9_ := nl BK512 hg; have n10_ := nr BK512 hg; have n11_ := nl BK525 hg; have n12_ := nr BK525 hg; clear BK510; clear BK512; clear BK525; clear HB; have BK510 := n0_; have BK512 := n1_; have BK525 := n2_; have HB := n3_; have BK536 := n4_; have GW536 := n5_; have GE536 := n6_; have NB510_536 := n7_; have NB536_510 := n8_; have NB512_536 := n9_; have NB536_512 := n10_; have NB525_536 := n11_; have NB536_525 := n12_; clear n0_ n1_ n2_ n3_ n4_ n5_ n6_ n7_ n8_ n9_ n10_ n11_ n12_; clear hb hbox hg; have hnb108 := NB536_510.out; have hnc108 := NB510_536.out; have hnb109 := NB536_512.out; have hnc109 := NB512_536.out; have hnb110 := NB536_525.out; have hnc110 := NB525_536.out; obtain ⟨hcz111_0, hcz111_1, hcz111_2, hfz111_0, hfz111_1, hfz111_2⟩ := bc3 BK536; obtain ⟨hcz112_0, hcz112_1, hcz112_2, hcz112_3, hcz112_4, hfz112_0, hfz112_1, hfz112_2, hfz112_3, hfz112_4⟩ := bc5 BK512; have hcz113_0 : w107.cell? ⟨gb510, 0, none⟩ = some (.int .i64 a0_0) := (blk_cell BK510.out 0).trans rfl; have hcz113_1 : w107.cell? ⟨gb510, 1, none⟩ = some (.int .u64 a0_1) := (blk_cell BK510.out 1).trans rfl; have hcz113_2 : w107.cell? ⟨gb510, 2, none⟩ = some (.int .u64 a0_2) := (blk_cell BK510.out 2).trans rfl; have hcz113_3 : w107.cell? ⟨gb510, 3, none⟩ = some (.int .u64 a0_3) := (blk_cell BK510.out 3).trans rfl; have hcz113_4 : w107.cell? ⟨gb510, 4, none⟩ = some (.int .u64 a0_4) := (blk_cell BK510.out 4).trans rfl; have hcz113_5 : w107.cell? ⟨gb510, 5, none⟩ = some (.int .u64 a0_5) := (blk_cell BK510.out 5).trans rfl; have hcz113_6 : w107.cell? ⟨gb510, 6, none⟩ = some (.int .u64 a0_6) := (blk_cell BK510.out 6).trans rfl; have hcz113_7 : w107.cell? ⟨gb510, 7, none⟩ = some (.int .u64 a0_7) := (blk_cell BK510.out 7).trans rfl; have hcz113_8 : w107.cell? ⟨gb510, 8, none⟩ = some (.int .u64 a0_8) := (blk_cell BK510.out 8).trans rfl; have hcz113_9 : w107.cell? ⟨gb510, 9, none⟩ = some (.int .u64 a0_9) := (blk_cell BK510.out 9).trans rfl; have hcz113_10 : w107.cell? ⟨gb510, 10, none⟩ = some (.int .u64 a0_10) := (blk_cell BK510.out 10).trans rfl; have hcz113_11 : w107.cell? ⟨gb510, 11, none⟩ = some (.int .u64 a0_11) := (blk_cell BK510.out 11).trans rfl; have hcz113_12 : w107.cell? ⟨gb510, 12, none⟩ = some (.int .u64 a0_12) := (blk_cell BK510.out 12).trans rfl; have hfz113_0 := blk_frozen BK510.out 0; have hfz113_1 := blk_frozen BK510.out 1; have hfz113_2 := blk_frozen BK510.out 2; have hfz113_3 := blk_frozen BK510.out 3; have hfz113_4 := blk_frozen BK510.out 4; have hfz113_5 := blk_frozen BK510.out 5; have hfz113_6 := blk_frozen BK510.out 6; have hfz113_7 := blk_frozen BK510.out 7; have hfz113_8 := blk_frozen BK510.out 8; have hfz113_9 := blk_frozen BK510.out 9; have hfz113_10 := blk_frozen BK510.out 10; have hfz113_11 := blk_frozen BK510.out 11; have hfz113_12 := blk_frozen BK510.out 12) | ((with_reducible refine gate_callee (f := 16) rfl ?_); refine gm (some 131) Try.func16 #[.agg #[.int .i64 a0_0, .int .u64 a0_1, .int .u64 a0_2, .int .u64 a0_3, .int .u64 a0_4], .agg #[.int .u64 a0_5, .int .u64 a0_6, .int .u64 a0_7], .int .u64 a1, .int .u64 a0_12] (policy_Admit.calls kj68 a0_0 a0_1 a0_2 a0_3 a0_4 a0_5 a0_6 a0_7 a1 a0_12 t537 t538 t539 true t541 _ A98.out) ?_; intro w114 hb; have n0_ := bb BK510 hb; have n1_ := bb BK512 hb; have n2_ := bb BK525 hb; have n3_ := bbp (.cells #[.int .u64 t531, .int .u64 t532, .int .u64 t533] 29 (0, 0)) BK536 hb; have n4_ := bs HB hb; clear BK510; clear BK512; clear BK525; clear BK536; clear HB; have BK510 := n0_; have BK512 := n1_; have BK525 := n2_; have BK536 := n3_; have HB := n4_; clear n0_ n1_ n2_ n3_ n4_; (try clear hb); (try clear hb2); (try clear hk); (try clear hi)) | ((with_reducible refine gate_dst (N := 16) rfl ?_); refine bx 16 #[.int .u64 0, .int .u64 0, .int .u64 0] 29 ?_; intro gb542 hg w115 hbox hb; have n0_ := bb BK510 hb; have n1_ := bb BK512 hb; have n2_ := bb BK525 hb; have n3_ := bb BK536 hb; have n4_ := bs HB hb; have n5_ := Aside0.mk (hbox); have n6_ := sz HB hg; have n7_ := sz HB hg; have n8_ := nl BK510 hg; have n9_ := nr BK510 hg; have n10_ := nl BK512 hg; have n11_ := nr BK512 hg; have n12_ := nl BK525 hg; have n13_ := nr BK525 hg; have n14_ := nl BK536 hg; have n15_ := nr BK536 hg; clear BK510; clear BK512; clear BK525; clear BK536; clear HB; have BK510 := n0_; have BK512 := n1_; have BK525 := n2_; have BK536 := n3_; have HB := n4_; have BK542 := n5_; have GW542 := n6_; have GE542 := n7_; have NB510_542 := n8_; have NB542_510 := n9_; have NB512_542 := n10_; have NB542_512 := n11_; have NB525_542 := n12_; have NB542_525 := n13_; have NB536_542 := n14_; have NB542_536 := n15_; clear n0_ n1_ n2_ n3_ n4_ n5_ n6_ n7_ n8_ n9_ n10_ n11_ n12_ n13_ n14_ n15_; clear hb hbox hg; have hnb116 := NB542_510.out; have hnc116 := NB510_542.out; have hnb117 := NB542_512.out; have hnc117 := NB512_542.out; have hnb118 := NB542_525.out; have hnc118 := NB525_542.out; have hnb119 := NB542_536.out; have hnc119 := NB536_542.out; obtain ⟨hcz120_0, hcz120_1, hcz120_2, hfz120_0, hfz120_1, hfz120_2⟩ := bc3 BK542; have hcz121_0 : w115.cell? ⟨gb510, 0, none⟩ = some (.int .i64 a0_0) := (blk_cell BK510.out 0).trans rfl; have hcz121_1 : w115.cell? ⟨gb510, 1, none⟩ = some (.int .u64 a0_1) := (blk_cell BK510.out 1).trans rfl; have hcz121_2 : w115.cell? ⟨gb510, 2, none⟩ = some (.int .u64 a0_2) := (blk_cell BK510.out 2).trans rfl; have hcz121_3 : w115.cell? ⟨gb510, 3, none⟩ = some (.int .u64 a0_3) := (blk_cell BK510.out 3).trans rfl; have hcz121_4 : w115.cell? ⟨gb510, 4, none⟩ = some (.int .u64 a0_4) := (blk_cell BK510.out 4).trans rfl; have hcz121_5 : w115.cell? ⟨gb510, 5, none⟩ = some (.int .u64 a0_5) := (blk_cell BK510.out 5).trans rfl; have hcz121_6 : w115.cell? ⟨gb510, 6, none⟩ = some (.int .u64 a0_6) := (blk_cell BK510.out 6).trans rfl; have hcz121_7 : w115.cell? ⟨gb510, 7, none⟩ = some (.int .u64 a0_7) := (blk_cell BK510.out 7).trans rfl; have hcz121_8 : w115.cell? ⟨gb510, 8, none⟩ = some (.int .u64 a0_8) := (blk_cell BK510.out 8).trans rfl; have hcz121_9 : w115.cell? ⟨gb510, 9, none⟩ = some (.int .u64 a0_9) := (blk_cell BK510.out 9).trans rfl; have hcz121_10 : w115.cell? ⟨gb510, 10, none⟩ = some (.int .u64 a0_10) := (blk_cell BK510.out 10).trans rfl; have hcz121_11 : w115.cell? ⟨gb510, 11, none⟩ = some (.int .u64 a0_11) := (blk_cell BK510.out 11).trans rfl; have hcz121_12 : w115.cell? ⟨gb510, 12, none⟩ = some (.int .u64 a0_12) := (blk_cell BK510.out 12).trans rfl; have hfz121_0 := blk_frozen BK510.out 0; have hfz121_1 := blk_frozen BK510.out 1; have hfz121_2 := blk_frozen BK510.out 2; have hfz121_3 := blk_frozen BK510.out 3; have hfz121_4 := blk_frozen BK510.out 4; have hfz121_5 := blk_frozen BK510.out 5; have hfz121_6 := blk_frozen BK510.out 6; have hfz121_7 := blk_frozen BK510.out 7; have hfz121_8 := blk_frozen BK510.out 8; have hfz121_9 := blk_frozen BK510.out 9; have hfz121_10 := blk_frozen BK510.out 10; have hfz121_11 := blk_frozen BK510.out 11; have hfz121_12 := blk_frozen BK510.out 12))
                          go_ret
                          exact ⟨re, bw HB⟩
                        · rw [if_neg c100] at H
                          have c100b0 : decide (a1 < a0_11) = false := decide_eq_false c100
                          clear c100
                          obtain rfl := Option.some.inj H
                          have hnb122 := NB512_510.out
                          have hnc122 := NB510_512.out
                          have hnb123 := NB512_525.out
                          have hnc123 := NB525_512.out
                          obtain ⟨hcz124_0, hcz124_1, hcz124_2, hcz124_3, hcz124_4, hfz124_0, hfz124_1, hfz124_2, hfz124_3, hfz124_4⟩ := bc5 BK512
                          have hnb125 := NB510_525.out
                          have hnc125 := NB525_510.out
                          have hcz126_0 : wc.cell? ⟨gb510, 0, none⟩ = some (.int .i64 a0_0) := (blk_cell BK510.out 0).trans rfl
                          have hcz126_1 : wc.cell? ⟨gb510, 1, none⟩ = some (.int .u64 a0_1) := (blk_cell BK510.out 1).trans rfl
                          have hcz126_2 : wc.cell? ⟨gb510, 2, none⟩ = some (.int .u64 a0_2) := (blk_cell BK510.out 2).trans rfl
                          have hcz126_3 : wc.cell? ⟨gb510, 3, none⟩ = some (.int .u64 a0_3) := (blk_cell BK510.out 3).trans rfl
                          have hcz126_4 : wc.cell? ⟨gb510, 4, none⟩ = some (.int .u64 a0_4) := (blk_cell BK510.out 4).trans rfl
                          have hcz126_5 : wc.cell? ⟨gb510, 5, none⟩ = some (.int .u64 a0_5) := (blk_cell BK510.out 5).trans rfl
                          have hcz126_6 : wc.cell? ⟨gb510, 6, none⟩ = some (.int .u64 a0_6) := (blk_cell BK510.out 6).trans rfl
                          have hcz126_7 : wc.cell? ⟨gb510, 7, none⟩ = some (.int .u64 a0_7) := (blk_cell BK510.out 7).trans rfl
                          have hcz126_8 : wc.cell? ⟨gb510, 8, none⟩ = some (.int .u64 a0_8) := (blk_cell BK510.out 8).trans rfl
                          have hcz126_9 : wc.cell? ⟨gb510, 9, none⟩ = some (.int .u64 a0_9) := (blk_cell BK510.out 9).trans rfl
                          have hcz126_10 : wc.cell? ⟨gb510, 10, none⟩ = some (.int .u64 a0_10) := (blk_cell BK510.out 10).trans rfl
                          have hcz126_11 : wc.cell? ⟨gb510, 11, none⟩ = some (.int .u64 a0_11) := (blk_cell BK510.out 11).trans rfl
                          have hcz126_12 : wc.cell? ⟨gb510, 12, none⟩ = some (.int .u64 a0_12) := (blk_cell BK510.out 12).trans rfl
                          have hfz126_0 := blk_frozen BK510.out 0
                          have hfz126_1 := blk_frozen BK510.out 1
                          have hfz126_2 := blk_frozen BK510.out 2
                          have hfz126_3 := blk_frozen BK510.out 3
                          have hfz126_4 := blk_frozen BK510.out 4
                          have hfz126_5 := blk_frozen BK510.out 5
                          have hfz126_6 := blk_frozen BK510.out 6
                          have hfz126_7 := blk_frozen BK510.out 7
                          have hfz126_8 := blk_frozen BK510.out 8
                          have hfz126_9 := blk_frozen BK510.out 9
                          have hfz126_10 := blk_frozen BK510.out 10
                          have hfz126_11 := blk_frozen BK510.out 11
                          have hfz126_12 := blk_frozen BK510.out 12
                          go_wp2_with (first | ((with_reducible refine gate_callee (f := 16) rfl ?_); refine gm (some 114) Try.func16 #[.agg #[.int .i64 a0_0, .int .u64 a0_1, .int .u64 a0_2, .int .u64 a0_3, .int .u64 a0_4], .agg #[.int .u64 a0_5, .int .u64 a0_6, .int .u64 a0_7], .int .u64 t524, .int .u64 a0_12] (policy_Admit.calls kj68 a0_0 a0_1 a0_2 a0_3 a0_4 a0_5 a0_6 a0_7 t524 a0_12 t531 t532 t533 true t535 _ A96.out) ?_; intro w127 hb; have n0_ := bb BK510 hb; have n1_ := bb BK512 hb; have n2_ := bb BK525 hb; have n3_ := bs HB hb; clear BK510; clear BK512; clear BK525; clear HB; have BK510 := n0_; have BK512 := n1_; have BK525 := n2_; have HB := n3_; clear n0_ n1_ n2_ n3_; (try clear hb); (try clear hb2); (try clear hk); (try clear hi)) | ((with_reducible refine gate_dst (N := 13) rfl ?_); refine bx 13 #[.int .u64 0, .int .u64 0, .int .u64 0] 29 ?_; intro gb536 hg w128 hbox hb; have n0_ := bb BK510 hb; have n1_ := bb BK512 hb; have n2_ := bb BK525 hb; have n3_ := bs HB hb; have n4_ := Aside0.mk (hbox); have n5_ := sz HB hg; have n6_ := sz HB hg; have n7_ := nl BK510 hg; have n8_ := nr BK510 hg; have n9_ := nl BK512 hg; have n10_ := nr BK512 hg; have n11_ := nl BK525 hg; have n12_ := nr BK525 hg; clear BK510; clear BK512; clear BK525; clear HB; have BK510 := n0_; have BK512 := n1_; have BK525 := n2_; have HB := n3_; have BK536 := n4_; have GW536 := n5_; have GE536 := n6_; have NB510_536 := n7_; have NB536_510 := n8_; have NB512_536 := n9_; have NB536_512 := n10_; have NB525_536 := n11_; have NB536_525 := n12_; clear n0_ n1_ n2_ n3_ n4_ n5_ n6_ n7_ n8_ n9_ n10_ n11_ n12_; clear hb hbox hg; have hnb129 := NB536_510.out; have hnc129 := NB510_536.out; have hnb130 := NB536_512.out; have hnc130 := NB512_536.out; have hnb131 := NB536_525.out; have hnc131 := NB525_536.out; obtain ⟨hcz132_0, hcz132_1, hcz132_2, hfz132_0, hfz132_1, hfz132_2⟩ := bc3 BK536; obtain ⟨hcz133_0, hcz133_1, hcz133_2, hcz133_3, hcz133_4, hfz133_0, hfz133_1, hfz133_2, hfz133_3, hfz133_4⟩ := bc5 BK512; have hcz134_0 : w128.cell? ⟨gb510, 0, none⟩ = some (.int .i64 a0_0) := (blk_cell BK510.out 0).trans rfl; have hcz134_1 : w128.cell? ⟨gb510, 1, none⟩ = some (.int .u64 a0_1) := (blk_cell BK510.out 1).trans rfl; have hcz134_2 : w128.cell? ⟨gb510, 2, none⟩ = some (.int .u64 a0_2) := (blk_cell BK510.out 2).trans rfl; have hcz134_3 : w128.cell? ⟨gb510, 3, none⟩ = some (.int .u64 a0_3) := (blk_cell BK510.out 3).trans rfl; have hcz134_4 : w128.cell? ⟨gb510, 4, none⟩ = some (.int .u64 a0_4) := (blk_cell BK510.out 4).trans rfl; have hcz134_5 : w128.cell? ⟨gb510, 5, none⟩ = some (.int .u64 a0_5) := (blk_cell BK510.out 5).trans rfl; have hcz134_6 : w128.cell? ⟨gb510, 6, none⟩ = some (.int .u64 a0_6) := (blk_cell BK510.out 6).trans rfl; have hcz134_7 : w128.cell? ⟨gb510, 7, none⟩ = some (.int .u64 a0_7) := (blk_cell BK510.out 7).trans rfl; have hcz134_8 : w128.cell? ⟨gb510, 8, none⟩ = some (.int .u64 a0_8) := (blk_cell BK510.out 8).trans rfl; have hcz134_9 : w128.cell? ⟨gb510, 9, none⟩ = some (.int .u64 a0_9) := (blk_cell BK510.out 9).trans rfl; have hcz134_10 : w128.cell? ⟨gb510, 10, none⟩ = some (.int .u64 a0_10) := (blk_cell BK510.out 10).trans rfl; have hcz134_11 : w128.cell? ⟨gb510, 11, none⟩ = some (.int .u64 a0_11) := (blk_cell BK510.out 11).trans rfl; have hcz134_12 : w128.cell? ⟨gb510, 12, none⟩ = some (.int .u64 a0_12) := (blk_cell BK510.out 12).trans rfl; have hfz134_0 := blk_frozen BK510.out 0; have hfz134_1 := blk_frozen BK510.out 1; have hfz134_2 := blk_frozen BK510.out 2; have hfz134_3 := blk_frozen BK510.out 3; have hfz134_4 := blk_frozen BK510.out 4; have hfz134_5 := blk_frozen BK510.out 5; have hfz134_6 := blk_frozen BK510.out 6; have hfz134_7 := blk_frozen BK510.out 7; have hfz134_8 := blk_frozen BK510.out 8; have hfz134_9 := blk_frozen BK510.out 9; have hfz134_10 := blk_frozen BK510.out 10; have hfz134_11 := blk_frozen BK510.out 11; have hfz134_12 := blk_frozen BK510.out 12) | ((with_reducible refine gate_callee (f := 16) rfl ?_); refine gm (some 131) Try.func16 #[.agg #[.int .i64 a0_0, .int .u64 a0_1, .int .u64 a0_2, .int .u64 a0_3, .int .u64 a0_4], .agg #[.int .u64 a0_5, .int .u64 a0_6, .int .u64 a0_7], .int .u64 a1, .int .u64 a0_12] (policy_Admit.calls kj68 a0_0 a0_1 a0_2 a0_3 a0_4 a0_5 a0_6 a0_7 a1 a0_12 t537 t538 t539 true t541 _ A98.out) ?_; intro w135 hb; have n0_ := bb BK510 hb; have n1_ := bb BK512 hb; have n2_ := bb BK525 hb; have n3_ := bbp (.cells #[.int .u64 t531, .int .u64 t532, .int .u64 t533] 29 (0, 0)) BK536 hb; have n4_ := bs HB hb; clear BK510; clear BK512; clear BK525; clear BK536; clear HB; have BK510 := n0_; have BK512 := n1_; have BK525 := n2_; have BK536 := n3_; have HB := n4_; clear n0_ n1_ n2_ n3_ n4_; (try clear hb); (try clear hb2); (try clear hk); (try clear hi)) | ((with_reducible refine gate_dst (N := 16) rfl ?_); refine bx 16 #[.int .u64 0, .int .u64 0, .int .u64 0] 29 ?_; intro gb542 hg w136 hbox hb; have n0_ := bb BK510 hb; have n1_ := bb BK512 hb; have n2_ := bb BK525 hb; have n3_ := bb BK536 hb; have n4_ := bs HB hb; have n5_ := Aside0.mk (hbox); have n6_ := sz HB hg; have n7_ := sz HB hg; have n8_ := nl BK510 hg; have n9_ := nr BK510 hg; have n10_ := nl BK512 hg; have n11_ := nr BK512 hg; have n12_ := nl BK525 hg; have n13_ := nr BK525 hg; have n14_ := nl BK536 hg; have n15_ := nr BK536 hg; clear BK510; clear BK512; clear BK525; clear BK536; clear HB; have BK510 := n0_; have BK512 := n1_; have BK525 := n2_; have BK536 := n3_; have HB := n4_; have BK542 := n5_; have GW542 := n6_; have GE542 := n7_; have NB510_542 := n8_; have NB542_510 := n9_; have NB512_542 := n10_; have NB542_512 := n11_; have NB525_542 := n12_; have NB542_525 := n13_; have NB536_542 := n14_; have NB542_536 := n15_; clear n0_ n1_ n2_ n3_ n4_ n5_ n6_ n7_ n8_ n9_ n10_ n11_ n12_ n13_ n14_ n15_; clear hb hbox hg; have hnb137 := NB542_510.out; have hnc137 := NB510_542.out; have hnb138 := NB542_512.out; have hnc138 := NB512_542.out; have hnb139 := NB542_525.out; have hnc139 := NB525_542.out; have hnb140 := NB542_536.out; have hnc140 := NB536_542.out; obtain ⟨hcz141_0, hcz141_1, hcz141_2, hfz141_0, hfz141_1, hfz141_2⟩ := bc3 BK542; have hcz142_0 : w136.cell? ⟨gb510, 0, none⟩ = some (.int .i64 a0_0) := (blk_cell BK510.out 0).trans rfl; have hcz142_1 : w136.cell? ⟨gb510, 1, none⟩ = some (.int .u64 a0_1) := (blk_cell BK510.out 1).trans rfl; have hcz142_2 : w136.cell? ⟨gb510, 2, none⟩ = some (.int .u64 a0_2) := (blk_cell BK510.out 2).trans rfl; have hcz142_3 : w136.cell? ⟨gb510, 3, none⟩ = some (.int .u64 a0_3) := (blk_cell BK510.out 3).trans rfl; have hcz142_4 : w136.cell? ⟨gb510, 4, none⟩ = some (.int .u64 a0_4) := (blk_cell BK510.out 4).trans rfl; have hcz142_5 : w136.cell? ⟨gb510, 5, none⟩ = some (.int .u64 a0_5) := (blk_cell BK510.out 5).trans rfl; have hcz142_6 : w136.cell? ⟨gb510, 6, none⟩ = some (.int .u64 a0_6) := (blk_cell BK510.out 6).trans rfl; have hcz142_7 : w136.cell? ⟨gb510, 7, none⟩ = some (.int .u64 a0_7) := (blk_cell BK510.out 7).trans rfl; have hcz142_8 : w136.cell? ⟨gb510, 8, none⟩ = some (.int .u64 a0_8) := (blk_cell BK510.out 8).trans rfl; have hcz142_9 : w136.cell? ⟨gb510, 9, none⟩ = some (.int .u64 a0_9) := (blk_cell BK510.out 9).trans rfl; have hcz142_10 : w136.cell? ⟨gb510, 10, none⟩ = some (.int .u64 a0_10) := (blk_cell BK510.out 10).trans rfl; have hcz142_11 : w136.cell? ⟨gb510, 11, none⟩ = some (.int .u64 a0_11) := (blk_cell BK510.out 11).trans rfl; have hcz142_12 : w136.cell? ⟨gb510, 12, none⟩ = some (.int .u64 a0_12) := (blk_cell BK510.out 12).trans rfl; have hfz142_0 := blk_frozen BK510.out 0; have hfz142_1 := blk_frozen BK510.out 1; have hfz142_2 := blk_frozen BK510.out 2; have hfz142_3 := blk_frozen BK510.out 3; have hfz142_4 := blk_frozen BK510.out 4; have hfz142_5 := blk_frozen BK510.out 5; have hfz142_6 := blk_frozen BK510.out 6; have hfz142_7 := blk_frozen BK510.out 7; have hfz142_8 := blk_frozen BK510.out 8; have hfz142_9 := blk_frozen BK510.out 9; have hfz142_10 := blk_frozen BK510.out 10; have hfz142_11 := blk_frozen BK510.out 11; have hfz142_12 := blk_frozen BK510.out 12))
                          go_ret
                          exact ⟨re, bw HB⟩
                      · replace c99 := Bool.eq_false_iff.mpr c99
                        subst c99
                        have H1 : (some true) = some r := by rw [if_neg (show ¬ (false = true) by decide)] at H; exact H
                        clear H
                        have H := H1
                        clear H1
                        obtain rfl := Option.some.inj H
                        have hnb143 := NB512_510.out
                        have hnc143 := NB510_512.out
                        have hnb144 := NB512_525.out
                        have hnc144 := NB525_512.out
                        obtain ⟨hcz145_0, hcz145_1, hcz145_2, hcz145_3, hcz145_4, hfz145_0, hfz145_1, hfz145_2, hfz145_3, hfz145_4⟩ := bc5 BK512
                        have hnb146 := NB510_525.out
                        have hnc146 := NB525_510.out
                        have hcz147_0 : wc.cell? ⟨gb510, 0, none⟩ = some (.int .i64 a0_0) := (blk_cell BK510.out 0).trans rfl
                        have hcz147_1 : wc.cell? ⟨gb510, 1, none⟩ = some (.int .u64 a0_1) := (blk_cell BK510.out 1).trans rfl
                        have hcz147_2 : wc.cell? ⟨gb510, 2, none⟩ = some (.int .u64 a0_2) := (blk_cell BK510.out 2).trans rfl
                        have hcz147_3 : wc.cell? ⟨gb510, 3, none⟩ = some (.int .u64 a0_3) := (blk_cell BK510.out 3).trans rfl
                        have hcz147_4 : wc.cell? ⟨gb510, 4, none⟩ = some (.int .u64 a0_4) := (blk_cell BK510.out 4).trans rfl
                        have hcz147_5 : wc.cell? ⟨gb510, 5, none⟩ = some (.int .u64 a0_5) := (blk_cell BK510.out 5).trans rfl
                        have hcz147_6 : wc.cell? ⟨gb510, 6, none⟩ = some (.int .u64 a0_6) := (blk_cell BK510.out 6).trans rfl
                        have hcz147_7 : wc.cell? ⟨gb510, 7, none⟩ = some (.int .u64 a0_7) := (blk_cell BK510.out 7).trans rfl
                        have hcz147_8 : wc.cell? ⟨gb510, 8, none⟩ = some (.int .u64 a0_8) := (blk_cell BK510.out 8).trans rfl
                        have hcz147_9 : wc.cell? ⟨gb510, 9, none⟩ = some (.int .u64 a0_9) := (blk_cell BK510.out 9).trans rfl
                        have hcz147_10 : wc.cell? ⟨gb510, 10, none⟩ = some (.int .u64 a0_10) := (blk_cell BK510.out 10).trans rfl
                        have hcz147_11 : wc.cell? ⟨gb510, 11, none⟩ = some (.int .u64 a0_11) := (blk_cell BK510.out 11).trans rfl
                        have hcz147_12 : wc.cell? ⟨gb510, 12, none⟩ = some (.int .u64 a0_12) := (blk_cell BK510.out 12).trans rfl
                        have hfz147_0 := blk_frozen BK510.out 0
                        have hfz147_1 := blk_frozen BK510.out 1
                        have hfz147_2 := blk_frozen BK510.out 2
                        have hfz147_3 := blk_frozen BK510.out 3
                        have hfz147_4 := blk_frozen BK510.out 4
                        have hfz147_5 := blk_frozen BK510.out 5
                        have hfz147_6 := blk_frozen BK510.out 6
                        have hfz147_7 := blk_frozen BK510.out 7
                        have hfz147_8 := blk_frozen BK510.out 8
                        have hfz147_9 := blk_frozen BK510.out 9
                        have hfz147_10 := blk_frozen BK510.out 10
                        have hfz147_11 := blk_frozen BK510.out 11
                        have hfz147_12 := blk_frozen BK510.out 12
                        go_wp2_with (first | ((with_reducible refine gate_callee (f := 16) rfl ?_); refine gm (some 114) Try.func16 #[.agg #[.int .i64 a0_0, .int .u64 a0_1, .int .u64 a0_2, .int .u64 a0_3, .int .u64 a0_4], .agg #[.int .u64 a0_5, .int .u64 a0_6, .int .u64 a0_7], .int .u64 t524, .int .u64 a0_12] (policy_Admit.calls kj68 a0_0 a0_1 a0_2 a0_3 a0_4 a0_5 a0_6 a0_7 t524 a0_12 t531 t532 t533 true t535 _ A96.out) ?_; intro w148 hb; have n0_ := bb BK510 hb; have n1_ := bb BK512 hb; have n2_ := bb BK525 hb; have n3_ := bs HB hb; clear BK510; clear BK512; clear BK525; clear HB; have BK510 := n0_; have BK512 := n1_; have BK525 := n2_; have HB := n3_; clear n0_ n1_ n2_ n3_; (try clear hb); (try clear hb2); (try clear hk); (try clear hi)) | ((with_reducible refine gate_dst (N := 13) rfl ?_); refine bx 13 #[.int .u64 0, .int .u64 0, .int .u64 0] 29 ?_; intro gb536 hg w149 hbox hb; have n0_ := bb BK510 hb; have n1_ := bb BK512 hb; have n2_ := bb BK525 hb; have n3_ := bs HB hb; have n4_ := Aside0.mk (hbox); have n5_ := sz HB hg; have n6_ := sz HB hg; have n7_ := nl BK510 hg; have n8_ := nr BK510 hg; have n9_ := nl BK512 hg; have n10_ := nr BK512 hg; have n11_ := nl BK525 hg; have n12_ := nr BK525 hg; clear BK510; clear BK512; clear BK525; clear HB; have BK510 := n0_; have BK512 := n1_; have BK525 := n2_; have HB := n3_; have BK536 := n4_; have GW536 := n5_; have GE536 := n6_; have NB510_536 := n7_; have NB536_510 := n8_; have NB512_536 := n9_; have NB536_512 := n10_; have NB525_536 := n11_; have NB536_525 := n12_; clear n0_ n1_ n2_ n3_ n4_ n5_ n6_ n7_ n8_ n9_ n10_ n11_ n12_; clear hb hbox hg; have hnb150 := NB536_510.out; have hnc150 := NB510_536.out; have hnb151 := NB536_512.out; have hnc151 := NB512_536.out; have hnb152 := NB536_525.out; have hnc152 := NB525_536.out; obtain ⟨hcz153_0, hcz153_1, hcz153_2, hfz153_0, hfz153_1, hfz153_2⟩ := bc3 BK536; obtain ⟨hcz154_0, hcz154_1, hcz154_2, hcz154_3, hcz154_4, hfz154_0, hfz154_1, hfz154_2, hfz154_3, hfz154_4⟩ := bc5 BK512; have hcz155_0 : w149.cell? ⟨gb510, 0, none⟩ = some (.int .i64 a0_0) := (blk_cell BK510.out 0).trans rfl; have hcz155_1 : w149.cell? ⟨gb510, 1, none⟩ = some (.int .u64 a0_1) := (blk_cell BK510.out 1).trans rfl; have hcz155_2 : w149.cell? ⟨gb510, 2, none⟩ = some (.int .u64 a0_2) := (blk_cell BK510.out 2).trans rfl; have hcz155_3 : w149.cell? ⟨gb510, 3, none⟩ = some (.int .u64 a0_3) := (blk_cell BK510.out 3).trans rfl; have hcz155_4 : w149.cell? ⟨gb510, 4, none⟩ = some (.int .u64 a0_4) := (blk_cell BK510.out 4).trans rfl; have hcz155_5 : w149.cell? ⟨gb510, 5, none⟩ = some (.int .u64 a0_5) := (blk_cell BK510.out 5).trans rfl; have hcz155_6 : w149.cell? ⟨gb510, 6, none⟩ = some (.int .u64 a0_6) := (blk_cell BK510.out 6).trans rfl; have hcz155_7 : w149.cell? ⟨gb510, 7, none⟩ = some (.int .u64 a0_7) := (blk_cell BK510.out 7).trans rfl; have hcz155_8 : w149.cell? ⟨gb510, 8, none⟩ = some (.int .u64 a0_8) := (blk_cell BK510.out 8).trans rfl; have hcz155_9 : w149.cell? ⟨gb510, 9, none⟩ = some (.int .u64 a0_9) := (blk_cell BK510.out 9).trans rfl; have hcz155_10 : w149.cell? ⟨gb510, 10, none⟩ = some (.int .u64 a0_10) := (blk_cell BK510.out 10).trans rfl; have hcz155_11 : w149.cell? ⟨gb510, 11, none⟩ = some (.int .u64 a0_11) := (blk_cell BK510.out 11).trans rfl; have hcz155_12 : w149.cell? ⟨gb510, 12, none⟩ = some (.int .u64 a0_12) := (blk_cell BK510.out 12).trans rfl; have hfz155_0 := blk_frozen BK510.out 0; have hfz155_1 := blk_frozen BK510.out 1; have hfz155_2 := blk_frozen BK510.out 2; have hfz155_3 := blk_frozen BK510.out 3; have hfz155_4 := blk_frozen BK510.out 4; have hfz155_5 := blk_frozen BK510.out 5; have hfz155_6 := blk_frozen BK510.out 6; have hfz155_7 := blk_frozen BK510.out 7; have hfz155_8 := blk_frozen BK510.out 8; have hfz155_9 := blk_frozen BK510.out 9; have hfz155_10 := blk_frozen BK510.out 10; have hfz155_11 := blk_frozen BK510.out 11; have hfz155_12 := blk_frozen BK510.out 12) | ((with_reducible refine gate_callee (f := 16) rfl ?_); refine gm (some 131) Try.func16 #[.agg #[.int .i64 a0_0, .int .u64 a0_1, .int .u64 a0_2, .int .u64 a0_3, .int .u64 a0_4], .agg #[.int .u64 a0_5, .int .u64 a0_6, .int .u64 a0_7], .int .u64 a1, .int .u64 a0_12] (policy_Admit.calls kj68 a0_0 a0_1 a0_2 a0_3 a0_4 a0_5 a0_6 a0_7 a1 a0_12 t537 t538 t539 false t541 _ A98.out) ?_; intro w156 hb; have n0_ := bb BK510 hb; have n1_ := bb BK512 hb; have n2_ := bb BK525 hb; have n3_ := bbp (.cells #[.int .u64 t531, .int .u64 t532, .int .u64 t533] 29 (0, 0)) BK536 hb; have n4_ := bs HB hb; clear BK510; clear BK512; clear BK525; clear BK536; clear HB; have BK510 := n0_; have BK512 := n1_; have BK525 := n2_; have BK536 := n3_; have HB := n4_; clear n0_ n1_ n2_ n3_ n4_; (try clear hb); (try clear hb2); (try clear hk); (try clear hi)) | ((with_reducible refine gate_dst (N := 16) rfl ?_); refine bx 16 #[.int .u64 0, .int .u64 0, .int .u64 0] 29 ?_; intro gb542 hg w157 hbox hb; have n0_ := bb BK510 hb; have n1_ := bb BK512 hb; have n2_ := bb BK525 hb; have n3_ := bb BK536 hb; have n4_ := bs HB hb; have n5_ := Aside0.mk (hbox); have n6_ := sz HB hg; have n7_ := sz HB hg; have n8_ := nl BK510 hg; have n9_ := nr BK510 hg; have n10_ := nl BK512 hg; have n11_ := nr BK512 hg; have n12_ := nl BK525 hg; have n13_ := nr BK525 hg; have n14_ := nl BK536 hg; have n15_ := nr BK536 hg; clear BK510; clear BK512; clear BK525; clear BK536; clear HB; have BK510 := n0_; have BK512 := n1_; have BK525 := n2_; have BK536 := n3_; have HB := n4_; have BK542 := n5_; have GW542 := n6_; have GE542 := n7_; have NB510_542 := n8_; have NB542_510 := n9_; have NB512_542 := n10_; have NB542_512 := n11_; have NB525_542 := n12_; have NB542_525 := n13_; have NB536_542 := n14_; have NB542_536 := n15_; clear n0_ n1_ n2_ n3_ n4_ n5_ n6_ n7_ n8_ n9_ n10_ n11_ n12_ n13_ n14_ n15_; clear hb hbox hg; have hnb158 := NB542_510.out; have hnc158 := NB510_542.out; have hnb159 := NB542_512.out; have hnc159 := NB512_542.out; have hnb160 := NB542_525.out; have hnc160 := NB525_542.out; have hnb161 := NB542_536.out; have hnc161 := NB536_542.out; obtain ⟨hcz162_0, hcz162_1, hcz162_2, hfz162_0, hfz162_1, hfz162_2⟩ := bc3 BK542))
                        go_ret
                        exact ⟨re, bw HB⟩
                    · replace c97 := Bool.eq_false_iff.mpr c97
                      subst c97
                      have H1 : (if t524 = 18446744073709551615 then ((policy_Admit.f kj68 a0_0 a0_1 a0_2 a0_3 a0_4 a0_5 a0_6 a0_7 a1 a0_12).bind fun bt543 => (if bt543.2.2.2.1 = true then (if a1 < a0_11 then (some true) else (some (decide (a1 ≥ t524)))) else (some true))) else (some false)) = some r := by rw [if_neg (show ¬ (false = true) by decide)] at H; exact H
                      clear H
                      have H := H1
                      clear H1
                      by_cases c163 : t524 = 18446744073709551615
                      · rw [if_pos c163] at H
                        have c163b0 : (t524 == 18446744073709551615) = true := beq_iff_eq.mpr c163
                        have c163b1 : (t524 != 18446744073709551615) = false := bne_eq_false_iff_eq.mpr c163
                        clear c163
                        replace H := Option.bind_eq_some_iff.mp H
                        obtain ⟨⟨t543, t544, t545, t546, t547⟩, A1640, H⟩ := H
                        replace H : (if t546 = true then (if a1 < a0_11 then (some true) else (some (decide (a1 ≥ t524)))) else (some true)) = some r := H
                        have A164 := Aside0.mk A1640
                        clear A1640
                        by_cases c165 : t546 = true
                        · subst c165
                          have H1 : (if a1 < a0_11 then (some true) else (some (decide (a1 ≥ t524)))) = some r := by rw [if_pos rfl] at H; exact H
                          clear H
                          have H := H1
                          clear H1
                          by_cases c166 : a1 < a0_11
                          · rw [if_pos c166] at H
                            have c166b0 : decide (a1 < a0_11) = true := decide_eq_true c166
                            clear c166
                            obtain rfl := Option.some.inj H
                            have hnb167 := NB512_510.out
                            have hnc167 := NB510_512.out
                            have hnb168 := NB512_525.out
                            have hnc168 := NB525_512.out
                            obtain ⟨hcz169_0, hcz169_1, hcz169_2, hcz169_3, hcz169_4, hfz169_0, hfz169_1, hfz169_2, hfz169_3, hfz169_4⟩ := bc5 BK512
                            have hnb170 := NB510_525.out
                            have hnc170 := NB525_510.out
                            have hcz171_0 : wc.cell? ⟨gb510, 0, none⟩ = some (.int .i64 a0_0) := (blk_cell BK510.out 0).trans rfl
                            have hcz171_1 : wc.cell? ⟨gb510, 1, none⟩ = some (.int .u64 a0_1) := (blk_cell BK510.out 1).trans rfl
                            have hcz171_2 : wc.cell? ⟨gb510, 2, none⟩ = some (.int .u64 a0_2) := (blk_cell BK510.out 2).trans rfl
                            have hcz171_3 : wc.cell? ⟨gb510, 3, none⟩ = some (.int .u64 a0_3) := (blk_cell BK510.out 3).trans rfl
                            have hcz171_4 : wc.cell? ⟨gb510, 4, none⟩ = some (.int .u64 a0_4) := (blk_cell BK510.out 4).trans rfl
                            have hcz171_5 : wc.cell? ⟨gb510, 5, none⟩ = some (.int .u64 a0_5) := (blk_cell BK510.out 5).trans rfl
                            have hcz171_6 : wc.cell? ⟨gb510, 6, none⟩ = some (.int .u64 a0_6) := (blk_cell BK510.out 6).trans rfl
                            have hcz171_7 : wc.cell? ⟨gb510, 7, none⟩ = some (.int .u64 a0_7) := (blk_cell BK510.out 7).trans rfl
                            have hcz171_8 : wc.cell? ⟨gb510, 8, none⟩ = some (.int .u64 a0_8) := (blk_cell BK510.out 8).trans rfl
                            have hcz171_9 : wc.cell? ⟨gb510, 9, none⟩ = some (.int .u64 a0_9) := (blk_cell BK510.out 9).trans rfl
                            have hcz171_10 : wc.cell? ⟨gb510, 10, none⟩ = some (.int .u64 a0_10) := (blk_cell BK510.out 10).trans rfl
                            have hcz171_11 : wc.cell? ⟨gb510, 11, none⟩ = some (.int .u64 a0_11) := (blk_cell BK510.out 11).trans rfl
                            have hcz171_12 : wc.cell? ⟨gb510, 12, none⟩ = some (.int .u64 a0_12) := (blk_cell BK510.out 12).trans rfl
                            have hfz171_0 := blk_frozen BK510.out 0
                            have hfz171_1 := blk_frozen BK510.out 1
                            have hfz171_2 := blk_frozen BK510.out 2
                            have hfz171_3 := blk_frozen BK510.out 3
                            have hfz171_4 := blk_frozen BK510.out 4
                            have hfz171_5 := blk_frozen BK510.out 5
                            have hfz171_6 := blk_frozen BK510.out 6
                            have hfz171_7 := blk_frozen BK510.out 7
                            have hfz171_8 := blk_frozen BK510.out 8
                            have hfz171_9 := blk_frozen BK510.out 9
                            have hfz171_10 := blk_frozen BK510.out 10
                            have hfz171_11 := blk_frozen BK510.out 11
                            have hfz171_12 := blk_frozen BK510.out 12
                            go_wp2_with (first | ((with_reducible refine gate_callee (f := 16) rfl ?_); refine gm (some 114) Try.func16 #[.agg #[.int .i64 a0_0, .int .u64 a0_1, .int .u64 a0_2, .int .u64 a0_3, .int .u64 a0_4], .agg #[.int .u64 a0_5, .int .u64 a0_6, .int .u64 a0_7], .int .u64 t524, .int .u64 a0_12] (policy_Admit.calls kj68 a0_0 a0_1 a0_2 a0_3 a0_4 a0_5 a0_6 a0_7 t524 a0_12 t531 t532 t533 false t535 _ A96.out) ?_; intro w172 hb; have n0_ := bb BK510 hb; have n1_ := bb BK512 hb; have n2_ := bb BK525 hb; have n3_ := bs HB hb; clear BK510; clear BK512; clear BK525; clear HB; have BK510 := n0_; have BK512 := n1_; have BK525 := n2_; have HB := n3_; clear n0_ n1_ n2_ n3_; (try clear hb); (try clear hb2); (try clear hk); (try clear hi)) | ((with_reducible refine gate_dst (N := 13) rfl ?_); refine bx 13 #[.int .u64 0, .int .u64 0, .int .u64 0] 29 ?_; intro gb536 hg w173 hbox hb; have n0_ := bb BK510 hb; have n1_ := bb BK512 hb; have n2_ := bb BK525 hb; have n3_ := bs HB hb; have n4_ := Aside0.mk (hbox); have n5_ := sz HB hg; have n6_ := sz HB hg; have n7_ := nl BK510 hg; have n8_ := nr BK510 hg; have n9_ := nl BK512 hg; have n10_ := nr BK512 hg; have n11_ := nl BK525 hg; have n12_ := nr BK525 hg; clear BK510; clear BK512; clear BK525; clear HB; have BK510 := n0_; have BK512 := n1_; have BK525 := n2_; have HB := n3_; have BK536 := n4_; have GW536 := n5_; have GE536 := n6_; have NB510_536 := n7_; have NB536_510 := n8_; have NB512_536 := n9_; have NB536_512 := n10_; have NB525_536 := n11_; have NB536_525 := n12_; clear n0_ n1_ n2_ n3_ n4_ n5_ n6_ n7_ n8_ n9_ n10_ n11_ n12_; clear hb hbox hg; have hnb174 := NB536_510.out; have hnc174 := NB510_536.out; have hnb175 := NB536_512.out; have hnc175 := NB512_536.out; have hnb176 := NB536_525.out; have hnc176 := NB525_536.out; obtain ⟨hcz177_0, hcz177_1, hcz177_2, hfz177_0, hfz177_1, hfz177_2⟩ := bc3 BK536; obtain ⟨hcz178_0, hcz178_1, hcz178_2, hcz178_3, hcz178_4, hfz178_0, hfz178_1, hfz178_2, hfz178_3, hfz178_4⟩ := bc5 BK512; have hcz179_0 : w173.cell? ⟨gb510, 0, none⟩ = some (.int .i64 a0_0) := (blk_cell BK510.out 0).trans rfl; have hcz179_1 : w173.cell? ⟨gb510, 1, none⟩ = some (.int .u64 a0_1) := (blk_cell BK510.out 1).trans rfl; have hcz179_2 : w173.cell? ⟨gb510, 2, none⟩ = some (.int .u64 a0_2) := (blk_cell BK510.out 2).trans rfl; have hcz179_3 : w173.cell? ⟨gb510, 3, none⟩ = some (.int .u64 a0_3) := (blk_cell BK510.out 3).trans rfl; have hcz179_4 : w173.cell? ⟨gb510, 4, none⟩ = some (.int .u64 a0_4) := (blk_cell BK510.out 4).trans rfl; have hcz179_5 : w173.cell? ⟨gb510, 5, none⟩ = some (.int .u64 a0_5) := (blk_cell BK510.out 5).trans rfl; have hcz179_6 : w173.cell? ⟨gb510, 6, none⟩ = some (.int .u64 a0_6) := (blk_cell BK510.out 6).trans rfl; have hcz179_7 : w173.cell? ⟨gb510, 7, none⟩ = some (.int .u64 a0_7) := (blk_cell BK510.out 7).trans rfl; have hcz179_8 : w173.cell? ⟨gb510, 8, none⟩ = some (.int .u64 a0_8) := (blk_cell BK510.out 8).trans rfl; have hcz179_9 : w173.cell? ⟨gb510, 9, none⟩ = some (.int .u64 a0_9) := (blk_cell BK510.out 9).trans rfl; have hcz179_10 : w173.cell? ⟨gb510, 10, none⟩ = some (.int .u64 a0_10) := (blk_cell BK510.out 10).trans rfl; have hcz179_11 : w173.cell? ⟨gb510, 11, none⟩ = some (.int .u64 a0_11) := (blk_cell BK510.out 11).trans rfl; have hcz179_12 : w173.cell? ⟨gb510, 12, none⟩ = some (.int .u64 a0_12) := (blk_cell BK510.out 12).trans rfl; have hfz179_0 := blk_frozen BK510.out 0; have hfz179_1 := blk_frozen BK510.out 1; have hfz179_2 := blk_frozen BK510.out 2; have hfz179_3 := blk_frozen BK510.out 3; have hfz179_4 := blk_frozen BK510.out 4; have hfz179_5 := blk_frozen BK510.out 5; have hfz179_6 := blk_frozen BK510.out 6; have hfz179_7 := blk_frozen BK510.out 7; have hfz179_8 := blk_frozen BK510.out 8; have hfz179_9 := blk_frozen BK510.out 9; have hfz179_10 := blk_frozen BK510.out 10; have hfz179_11 := blk_frozen BK510.out 11; have hfz179_12 := blk_frozen BK510.out 12) | ((with_reducible refine gate_callee (f := 16) rfl ?_); refine gm (some 131) Try.func16 #[.agg #[.int .i64 a0_0, .int .u64 a0_1, .int .u64 a0_2, .int .u64 a0_3, .int .u64 a0_4], .agg #[.int .u64 a0_5, .int .u64 a0_6, .int .u64 a0_7], .int .u64 a1, .int .u64 a0_12] (policy_Admit.calls kj68 a0_0 a0_1 a0_2 a0_3 a0_4 a0_5 a0_6 a0_7 a1 a0_12 t543 t544 t545 true t547 _ A164.out) ?_; intro w180 hb; have n0_ := bb BK510 hb; have n1_ := bb BK512 hb; have n2_ := bb BK525 hb; have n3_ := bbp (.cells #[.int .u64 t531, .int .u64 t532, .int .u64 t533] 29 (0, 0)) BK536 hb; have n4_ := bs HB hb; clear BK510; clear BK512; clear BK525; clear BK536; clear HB; have BK510 := n0_; have BK512 := n1_; have BK525 := n2_; have BK536 := n3_; have HB := n4_; clear n0_ n1_ n2_ n3_ n4_; (try clear hb); (try clear hb2); (try clear hk); (try clear hi)) | ((with_reducible refine gate_dst (N := 16) rfl ?_); refine bx 16 #[.int .u64 0, .int .u64 0, .int .u64 0] 29 ?_; intro gb548 hg w181 hbox hb; have n0_ := bb BK510 hb; have n1_ := bb BK512 hb; have n2_ := bb BK525 hb; have n3_ := bb BK536 hb; have n4_ := bs HB hb; have n5_ := Aside0.mk (hbox); have n6_ := sz HB hg; have n7_ := sz HB hg; have n8_ := nl BK510 hg; have n9_ := nr BK510 hg; have n10_ := nl BK512 hg; have n11_ := nr BK512 hg; have n12_ := nl BK525 hg; have n13_ := nr BK525 hg; have n14_ := nl BK536 hg; have n15_ := nr BK536 hg; clear BK510; clear BK512; clear BK525; clear BK536; clear HB; have BK510 := n0_; have BK512 := n1_; have BK525 := n2_; have BK536 := n3_; have HB := n4_; have BK548 := n5_; have GW548 := n6_; have GE548 := n7_; have NB510_548 := n8_; have NB548_510 := n9_; have NB512_548 := n10_; have NB548_512 := n11_; have NB525_548 := n12_; have NB548_525 := n13_; have NB536_548 := n14_; have NB548_536 := n15_; clear n0_ n1_ n2_ n3_ n4_ n5_ n6_ n7_ n8_ n9_ n10_ n11_ n12_ n13_ n14_ n15_; clear hb hbox hg; have hnb182 := NB548_510.out; have hnc182 := NB510_548.out; have hnb183 := NB548_512.out; have hnc183 := NB512_548.out; have hnb184 := NB548_525.out; have hnc184 := NB525_548.out; have hnb185 := NB548_536.out; have hnc185 := NB536_548.out; obtain ⟨hcz186_0, hcz186_1, hcz186_2, hfz186_0, hfz186_1, hfz186_2⟩ := bc3 BK548; have hcz187_0 : w181.cell? ⟨gb510, 0, none⟩ = some (.int .i64 a0_0) := (blk_cell BK510.out 0).trans rfl; have hcz187_1 : w181.cell? ⟨gb510, 1, none⟩ = some (.int .u64 a0_1) := (blk_cell BK510.out 1).trans rfl; have hcz187_2 : w181.cell? ⟨gb510, 2, none⟩ = some (.int .u64 a0_2) := (blk_cell BK510.out 2).trans rfl; have hcz187_3 : w181.cell? ⟨gb510, 3, none⟩ = some (.int .u64 a0_3) := (blk_cell BK510.out 3).trans rfl; have hcz187_4 : w181.cell? ⟨gb510, 4, none⟩ = some (.int .u64 a0_4) := (blk_cell BK510.out 4).trans rfl; have hcz187_5 : w181.cell? ⟨gb510, 5, none⟩ = some (.int .u64 a0_5) := (blk_cell BK510.out 5).trans rfl; have hcz187_6 : w181.cell? ⟨gb510, 6, none⟩ = some (.int .u64 a0_6) := (blk_cell BK510.out 6).trans rfl; have hcz187_7 : w181.cell? ⟨gb510, 7, none⟩ = some (.int .u64 a0_7) := (blk_cell BK510.out 7).trans rfl; have hcz187_8 : w181.cell? ⟨gb510, 8, none⟩ = some (.int .u64 a0_8) := (blk_cell BK510.out 8).trans rfl; have hcz187_9 : w181.cell? ⟨gb510, 9, none⟩ = some (.int .u64 a0_9) := (blk_cell BK510.out 9).trans rfl; have hcz187_10 : w181.cell? ⟨gb510, 10, none⟩ = some (.int .u64 a0_10) := (blk_cell BK510.out 10).trans rfl; have hcz187_11 : w181.cell? ⟨gb510, 11, none⟩ = some (.int .u64 a0_11) := (blk_cell BK510.out 11).trans rfl; have hcz187_12 : w181.cell? ⟨gb510, 12, none⟩ = some (.int .u64 a0_12) := (blk_cell BK510.out 12).trans rfl; have hfz187_0 := blk_frozen BK510.out 0; have hfz187_1 := blk_frozen BK510.out 1; have hfz187_2 := blk_frozen BK510.out 2; have hfz187_3 := blk_frozen BK510.out 3; have hfz187_4 := blk_frozen BK510.out 4; have hfz187_5 := blk_frozen BK510.out 5; have hfz187_6 := blk_frozen BK510.out 6; have hfz187_7 := blk_frozen BK510.out 7; have hfz187_8 := blk_frozen BK510.out 8; have hfz187_9 := blk_frozen BK510.out 9; have hfz187_10 := blk_frozen BK510.out 10; have hfz187_11 := blk_frozen BK510.out 11; have hfz187_12 := blk_frozen BK510.out 12))
                            go_ret
                            exact ⟨re, bw HB⟩
                          · rw [if_neg c166] at H
                            have c166b0 : decide (a1 < a0_11) = false := decide_eq_false c166
                            clear c166
                            obtain rfl := Option.some.inj H
                            have hnb188 := NB512_510.out
                            have hnc188 := NB510_512.out
                            have hnb189 := NB512_525.out
                            have hnc189 := NB525_512.out
                            obtain ⟨hcz190_0, hcz190_1, hcz190_2, hcz190_3, hcz190_4, hfz190_0, hfz190_1, hfz190_2, hfz190_3, hfz190_4⟩ := bc5 BK512
                            have hnb191 := NB510_525.out
                            have hnc191 := NB525_510.out
                            have hcz192_0 : wc.cell? ⟨gb510, 0, none⟩ = some (.int .i64 a0_0) := (blk_cell BK510.out 0).trans rfl
                            have hcz192_1 : wc.cell? ⟨gb510, 1, none⟩ = some (.int .u64 a0_1) := (blk_cell BK510.out 1).trans rfl
                            have hcz192_2 : wc.cell? ⟨gb510, 2, none⟩ = some (.int .u64 a0_2) := (blk_cell BK510.out 2).trans rfl
                            have hcz192_3 : wc.cell? ⟨gb510, 3, none⟩ = some (.int .u64 a0_3) := (blk_cell BK510.out 3).trans rfl
                            have hcz192_4 : wc.cell? ⟨gb510, 4, none⟩ = some (.int .u64 a0_4) := (blk_cell BK510.out 4).trans rfl
                            have hcz192_5 : wc.cell? ⟨gb510, 5, none⟩ = some (.int .u64 a0_5) := (blk_cell BK510.out 5).trans rfl
                            have hcz192_6 : wc.cell? ⟨gb510, 6, none⟩ = some (.int .u64 a0_6) := (blk_cell BK510.out 6).trans rfl
                            have hcz192_7 : wc.cell? ⟨gb510, 7, none⟩ = some (.int .u64 a0_7) := (blk_cell BK510.out 7).trans rfl
                            have hcz192_8 : wc.cell? ⟨gb510, 8, none⟩ = some (.int .u64 a0_8) := (blk_cell BK510.out 8).trans rfl
                            have hcz192_9 : wc.cell? ⟨gb510, 9, none⟩ = some (.int .u64 a0_9) := (blk_cell BK510.out 9).trans rfl
                            have hcz192_10 : wc.cell? ⟨gb510, 10, none⟩ = some (.int .u64 a0_10) := (blk_cell BK510.out 10).trans rfl
                            have hcz192_11 : wc.cell? ⟨gb510, 11, none⟩ = some (.int .u64 a0_11) := (blk_cell BK510.out 11).trans rfl
                            have hcz192_12 : wc.cell? ⟨gb510, 12, none⟩ = some (.int .u64 a0_12) := (blk_cell BK510.out 12).trans rfl
                            have hfz192_0 := blk_frozen BK510.out 0
                            have hfz192_1 := blk_frozen BK510.out 1
                            have hfz192_2 := blk_frozen BK510.out 2
                            have hfz192_3 := blk_frozen BK510.out 3
                            have hfz192_4 := blk_frozen BK510.out 4
                            have hfz192_5 := blk_frozen BK510.out 5
                            have hfz192_6 := blk_frozen BK510.out 6
                            have hfz192_7 := blk_frozen BK510.out 7
                            have hfz192_8 := blk_frozen BK510.out 8
                            have hfz192_9 := blk_frozen BK510.out 9
                            have hfz192_10 := blk_frozen BK510.out 10
                            have hfz192_11 := blk_frozen BK510.out 11
                            have hfz192_12 := blk_frozen BK510.out 12
                            go_wp2_with (first | ((with_reducible refine gate_callee (f := 16) rfl ?_); refine gm (some 114) Try.func16 #[.agg #[.int .i64 a0_0, .int .u64 a0_1, .int .u64 a0_2, .int .u64 a0_3, .int .u64 a0_4], .agg #[.int .u64 a0_5, .int .u64 a0_6, .int .u64 a0_7], .int .u64 t524, .int .u64 a0_12] (policy_Admit.calls kj68 a0_0 a0_1 a0_2 a0_3 a0_4 a0_5 a0_6 a0_7 t524 a0_12 t531 t532 t533 false t535 _ A96.out) ?_; intro w193 hb; have n0_ := bb BK510 hb; have n1_ := bb BK512 hb; have n2_ := bb BK525 hb; have n3_ := bs HB hb; clear BK510; clear BK512; clear BK525; clear HB; have BK510 := n0_; have BK512 := n1_; have BK525 := n2_; have HB := n3_; clear n0_ n1_ n2_ n3_; (try clear hb); (try clear hb2); (try clear hk); (try clear hi)) | ((with_reducible refine gate_dst (N := 13) rfl ?_); refine bx 13 #[.int .u64 0, .int .u64 0, .int .u64 0] 29 ?_; intro gb536 hg w194 hbox hb; have n0_ := bb BK510 hb; have n1_ := bb BK512 hb; have n2_ := bb BK525 hb; have n3_ := bs HB hb; have n4_ := Aside0.mk (hbox); have n5_ := sz HB hg; have n6_ := sz HB hg; have n7_ := nl BK510 hg; have n8_ := nr BK510 hg; have n9_ := nl BK512 hg; have n10_ := nr BK512 hg; have n11_ := nl BK525 hg; have n12_ := nr BK525 hg; clear BK510; clear BK512; clear BK525; clear HB; have BK510 := n0_; have BK512 := n1_; have BK525 := n2_; have HB := n3_; have BK536 := n4_; have GW536 := n5_; have GE536 := n6_; have NB510_536 := n7_; have NB536_510 := n8_; have NB512_536 := n9_; have NB536_512 := n10_; have NB525_536 := n11_; have NB536_525 := n12_; clear n0_ n1_ n2_ n3_ n4_ n5_ n6_ n7_ n8_ n9_ n10_ n11_ n12_; clear hb hbox hg; have hnb195 := NB536_510.out; have hnc195 := NB510_536.out; have hnb196 := NB536_512.out; have hnc196 := NB512_536.out; have hnb197 := NB536_525.out; have hnc197 := NB525_536.out; obtain ⟨hcz198_0, hcz198_1, hcz198_2, hfz198_0, hfz198_1, hfz198_2⟩ := bc3 BK536; obtain ⟨hcz199_0, hcz199_1, hcz199_2, hcz199_3, hcz199_4, hfz199_0, hfz199_1, hfz199_2, hfz199_3, hfz199_4⟩ := bc5 BK512; have hcz200_0 : w194.cell? ⟨gb510, 0, none⟩ = some (.int .i64 a0_0) := (blk_cell BK510.out 0).trans rfl; have hcz200_1 : w194.cell? ⟨gb510, 1, none⟩ = some (.int .u64 a0_1) := (blk_cell BK510.out 1).trans rfl; have hcz200_2 : w194.cell? ⟨gb510, 2, none⟩ = some (.int .u64 a0_2) := (blk_cell BK510.out 2).trans rfl; have hcz200_3 : w194.cell? ⟨gb510, 3, none⟩ = some (.int .u64 a0_3) := (blk_cell BK510.out 3).trans rfl; have hcz200_4 : w194.cell? ⟨gb510, 4, none⟩ = some (.int .u64 a0_4) := (blk_cell BK510.out 4).trans rfl; have hcz200_5 : w194.cell? ⟨gb510, 5, none⟩ = some (.int .u64 a0_5) := (blk_cell BK510.out 5).trans rfl; have hcz200_6 : w194.cell? ⟨gb510, 6, none⟩ = some (.int .u64 a0_6) := (blk_cell BK510.out 6).trans rfl; have hcz200_7 : w194.cell? ⟨gb510, 7, none⟩ = some (.int .u64 a0_7) := (blk_cell BK510.out 7).trans rfl; have hcz200_8 : w194.cell? ⟨gb510, 8, none⟩ = some (.int .u64 a0_8) := (blk_cell BK510.out 8).trans rfl; have hcz200_9 : w194.cell? ⟨gb510, 9, none⟩ = some (.int .u64 a0_9) := (blk_cell BK510.out 9).trans rfl; have hcz200_10 : w194.cell? ⟨gb510, 10, none⟩ = some (.int .u64 a0_10) := (blk_cell BK510.out 10).trans rfl; have hcz200_11 : w194.cell? ⟨gb510, 11, none⟩ = some (.int .u64 a0_11) := (blk_cell BK510.out 11).trans rfl; have hcz200_12 : w194.cell? ⟨gb510, 12, none⟩ = some (.int .u64 a0_12) := (blk_cell BK510.out 12).trans rfl; have hfz200_0 := blk_frozen BK510.out 0; have hfz200_1 := blk_frozen BK510.out 1; have hfz200_2 := blk_frozen BK510.out 2; have hfz200_3 := blk_frozen BK510.out 3; have hfz200_4 := blk_frozen BK510.out 4; have hfz200_5 := blk_frozen BK510.out 5; have hfz200_6 := blk_frozen BK510.out 6; have hfz200_7 := blk_frozen BK510.out 7; have hfz200_8 := blk_frozen BK510.out 8; have hfz200_9 := blk_frozen BK510.out 9; have hfz200_10 := blk_frozen BK510.out 10; have hfz200_11 := blk_frozen BK510.out 11; have hfz200_12 := blk_frozen BK510.out 12) | ((with_reducible refine gate_callee (f := 16) rfl ?_); refine gm (some 131) Try.func16 #[.agg #[.int .i64 a0_0, .int .u64 a0_1, .int .u64 a0_2, .int .u64 a0_3, .int .u64 a0_4], .agg #[.int .u64 a0_5, .int .u64 a0_6, .int .u64 a0_7], .int .u64 a1, .int .u64 a0_12] (policy_Admit.calls kj68 a0_0 a0_1 a0_2 a0_3 a0_4 a0_5 a0_6 a0_7 a1 a0_12 t543 t544 t545 true t547 _ A164.out) ?_; intro w201 hb; have n0_ := bb BK510 hb; have n1_ := bb BK512 hb; have n2_ := bb BK525 hb; have n3_ := bbp (.cells #[.int .u64 t531, .int .u64 t532, .int .u64 t533] 29 (0, 0)) BK536 hb; have n4_ := bs HB hb; clear BK510; clear BK512; clear BK525; clear BK536; clear HB; have BK510 := n0_; have BK512 := n1_; have BK525 := n2_; have BK536 := n3_; have HB := n4_; clear n0_ n1_ n2_ n3_ n4_; (try clear hb); (try clear hb2); (try clear hk); (try clear hi)) | ((with_reducible refine gate_dst (N := 16) rfl ?_); refine bx 16 #[.int .u64 0, .int .u64 0, .int .u64 0] 29 ?_; intro gb548 hg w202 hbox hb; have n0_ := bb BK510 hb; have n1_ := bb BK512 hb; have n2_ := bb BK525 hb; have n3_ := bb BK536 hb; have n4_ := bs HB hb; have n5_ := Aside0.mk (hbox); have n6_ := sz HB hg; have n7_ := sz HB hg; have n8_ := nl BK510 hg; have n9_ := nr BK510 hg; have n10_ := nl BK512 hg; have n11_ := nr BK512 hg; have n12_ := nl BK525 hg; have n13_ := nr BK525 hg; have n14_ := nl BK536 hg; have n15_ := nr BK536 hg; clear BK510; clear BK512; clear BK525; clear BK536; clear HB; have BK510 := n0_; have BK512 := n1_; have BK525 := n2_; have BK536 := n3_; have HB := n4_; have BK548 := n5_; have GW548 := n6_; have GE548 := n7_; have NB510_548 := n8_; have NB548_510 := n9_; have NB512_548 := n10_; have NB548_512 := n11_; have NB525_548 := n12_; have NB548_525 := n13_; have NB536_548 := n14_; have NB548_536 := n15_; clear n0_ n1_ n2_ n3_ n4_ n5_ n6_ n7_ n8_ n9_ n10_ n11_ n12_ n13_ n14_ n15_; clear hb hbox hg; have hnb203 := NB548_510.out; have hnc203 := NB510_548.out; have hnb204 := NB548_512.out; have hnc204 := NB512_548.out; have hnb205 := NB548_525.out; have hnc205 := NB525_548.out; have hnb206 := NB548_536.out; have hnc206 := NB536_548.out; obtain ⟨hcz207_0, hcz207_1, hcz207_2, hfz207_0, hfz207_1, hfz207_2⟩ := bc3 BK548; have hcz208_0 : w202.cell? ⟨gb510, 0, none⟩ = some (.int .i64 a0_0) := (blk_cell BK510.out 0).trans rfl; have hcz208_1 : w202.cell? ⟨gb510, 1, none⟩ = some (.int .u64 a0_1) := (blk_cell BK510.out 1).trans rfl; have hcz208_2 : w202.cell? ⟨gb510, 2, none⟩ = some (.int .u64 a0_2) := (blk_cell BK510.out 2).trans rfl; have hcz208_3 : w202.cell? ⟨gb510, 3, none⟩ = some (.int .u64 a0_3) := (blk_cell BK510.out 3).trans rfl; have hcz208_4 : w202.cell? ⟨gb510, 4, none⟩ = some (.int .u64 a0_4) := (blk_cell BK510.out 4).trans rfl; have hcz208_5 : w202.cell? ⟨gb510, 5, none⟩ = some (.int .u64 a0_5) := (blk_cell BK510.out 5).trans rfl; have hcz208_6 : w202.cell? ⟨gb510, 6, none⟩ = some (.int .u64 a0_6) := (blk_cell BK510.out 6).trans rfl; have hcz208_7 : w202.cell? ⟨gb510, 7, none⟩ = some (.int .u64 a0_7) := (blk_cell BK510.out 7).trans rfl; have hcz208_8 : w202.cell? ⟨gb510, 8, none⟩ = some (.int .u64 a0_8) := (blk_cell BK510.out 8).trans rfl; have hcz208_9 : w202.cell? ⟨gb510, 9, none⟩ = some (.int .u64 a0_9) := (blk_cell BK510.out 9).trans rfl; have hcz208_10 : w202.cell? ⟨gb510, 10, none⟩ = some (.int .u64 a0_10) := (blk_cell BK510.out 10).trans rfl; have hcz208_11 : w202.cell? ⟨gb510, 11, none⟩ = some (.int .u64 a0_11) := (blk_cell BK510.out 11).trans rfl; have hcz208_12 : w202.cell? ⟨gb510, 12, none⟩ = some (.int .u64 a0_12) := (blk_cell BK510.out 12).trans rfl; have hfz208_0 := blk_frozen BK510.out 0; have hfz208_1 := blk_frozen BK510.out 1; have hfz208_2 := blk_frozen BK510.out 2; have hfz208_3 := blk_frozen BK510.out 3; have hfz208_4 := blk_frozen BK510.out 4; have hfz208_5 := blk_frozen BK510.out 5; have hfz208_6 := blk_frozen BK510.out 6; have hfz208_7 := blk_frozen BK510.out 7; have hfz208_8 := blk_frozen BK510.out 8; have hfz208_9 := blk_frozen BK510.out 9; have hfz208_10 := blk_frozen BK510.out 10; have hfz208_11 := blk_frozen BK510.out 11; have hfz208_12 := blk_frozen BK510.out 12))
                            go_ret
                            exact ⟨re, bw HB⟩
                        · replace c165 := Bool.eq_false_iff.mpr c165
                          subst c165
                          have H1 : (some true) = some r := by rw [if_neg (show ¬ (false = true) by decide)] at H; exact H
                          clear H
                          have H := H1
                          clear H1
                          obtain rfl := Option.some.inj H
                          have hnb209 := NB512_510.out
                          have hnc209 := NB510_512.out
                          have hnb210 := NB512_525.out
                          have hnc210 := NB525_512.out
                          obtain ⟨hcz211_0, hcz211_1, hcz211_2, hcz211_3, hcz211_4, hfz211_0, hfz211_1, hfz211_2, hfz211_3, hfz211_4⟩ := bc5 BK512
                          have hnb212 := NB510_525.out
                          have hnc212 := NB525_510.out
                          have hcz213_0 : wc.cell? ⟨gb510, 0, none⟩ = some (.int .i64 a0_0) := (blk_cell BK510.out 0).trans rfl
                          have hcz213_1 : wc.cell? ⟨gb510, 1, none⟩ = some (.int .u64 a0_1) := (blk_cell BK510.out 1).trans rfl
                          have hcz213_2 : wc.cell? ⟨gb510, 2, none⟩ = some (.int .u64 a0_2) := (blk_cell BK510.out 2).trans rfl
                          have hcz213_3 : wc.cell? ⟨gb510, 3, none⟩ = some (.int .u64 a0_3) := (blk_cell BK510.out 3).trans rfl
                          have hcz213_4 : wc.cell? ⟨gb510, 4, none⟩ = some (.int .u64 a0_4) := (blk_cell BK510.out 4).trans rfl
                          have hcz213_5 : wc.cell? ⟨gb510, 5, none⟩ = some (.int .u64 a0_5) := (blk_cell BK510.out 5).trans rfl
                          have hcz213_6 : wc.cell? ⟨gb510, 6, none⟩ = some (.int .u64 a0_6) := (blk_cell BK510.out 6).trans rfl
                          have hcz213_7 : wc.cell? ⟨gb510, 7, none⟩ = some (.int .u64 a0_7) := (blk_cell BK510.out 7).trans rfl
                          have hcz213_8 : wc.cell? ⟨gb510, 8, none⟩ = some (.int .u64 a0_8) := (blk_cell BK510.out 8).trans rfl
                          have hcz213_9 : wc.cell? ⟨gb510, 9, none⟩ = some (.int .u64 a0_9) := (blk_cell BK510.out 9).trans rfl
                          have hcz213_10 : wc.cell? ⟨gb510, 10, none⟩ = some (.int .u64 a0_10) := (blk_cell BK510.out 10).trans rfl
                          have hcz213_11 : wc.cell? ⟨gb510, 11, none⟩ = some (.int .u64 a0_11) := (blk_cell BK510.out 11).trans rfl
                          have hcz213_12 : wc.cell? ⟨gb510, 12, none⟩ = some (.int .u64 a0_12) := (blk_cell BK510.out 12).trans rfl
                          have hfz213_0 := blk_frozen BK510.out 0
                          have hfz213_1 := blk_frozen BK510.out 1
                          have hfz213_2 := blk_frozen BK510.out 2
                          have hfz213_3 := blk_frozen BK510.out 3
                          have hfz213_4 := blk_frozen BK510.out 4
                          have hfz213_5 := blk_frozen BK510.out 5
                          have hfz213_6 := blk_frozen BK510.out 6
                          have hfz213_7 := blk_frozen BK510.out 7
                          have hfz213_8 := blk_frozen BK510.out 8
                          have hfz213_9 := blk_frozen BK510.out 9
                          have hfz213_10 := blk_frozen BK510.out 10
                          have hfz213_11 := blk_frozen BK510.out 11
                          have hfz213_12 := blk_frozen BK510.out 12
                          go_wp2_with (first | ((with_reducible refine gate_callee (f := 16) rfl ?_); refine gm (some 114) Try.func16 #[.agg #[.int .i64 a0_0, .int .u64 a0_1, .int .u64 a0_2, .int .u64 a0_3, .int .u64 a0_4], .agg #[.int .u64 a0_5, .int .u64 a0_6, .int .u64 a0_7], .int .u64 t524, .int .u64 a0_12] (policy_Admit.calls kj68 a0_0 a0_1 a0_2 a0_3 a0_4 a0_5 a0_6 a0_7 t524 a0_12 t531 t532 t533 false t535 _ A96.out) ?_; intro w214 hb; have n0_ := bb BK510 hb; have n1_ := bb BK512 hb; have n2_ := bb BK525 hb; have n3_ := bs HB hb; clear BK510; clear BK512; clear BK525; clear HB; have BK510 := n0_; have BK512 := n1_; have BK525 := n2_; have HB := n3_; clear n0_ n1_ n2_ n3_; (try clear hb); (try clear hb2); (try clear hk); (try clear hi)) | ((with_reducible refine gate_dst (N := 13) rfl ?_); refine bx 13 #[.int .u64 0, .int .u64 0, .int .u64 0] 29 ?_; intro gb536 hg w215 hbox hb; have n0_ := bb BK510 hb; have n1_ := bb BK512 hb; have n2_ := bb BK525 hb; have n3_ := bs HB hb; have n4_ := Aside0.mk (hbox); have n5_ := sz HB hg; have n6_ := sz HB hg; have n7_ := nl BK510 hg; have n8_ := nr BK510 hg; have n9_ := nl BK512 hg; have n10_ := nr BK512 hg; have n11_ := nl BK525 hg; have n12_ := nr BK525 hg; clear BK510; clear BK512; clear BK525; clear HB; have BK510 := n0_; have BK512 := n1_; have BK525 := n2_; have HB := n3_; have BK536 := n4_; have GW536 := n5_; have GE536 := n6_; have NB510_536 := n7_; have NB536_510 := n8_; have NB512_536 := n9_; have NB536_512 := n10_; have NB525_536 := n11_; have NB536_525 := n12_; clear n0_ n1_ n2_ n3_ n4_ n5_ n6_ n7_ n8_ n9_ n10_ n11_ n12_; clear hb hbox hg; have hnb216 := NB536_510.out; have hnc216 := NB510_536.out; have hnb217 := NB536_512.out; have hnc217 := NB512_536.out; have hnb218 := NB536_525.out; have hnc218 := NB525_536.out; obtain ⟨hcz219_0, hcz219_1, hcz219_2, hfz219_0, hfz219_1, hfz219_2⟩ := bc3 BK536; obtain ⟨hcz220_0, hcz220_1, hcz220_2, hcz220_3, hcz220_4, hfz220_0, hfz220_1, hfz220_2, hfz220_3, hfz220_4⟩ := bc5 BK512; have hcz221_0 : w215.cell? ⟨gb510, 0, none⟩ = some (.int .i64 a0_0) := (blk_cell BK510.out 0).trans rfl; have hcz221_1 : w215.cell? ⟨gb510, 1, none⟩ = some (.int .u64 a0_1) := (blk_cell BK510.out 1).trans rfl; have hcz221_2 : w215.cell? ⟨gb510, 2, none⟩ = some (.int .u64 a0_2) := (blk_cell BK510.out 2).trans rfl; have hcz221_3 : w215.cell? ⟨gb510, 3, none⟩ = some (.int .u64 a0_3) := (blk_cell BK510.out 3).trans rfl; have hcz221_4 : w215.cell? ⟨gb510, 4, none⟩ = some (.int .u64 a0_4) := (blk_cell BK510.out 4).trans rfl; have hcz221_5 : w215.cell? ⟨gb510, 5, none⟩ = some (.int .u64 a0_5) := (blk_cell BK510.out 5).trans rfl; have hcz221_6 : w215.cell? ⟨gb510, 6, none⟩ = some (.int .u64 a0_6) := (blk_cell BK510.out 6).trans rfl; have hcz221_7 : w215.cell? ⟨gb510, 7, none⟩ = some (.int .u64 a0_7) := (blk_cell BK510.out 7).trans rfl; have hcz221_8 : w215.cell? ⟨gb510, 8, none⟩ = some (.int .u64 a0_8) := (blk_cell BK510.out 8).trans rfl; have hcz221_9 : w215.cell? ⟨gb510, 9, none⟩ = some (.int .u64 a0_9) := (blk_cell BK510.out 9).trans rfl; have hcz221_10 : w215.cell? ⟨gb510, 10, none⟩ = some (.int .u64 a0_10) := (blk_cell BK510.out 10).trans rfl; have hcz221_11 : w215.cell? ⟨gb510, 11, none⟩ = some (.int .u64 a0_11) := (blk_cell BK510.out 11).trans rfl; have hcz221_12 : w215.cell? ⟨gb510, 12, none⟩ = some (.int .u64 a0_12) := (blk_cell BK510.out 12).trans rfl; have hfz221_0 := blk_frozen BK510.out 0; have hfz221_1 := blk_frozen BK510.out 1; have hfz221_2 := blk_frozen BK510.out 2; have hfz221_3 := blk_frozen BK510.out 3; have hfz221_4 := blk_frozen BK510.out 4; have hfz221_5 := blk_frozen BK510.out 5; have hfz221_6 := blk_frozen BK510.out 6; have hfz221_7 := blk_frozen BK510.out 7; have hfz221_8 := blk_frozen BK510.out 8; have hfz221_9 := blk_frozen BK510.out 9; have hfz221_10 := blk_frozen BK510.out 10; have hfz221_11 := blk_frozen BK510.out 11; have hfz221_12 := blk_frozen BK510.out 12) | ((with_reducible refine gate_callee (f := 16) rfl ?_); refine gm (some 131) Try.func16 #[.agg #[.int .i64 a0_0, .int .u64 a0_1, .int .u64 a0_2, .int .u64 a0_3, .int .u64 a0_4], .agg #[.int .u64 a0_5, .int .u64 a0_6, .int .u64 a0_7], .int .u64 a1, .int .u64 a0_12] (policy_Admit.calls kj68 a0_0 a0_1 a0_2 a0_3 a0_4 a0_5 a0_6 a0_7 a1 a0_12 t543 t544 t545 false t547 _ A164.out) ?_; intro w222 hb; have n0_ := bb BK510 hb; have n1_ := bb BK512 hb; have n2_ := bb BK525 hb; have n3_ := bbp (.cells #[.int .u64 t531, .int .u64 t532, .int .u64 t533] 29 (0, 0)) BK536 hb; have n4_ := bs HB hb; clear BK510; clear BK512; clear BK525; clear BK536; clear HB; have BK510 := n0_; have BK512 := n1_; have BK525 := n2_; have BK536 := n3_; have HB := n4_; clear n0_ n1_ n2_ n3_ n4_; (try clear hb); (try clear hb2); (try clear hk); (try clear hi)) | ((with_reducible refine gate_dst (N := 16) rfl ?_); refine bx 16 #[.int .u64 0, .int .u64 0, .int .u64 0] 29 ?_; intro gb548 hg w223 hbox hb; have n0_ := bb BK510 hb; have n1_ := bb BK512 hb; have n2_ := bb BK525 hb; have n3_ := bb BK536 hb; have n4_ := bs HB hb; have n5_ := Aside0.mk (hbox); have n6_ := sz HB hg; have n7_ := sz HB hg; have n8_ := nl BK510 hg; have n9_ := nr BK510 hg; have n10_ := nl BK512 hg; have n11_ := nr BK512 hg; have n12_ := nl BK525 hg; have n13_ := nr BK525 hg; have n14_ := nl BK536 hg; have n15_ := nr BK536 hg; clear BK510; clear BK512; clear BK525; clear BK536; clear HB; have BK510 := n0_; have BK512 := n1_; have BK525 := n2_; have BK536 := n3_; have HB := n4_; have BK548 := n5_; have GW548 := n6_; have GE548 := n7_; have NB510_548 := n8_; have NB548_510 := n9_; have NB512_548 := n10_; have NB548_512 := n11_; have NB525_548 := n12_; have NB548_525 := n13_; have NB536_548 := n14_; have NB548_536 := n15_; clear n0_ n1_ n2_ n3_ n4_ n5_ n6_ n7_ n8_ n9_ n10_ n11_ n12_ n13_ n14_ n15_; clear hb hbox hg; have hnb224 := NB548_510.out; have hnc224 := NB510_548.out; have hnb225 := NB548_512.out; have hnc225 := NB512_548.out; have hnb226 := NB548_525.out; have hnc226 := NB525_548.out; have hnb227 := NB548_536.out; have hnc227 := NB536_548.out; obtain ⟨hcz228_0, hcz228_1, hcz228_2, hfz228_0, hfz228_1, hfz228_2⟩ := bc3 BK548))
                          go_ret
                          exact ⟨re, bw HB⟩
                      · rw [if_neg c163] at H
                        have c163b0 : (t524 == 18446744073709551615) = false := beq_eq_false_iff_ne.mpr c163
                        have c163b1 : (t524 != 18446744073709551615) = true := bne_iff_ne.mpr c163
                        obtain rfl := Option.some.inj H
                        have hnb229 := NB512_510.out
                        have hnc229 := NB510_512.out
                        have hnb230 := NB512_525.out
                        have hnc230 := NB525_512.out
                        obtain ⟨hcz231_0, hcz231_1, hcz231_2, hcz231_3, hcz231_4, hfz231_0, hfz231_1, hfz231_2, hfz231_3, hfz231_4⟩ := bc5 BK512
                        have hnb232 := NB510_525.out
                        have hnc232 := NB525_510.out
                        have hcz233_0 : wc.cell? ⟨gb510, 0, none⟩ = some (.int .i64 a0_0) := (blk_cell BK510.out 0).trans rfl
                        have hcz233_1 : wc.cell? ⟨gb510, 1, none⟩ = some (.int .u64 a0_1) := (blk_cell BK510.out 1).trans rfl
                        have hcz233_2 : wc.cell? ⟨gb510, 2, none⟩ = some (.int .u64 a0_2) := (blk_cell BK510.out 2).trans rfl
                        have hcz233_3 : wc.cell? ⟨gb510, 3, none⟩ = some (.int .u64 a0_3) := (blk_cell BK510.out 3).trans rfl
                        have hcz233_4 : wc.cell? ⟨gb510, 4, none⟩ = some (.int .u64 a0_4) := (blk_cell BK510.out 4).trans rfl
                        have hcz233_5 : wc.cell? ⟨gb510, 5, none⟩ = some (.int .u64 a0_5) := (blk_cell BK510.out 5).trans rfl
                        have hcz233_6 : wc.cell? ⟨gb510, 6, none⟩ = some (.int .u64 a0_6) := (blk_cell BK510.out 6).trans rfl
                        have hcz233_7 : wc.cell? ⟨gb510, 7, none⟩ = some (.int .u64 a0_7) := (blk_cell BK510.out 7).trans rfl
                        have hcz233_8 : wc.cell? ⟨gb510, 8, none⟩ = some (.int .u64 a0_8) := (blk_cell BK510.out 8).trans rfl
                        have hcz233_9 : wc.cell? ⟨gb510, 9, none⟩ = some (.int .u64 a0_9) := (blk_cell BK510.out 9).trans rfl
                        have hcz233_10 : wc.cell? ⟨gb510, 10, none⟩ = some (.int .u64 a0_10) := (blk_cell BK510.out 10).trans rfl
                        have hcz233_11 : wc.cell? ⟨gb510, 11, none⟩ = some (.int .u64 a0_11) := (blk_cell BK510.out 11).trans rfl
                        have hcz233_12 : wc.cell? ⟨gb510, 12, none⟩ = some (.int .u64 a0_12) := (blk_cell BK510.out 12).trans rfl
                        have hfz233_0 := blk_frozen BK510.out 0
                        have hfz233_1 := blk_frozen BK510.out 1
                        have hfz233_2 := blk_frozen BK510.out 2
                        have hfz233_3 := blk_frozen BK510.out 3
                        have hfz233_4 := blk_frozen BK510.out 4
                        have hfz233_5 := blk_frozen BK510.out 5
                        have hfz233_6 := blk_frozen BK510.out 6
                        have hfz233_7 := blk_frozen BK510.out 7
                        have hfz233_8 := blk_frozen BK510.out 8
                        have hfz233_9 := blk_frozen BK510.out 9
                        have hfz233_10 := blk_frozen BK510.out 10
                        have hfz233_11 := blk_frozen BK510.out 11
                        have hfz233_12 := blk_frozen BK510.out 12
                        go_wp2_with (first | ((with_reducible refine gate_callee (f := 16) rfl ?_); refine gm (some 114) Try.func16 #[.agg #[.int .i64 a0_0, .int .u64 a0_1, .int .u64 a0_2, .int .u64 a0_3, .int .u64 a0_4], .agg #[.int .u64 a0_5, .int .u64 a0_6, .int .u64 a0_7], .int .u64 t524, .int .u64 a0_12] (policy_Admit.calls kj68 a0_0 a0_1 a0_2 a0_3 a0_4 a0_5 a0_6 a0_7 t524 a0_12 t531 t532 t533 false t535 _ A96.out) ?_; intro w234 hb; have n0_ := bb BK510 hb; have n1_ := bb BK512 hb; have n2_ := bb BK525 hb; have n3_ := bs HB hb; clear BK510; clear BK512; clear BK525; clear HB; have BK510 := n0_; have BK512 := n1_; have BK525 := n2_; have HB := n3_; clear n0_ n1_ n2_ n3_; (try clear hb); (try clear hb2); (try clear hk); (try clear hi)) | ((with_reducible refine gate_dst (N := 13) rfl ?_); refine bx 13 #[.int .u64 0, .int .u64 0, .int .u64 0] 29 ?_; intro gb536 hg w235 hbox hb; have n0_ := bb BK510 hb; have n1_ := bb BK512 hb; have n2_ := bb BK525 hb; have n3_ := bs HB hb; have n4_ := Aside0.mk (hbox); have n5_ := sz HB hg; have n6_ := sz HB hg; have n7_ := nl BK510 hg; have n8_ := nr BK510 hg; have n9_ := nl BK512 hg; have n10_ := nr BK512 hg; have n11_ := nl BK525 hg; have n12_ := nr BK525 hg; clear BK510; clear BK512; clear BK525; clear HB; have BK510 := n0_; have BK512 := n1_; have BK525 := n2_; have HB := n3_; have BK536 := n4_; have GW536 := n5_; have GE536 := n6_; have NB510_536 := n7_; have NB536_510 := n8_; have NB512_536 := n9_; have NB536_512 := n10_; have NB525_536 := n11_; have NB536_525 := n12_; clear n0_ n1_ n2_ n3_ n4_ n5_ n6_ n7_ n8_ n9_ n10_ n11_ n12_; clear hb hbox hg; have hnb236 := NB536_510.out; have hnc236 := NB510_536.out; have hnb237 := NB536_512.out; have hnc237 := NB512_536.out; have hnb238 := NB536_525.out; have hnc238 := NB525_536.out; obtain ⟨hcz239_0, hcz239_1, hcz239_2, hfz239_0, hfz239_1, hfz239_2⟩ := bc3 BK536))
                        go_ret
                        exact ⟨re, bw HB⟩
    · replace c6 := Bool.eq_false_iff.mpr c6
      subst c6
      have H1 : ((policy_Admit.f k a0_0 a0_1 a0_2 a0_3 a0_4 a0_5 a0_6 a0_7 a0_11 a0_12).bind fun bt514 => (some (!bt514.2.2.2.1))) = some r := by rw [if_neg (show ¬ (false = true) by decide)] at H; exact H
      clear H
      have H := H1
      clear H1
      replace H := Option.bind_eq_some_iff.mp H
      obtain ⟨⟨t514, t515, t516, t517, t518⟩, A2400, H⟩ := H
      replace H : (some (!t517)) = some r := H
      have A240 := Aside0.mk A2400
      clear A2400
      obtain rfl := Option.some.inj H
      go_enter Try.func7, Try.ntmps7
      go_wp2_with (first | ((with_reducible refine gate_dst (N := 2) rfl ?_); refine bx 2 #[.int .i64 a0_0, .int .u64 a0_1, .int .u64 a0_2, .int .u64 a0_3, .int .u64 a0_4, .int .u64 a0_5, .int .u64 a0_6, .int .u64 a0_7, .int .u64 a0_8, .int .u64 a0_9, .int .u64 a0_10, .int .u64 a0_11, .int .u64 a0_12] 31 ?_; intro gb510 hg w241 hbox hb; have n0_ := bs HB hb; have n1_ := Aside0.mk (hbox); have n2_ := sz HB hg; have n3_ := sz HB hg; clear HB; have HB := n0_; have BK510 := n1_; have GW510 := n2_; have GE510 := n3_; clear n0_ n1_ n2_ n3_; clear hb hbox hg) | ((with_reducible refine gate_callee (f := 14) rfl ?_); refine gm (some 19) Try.func14 #[] (turnstilelaw06_awake.calls k  true _ A3.out) ?_; intro w242 hb; have n0_ := bb BK510 hb; have n1_ := bs HB hb; clear BK510; clear HB; have BK510 := n0_; have HB := n1_; clear n0_ n1_; (try clear hb); (try clear hb2); (try clear hk); (try clear hi); have hcz243_0 : w242.cell? ⟨gb510, 0, none⟩ = some (.int .i64 a0_0) := (blk_cell BK510.out 0).trans rfl; have hcz243_1 : w242.cell? ⟨gb510, 1, none⟩ = some (.int .u64 a0_1) := (blk_cell BK510.out 1).trans rfl; have hcz243_2 : w242.cell? ⟨gb510, 2, none⟩ = some (.int .u64 a0_2) := (blk_cell BK510.out 2).trans rfl; have hcz243_3 : w242.cell? ⟨gb510, 3, none⟩ = some (.int .u64 a0_3) := (blk_cell BK510.out 3).trans rfl; have hcz243_4 : w242.cell? ⟨gb510, 4, none⟩ = some (.int .u64 a0_4) := (blk_cell BK510.out 4).trans rfl; have hcz243_5 : w242.cell? ⟨gb510, 5, none⟩ = some (.int .u64 a0_5) := (blk_cell BK510.out 5).trans rfl; have hcz243_6 : w242.cell? ⟨gb510, 6, none⟩ = some (.int .u64 a0_6) := (blk_cell BK510.out 6).trans rfl; have hcz243_7 : w242.cell? ⟨gb510, 7, none⟩ = some (.int .u64 a0_7) := (blk_cell BK510.out 7).trans rfl; have hcz243_8 : w242.cell? ⟨gb510, 8, none⟩ = some (.int .u64 a0_8) := (blk_cell BK510.out 8).trans rfl; have hcz243_9 : w242.cell? ⟨gb510, 9, none⟩ = some (.int .u64 a0_9) := (blk_cell BK510.out 9).trans rfl; have hcz243_10 : w242.cell? ⟨gb510, 10, none⟩ = some (.int .u64 a0_10) := (blk_cell BK510.out 10).trans rfl; have hcz243_11 : w242.cell? ⟨gb510, 11, none⟩ = some (.int .u64 a0_11) := (blk_cell BK510.out 11).trans rfl; have hcz243_12 : w242.cell? ⟨gb510, 12, none⟩ = some (.int .u64 a0_12) := (blk_cell BK510.out 12).trans rfl; have hfz243_0 := blk_frozen BK510.out 0; have hfz243_1 := blk_frozen BK510.out 1; have hfz243_2 := blk_frozen BK510.out 2; have hfz243_3 := blk_frozen BK510.out 3; have hfz243_4 := blk_frozen BK510.out 4; have hfz243_5 := blk_frozen BK510.out 5; have hfz243_6 := blk_frozen BK510.out 6; have hfz243_7 := blk_frozen BK510.out 7; have hfz243_8 := blk_frozen BK510.out 8; have hfz243_9 := blk_frozen BK510.out 9; have hfz243_10 := blk_frozen BK510.out 10; have hfz243_11 := blk_frozen BK510.out 11; have hfz243_12 := blk_frozen BK510.out 12) | ((with_reducible refine gate_dst (N := 5) rfl ?_); refine bx 5 #[.int .i64 0, .int .u64 0, .int .u64 0, .int .u64 0, .int .u64 0] 27 ?_; intro gb512 hg w244 hbox hb; have n0_ := bb BK510 hb; have n1_ := bs HB hb; have n2_ := Aside0.mk (hbox); have n3_ := sz HB hg; have n4_ := sz HB hg; have n5_ := nl BK510 hg; have n6_ := nr BK510 hg; clear BK510; clear HB; have BK510 := n0_; have HB := n1_; have BK512 := n2_; have GW512 := n3_; have GE512 := n4_; have NB510_512 := n5_; have NB512_510 := n6_; clear n0_ n1_ n2_ n3_ n4_ n5_ n6_; clear hb hbox hg; have hnb245 := NB512_510.out; have hnc245 := NB510_512.out; obtain ⟨hcz246_0, hcz246_1, hcz246_2, hcz246_3, hcz246_4, hfz246_0, hfz246_1, hfz246_2, hfz246_3, hfz246_4⟩ := bc5 BK512) | ((with_reducible refine gate_callee (f := 18) rfl ?_); refine gm (some 24) Try.func18 #[.agg #[.int .i64 a0_0, .int .u64 a0_1, .int .u64 a0_2, .int .u64 a0_3, .int .u64 a0_4]] (policy_Valid.calls a0_0 a0_1 a0_2 a0_3 a0_4 false _ A5.out) ?_; intro w247 hb; have n0_ := bb BK510 hb; have n1_ := bbp (.cells #[.int .i64 a0_0, .int .u64 a0_1, .int .u64 a0_2, .int .u64 a0_3, .int .u64 a0_4] 27 (0, 0)) BK512 hb; have n2_ := bs HB hb; clear BK510; clear BK512; clear HB; have BK510 := n0_; have BK512 := n1_; have HB := n2_; clear n0_ n1_ n2_; (try clear hb); (try clear hb2); (try clear hk); (try clear hi); obtain ⟨hcz248_0, hcz248_1, hcz248_2, hcz248_3, hcz248_4, hfz248_0, hfz248_1, hfz248_2, hfz248_3, hfz248_4⟩ := bc5 BK512; have hcz249_0 : w247.cell? ⟨gb510, 0, none⟩ = some (.int .i64 a0_0) := (blk_cell BK510.out 0).trans rfl; have hcz249_1 : w247.cell? ⟨gb510, 1, none⟩ = some (.int .u64 a0_1) := (blk_cell BK510.out 1).trans rfl; have hcz249_2 : w247.cell? ⟨gb510, 2, none⟩ = some (.int .u64 a0_2) := (blk_cell BK510.out 2).trans rfl; have hcz249_3 : w247.cell? ⟨gb510, 3, none⟩ = some (.int .u64 a0_3) := (blk_cell BK510.out 3).trans rfl; have hcz249_4 : w247.cell? ⟨gb510, 4, none⟩ = some (.int .u64 a0_4) := (blk_cell BK510.out 4).trans rfl; have hcz249_5 : w247.cell? ⟨gb510, 5, none⟩ = some (.int .u64 a0_5) := (blk_cell BK510.out 5).trans rfl; have hcz249_6 : w247.cell? ⟨gb510, 6, none⟩ = some (.int .u64 a0_6) := (blk_cell BK510.out 6).trans rfl; have hcz249_7 : w247.cell? ⟨gb510, 7, none⟩ = some (.int .u64 a0_7) := (blk_cell BK510.out 7).trans rfl; have hcz249_8 : w247.cell? ⟨gb510, 8, none⟩ = some (.int .u64 a0_8) := (blk_cell BK510.out 8).trans rfl; have hcz249_9 : w247.cell? ⟨gb510, 9, none⟩ = some (.int .u64 a0_9) := (blk_cell BK510.out 9).trans rfl; have hcz249_10 : w247.cell? ⟨gb510, 10, none⟩ = some (.int .u64 a0_10) := (blk_cell BK510.out 10).trans rfl; have hcz249_11 : w247.cell? ⟨gb510, 11, none⟩ = some (.int .u64 a0_11) := (blk_cell BK510.out 11).trans rfl; have hcz249_12 : w247.cell? ⟨gb510, 12, none⟩ = some (.int .u64 a0_12) := (blk_cell BK510.out 12).trans rfl; have hfz249_0 := blk_frozen BK510.out 0; have hfz249_1 := blk_frozen BK510.out 1; have hfz249_2 := blk_frozen BK510.out 2; have hfz249_3 := blk_frozen BK510.out 3; have hfz249_4 := blk_frozen BK510.out 4; have hfz249_5 := blk_frozen BK510.out 5; have hfz249_6 := blk_frozen BK510.out 6; have hfz249_7 := blk_frozen BK510.out 7; have hfz249_8 := blk_frozen BK510.out 8; have hfz249_9 := blk_frozen BK510.out 9; have hfz249_10 := blk_frozen BK510.out 10; have hfz249_11 := blk_frozen BK510.out 11; have hfz249_12 := blk_frozen BK510.out 12) | ((with_reducible refine gate_callee (f := 16) rfl ?_); refine gm (some 34) Try.func16 #[.agg #[.int .i64 a0_0, .int .u64 a0_1, .int .u64 a0_2, .int .u64 a0_3, .int .u64 a0_4], .agg #[.int .u64 a0_5, .int .u64 a0_6, .int .u64 a0_7], .int .u64 a0_11, .int .u64 a0_12] (policy_Admit.calls k a0_0 a0_1 a0_2 a0_3 a0_4 a0_5 a0_6 a0_7 a0_11 a0_12 t514 t515 t516 t517 t518 _ A240.out) ?_; intro w250 hb; have n0_ := bb BK510 hb; have n1_ := bb BK512 hb; have n2_ := bs HB hb; clear BK510; clear BK512; clear HB; have BK510 := n0_; have BK512 := n1_; have HB := n2_; clear n0_ n1_ n2_; (try clear hb); (try clear hb2); (try clear hk); (try clear hi)) | ((with_reducible refine gate_dst (N := 6) rfl ?_); refine bx 6 #[.int .u64 0, .int .u64 0, .int .u64 0] 29 ?_; intro gb519 hg w251 hbox hb; have n0_ := bb BK510 hb; have n1_ := bb BK512 hb; have n2_ := bs HB hb; have n3_ := Aside0.mk (hbox); have n4_ := sz HB hg; have n5_ := sz HB hg; have n6_ := nl BK510 hg; have n7_ := nr BK510 hg; have n8_ := nl BK512 hg; have n9_ := nr BK512 hg; clear BK510; clear BK512; clear HB; have BK510 := n0_; have BK512 := n1_; have HB := n2_; have BK519 := n3_; have GW519 := n4_; have GE519 := n5_; have NB510_519 := n6_; have NB519_510 := n7_; have NB512_519 := n8_; have NB519_512 := n9_; clear n0_ n1_ n2_ n3_ n4_ n5_ n6_ n7_ n8_ n9_; clear hb hbox hg; have hnb252 := NB519_510.out; have hnc252 := NB510_519.out; have hnb253 := NB519_512.out; have hnc253 := NB512_519.out; obtain ⟨hcz254_0, hcz254_1, hcz254_2, hfz254_0, hfz254_1, hfz254_2⟩ := bc3 BK519))
      go_ret
      exact ⟨re, bw HB⟩
  · replace c4 := Bool.eq_false_iff.mpr c4
    subst c4
    have H1 : (some false) = some r := by rw [if_neg (show ¬ (false = true) by decide)] at H; exact H
    clear H
    have H := H1
    clear H1
    obtain rfl := Option.some.inj H
    go_enter Try.func7, Try.ntmps7
    go_wp2_with (first | ((with_reducible refine gate_dst (N := 2) rfl ?_); refine bx 2 #[.int .i64 a0_0, .int .u64 a0_1, .int .u64 a0_2, .int .u64 a0_3, .int .u64 a0_4, .int .u64 a0_5, .int .u64 a0_6, .int .u64 a0_7, .int .u64 a0_8, .int .u64 a0_9, .int .u64 a0_10, .int .u64 a0_11, .int .u64 a0_12] 31 ?_; intro gb510 hg w255 hbox hb; have n0_ := bs HB hb; have n1_ := Aside0.mk (hbox); have n2_ := sz HB hg; have n3_ := sz HB hg; clear HB; have HB := n0_; have BK510 := n1_; have GW510 := n2_; have GE510 := n3_; clear n0_ n1_ n2_ n3_; clear hb hbox hg) | ((with_reducible refine gate_callee (f := 14) rfl ?_); refine gm (some 19) Try.func14 #[] (turnstilelaw06_awake.calls k  false _ A3.out) ?_; intro w256 hb; have n0_ := bb BK510 hb; have n1_ := bs HB hb; clear BK510; clear HB; have BK510 := n0_; have HB := n1_; clear n0_ n1_; (try clear hb); (try clear hb2); (try clear hk); (try clear hi)))
    go_ret
    exact ⟨re, bw HB⟩


end Go.Proofs.Ytokfhdpokemekaa.Q
