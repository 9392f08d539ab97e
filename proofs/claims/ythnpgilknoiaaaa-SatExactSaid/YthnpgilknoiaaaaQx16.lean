/- Written by the session's own program hyb.py: what functions of the program compute; Lean checks it. -/
import Derived.Test.YthnpgilknoiaaaaQx0
import Derived.Test.YthnpgilknoiaaaaQx1
import Derived.Test.YthnpgilknoiaaaaQx4
import Derived.Test.YthnpgilknoiaaaaQx5
import Derived.Test.YthnpgilknoiaaaaQx6
import Derived.Test.YthnpgilknoiaaaaQx10
import Derived.Test.YthnpgilknoiaaaaQx11
import Derived.Test.YthnpgilknoiaaaaQx12
import Derived.Test.YthnpgilknoiaaaaQx13
import Derived.Test.YthnpgilknoiaaaaQx14
import Derived.Test.YthnpgilknoiaaaaQx15
namespace Go.Proofs.Ythnpgilknoiaaaa.Q
open Go.RowKit Go.Proofs.YthnpgilknoiaaaaW.PrintWords Go.Proofs.YthnpgilknoiaaaaW.PrintLast Go.Proofs.YthnpgilknoiaaaaW.PrintMore Go.Proofs.YthnpgilknoiaaaaW.PrintShort
attribute [local go_sem] run_Add64 run_Sub64
attribute [local go_sem] max2_int min2_int max_two min_two max_three min_three max_four min_four   -- for this text's walks alone
set_option linter.unusedVariables false
set_option linter.unusedSimpArgs false

attribute [local go_sem high] eqA24
/-! ### turnstilelaw03_right: function 23 -/
mutual
def turnstilelaw03_right.j0 : Nat → Bool → Int → Int → Int → Int → Option (Bool)
  | 0, _, _, _, _, _ => none
  | k + 1, x51, x312000, x312001, x312002, x312003 => if x51 = true then (some false) else ((sat_Of.f x312000).bind fun bt318 => ((turnstileref03_Of.f x312000).bind fun bt320 => ((turnstilelaw03_wide.f bt320.1 bt320.2).bind fun bt322 => (if (!(bt318.1 == bt322.1) || (!(bt318.2 == bt322.2))) = true then (turnstilelaw03_right.j1 k true x312000 x312001 x312002 x312003) else ((sat_Product.f x312000 x312002).bind fun bt324 => ((turnstileref03_Product.f k x312000 x312002).bind fun bt326 => ((turnstilelaw03_wide.f bt326.1 bt326.2).bind fun bt328 => (turnstilelaw03_right.j1 k (!(bt324.1 == bt328.1) || (!(bt324.2 == bt328.2))) x312000 x312001 x312002 x312003))))))))
def turnstilelaw03_right.j1 : Nat → Bool → Int → Int → Int → Int → Option (Bool)
  | 0, _, _, _, _, _ => none
  | k + 1, x73, x312000, x312001, x312002, x312003 => if x73 = true then (some false) else ((turnstilelaw03_wide.f x312000 x312001).bind fun bt332 => ((turnstilelaw03_wide.f x312002 x312003).bind fun bt335 => ((sat_Wide_Plus.f bt332.1 bt332.2 bt335.1 bt335.2).bind fun bt338 => ((turnstileref03_Wide_Plus.f k x312000 x312001 x312002 x312003).bind fun bt340 => ((turnstilelaw03_wide.f bt340.1 bt340.2).bind fun bt342 => (if (!(bt338.1 == bt342.1) || (!(bt338.2 == bt342.2))) = true then (turnstilelaw03_right.j2 k true x312000 x312001 x312002 x312003 x312000 x312001 bt332.1 bt332.2) else ((sat_Wide_Minus.f bt332.1 bt332.2 bt335.1 bt335.2).bind fun bt344 => ((turnstileref03_Wide_Minus.f k x312000 x312001 x312002 x312003).bind fun bt346 => ((turnstilelaw03_wide.f bt346.1 bt346.2).bind fun bt348 => (if (!(bt344.1 == bt348.1) || (!(bt344.2 == bt348.2))) = true then (turnstilelaw03_right.j2 k true x312000 x312001 x312002 x312003 x312000 x312001 bt332.1 bt332.2) else ((sat_Wide_Cmp.f bt332.1 bt332.2 bt335.1 bt335.2).bind fun t350 => ((turnstileref03_Wide_Cmp.f k x312000 x312001 x312002 x312003).bind fun t351 => (if t350 = t351 then ((sat_Wide_Minus.f bt335.1 bt335.2 bt332.1 bt332.2).bind fun bt352 => ((turnstileref03_Wide_Minus.f k x312002 x312003 x312000 x312001).bind fun bt354 => ((turnstilelaw03_wide.f bt354.1 bt354.2).bind fun bt356 => (turnstilelaw03_right.j2 k (!(bt352.1 == bt356.1) || (!(bt352.2 == bt356.2))) x312000 x312001 x312002 x312003 x312000 x312001 bt332.1 bt332.2)))) else (turnstilelaw03_right.j2 k true x312000 x312001 x312002 x312003 x312000 x312001 bt332.1 bt332.2))))))))))))))
def turnstilelaw03_right.j2 : Nat → Bool → Int → Int → Int → Int → Int → Int → Int → Int → Option (Bool)
  | 0, _, _, _, _, _, _, _, _, _ => none
  | k + 1, x124, x312000, x312001, x312002, x312003, x331000, x331001, x335000, x335001 => if x124 = true then (some false) else ((sat_Wide_Narrow.f x335000 x335001).bind fun bt358 => ((turnstileref03_Wide_Narrow.f x331000 x331001).bind fun bt360 => (if bt358.1 = bt360.1 then (turnstilelaw03_right.j3 k (bt358.2 != bt360.2) x312000 x312001 x312002 x312003 x331000 x331001 x335000 x335001) else (turnstilelaw03_right.j3 k true x312000 x312001 x312002 x312003 x331000 x331001 x335000 x335001))))
def turnstilelaw03_right.j3 : Nat → Bool → Int → Int → Int → Int → Int → Int → Int → Int → Option (Bool)
  | 0, _, _, _, _, _, _, _, _, _ => none
  | k + 1, x142, x312000, x312001, x312002, x312003, x331000, x331001, x335000, x335001 => if x142 = true then (some false) else ((sat_Wide_DivMod.f k x335000 x335001 x312002).bind fun bt362 => ((turnstileref03_Wide_DivMod.f k x331000 x331001 x312002).bind fun bt366 => ((turnstilelaw03_wide.f bt366.1 bt366.2.1).bind fun bt370 => (if (bt362.1 == bt370.1 && (bt362.2.1 == bt370.2)) = true then (some (bt362.2.2 == bt366.2.2)) else (some false)))))
end
def turnstilelaw03_right.f (k : Nat) (a0_0 : Int) (a0_1 : Int) (a0_2 : Int) (a0_3 : Int) : Option (Bool) := (sat_Add.f a0_0 a0_1).bind fun t312 => ((turnstileref03_Add.f k a0_0 a0_1).bind fun t313 => (if t312 = t313 then ((sat_Sub.f a0_0 a0_1).bind fun t314 => ((turnstileref03_Sub.f a0_0 a0_1).bind fun t315 => (if t314 = t315 then ((sat_Mul.f a0_0 a0_1).bind fun t316 => ((turnstileref03_Mul.f k a0_0 a0_1).bind fun t317 => (turnstilelaw03_right.j0 k (t316 != t317) a0_0 a0_1 a0_2 a0_3))) else (turnstilelaw03_right.j0 k true a0_0 a0_1 a0_2 a0_3)))) else (turnstilelaw03_right.j0 k true a0_0 a0_1 a0_2 a0_3)))
theorem turnstilelaw03_right.mono_l : ∀ k, (∀ y0 y1 y2 y3 y4, LeO (turnstilelaw03_right.j0 k y0 y1 y2 y3 y4) (turnstilelaw03_right.j0 (k + 1) y0 y1 y2 y3 y4)) ∧ (∀ y0 y1 y2 y3 y4, LeO (turnstilelaw03_right.j1 k y0 y1 y2 y3 y4) (turnstilelaw03_right.j1 (k + 1) y0 y1 y2 y3 y4)) ∧ (∀ y0 y1 y2 y3 y4 y5 y6 y7 y8, LeO (turnstilelaw03_right.j2 k y0 y1 y2 y3 y4 y5 y6 y7 y8) (turnstilelaw03_right.j2 (k + 1) y0 y1 y2 y3 y4 y5 y6 y7 y8)) ∧ (∀ y0 y1 y2 y3 y4 y5 y6 y7 y8, LeO (turnstilelaw03_right.j3 k y0 y1 y2 y3 y4 y5 y6 y7 y8) (turnstilelaw03_right.j3 (k + 1) y0 y1 y2 y3 y4 y5 y6 y7 y8))
  | 0 => ⟨fun _ _ _ _ _ r h => by simp [turnstilelaw03_right.j0] at h, fun _ _ _ _ _ r h => by simp [turnstilelaw03_right.j1] at h, fun _ _ _ _ _ _ _ _ _ r h => by simp [turnstilelaw03_right.j2] at h, fun _ _ _ _ _ _ _ _ _ r h => by simp [turnstilelaw03_right.j3] at h⟩
  | k + 1 => by
    obtain ⟨ih0, ih1, ih2, ih3⟩ := turnstilelaw03_right.mono_l k
    refine ⟨?_, ?_, ?_, ?_⟩
    · intro y0 y1 y2 y3 y4
      unfold turnstilelaw03_right.j0
      repeat' first
      | (with_reducible exact ih0 _ _ _ _ _)
      | (with_reducible exact ih1 _ _ _ _ _)
      | (with_reducible exact ih2 _ _ _ _ _ _ _ _ _)
      | (with_reducible exact ih3 _ _ _ _ _ _ _ _ _)
      | (with_reducible exact sat_Wide_DivMod.mono _ _ _ _)
      | (with_reducible exact turnstileref03_Add.mono _ _ _)
      | (with_reducible exact turnstileref03_Mul.mono _ _ _)
      | (with_reducible exact turnstileref03_Product.mono _ _ _)
      | (with_reducible exact turnstileref03_Wide_Cmp.mono _ _ _ _ _)
      | (with_reducible exact turnstileref03_Wide_DivMod.mono _ _ _ _)
      | (with_reducible exact turnstileref03_Wide_Minus.mono _ _ _ _ _)
      | (with_reducible exact turnstileref03_Wide_Plus.mono _ _ _ _ _)
      | (with_reducible exact LeO.refl _)
      | (with_reducible exact LeO.none _)
      | (with_reducible refine LeO.ite ?_ ?_)
      | (with_reducible refine LeO.bind ?_ (fun _ => ?_))
      | exact ih0 _ _ _ _ _
      | exact ih1 _ _ _ _ _
      | exact ih2 _ _ _ _ _ _ _ _ _
      | exact ih3 _ _ _ _ _ _ _ _ _
      | exact sat_Wide_DivMod.mono _ _ _ _
      | exact turnstileref03_Add.mono _ _ _
      | exact turnstileref03_Mul.mono _ _ _
      | exact turnstileref03_Product.mono _ _ _
      | exact turnstileref03_Wide_Cmp.mono _ _ _ _ _
      | exact turnstileref03_Wide_DivMod.mono _ _ _ _
      | exact turnstileref03_Wide_Minus.mono _ _ _ _ _
      | exact turnstileref03_Wide_Plus.mono _ _ _ _ _
      | exact LeO.none _
      | refine LeO.ite ?_ ?_
      | refine LeO.bind ?_ (fun _ => ?_)
    · intro y0 y1 y2 y3 y4
      unfold turnstilelaw03_right.j1
      repeat' first
      | (with_reducible exact ih0 _ _ _ _ _)
      | (with_reducible exact ih1 _ _ _ _ _)
      | (with_reducible exact ih2 _ _ _ _ _ _ _ _ _)
      | (with_reducible exact ih3 _ _ _ _ _ _ _ _ _)
      | (with_reducible exact sat_Wide_DivMod.mono _ _ _ _)
      | (with_reducible exact turnstileref03_Add.mono _ _ _)
      | (with_reducible exact turnstileref03_Mul.mono _ _ _)
      | (with_reducible exact turnstileref03_Product.mono _ _ _)
      | (with_reducible exact turnstileref03_Wide_Cmp.mono _ _ _ _ _)
      | (with_reducible exact turnstileref03_Wide_DivMod.mono _ _ _ _)
      | (with_reducible exact turnstileref03_Wide_Minus.mono _ _ _ _ _)
      | (with_reducible exact turnstileref03_Wide_Plus.mono _ _ _ _ _)
      | (with_reducible exact LeO.refl _)
      | (with_reducible exact LeO.none _)
      | (with_reducible refine LeO.ite ?_ ?_)
      | (with_reducible refine LeO.bind ?_ (fun _ => ?_))
      | exact ih0 _ _ _ _ _
      | exact ih1 _ _ _ _ _
      | exact ih2 _ _ _ _ _ _ _ _ _
      | exact ih3 _ _ _ _ _ _ _ _ _
      | exact sat_Wide_DivMod.mono _ _ _ _
      | exact turnstileref03_Add.mono _ _ _
      | exact turnstileref03_Mul.mono _ _ _
      | exact turnstileref03_Product.mono _ _ _
      | exact turnstileref03_Wide_Cmp.mono _ _ _ _ _
      | exact turnstileref03_Wide_DivMod.mono _ _ _ _
      | exact turnstileref03_Wide_Minus.mono _ _ _ _ _
      | exact turnstileref03_Wide_Plus.mono _ _ _ _ _
      | exact LeO.none _
      | refine LeO.ite ?_ ?_
      | refine LeO.bind ?_ (fun _ => ?_)
    · intro y0 y1 y2 y3 y4 y5 y6 y7 y8
      unfold turnstilelaw03_right.j2
      repeat' first
      | (with_reducible exact ih0 _ _ _ _ _)
      | (with_reducible exact ih1 _ _ _ _ _)
      | (with_reducible exact ih2 _ _ _ _ _ _ _ _ _)
      | (with_reducible exact ih3 _ _ _ _ _ _ _ _ _)
      | (with_reducible exact sat_Wide_DivMod.mono _ _ _ _)
      | (with_reducible exact turnstileref03_Add.mono _ _ _)
      | (with_reducible exact turnstileref03_Mul.mono _ _ _)
      | (with_reducible exact turnstileref03_Product.mono _ _ _)
      | (with_reducible exact turnstileref03_Wide_Cmp.mono _ _ _ _ _)
      | (with_reducible exact turnstileref03_Wide_DivMod.mono _ _ _ _)
      | (with_reducible exact turnstileref03_Wide_Minus.mono _ _ _ _ _)
      | (with_reducible exact turnstileref03_Wide_Plus.mono _ _ _ _ _)
      | (with_reducible exact LeO.refl _)
      | (with_reducible exact LeO.none _)
      | (with_reducible refine LeO.ite ?_ ?_)
      | (with_reducible refine LeO.bind ?_ (fun _ => ?_))
      | exact ih0 _ _ _ _ _
      | exact ih1 _ _ _ _ _
      | exact ih2 _ _ _ _ _ _ _ _ _
      | exact ih3 _ _ _ _ _ _ _ _ _
      | exact sat_Wide_DivMod.mono _ _ _ _
      | exact turnstileref03_Add.mono _ _ _
      | exact turnstileref03_Mul.mono _ _ _
      | exact turnstileref03_Product.mono _ _ _
      | exact turnstileref03_Wide_Cmp.mono _ _ _ _ _
      | exact turnstileref03_Wide_DivMod.mono _ _ _ _
      | exact turnstileref03_Wide_Minus.mono _ _ _ _ _
      | exact turnstileref03_Wide_Plus.mono _ _ _ _ _
      | exact LeO.none _
      | refine LeO.ite ?_ ?_
      | refine LeO.bind ?_ (fun _ => ?_)
    · intro y0 y1 y2 y3 y4 y5 y6 y7 y8
      unfold turnstilelaw03_right.j3
      repeat' first
      | (with_reducible exact ih0 _ _ _ _ _)
      | (with_reducible exact ih1 _ _ _ _ _)
      | (with_reducible exact ih2 _ _ _ _ _ _ _ _ _)
      | (with_reducible exact ih3 _ _ _ _ _ _ _ _ _)
      | (with_reducible exact sat_Wide_DivMod.mono _ _ _ _)
      | (with_reducible exact turnstileref03_Add.mono _ _ _)
      | (with_reducible exact turnstileref03_Mul.mono _ _ _)
      | (with_reducible exact turnstileref03_Product.mono _ _ _)
      | (with_reducible exact turnstileref03_Wide_Cmp.mono _ _ _ _ _)
      | (with_reducible exact turnstileref03_Wide_DivMod.mono _ _ _ _)
      | (with_reducible exact turnstileref03_Wide_Minus.mono _ _ _ _ _)
      | (with_reducible exact turnstileref03_Wide_Plus.mono _ _ _ _ _)
      | (with_reducible exact LeO.refl _)
      | (with_reducible exact LeO.none _)
      | (with_reducible refine LeO.ite ?_ ?_)
      | (with_reducible refine LeO.bind ?_ (fun _ => ?_))
      | exact ih0 _ _ _ _ _
      | exact ih1 _ _ _ _ _
      | exact ih2 _ _ _ _ _ _ _ _ _
      | exact ih3 _ _ _ _ _ _ _ _ _
      | exact sat_Wide_DivMod.mono _ _ _ _
      | exact turnstileref03_Add.mono _ _ _
      | exact turnstileref03_Mul.mono _ _ _
      | exact turnstileref03_Product.mono _ _ _
      | exact turnstileref03_Wide_Cmp.mono _ _ _ _ _
      | exact turnstileref03_Wide_DivMod.mono _ _ _ _
      | exact turnstileref03_Wide_Minus.mono _ _ _ _ _
      | exact turnstileref03_Wide_Plus.mono _ _ _ _ _
      | exact LeO.none _
      | refine LeO.ite ?_ ?_
      | refine LeO.bind ?_ (fun _ => ?_)
theorem turnstilelaw03_right.mono : ∀ a0 a1 a2 a3 k, LeO (turnstilelaw03_right.f k a0 a1 a2 a3) (turnstilelaw03_right.f (k + 1) a0 a1 a2 a3) := by
  intro a0 a1 a2 a3 k
  obtain ⟨ih0, ih1, ih2, ih3⟩ := turnstilelaw03_right.mono_l k
  unfold turnstilelaw03_right.f
  repeat' first
      | (with_reducible exact ih0 _ _ _ _ _)
      | (with_reducible exact ih1 _ _ _ _ _)
      | (with_reducible exact ih2 _ _ _ _ _ _ _ _ _)
      | (with_reducible exact ih3 _ _ _ _ _ _ _ _ _)
      | (with_reducible exact sat_Wide_DivMod.mono _ _ _ _)
      | (with_reducible exact turnstileref03_Add.mono _ _ _)
      | (with_reducible exact turnstileref03_Mul.mono _ _ _)
      | (with_reducible exact turnstileref03_Product.mono _ _ _)
      | (with_reducible exact turnstileref03_Wide_Cmp.mono _ _ _ _ _)
      | (with_reducible exact turnstileref03_Wide_DivMod.mono _ _ _ _)
      | (with_reducible exact turnstileref03_Wide_Minus.mono _ _ _ _ _)
      | (with_reducible exact turnstileref03_Wide_Plus.mono _ _ _ _ _)
      | (with_reducible exact LeO.refl _)
      | (with_reducible exact LeO.none _)
      | (with_reducible refine LeO.ite ?_ ?_)
      | (with_reducible refine LeO.bind ?_ (fun _ => ?_))
      | exact ih0 _ _ _ _ _
      | exact ih1 _ _ _ _ _
      | exact ih2 _ _ _ _ _ _ _ _ _
      | exact ih3 _ _ _ _ _ _ _ _ _
      | exact sat_Wide_DivMod.mono _ _ _ _
      | exact turnstileref03_Add.mono _ _ _
      | exact turnstileref03_Mul.mono _ _ _
      | exact turnstileref03_Product.mono _ _ _
      | exact turnstileref03_Wide_Cmp.mono _ _ _ _ _
      | exact turnstileref03_Wide_DivMod.mono _ _ _ _
      | exact turnstileref03_Wide_Minus.mono _ _ _ _ _
      | exact turnstileref03_Wide_Plus.mono _ _ _ _ _
      | exact LeO.none _
      | refine LeO.ite ?_ ?_
      | refine LeO.bind ?_ (fun _ => ?_)
def turnstilelaw03_right.T1 : Bool × List (List Nat × List Nat) := (true, [([], []), ([0], [0]), ([], []), ([2], [2]), ([1, 3], [1, 3]), ([], []), ([5], [5]), ([], []), ([7], [7]), ([6, 8, 4], [6, 8]), ([4, 9], [4, 9]), ([10, 9], [10]), ([11], [11]), ([12, 11], [11, 12]), ([11], [11]), ([14, 11], [11, 14]), ([13, 15, 11, 11], [11, 13, 15]), ([11], [11]), ([17, 11], [11, 17]), ([11], [11]), ([19, 11], [11, 19]), ([18, 20, 16, 11], [11, 18, 20]), ([16, 21, 11], [11, 16, 21]), ([11, 22], [11, 22]), ([23, 21], [23]), ([24], [24]), ([25, 24], [24, 25]), ([24], [24]), ([27, 24], [24, 27]), ([26, 28, 24, 24], [24, 26, 28]), ([24], [24]), ([30, 24], [24, 30]), ([24], [24]), ([32, 24], [24, 32]), ([31, 33, 29, 24], [24, 31, 33]), ([29, 34, 24], [24, 29, 34]), ([24, 35], [24, 35])])
def turnstilelaw03_right.B1 : List Nat := [0, 1, 0, 4, 15, 0, 32, 0, 128, 511, 1023, 2047, 4095, 8191, 4095, 20479, 65535, 4095, 135167, 4095, 528383, 2097151, 4194303, 8388607, 16777215, 33554431, 67108863, 33554431, 167772159, 536870911, 33554431, 1107296255, 33554431, 4328521727, 17179869183, 34359738367, 68719476735]
theorem turnstilelaw03_right.tab1 : rtab .any (opsOf Try.f23 1) = turnstilelaw03_right.T1 := by kernel_rfl
theorem turnstilelaw03_right.bits1 : waitsOk turnstilelaw03_right.T1.2 turnstilelaw03_right.B1 = true := by kernel_rfl
def turnstilelaw03_right.T3 : Bool × List (List Nat × List Nat) := (true, [([], []), ([0], [0]), ([1], [1]), ([], []), ([3], [3]), ([4, 2], [4]), ([5, 5], [5]), ([2, 6], [2, 6]), ([7, 6], [7]), ([8], [8]), ([9, 8], [8, 9]), ([8], [8]), ([11, 8], [8, 11]), ([10, 12, 8, 8], [8, 10, 12]), ([8], [8]), ([14, 8], [8, 14]), ([8], [8]), ([16, 8], [8, 16]), ([15, 17, 13, 8], [8, 15, 17]), ([18, 18, 8], [8, 18]), ([13, 19, 8], [8, 13, 19]), ([8, 20], [8, 20])])
def turnstilelaw03_right.B3 : List Nat := [0, 1, 3, 0, 8, 31, 63, 127, 255, 511, 1023, 511, 2559, 8191, 511, 16895, 511, 66047, 262143, 524287, 1048575, 2097151]
theorem turnstilelaw03_right.tab3 : rtab .any (opsOf Try.f23 3) = turnstilelaw03_right.T3 := by kernel_rfl
theorem turnstilelaw03_right.bits3 : waitsOk turnstilelaw03_right.T3.2 turnstilelaw03_right.B3 = true := by kernel_rfl
def turnstilelaw03_right.T9 : Bool × List (List Nat × List Nat) := (true, [([], []), ([], []), ([0, 1], [0, 1]), ([], []), ([], []), ([3, 4, 2], [3, 4]), ([5, 5], [5]), ([2, 6], [2, 6]), ([7, 6], [7]), ([8], [8]), ([8], [8]), ([9, 10, 8, 8], [8, 9, 10]), ([8], [8]), ([8], [8]), ([12, 13, 11, 8], [8, 12, 13]), ([14, 14, 8], [8, 14]), ([11, 15, 8], [8, 11, 15]), ([8, 16], [8, 16]), ([17, 15], [17]), ([18], [18]), ([18], [18]), ([19, 20, 18, 18], [18, 19, 20]), ([18], [18]), ([18], [18]), ([22, 23, 21, 18], [18, 22, 23]), ([21, 24, 18], [18, 21, 24]), ([18, 25], [18, 25]), ([26, 24], [26]), ([27], [27]), ([27], [27]), ([28, 29, 27, 27], [27, 28, 29]), ([27], [27]), ([27], [27]), ([31, 32, 30, 27], [27, 31, 32]), ([33, 33, 27], [27, 33]), ([30, 34, 27], [27, 30, 34]), ([27, 35], [27, 35])])
def turnstilelaw03_right.B9 : List Nat := [0, 0, 3, 0, 0, 31, 63, 127, 255, 511, 511, 2047, 511, 511, 16383, 32767, 65535, 131071, 262143, 524287, 524287, 2097151, 524287, 524287, 16777215, 33554431, 67108863, 134217727, 268435455, 268435455, 1073741823, 268435455, 268435455, 8589934591, 17179869183, 34359738367, 68719476735]
theorem turnstilelaw03_right.tab9 : rtab .any (opsOf Try.f23 9) = turnstilelaw03_right.T9 := by kernel_rfl
theorem turnstilelaw03_right.bits9 : waitsOk turnstilelaw03_right.T9.2 turnstilelaw03_right.B9 = true := by kernel_rfl
def turnstilelaw03_right.T17 : Bool × List (List Nat × List Nat) := (true, [([], []), ([], []), ([1], [1]), ([0, 2], [0, 2]), ([3, 2], [3]), ([4], [4]), ([4], [4]), ([5, 6, 4], [4, 5, 6]), ([4, 7], [4, 7]), ([8, 4, 0, 1, 2, 3, 4, 5, 6, 7, 8], [8])])
def turnstilelaw03_right.B17 : List Nat := [0, 0, 2, 7, 15, 31, 31, 127, 255, 511]
theorem turnstilelaw03_right.tab17 : rtab .any (opsOf Try.f23 17) = turnstilelaw03_right.T17 := by kernel_rfl
theorem turnstilelaw03_right.bits17 : waitsOk turnstilelaw03_right.T17.2 turnstilelaw03_right.B17 = true := by kernel_rfl
set_option maxHeartbeats 8000000 in
set_option maxRecDepth 100000 in
theorem turnstilelaw03_right.calls (k : Nat) (a0_0 : Int) (a0_1 : Int) (a0_2 : Int) (a0_3 : Int) (r : Bool) (w : World) (h : turnstilelaw03_right.f k a0_0 a0_1 a0_2 a0_3 = some r) :
    Calls Try.prog 23 #[.agg #[.int .u64 a0_0, .int .u64 a0_1, .int .u64 a0_2, .int .u64 a0_3]] w fun e w' => e = .returned (.bool r) ∧ Below w.heap.size w w' := by
  have hu40 := Try.underlying40
  have hu66 := Try.underlying66
  have hu24 := Try.underlying24
  have HB := Aside0.mk (Below.refl w.heap.size w)
  have H : ((sat_Add.f a0_0 a0_1).bind fun t312 => ((turnstileref03_Add.f k a0_0 a0_1).bind fun t313 => (if t312 = t313 then ((sat_Sub.f a0_0 a0_1).bind fun t314 => ((turnstileref03_Sub.f a0_0 a0_1).bind fun t315 => (if t314 = t315 then ((sat_Mul.f a0_0 a0_1).bind fun t316 => ((turnstileref03_Mul.f k a0_0 a0_1).bind fun t317 => (turnstilelaw03_right.j0 k (t316 != t317) a0_0 a0_1 a0_2 a0_3))) else (turnstilelaw03_right.j0 k true a0_0 a0_1 a0_2 a0_3)))) else (turnstilelaw03_right.j0 k true a0_0 a0_1 a0_2 a0_3)))) = some r := h
  clear h
  have HC2 := Aside0.mk H
  clear H
  go_enter Try.func23, Try.ntmps23
  go_upto_region 1 with (first | ((with_reducible refine gate_dst (N := 1) rfl ?_); refine bx 1 #[.int .u64 a0_0, .int .u64 a0_1, .int .u64 a0_2, .int .u64 a0_3] 40 ?_; intro gb311 hg w3 hbox hb; have n0_ := bs HB hb; have n1_ := Aside0.mk (hbox); have n2_ := sz HB hg; have n3_ := sz HB hg; clear HB; have HB := n0_; have BK311 := n1_; have GW311 := n2_; have GE311 := n3_; clear n0_ n1_ n2_ n3_; clear hb hbox hg))
  (try simp only [Act.put, List.setIfInBounds_toArray, List.set_cons_zero, List.set_cons_succ])
  go_cut [51] (fun v51 wc => ∃ (kq : Nat) (x51_1 : Bool), v51 = .bool x51_1 ∧ Aside0 (turnstilelaw03_right.j0 kq x51_1 a0_0 a0_1 a0_2 a0_3 = some r) ∧ Aside0 (kq ≤ k) ∧ Aside0 (wc.heap[gb311]? = some (.cells #[.int .u64 a0_0, .int .u64 a0_1, .int .u64 a0_2, .int .u64 a0_3] 40 (0, 0))) ∧ Aside0 (Below w.heap.size w wc))
  case first =>
    have H := HC2.out
    clear HC2
    replace H := Option.bind_eq_some_iff.mp H
    obtain ⟨t312, A40, H⟩ := H
    replace H : ((turnstileref03_Add.f k a0_0 a0_1).bind fun t313 => (if t312 = t313 then ((sat_Sub.f a0_0 a0_1).bind fun t314 => ((turnstileref03_Sub.f a0_0 a0_1).bind fun t315 => (if t314 = t315 then ((sat_Mul.f a0_0 a0_1).bind fun t316 => ((turnstileref03_Mul.f k a0_0 a0_1).bind fun t317 => (turnstilelaw03_right.j0 k (t316 != t317) a0_0 a0_1 a0_2 a0_3))) else (turnstilelaw03_right.j0 k true a0_0 a0_1 a0_2 a0_3)))) else (turnstilelaw03_right.j0 k true a0_0 a0_1 a0_2 a0_3))) = some r := H
    have A4 := Aside0.mk A40
    clear A40
    replace H := Option.bind_eq_some_iff.mp H
    obtain ⟨t313, A50, H⟩ := H
    replace H : (if t312 = t313 then ((sat_Sub.f a0_0 a0_1).bind fun t314 => ((turnstileref03_Sub.f a0_0 a0_1).bind fun t315 => (if t314 = t315 then ((sat_Mul.f a0_0 a0_1).bind fun t316 => ((turnstileref03_Mul.f k a0_0 a0_1).bind fun t317 => (turnstilelaw03_right.j0 k (t316 != t317) a0_0 a0_1 a0_2 a0_3))) else (turnstilelaw03_right.j0 k true a0_0 a0_1 a0_2 a0_3)))) else (turnstilelaw03_right.j0 k true a0_0 a0_1 a0_2 a0_3)) = some r := H
    have A5 := Aside0.mk A50
    clear A50
    by_cases c6 : t312 = t313
    · rw [if_pos c6] at H
      have c6b0 : (t312 == t313) = true := beq_iff_eq.mpr c6
      have c6b1 : (t312 != t313) = false := bne_eq_false_iff_eq.mpr c6
      clear c6
      (first | rw [c6b0] | (simp only [i64_w, i32_w]; rw [c6b0]) | skip)
      replace H := Option.bind_eq_some_iff.mp H
      obtain ⟨t314, A70, H⟩ := H
      replace H : ((turnstileref03_Sub.f a0_0 a0_1).bind fun t315 => (if t314 = t315 then ((sat_Mul.f a0_0 a0_1).bind fun t316 => ((turnstileref03_Mul.f k a0_0 a0_1).bind fun t317 => (turnstilelaw03_right.j0 k (t316 != t317) a0_0 a0_1 a0_2 a0_3))) else (turnstilelaw03_right.j0 k true a0_0 a0_1 a0_2 a0_3))) = some r := H
      have A7 := Aside0.mk A70
      clear A70
      replace H := Option.bind_eq_some_iff.mp H
      obtain ⟨t315, A80, H⟩ := H
      replace H : (if t314 = t315 then ((sat_Mul.f a0_0 a0_1).bind fun t316 => ((turnstileref03_Mul.f k a0_0 a0_1).bind fun t317 => (turnstilelaw03_right.j0 k (t316 != t317) a0_0 a0_1 a0_2 a0_3))) else (turnstilelaw03_right.j0 k true a0_0 a0_1 a0_2 a0_3)) = some r := H
      have A8 := Aside0.mk A80
      clear A80
      by_cases c9 : t314 = t315
      · rw [if_pos c9] at H
        have c9b0 : (t314 == t315) = true := beq_iff_eq.mpr c9
        have c9b1 : (t314 != t315) = false := bne_eq_false_iff_eq.mpr c9
        clear c9
        replace H := Option.bind_eq_some_iff.mp H
        obtain ⟨t316, A100, H⟩ := H
        replace H : ((turnstileref03_Mul.f k a0_0 a0_1).bind fun t317 => (turnstilelaw03_right.j0 k (t316 != t317) a0_0 a0_1 a0_2 a0_3)) = some r := H
        have A10 := Aside0.mk A100
        clear A100
        replace H := Option.bind_eq_some_iff.mp H
        obtain ⟨t317, A110, H⟩ := H
        replace H : (turnstilelaw03_right.j0 k (t316 != t317) a0_0 a0_1 a0_2 a0_3) = some r := H
        have A11 := Aside0.mk A110
        clear A110
        have H' := Aside0.mk H
        clear H
        try go_wp2
        have n0_ := Aside0.mk (blk_drew BK311.out)
        have n1_ := Aside0.mk (below_drew1 HB.out)
        clear BK311
        clear HB
        have BK311 := n0_
        have HB := n1_
        clear n0_ n1_
        refine start_ (n := 37) (S := fun w' => w'.cell? ⟨gb311, 0, none⟩ = some (.int .u64 a0_0) ∧ w'.cell? ⟨gb311, 1, none⟩ = some (.int .u64 a0_1) ∧ w'.cell? ⟨gb311, 2, none⟩ = some (.int .u64 a0_2) ∧ w'.cell? ⟨gb311, 3, none⟩ = some (.int .u64 a0_3)) (ds := []) #[false, false, false, false, false, false, false, false, false, false, false, false, false, false, false, false, false, false, false, false, false, false, false, false, false, false, false, false, false, false, false, false, false, false, false, false, false] (by kernel_rfl) rfl rfl ⟨(blk_cell BK311.out 0).trans rfl, (blk_cell BK311.out 1).trans rfl, (blk_cell BK311.out 2).trans rfl, (blk_cell BK311.out 3).trans rfl⟩ (fun hHeld => ?_); refine with_tabW turnstilelaw03_right.tab1 turnstilelaw03_right.bits1 (fun HT_ HW_ => ?_)
        generalize w3.drew = w12 at BK311 HB hHeld ⊢
        refine chain_ (fuel := 29) [(0, 0, some 15), (2, 0, some 17), (5, 0, some 20), (7, 0, some 22), (1, 1, some 16), (3, 1, some 18), (6, 1, some 21), (8, 1, some 23)] #[true, true, true, true, false, true, true, true, true, false, false, false, false, false, false, false, false, false, false, false, false, false, false, false, false, false, false, false, false, false, false, false, false, false, false, false, false] HT_.out HW_.out (by kernel_rfl) (fun _ _ _ _ _ h => h) (Or.inr hHeld) rfl ?_
        (iterate 4 refine lkP ?_); (iterate 4 refine lkT ?_); refine .nil ?_
        refine one_ (i := 4) (N := some 19) #[true, true, true, true, true, true, true, true, true, false, false, false, false, false, false, false, false, false, false, false, false, false, false, false, false, false, false, false, false, false, false, false, false, false, false, false, false] rfl rfl (one_of HT_.out (by kernel_rfl)) (by decide) (fun K hK => ?_)
        refine ge Try.func24 #[.int .u64 a0_0, .int .u64 a0_1] ?_
        with_reducible refine (sat_Add.calls a0_0 a0_1 t312 _ A4.out).mono ?_
        rintro e w' ⟨rfl, ⟨nd, rfl⟩⟩
        refine ⟨_, rfl, ?_⟩
        refine hK.out _ _ ⟨(blk_cell BK311.out 0).trans rfl, (blk_cell BK311.out 1).trans rfl, (blk_cell BK311.out 2).trans rfl, (blk_cell BK311.out 3).trans rfl⟩ (fun hHeld => ?_)
        clear hK K
        refine norm_ (a' := ?_) ?_ ?_
        rotate_left
        · show Act.put _ (some 19) _ = _
          simp only [Act.put, List.setIfInBounds_toArray, List.set_cons_zero, List.set_cons_succ, i64_w, i32_w]
          rfl
        refine one_ (i := 9) (N := some 24) #[true, true, true, true, true, true, true, true, true, true, false, false, false, false, false, false, false, false, false, false, false, false, false, false, false, false, false, false, false, false, false, false, false, false, false, false, false] rfl rfl (one_of HT_.out (by kernel_rfl)) (by decide) (fun K hK => ?_)
        refine ge Try.func43 #[.int .u64 a0_0, .int .u64 a0_1] ?_
        with_reducible refine (turnstileref03_Add.calls k a0_0 a0_1 t313 _ A5.out).mono ?_
        rintro e w13 ⟨rfl, hb⟩
        refine ⟨_, rfl, ?_⟩
        have n0_ := bb BK311 hb
        have n1_ := bs HB hb
        clear BK311
        clear HB
        have BK311 := n0_
        have HB := n1_
        clear n0_ n1_
        (try clear hb)
        (try clear hb2)
        (try clear hk)
        (try clear hi)
        refine hK.out _ _ ⟨(blk_cell BK311.out 0).trans rfl, (blk_cell BK311.out 1).trans rfl, (blk_cell BK311.out 2).trans rfl, (blk_cell BK311.out 3).trans rfl⟩ (fun hHeld => ?_)
        clear hK K
        refine norm_ (a' := ?_) ?_ ?_
        rotate_left
        · show Act.put _ (some 24) _ = _
          simp only [Act.put, List.setIfInBounds_toArray, List.set_cons_zero, List.set_cons_succ, i64_w, i32_w]
          rfl
        refine chain_ (fuel := 17) [(10, 0, some 25), (11, 0, some 26), (12, 0, some 27), (14, 0, some 29), (17, 0, some 32), (19, 0, some 34), (13, 1, some 28), (15, 1, some 30), (18, 1, some 33), (20, 1, some 35)] #[true, true, true, true, true, true, true, true, true, true, true, true, true, true, true, true, false, true, true, true, true, false, false, false, false, false, false, false, false, false, false, false, false, false, false, false, false] HT_.out HW_.out (by kernel_rfl) (fun _ _ _ _ _ h => h) (Or.inr hHeld) rfl ?_
        (iterate 6 refine lkP ?_); (iterate 4 refine lkT ?_); refine .nil ?_
        refine one_ (i := 16) (N := some 31) #[true, true, true, true, true, true, true, true, true, true, true, true, true, true, true, true, true, true, true, true, true, false, false, false, false, false, false, false, false, false, false, false, false, false, false, false, false] rfl rfl (one_of HT_.out (by kernel_rfl)) (by decide) (fun K hK => ?_)
        refine ge Try.func26 #[.int .u64 a0_0, .int .u64 a0_1] ?_
        with_reducible refine (sat_Sub.calls a0_0 a0_1 t314 _ A7.out).mono ?_
        rintro e w' ⟨rfl, ⟨nd, rfl⟩⟩
        refine ⟨_, rfl, ?_⟩
        refine hK.out _ _ ⟨(blk_cell BK311.out 0).trans rfl, (blk_cell BK311.out 1).trans rfl, (blk_cell BK311.out 2).trans rfl, (blk_cell BK311.out 3).trans rfl⟩ (fun hHeld => ?_)
        clear hK K
        refine norm_ (a' := ?_) ?_ ?_
        rotate_left
        · show Act.put _ (some 31) _ = _
          simp only [Act.put, List.setIfInBounds_toArray, List.set_cons_zero, List.set_cons_succ, i64_w, i32_w]
          rfl
        refine one_ (i := 21) (N := some 36) #[true, true, true, true, true, true, true, true, true, true, true, true, true, true, true, true, true, true, true, true, true, true, false, false, false, false, false, false, false, false, false, false, false, false, false, false, false] rfl rfl (one_of HT_.out (by kernel_rfl)) (by decide) (fun K hK => ?_)
        refine ge Try.func44 #[.int .u64 a0_0, .int .u64 a0_1] ?_
        with_reducible refine (turnstileref03_Sub.calls a0_0 a0_1 t315 _ A8.out).mono ?_
        rintro e w' ⟨rfl, ⟨nd, rfl⟩⟩
        refine ⟨_, rfl, ?_⟩
        refine hK.out _ _ ⟨(blk_cell BK311.out 0).trans rfl, (blk_cell BK311.out 1).trans rfl, (blk_cell BK311.out 2).trans rfl, (blk_cell BK311.out 3).trans rfl⟩ (fun hHeld => ?_)
        clear hK K
        refine norm_ (a' := ?_) ?_ ?_
        rotate_left
        · show Act.put _ (some 36) _ = _
          simp only [Act.put, List.setIfInBounds_toArray, List.set_cons_zero, List.set_cons_succ, i64_w, i32_w]
          rfl
        refine chain_ (fuel := 4) [(22, 0, some 37), (23, 0, some 38), (24, 0, some 39), (25, 0, some 40), (27, 0, some 42), (30, 0, some 45), (32, 0, some 47), (26, 1, some 41), (28, 1, some 43), (31, 1, some 46), (33, 1, some 48)] #[true, true, true, true, true, true, true, true, true, true, true, true, true, true, true, true, true, true, true, true, true, true, true, true, true, true, true, true, true, false, true, true, true, true, false, false, false] HT_.out HW_.out (by kernel_rfl) (fun _ _ _ _ _ h => h) (Or.inr hHeld) rfl ?_
        (iterate 7 refine lkP ?_); (iterate 4 refine lkT ?_); refine .nil ?_
        refine one_ (i := 29) (N := some 44) #[true, true, true, true, true, true, true, true, true, true, true, true, true, true, true, true, true, true, true, true, true, true, true, true, true, true, true, true, true, true, true, true, true, true, false, false, false] rfl rfl (one_of HT_.out (by kernel_rfl)) (by decide) (fun K hK => ?_)
        refine ge Try.func25 #[.int .u64 a0_0, .int .u64 a0_1] ?_
        with_reducible refine (sat_Mul.calls a0_0 a0_1 t316 _ A10.out).mono ?_
        rintro e w' ⟨rfl, ⟨nd, rfl⟩⟩
        refine ⟨_, rfl, ?_⟩
        refine hK.out _ _ ⟨(blk_cell BK311.out 0).trans rfl, (blk_cell BK311.out 1).trans rfl, (blk_cell BK311.out 2).trans rfl, (blk_cell BK311.out 3).trans rfl⟩ (fun hHeld => ?_)
        clear hK K
        refine norm_ (a' := ?_) ?_ ?_
        rotate_left
        · show Act.put _ (some 44) _ = _
          simp only [Act.put, List.setIfInBounds_toArray, List.set_cons_zero, List.set_cons_succ, i64_w, i32_w]
          rfl
        refine one_ (i := 34) (N := some 49) #[true, true, true, true, true, true, true, true, true, true, true, true, true, true, true, true, true, true, true, true, true, true, true, true, true, true, true, true, true, true, true, true, true, true, true, false, false] rfl rfl (one_of HT_.out (by kernel_rfl)) (by decide) (fun K hK => ?_)
        refine ge Try.func45 #[.int .u64 a0_0, .int .u64 a0_1] ?_
        with_reducible refine (turnstileref03_Mul.calls k a0_0 a0_1 t317 _ A11.out).mono ?_
        rintro e w14 ⟨rfl, hb⟩
        refine ⟨_, rfl, ?_⟩
        have n0_ := bb BK311 hb
        have n1_ := bs HB hb
        clear BK311
        clear HB
        have BK311 := n0_
        have HB := n1_
        clear n0_ n1_
        (try clear hb)
        (try clear hb2)
        (try clear hk)
        (try clear hi)
        refine hK.out _ _ ⟨(blk_cell BK311.out 0).trans rfl, (blk_cell BK311.out 1).trans rfl, (blk_cell BK311.out 2).trans rfl, (blk_cell BK311.out 3).trans rfl⟩ (fun hHeld => ?_)
        clear hK K
        refine norm_ (a' := ?_) ?_ ?_
        rotate_left
        · show Act.put _ (some 49) _ = _
          simp only [Act.put, List.setIfInBounds_toArray, List.set_cons_zero, List.set_cons_succ, i64_w, i32_w]
          rfl
        refine chain_ (fuel := 0) [(35, 0, some 50), (36, 0, some 51)] #[true, true, true, true, true, true, true, true, true, true, true, true, true, true, true, true, true, true, true, true, true, true, true, true, true, true, true, true, true, true, true, true, true, true, true, true, true] HT_.out HW_.out (by kernel_rfl) (fun _ _ _ _ _ h => h) (Or.inl (by decide)) rfl ?_
        (iterate 2 refine lkP ?_); refine .nil ?_
        refine done_ (done_of HT_.out (by kernel_rfl)) ?_
        try go_wp2
        go_meet
        case rel => exact ⟨_, ((t316 != t317)), rs, H', ⟨by first | omega | exact Nat.le_refl _⟩, ⟨bk BK311⟩, ⟨bw HB⟩⟩
      · rw [if_neg c9] at H
        have c9b0 : (t314 == t315) = false := beq_eq_false_iff_ne.mpr c9
        have c9b1 : (t314 != t315) = true := bne_iff_ne.mpr c9
        have H' := Aside0.mk H
        clear H
        try go_wp2
        have n0_ := Aside0.mk (blk_drew BK311.out)
        have n1_ := Aside0.mk (below_drew1 HB.out)
        clear BK311
        clear HB
        have BK311 := n0_
        have HB := n1_
        clear n0_ n1_
        refine start_ (n := 37) (S := fun w' => w'.cell? ⟨gb311, 0, none⟩ = some (.int .u64 a0_0) ∧ w'.cell? ⟨gb311, 1, none⟩ = some (.int .u64 a0_1) ∧ w'.cell? ⟨gb311, 2, none⟩ = some (.int .u64 a0_2) ∧ w'.cell? ⟨gb311, 3, none⟩ = some (.int .u64 a0_3)) (ds := []) #[false, false, false, false, false, false, false, false, false, false, false, false, false, false, false, false, false, false, false, false, false, false, false, false, false, false, false, false, false, false, false, false, false, false, false, false, false] (by kernel_rfl) rfl rfl ⟨(blk_cell BK311.out 0).trans rfl, (blk_cell BK311.out 1).trans rfl, (blk_cell BK311.out 2).trans rfl, (blk_cell BK311.out 3).trans rfl⟩ (fun hHeld => ?_); refine with_tabW turnstilelaw03_right.tab1 turnstilelaw03_right.bits1 (fun HT_ HW_ => ?_)
        generalize w3.drew = w15 at BK311 HB hHeld ⊢
        refine chain_ (fuel := 29) [(0, 0, some 15), (2, 0, some 17), (5, 0, some 20), (7, 0, some 22), (1, 1, some 16), (3, 1, some 18), (6, 1, some 21), (8, 1, some 23)] #[true, true, true, true, false, true, true, true, true, false, false, false, false, false, false, false, false, false, false, false, false, false, false, false, false, false, false, false, false, false, false, false, false, false, false, false, false] HT_.out HW_.out (by kernel_rfl) (fun _ _ _ _ _ h => h) (Or.inr hHeld) rfl ?_
        (iterate 4 refine lkP ?_); (iterate 4 refine lkT ?_); refine .nil ?_
        refine one_ (i := 4) (N := some 19) #[true, true, true, true, true, true, true, true, true, false, false, false, false, false, false, false, false, false, false, false, false, false, false, false, false, false, false, false, false, false, false, false, false, false, false, false, false] rfl rfl (one_of HT_.out (by kernel_rfl)) (by decide) (fun K hK => ?_)
        refine ge Try.func24 #[.int .u64 a0_0, .int .u64 a0_1] ?_
        with_reducible refine (sat_Add.calls a0_0 a0_1 t312 _ A4.out).mono ?_
        rintro e w' ⟨rfl, ⟨nd, rfl⟩⟩
        refine ⟨_, rfl, ?_⟩
        refine hK.out _ _ ⟨(blk_cell BK311.out 0).trans rfl, (blk_cell BK311.out 1).trans rfl, (blk_cell BK311.out 2).trans rfl, (blk_cell BK311.out 3).trans rfl⟩ (fun hHeld => ?_)
        clear hK K
        refine norm_ (a' := ?_) ?_ ?_
        rotate_left
        · show Act.put _ (some 19) _ = _
          simp only [Act.put, List.setIfInBounds_toArray, List.set_cons_zero, List.set_cons_succ, i64_w, i32_w]
          rfl
        refine one_ (i := 9) (N := some 24) #[true, true, true, true, true, true, true, true, true, true, false, false, false, false, false, false, false, false, false, false, false, false, false, false, false, false, false, false, false, false, false, false, false, false, false, false, false] rfl rfl (one_of HT_.out (by kernel_rfl)) (by decide) (fun K hK => ?_)
        refine ge Try.func43 #[.int .u64 a0_0, .int .u64 a0_1] ?_
        with_reducible refine (turnstileref03_Add.calls k a0_0 a0_1 t313 _ A5.out).mono ?_
        rintro e w16 ⟨rfl, hb⟩
        refine ⟨_, rfl, ?_⟩
        have n0_ := bb BK311 hb
        have n1_ := bs HB hb
        clear BK311
        clear HB
        have BK311 := n0_
        have HB := n1_
        clear n0_ n1_
        (try clear hb)
        (try clear hb2)
        (try clear hk)
        (try clear hi)
        refine hK.out _ _ ⟨(blk_cell BK311.out 0).trans rfl, (blk_cell BK311.out 1).trans rfl, (blk_cell BK311.out 2).trans rfl, (blk_cell BK311.out 3).trans rfl⟩ (fun hHeld => ?_)
        clear hK K
        refine norm_ (a' := ?_) ?_ ?_
        rotate_left
        · show Act.put _ (some 24) _ = _
          simp only [Act.put, List.setIfInBounds_toArray, List.set_cons_zero, List.set_cons_succ, i64_w, i32_w]
          rfl
        refine chain_ (fuel := 17) [(10, 0, some 25), (11, 0, some 26), (12, 0, some 27), (14, 0, some 29), (17, 0, some 32), (19, 0, some 34), (13, 1, some 28), (15, 1, some 30), (18, 1, some 33), (20, 1, some 35)] #[true, true, true, true, true, true, true, true, true, true, true, true, true, true, true, true, false, true, true, true, true, false, false, false, false, false, false, false, false, false, false, false, false, false, false, false, false] HT_.out HW_.out (by kernel_rfl) (fun _ _ _ _ _ h => h) (Or.inr hHeld) rfl ?_
        (iterate 6 refine lkP ?_); (iterate 4 refine lkT ?_); refine .nil ?_
        refine one_ (i := 16) (N := some 31) #[true, true, true, true, true, true, true, true, true, true, true, true, true, true, true, true, true, true, true, true, true, false, false, false, false, false, false, false, false, false, false, false, false, false, false, false, false] rfl rfl (one_of HT_.out (by kernel_rfl)) (by decide) (fun K hK => ?_)
        refine ge Try.func26 #[.int .u64 a0_0, .int .u64 a0_1] ?_
        with_reducible refine (sat_Sub.calls a0_0 a0_1 t314 _ A7.out).mono ?_
        rintro e w' ⟨rfl, ⟨nd, rfl⟩⟩
        refine ⟨_, rfl, ?_⟩
        refine hK.out _ _ ⟨(blk_cell BK311.out 0).trans rfl, (blk_cell BK311.out 1).trans rfl, (blk_cell BK311.out 2).trans rfl, (blk_cell BK311.out 3).trans rfl⟩ (fun hHeld => ?_)
        clear hK K
        refine norm_ (a' := ?_) ?_ ?_
        rotate_left
        · show Act.put _ (some 31) _ = _
          simp only [Act.put, List.setIfInBounds_toArray, List.set_cons_zero, List.set_cons_succ, i64_w, i32_w]
          rfl
        refine one_ (i := 21) (N := some 36) #[true, true, true, true, true, true, true, true, true, true, true, true, true, true, true, true, true, true, true, true, true, true, false, false, false, false, false, false, false, false, false, false, false, false, false, false, false] rfl rfl (one_of HT_.out (by kernel_rfl)) (by decide) (fun K hK => ?_)
        refine ge Try.func44 #[.int .u64 a0_0, .int .u64 a0_1] ?_
        with_reducible refine (turnstileref03_Sub.calls a0_0 a0_1 t315 _ A8.out).mono ?_
        rintro e w' ⟨rfl, ⟨nd, rfl⟩⟩
        refine ⟨_, rfl, ?_⟩
        refine hK.out _ _ ⟨(blk_cell BK311.out 0).trans rfl, (blk_cell BK311.out 1).trans rfl, (blk_cell BK311.out 2).trans rfl, (blk_cell BK311.out 3).trans rfl⟩ (fun hHeld => ?_)
        clear hK K
        refine norm_ (a' := ?_) ?_ ?_
        rotate_left
        · show Act.put _ (some 36) _ = _
          simp only [Act.put, List.setIfInBounds_toArray, List.set_cons_zero, List.set_cons_succ, i64_w, i32_w]
          rfl
        refine chain_ (fuel := 0) [(22, 0, some 37), (23, 0, some 38), (24, 0, some 39), (25, 2, some 40), (26, 2, some 41), (27, 2, some 42), (28, 2, some 43), (29, 2, some 44), (30, 2, some 45), (31, 2, some 46), (32, 2, some 47), (33, 2, some 48), (34, 2, some 49), (35, 2, some 50), (36, 0, some 51)] #[true, true, true, true, true, true, true, true, true, true, true, true, true, true, true, true, true, true, true, true, true, true, true, true, true, true, true, true, true, true, true, true, true, true, true, true, true] HT_.out HW_.out (by kernel_rfl) (fun _ _ _ _ _ h => h) (Or.inl (by decide)) rfl ?_
        (iterate 3 refine lkP ?_); (iterate 11 refine lkO ?_); refine lkP ?_; refine .nil ?_
        refine done_ (done_of HT_.out (by kernel_rfl)) ?_
        try go_wp2
        go_meet
        case rel => exact ⟨_, (true), rs, H', ⟨by first | omega | exact Nat.le_refl _⟩, ⟨bk BK311⟩, ⟨bw HB⟩⟩
    · rw [if_neg c6] at H
      have c6b0 : (t312 == t313) = false := beq_eq_false_iff_ne.mpr c6
      have c6b1 : (t312 != t313) = true := bne_iff_ne.mpr c6
      (first | rw [c6b0] | (simp only [i64_w, i32_w]; rw [c6b0]) | skip)
      have H' := Aside0.mk H
      clear H
      try go_wp2
      have n0_ := Aside0.mk (blk_drew BK311.out)
      have n1_ := Aside0.mk (below_drew1 HB.out)
      clear BK311
      clear HB
      have BK311 := n0_
      have HB := n1_
      clear n0_ n1_
      refine start_ (n := 37) (S := fun w' => w'.cell? ⟨gb311, 0, none⟩ = some (.int .u64 a0_0) ∧ w'.cell? ⟨gb311, 1, none⟩ = some (.int .u64 a0_1) ∧ w'.cell? ⟨gb311, 2, none⟩ = some (.int .u64 a0_2) ∧ w'.cell? ⟨gb311, 3, none⟩ = some (.int .u64 a0_3)) (ds := []) #[false, false, false, false, false, false, false, false, false, false, false, false, false, false, false, false, false, false, false, false, false, false, false, false, false, false, false, false, false, false, false, false, false, false, false, false, false] (by kernel_rfl) rfl rfl ⟨(blk_cell BK311.out 0).trans rfl, (blk_cell BK311.out 1).trans rfl, (blk_cell BK311.out 2).trans rfl, (blk_cell BK311.out 3).trans rfl⟩ (fun hHeld => ?_); refine with_tabW turnstilelaw03_right.tab1 turnstilelaw03_right.bits1 (fun HT_ HW_ => ?_)
      generalize w3.drew = w17 at BK311 HB hHeld ⊢
      refine chain_ (fuel := 29) [(0, 0, some 15), (2, 0, some 17), (5, 0, some 20), (7, 0, some 22), (1, 1, some 16), (3, 1, some 18), (6, 1, some 21), (8, 1, some 23)] #[true, true, true, true, false, true, true, true, true, false, false, false, false, false, false, false, false, false, false, false, false, false, false, false, false, false, false, false, false, false, false, false, false, false, false, false, false] HT_.out HW_.out (by kernel_rfl) (fun _ _ _ _ _ h => h) (Or.inr hHeld) rfl ?_
      (iterate 4 refine lkP ?_); (iterate 4 refine lkT ?_); refine .nil ?_
      refine one_ (i := 4) (N := some 19) #[true, true, true, true, true, true, true, true, true, false, false, false, false, false, false, false, false, false, false, false, false, false, false, false, false, false, false, false, false, false, false, false, false, false, false, false, false] rfl rfl (one_of HT_.out (by kernel_rfl)) (by decide) (fun K hK => ?_)
      refine ge Try.func24 #[.int .u64 a0_0, .int .u64 a0_1] ?_
      with_reducible refine (sat_Add.calls a0_0 a0_1 t312 _ A4.out).mono ?_
      rintro e w' ⟨rfl, ⟨nd, rfl⟩⟩
      refine ⟨_, rfl, ?_⟩
      refine hK.out _ _ ⟨(blk_cell BK311.out 0).trans rfl, (blk_cell BK311.out 1).trans rfl, (blk_cell BK311.out 2).trans rfl, (blk_cell BK311.out 3).trans rfl⟩ (fun hHeld => ?_)
      clear hK K
      refine norm_ (a' := ?_) ?_ ?_
      rotate_left
      · show Act.put _ (some 19) _ = _
        simp only [Act.put, List.setIfInBounds_toArray, List.set_cons_zero, List.set_cons_succ, i64_w, i32_w]
        rfl
      refine one_ (i := 9) (N := some 24) #[true, true, true, true, true, true, true, true, true, true, false, false, false, false, false, false, false, false, false, false, false, false, false, false, false, false, false, false, false, false, false, false, false, false, false, false, false] rfl rfl (one_of HT_.out (by kernel_rfl)) (by decide) (fun K hK => ?_)
      refine ge Try.func43 #[.int .u64 a0_0, .int .u64 a0_1] ?_
      with_reducible refine (turnstileref03_Add.calls k a0_0 a0_1 t313 _ A5.out).mono ?_
      rintro e w18 ⟨rfl, hb⟩
      refine ⟨_, rfl, ?_⟩
      have n0_ := bb BK311 hb
      have n1_ := bs HB hb
      clear BK311
      clear HB
      have BK311 := n0_
      have HB := n1_
      clear n0_ n1_
      (try clear hb)
      (try clear hb2)
      (try clear hk)
      (try clear hi)
      refine hK.out _ _ ⟨(blk_cell BK311.out 0).trans rfl, (blk_cell BK311.out 1).trans rfl, (blk_cell BK311.out 2).trans rfl, (blk_cell BK311.out 3).trans rfl⟩ (fun hHeld => ?_)
      clear hK K
      refine norm_ (a' := ?_) ?_ ?_
      rotate_left
      · show Act.put _ (some 24) _ = _
        simp only [Act.put, List.setIfInBounds_toArray, List.set_cons_zero, List.set_cons_succ, i64_w, i32_w]
        rfl
      refine chain_ (fuel := 0) [(10, 0, some 25), (11, 0, some 26), (12, 2, some 27), (13, 2, some 28), (14, 2, some 29), (15, 2, some 30), (16, 2, some 31), (17, 2, some 32), (18, 2, some 33), (19, 2, some 34), (20, 2, some 35), (21, 2, some 36), (22, 2, some 37), (23, 0, some 38), (24, 0, some 39), (25, 2, some 40), (26, 2, some 41), (27, 2, some 42), (28, 2, some 43), (29, 2, some 44), (30, 2, some 45), (31, 2, some 46), (32, 2, some 47), (33, 2, some 48), (34, 2, some 49), (35, 2, some 50), (36, 0, some 51)] #[true, true, true, true, true, true, true, true, true, true, true, true, true, true, true, true, true, true, true, true, true, true, true, true, true, true, true, true, true, true, true, true, true, true, true, true, true] HT_.out HW_.out (by kernel_rfl) (fun _ _ _ _ _ h => h) (Or.inl (by decide)) rfl ?_
      (iterate 2 refine lkP ?_); (iterate 11 refine lkO ?_); (iterate 2 refine lkP ?_); (iterate 11 refine lkO ?_); refine lkP ?_; refine .nil ?_
      refine done_ (done_of HT_.out (by kernel_rfl)) ?_
      try go_wp2
      go_meet
      case rel => exact ⟨_, (true), rs, H', ⟨by first | omega | exact Nat.le_refl _⟩, ⟨bk BK311⟩, ⟨bw HB⟩⟩
  case rest =>
    clear HC2
    try clear c2
    try clear p2
    try clear c4
    try clear c6
    try clear c6b0
    try clear c6b1
    try clear c9
    try clear c9b0
    try clear c9b1
    obtain ⟨kq, x51_1, rfl, HA, HJ1, BK311, HB⟩ := hcut
    cases kq with
    | zero => exact absurd HA.out (by simp [turnstilelaw03_right.j0])
    | succ kj1 =>
      have H := HA.out
      clear HA
      simp only [turnstilelaw03_right.j0] at H
      by_cases c19 : x51_1 = true
      · subst c19
        have H1 : (some false) = some r := by rw [if_pos rfl] at H; exact H
        clear H
        have H := H1
        clear H1
        obtain rfl := Option.some.inj H
        go_wp2
        go_ret
        exact ⟨re, bw HB⟩
      · replace c19 := Bool.eq_false_iff.mpr c19
        subst c19
        have H1 : ((sat_Of.f a0_0).bind fun bt318 => ((turnstileref03_Of.f a0_0).bind fun bt320 => ((turnstilelaw03_wide.f bt320.1 bt320.2).bind fun bt322 => (if (!(bt318.1 == bt322.1) || (!(bt318.2 == bt322.2))) = true then (turnstilelaw03_right.j1 kj1 true a0_0 a0_1 a0_2 a0_3) else ((sat_Product.f a0_0 a0_2).bind fun bt324 => ((turnstileref03_Product.f kj1 a0_0 a0_2).bind fun bt326 => ((turnstilelaw03_wide.f bt326.1 bt326.2).bind fun bt328 => (turnstilelaw03_right.j1 kj1 (!(bt324.1 == bt328.1) || (!(bt324.2 == bt328.2))) a0_0 a0_1 a0_2 a0_3)))))))) = some r := by rw [if_neg (show ¬ (false = true) by decide)] at H; exact H
        clear H
        have H := H1
        clear H1
        have HC20 := Aside0.mk H
        clear H
        go_upto_region 3 with (fail)
        go_cut [73] (fun v73 wc => ∃ (kq : Nat) (x73_19 : Bool), v73 = .bool x73_19 ∧ Aside0 (turnstilelaw03_right.j1 kq x73_19 a0_0 a0_1 a0_2 a0_3 = some r) ∧ Aside0 (kq ≤ kj1) ∧ Aside0 (wc.heap[gb311]? = some (.cells #[.int .u64 a0_0, .int .u64 a0_1, .int .u64 a0_2, .int .u64 a0_3] 40 (0, 0))) ∧ Aside0 (Below w.heap.size w wc))
        case first =>
          have H := HC20.out
          clear HC20
          replace H := Option.bind_eq_some_iff.mp H
          obtain ⟨⟨t318, t319⟩, A210, H⟩ := H
          replace H : ((turnstileref03_Of.f a0_0).bind fun bt320 => ((turnstilelaw03_wide.f bt320.1 bt320.2).bind fun bt322 => (if (!(t318 == bt322.1) || (!(t319 == bt322.2))) = true then (turnstilelaw03_right.j1 kj1 true a0_0 a0_1 a0_2 a0_3) else ((sat_Product.f a0_0 a0_2).bind fun bt324 => ((turnstileref03_Product.f kj1 a0_0 a0_2).bind fun bt326 => ((turnstilelaw03_wide.f bt326.1 bt326.2).bind fun bt328 => (turnstilelaw03_right.j1 kj1 (!(bt324.1 == bt328.1) || (!(bt324.2 == bt328.2))) a0_0 a0_1 a0_2 a0_3))))))) = some r := H
          have A21 := Aside0.mk A210
          clear A210
          replace H := Option.bind_eq_some_iff.mp H
          obtain ⟨⟨t320, t321⟩, A220, H⟩ := H
          replace H : ((turnstilelaw03_wide.f t320 t321).bind fun bt322 => (if (!(t318 == bt322.1) || (!(t319 == bt322.2))) = true then (turnstilelaw03_right.j1 kj1 true a0_0 a0_1 a0_2 a0_3) else ((sat_Product.f a0_0 a0_2).bind fun bt324 => ((turnstileref03_Product.f kj1 a0_0 a0_2).bind fun bt326 => ((turnstilelaw03_wide.f bt326.1 bt326.2).bind fun bt328 => (turnstilelaw03_right.j1 kj1 (!(bt324.1 == bt328.1) || (!(bt324.2 == bt328.2))) a0_0 a0_1 a0_2 a0_3)))))) = some r := H
          have A22 := Aside0.mk A220
          clear A220
          replace H := Option.bind_eq_some_iff.mp H
          obtain ⟨⟨t322, t323⟩, A230, H⟩ := H
          replace H : (if (!(t318 == t322) || (!(t319 == t323))) = true then (turnstilelaw03_right.j1 kj1 true a0_0 a0_1 a0_2 a0_3) else ((sat_Product.f a0_0 a0_2).bind fun bt324 => ((turnstileref03_Product.f kj1 a0_0 a0_2).bind fun bt326 => ((turnstilelaw03_wide.f bt326.1 bt326.2).bind fun bt328 => (turnstilelaw03_right.j1 kj1 (!(bt324.1 == bt328.1) || (!(bt324.2 == bt328.2))) a0_0 a0_1 a0_2 a0_3))))) = some r := H
          have A23 := Aside0.mk A230
          clear A230
          by_cases c24 : (!(t318 == t322) || (!(t319 == t323))) = true
          · rw [if_pos c24] at H
            have c24b0 : (!(t318 == t322) || (!(t319 == t323))) = true := c24
            clear c24
            (first | rw [c24b0] | (simp only [i64_w, i32_w]; rw [c24b0]) | skip)
            have H' := Aside0.mk H
            clear H
            try go_wp2
            have n0_ := Aside0.mk (blk_drew BK311.out)
            have n1_ := Aside0.mk (below_drew1 HB.out)
            clear BK311
            clear HB
            have BK311 := n0_
            have HB := n1_
            clear n0_ n1_
            refine start_ (n := 22) (S := fun w' => w'.cell? ⟨gb311, 0, none⟩ = some (.int .u64 a0_0) ∧ w'.cell? ⟨gb311, 1, none⟩ = some (.int .u64 a0_1) ∧ w'.cell? ⟨gb311, 2, none⟩ = some (.int .u64 a0_2) ∧ w'.cell? ⟨gb311, 3, none⟩ = some (.int .u64 a0_3)) (ds := []) #[false, false, false, false, false, false, false, false, false, false, false, false, false, false, false, false, false, false, false, false, false, false] (by kernel_rfl) rfl rfl ⟨(blk_cell BK311.out 0).trans rfl, (blk_cell BK311.out 1).trans rfl, (blk_cell BK311.out 2).trans rfl, (blk_cell BK311.out 3).trans rfl⟩ (fun hHeld => ?_); refine with_tabW turnstilelaw03_right.tab3 turnstilelaw03_right.bits3 (fun HT_ HW_ => ?_)
            generalize wc.drew = w25 at BK311 HB hHeld ⊢
            refine chain_ (fuel := 18) [(0, 0, some 52), (3, 0, some 55), (1, 1, some 53), (4, 1, some 56)] #[true, true, false, true, true, false, false, false, false, false, false, false, false, false, false, false, false, false, false, false, false, false] HT_.out HW_.out (by kernel_rfl) (fun _ _ _ _ _ h => h) (Or.inr hHeld) rfl ?_
            (iterate 2 refine lkP ?_); (iterate 2 refine lkT ?_); refine .nil ?_
            refine one_ (i := 2) (N := some 54) #[true, true, true, true, true, false, false, false, false, false, false, false, false, false, false, false, false, false, false, false, false, false] rfl rfl (one_of HT_.out (by kernel_rfl)) (by decide) (fun K hK => ?_)
            refine ge Try.func20 #[.int .u64 a0_0] ?_
            with_reducible refine (sat_Of.calls a0_0 t318 t319 _ A21.out).mono ?_
            rintro e w26 ⟨rfl, hb⟩
            refine ⟨_, rfl, ?_⟩
            have n0_ := bb BK311 hb
            have n1_ := bs HB hb
            clear BK311
            clear HB
            have BK311 := n0_
            have HB := n1_
            clear n0_ n1_
            (try clear hb)
            (try clear hb2)
            (try clear hk)
            (try clear hi)
            refine hK.out _ _ ⟨(blk_cell BK311.out 0).trans rfl, (blk_cell BK311.out 1).trans rfl, (blk_cell BK311.out 2).trans rfl, (blk_cell BK311.out 3).trans rfl⟩ (fun hHeld => ?_)
            clear hK K
            refine norm_ (a' := ?_) ?_ ?_
            rotate_left
            · show Act.put _ (some 54) _ = _
              simp only [Act.put, List.setIfInBounds_toArray, List.set_cons_zero, List.set_cons_succ, i64_w, i32_w]
              rfl
            refine one_ (i := 5) (N := some 57) #[true, true, true, true, true, true, false, false, false, false, false, false, false, false, false, false, false, false, false, false, false, false] rfl rfl (one_of HT_.out (by kernel_rfl)) (by decide) (fun K hK => ?_)
            refine ge Try.func47 #[.int .u64 a0_0] ?_
            with_reducible refine (turnstileref03_Of.calls a0_0 t320 t321 _ A22.out).mono ?_
            rintro e w27 ⟨rfl, hb⟩
            refine ⟨_, rfl, ?_⟩
            have n0_ := bb BK311 hb
            have n1_ := bs HB hb
            clear BK311
            clear HB
            have BK311 := n0_
            have HB := n1_
            clear n0_ n1_
            (try clear hb)
            (try clear hb2)
            (try clear hk)
            (try clear hi)
            refine hK.out _ _ ⟨(blk_cell BK311.out 0).trans rfl, (blk_cell BK311.out 1).trans rfl, (blk_cell BK311.out 2).trans rfl, (blk_cell BK311.out 3).trans rfl⟩ (fun hHeld => ?_)
            clear hK K
            refine norm_ (a' := ?_) ?_ ?_
            rotate_left
            · show Act.put _ (some 57) _ = _
              simp only [Act.put, List.setIfInBounds_toArray, List.set_cons_zero, List.set_cons_succ, i64_w, i32_w]
              rfl
            refine one_ (i := 6) (N := some 58) #[true, true, true, true, true, true, true, false, false, false, false, false, false, false, false, false, false, false, false, false, false, false] rfl rfl (one_of HT_.out (by kernel_rfl)) (by decide) (fun K hK => ?_)
            refine ge Try.func46 #[.agg #[.int .u64 t320, .int .u64 t321]] ?_
            with_reducible refine (turnstilelaw03_wide.calls t320 t321 t322 t323 _ A23.out).mono ?_
            rintro e w28 ⟨rfl, hb⟩
            refine ⟨_, rfl, ?_⟩
            have n0_ := bb BK311 hb
            have n1_ := bs HB hb
            clear BK311
            clear HB
            have BK311 := n0_
            have HB := n1_
            clear n0_ n1_
            (try clear hb)
            (try clear hb2)
            (try clear hk)
            (try clear hi)
            refine hK.out _ _ ⟨(blk_cell BK311.out 0).trans rfl, (blk_cell BK311.out 1).trans rfl, (blk_cell BK311.out 2).trans rfl, (blk_cell BK311.out 3).trans rfl⟩ (fun hHeld => ?_)
            clear hK K
            refine norm_ (a' := ?_) ?_ ?_
            rotate_left
            · show Act.put _ (some 58) _ = _
              simp only [Act.put, List.setIfInBounds_toArray, List.set_cons_zero, List.set_cons_succ, i64_w, i32_w]
              rfl
            refine chain_ (fuel := 0) [(7, 0, some 59), (8, 0, some 60), (9, 2, some 61), (10, 2, some 62), (11, 2, some 63), (12, 2, some 64), (13, 2, some 65), (14, 2, some 66), (15, 2, some 67), (16, 2, some 68), (17, 2, some 69), (18, 2, some 70), (19, 2, some 71), (20, 2, some 72), (21, 0, some 73)] #[true, true, true, true, true, true, true, true, true, true, true, true, true, true, true, true, true, true, true, true, true, true] HT_.out HW_.out (by kernel_rfl) (fun _ _ _ _ _ h => h) (Or.inl (by decide)) rfl ?_
            (iterate 2 refine lkP ?_); (iterate 12 refine lkO ?_); refine lkP ?_; refine .nil ?_
            refine done_ (done_of HT_.out (by kernel_rfl)) ?_
            try go_wp2
            go_meet
            case rel => exact ⟨_, (true), rs, H', ⟨by have := HJ1.out; first | omega | exact Nat.le_refl _⟩, ⟨bk BK311⟩, ⟨bw HB⟩⟩
          · rw [if_neg c24] at H
            have c24b0 : (!(t318 == t322) || (!(t319 == t323))) = false := by simpa using c24
            clear c24
            (first | rw [c24b0] | (simp only [i64_w, i32_w]; rw [c24b0]) | skip)
            replace H := Option.bind_eq_some_iff.mp H
            obtain ⟨⟨t324, t325⟩, A290, H⟩ := H
            replace H : ((turnstileref03_Product.f kj1 a0_0 a0_2).bind fun bt326 => ((turnstilelaw03_wide.f bt326.1 bt326.2).bind fun bt328 => (turnstilelaw03_right.j1 kj1 (!(t324 == bt328.1) || (!(t325 == bt328.2))) a0_0 a0_1 a0_2 a0_3))) = some r := H
            have A29 := Aside0.mk A290
            clear A290
            replace H := Option.bind_eq_some_iff.mp H
            obtain ⟨⟨t326, t327⟩, A300, H⟩ := H
            replace H : ((turnstilelaw03_wide.f t326 t327).bind fun bt328 => (turnstilelaw03_right.j1 kj1 (!(t324 == bt328.1) || (!(t325 == bt328.2))) a0_0 a0_1 a0_2 a0_3)) = some r := H
            have A30 := Aside0.mk A300
            clear A300
            replace H := Option.bind_eq_some_iff.mp H
            obtain ⟨⟨t328, t329⟩, A310, H⟩ := H
            replace H : (turnstilelaw03_right.j1 kj1 (!(t324 == t328) || (!(t325 == t329))) a0_0 a0_1 a0_2 a0_3) = some r := H
            have A31 := Aside0.mk A310
            clear A310
            have H' := Aside0.mk H
            clear H
            try go_wp2
            have n0_ := Aside0.mk (blk_drew BK311.out)
            have n1_ := Aside0.mk (below_drew1 HB.out)
            clear BK311
            clear HB
            have BK311 := n0_
            have HB := n1_
            clear n0_ n1_
            refine start_ (n := 22) (S := fun w' => w'.cell? ⟨gb311, 0, none⟩ = some (.int .u64 a0_0) ∧ w'.cell? ⟨gb311, 1, none⟩ = some (.int .u64 a0_1) ∧ w'.cell? ⟨gb311, 2, none⟩ = some (.int .u64 a0_2) ∧ w'.cell? ⟨gb311, 3, none⟩ = some (.int .u64 a0_3)) (ds := []) #[false, false, false, false, false, false, false, false, false, false, false, false, false, false, false, false, false, false, false, false, false, false] (by kernel_rfl) rfl rfl ⟨(blk_cell BK311.out 0).trans rfl, (blk_cell BK311.out 1).trans rfl, (blk_cell BK311.out 2).trans rfl, (blk_cell BK311.out 3).trans rfl⟩ (fun hHeld => ?_); refine with_tabW turnstilelaw03_right.tab3 turnstilelaw03_right.bits3 (fun HT_ HW_ => ?_)
            generalize wc.drew = w32 at BK311 HB hHeld ⊢
            refine chain_ (fuel := 18) [(0, 0, some 52), (3, 0, some 55), (1, 1, some 53), (4, 1, some 56)] #[true, true, false, true, true, false, false, false, false, false, false, false, false, false, false, false, false, false, false, false, false, false] HT_.out HW_.out (by kernel_rfl) (fun _ _ _ _ _ h => h) (Or.inr hHeld) rfl ?_
            (iterate 2 refine lkP ?_); (iterate 2 refine lkT ?_); refine .nil ?_
            refine one_ (i := 2) (N := some 54) #[true, true, true, true, true, false, false, false, false, false, false, false, false, false, false, false, false, false, false, false, false, false] rfl rfl (one_of HT_.out (by kernel_rfl)) (by decide) (fun K hK => ?_)
            refine ge Try.func20 #[.int .u64 a0_0] ?_
            with_reducible refine (sat_Of.calls a0_0 t318 t319 _ A21.out).mono ?_
            rintro e w33 ⟨rfl, hb⟩
            refine ⟨_, rfl, ?_⟩
            have n0_ := bb BK311 hb
            have n1_ := bs HB hb
            clear BK311
            clear HB
            have BK311 := n0_
            have HB := n1_
            clear n0_ n1_
            (try clear hb)
            (try clear hb2)
            (try clear hk)
            (try clear hi)
            refine hK.out _ _ ⟨(blk_cell BK311.out 0).trans rfl, (blk_cell BK311.out 1).trans rfl, (blk_cell BK311.out 2).trans rfl, (blk_cell BK311.out 3).trans rfl⟩ (fun hHeld => ?_)
            clear hK K
            refine norm_ (a' := ?_) ?_ ?_
            rotate_left
            · show Act.put _ (some 54) _ = _
              simp only [Act.put, List.setIfInBounds_toArray, List.set_cons_zero, List.set_cons_succ, i64_w, i32_w]
              rfl
            refine one_ (i := 5) (N := some 57) #[true, true, true, true, true, true, false, false, false, false, false, false, false, false, false, false, false, false, false, false, false, false] rfl rfl (one_of HT_.out (by kernel_rfl)) (by decide) (fun K hK => ?_)
            refine ge Try.func47 #[.int .u64 a0_0] ?_
            with_reducible refine (turnstileref03_Of.calls a0_0 t320 t321 _ A22.out).mono ?_
            rintro e w34 ⟨rfl, hb⟩
            refine ⟨_, rfl, ?_⟩
            have n0_ := bb BK311 hb
            have n1_ := bs HB hb
            clear BK311
            clear HB
            have BK311 := n0_
            have HB := n1_
            clear n0_ n1_
            (try clear hb)
            (try clear hb2)
            (try clear hk)
            (try clear hi)
            refine hK.out _ _ ⟨(blk_cell BK311.out 0).trans rfl, (blk_cell BK311.out 1).trans rfl, (blk_cell BK311.out 2).trans rfl, (blk_cell BK311.out 3).trans rfl⟩ (fun hHeld => ?_)
            clear hK K
            refine norm_ (a' := ?_) ?_ ?_
            rotate_left
            · show Act.put _ (some 57) _ = _
              simp only [Act.put, List.setIfInBounds_toArray, List.set_cons_zero, List.set_cons_succ, i64_w, i32_w]
              rfl
            refine one_ (i := 6) (N := some 58) #[true, true, true, true, true, true, true, false, false, false, false, false, false, false, false, false, false, false, false, false, false, false] rfl rfl (one_of HT_.out (by kernel_rfl)) (by decide) (fun K hK => ?_)
            refine ge Try.func46 #[.agg #[.int .u64 t320, .int .u64 t321]] ?_
            with_reducible refine (turnstilelaw03_wide.calls t320 t321 t322 t323 _ A23.out).mono ?_
            rintro e w35 ⟨rfl, hb⟩
            refine ⟨_, rfl, ?_⟩
            have n0_ := bb BK311 hb
            have n1_ := bs HB hb
            clear BK311
            clear HB
            have BK311 := n0_
            have HB := n1_
            clear n0_ n1_
            (try clear hb)
            (try clear hb2)
            (try clear hk)
            (try clear hi)
            refine hK.out _ _ ⟨(blk_cell BK311.out 0).trans rfl, (blk_cell BK311.out 1).trans rfl, (blk_cell BK311.out 2).trans rfl, (blk_cell BK311.out 3).trans rfl⟩ (fun hHeld => ?_)
            clear hK K
            refine norm_ (a' := ?_) ?_ ?_
            rotate_left
            · show Act.put _ (some 58) _ = _
              simp only [Act.put, List.setIfInBounds_toArray, List.set_cons_zero, List.set_cons_succ, i64_w, i32_w]
              rfl
            refine chain_ (fuel := 5) [(7, 0, some 59), (8, 0, some 60), (9, 0, some 61), (11, 0, some 63), (14, 0, some 66), (16, 0, some 68), (10, 1, some 62), (12, 1, some 64), (15, 1, some 67), (17, 1, some 69)] #[true, true, true, true, true, true, true, true, true, true, true, true, true, false, true, true, true, true, false, false, false, false] HT_.out HW_.out (by kernel_rfl) (fun _ _ _ _ _ h => h) (Or.inr hHeld) rfl ?_
            (iterate 6 refine lkP ?_); (iterate 4 refine lkT ?_); refine .nil ?_
            refine one_ (i := 13) (N := some 65) #[true, true, true, true, true, true, true, true, true, true, true, true, true, true, true, true, true, true, false, false, false, false] rfl rfl (one_of HT_.out (by kernel_rfl)) (by decide) (fun K hK => ?_)
            refine ge Try.func17 #[.int .u64 a0_0, .int .u64 a0_2] ?_
            with_reducible refine (sat_Product.calls a0_0 a0_2 t324 t325 _ A29.out).mono ?_
            rintro e w36 ⟨rfl, hb⟩
            refine ⟨_, rfl, ?_⟩
            have n0_ := bb BK311 hb
            have n1_ := bs HB hb
            clear BK311
            clear HB
            have BK311 := n0_
            have HB := n1_
            clear n0_ n1_
            (try clear hb)
            (try clear hb2)
            (try clear hk)
            (try clear hi)
            refine hK.out _ _ ⟨(blk_cell BK311.out 0).trans rfl, (blk_cell BK311.out 1).trans rfl, (blk_cell BK311.out 2).trans rfl, (blk_cell BK311.out 3).trans rfl⟩ (fun hHeld => ?_)
            clear hK K
            refine norm_ (a' := ?_) ?_ ?_
            rotate_left
            · show Act.put _ (some 65) _ = _
              simp only [Act.put, List.setIfInBounds_toArray, List.set_cons_zero, List.set_cons_succ, i64_w, i32_w]
              rfl
            refine one_ (i := 18) (N := some 70) #[true, true, true, true, true, true, true, true, true, true, true, true, true, true, true, true, true, true, true, false, false, false] rfl rfl (one_of HT_.out (by kernel_rfl)) (by decide) (fun K hK => ?_)
            refine ge Try.func48 #[.int .u64 a0_0, .int .u64 a0_2] ?_
            with_reducible refine (turnstileref03_Product.calls kj1 a0_0 a0_2 t326 t327 _ A30.out).mono ?_
            rintro e w37 ⟨rfl, hb⟩
            refine ⟨_, rfl, ?_⟩
            have n0_ := bb BK311 hb
            have n1_ := bs HB hb
            clear BK311
            clear HB
            have BK311 := n0_
            have HB := n1_
            clear n0_ n1_
            (try clear hb)
            (try clear hb2)
            (try clear hk)
            (try clear hi)
            refine hK.out _ _ ⟨(blk_cell BK311.out 0).trans rfl, (blk_cell BK311.out 1).trans rfl, (blk_cell BK311.out 2).trans rfl, (blk_cell BK311.out 3).trans rfl⟩ (fun hHeld => ?_)
            clear hK K
            refine norm_ (a' := ?_) ?_ ?_
            rotate_left
            · show Act.put _ (some 70) _ = _
              simp only [Act.put, List.setIfInBounds_toArray, List.set_cons_zero, List.set_cons_succ, i64_w, i32_w]
              rfl
            refine one_ (i := 19) (N := some 71) #[true, true, true, true, true, true, true, true, true, true, true, true, true, true, true, true, true, true, true, true, false, false] rfl rfl (one_of HT_.out (by kernel_rfl)) (by decide) (fun K hK => ?_)
            refine ge Try.func46 #[.agg #[.int .u64 t326, .int .u64 t327]] ?_
            with_reducible refine (turnstilelaw03_wide.calls t326 t327 t328 t329 _ A31.out).mono ?_
            rintro e w38 ⟨rfl, hb⟩
            refine ⟨_, rfl, ?_⟩
            have n0_ := bb BK311 hb
            have n1_ := bs HB hb
            clear BK311
            clear HB
            have BK311 := n0_
            have HB := n1_
            clear n0_ n1_
            (try clear hb)
            (try clear hb2)
            (try clear hk)
            (try clear hi)
            refine hK.out _ _ ⟨(blk_cell BK311.out 0).trans rfl, (blk_cell BK311.out 1).trans rfl, (blk_cell BK311.out 2).trans rfl, (blk_cell BK311.out 3).trans rfl⟩ (fun hHeld => ?_)
            clear hK K
            refine norm_ (a' := ?_) ?_ ?_
            rotate_left
            · show Act.put _ (some 71) _ = _
              simp only [Act.put, List.setIfInBounds_toArray, List.set_cons_zero, List.set_cons_succ, i64_w, i32_w]
              rfl
            refine chain_ (fuel := 0) [(20, 0, some 72), (21, 0, some 73)] #[true, true, true, true, true, true, true, true, true, true, true, true, true, true, true, true, true, true, true, true, true, true] HT_.out HW_.out (by kernel_rfl) (fun _ _ _ _ _ h => h) (Or.inl (by decide)) rfl ?_
            (iterate 2 refine lkP ?_); refine .nil ?_
            refine done_ (done_of HT_.out (by kernel_rfl)) ?_
            try go_wp2
            go_meet
            case rel => exact ⟨_, ((!(t324 == t328) || (!(t325 == t329)))), rs, H', ⟨by have := HJ1.out; first | omega | exact Nat.le_refl _⟩, ⟨bk BK311⟩, ⟨bw HB⟩⟩
        case rest =>
          clear HC20
          try clear c1
          try clear c2
          try clear p2
          try clear c4
          try clear c6
          try clear c6b0
          try clear c6b1
          try clear c9
          try clear c9b0
          try clear c9b1
          try clear c17
          try clear c19
          try clear c20
          try clear c24
          try clear c24b0
          try clear p2
          obtain ⟨kq, x73_19, rfl, HA, HJ19, BK311, HB⟩ := hcut
          cases kq with
          | zero => exact absurd HA.out (by simp [turnstilelaw03_right.j1])
          | succ kj19 =>
            have H := HA.out
            clear HA
            simp only [turnstilelaw03_right.j1] at H
            by_cases c39 : x73_19 = true
            · subst c39
              have H1 : (some false) = some r := by rw [if_pos rfl] at H; exact H
              clear H
              have H := H1
              clear H1
              obtain rfl := Option.some.inj H
              go_wp2
              go_ret
              exact ⟨re, bw HB⟩
            · replace c39 := Bool.eq_false_iff.mpr c39
              subst c39
              have H1 : ((turnstilelaw03_wide.f a0_0 a0_1).bind fun bt332 => ((turnstilelaw03_wide.f a0_2 a0_3).bind fun bt335 => ((sat_Wide_Plus.f bt332.1 bt332.2 bt335.1 bt335.2).bind fun bt338 => ((turnstileref03_Wide_Plus.f kj19 a0_0 a0_1 a0_2 a0_3).bind fun bt340 => ((turnstilelaw03_wide.f bt340.1 bt340.2).bind fun bt342 => (if (!(bt338.1 == bt342.1) || (!(bt338.2 == bt342.2))) = true then (turnstilelaw03_right.j2 kj19 true a0_0 a0_1 a0_2 a0_3 a0_0 a0_1 bt332.1 bt332.2) else ((sat_Wide_Minus.f bt332.1 bt332.2 bt335.1 bt335.2).bind fun bt344 => ((turnstileref03_Wide_Minus.f kj19 a0_0 a0_1 a0_2 a0_3).bind fun bt346 => ((turnstilelaw03_wide.f bt346.1 bt346.2).bind fun bt348 => (if (!(bt344.1 == bt348.1) || (!(bt344.2 == bt348.2))) = true then (turnstilelaw03_right.j2 kj19 true a0_0 a0_1 a0_2 a0_3 a0_0 a0_1 bt332.1 bt332.2) else ((sat_Wide_Cmp.f bt332.1 bt332.2 bt335.1 bt335.2).bind fun t350 => ((turnstileref03_Wide_Cmp.f kj19 a0_0 a0_1 a0_2 a0_3).bind fun t351 => (if t350 = t351 then ((sat_Wide_Minus.f bt335.1 bt335.2 bt332.1 bt332.2).bind fun bt352 => ((turnstileref03_Wide_Minus.f kj19 a0_2 a0_3 a0_0 a0_1).bind fun bt354 => ((turnstilelaw03_wide.f bt354.1 bt354.2).bind fun bt356 => (turnstilelaw03_right.j2 kj19 (!(bt352.1 == bt356.1) || (!(bt352.2 == bt356.2))) a0_0 a0_1 a0_2 a0_3 a0_0 a0_1 bt332.1 bt332.2)))) else (turnstilelaw03_right.j2 kj19 true a0_0 a0_1 a0_2 a0_3 a0_0 a0_1 bt332.1 bt332.2)))))))))))))) = some r := by rw [if_neg (show ¬ (false = true) by decide)] at H; exact H
              clear H
              have H := H1
              clear H1
              replace H := Option.bind_eq_some_iff.mp H
              obtain ⟨⟨t332, t333⟩, A400, H⟩ := H
              replace H : ((turnstilelaw03_wide.f a0_2 a0_3).bind fun bt335 => ((sat_Wide_Plus.f t332 t333 bt335.1 bt335.2).bind fun bt338 => ((turnstileref03_Wide_Plus.f kj19 a0_0 a0_1 a0_2 a0_3).bind fun bt340 => ((turnstilelaw03_wide.f bt340.1 bt340.2).bind fun bt342 => (if (!(bt338.1 == bt342.1) || (!(bt338.2 == bt342.2))) = true then (turnstilelaw03_right.j2 kj19 true a0_0 a0_1 a0_2 a0_3 a0_0 a0_1 t332 t333) else ((sat_Wide_Minus.f t332 t333 bt335.1 bt335.2).bind fun bt344 => ((turnstileref03_Wide_Minus.f kj19 a0_0 a0_1 a0_2 a0_3).bind fun bt346 => ((turnstilelaw03_wide.f bt346.1 bt346.2).bind fun bt348 => (if (!(bt344.1 == bt348.1) || (!(bt344.2 == bt348.2))) = true then (turnstilelaw03_right.j2 kj19 true a0_0 a0_1 a0_2 a0_3 a0_0 a0_1 t332 t333) else ((sat_Wide_Cmp.f t332 t333 bt335.1 bt335.2).bind fun t350 => ((turnstileref03_Wide_Cmp.f kj19 a0_0 a0_1 a0_2 a0_3).bind fun t351 => (if t350 = t351 then ((sat_Wide_Minus.f bt335.1 bt335.2 t332 t333).bind fun bt352 => ((turnstileref03_Wide_Minus.f kj19 a0_2 a0_3 a0_0 a0_1).bind fun bt354 => ((turnstilelaw03_wide.f bt354.1 bt354.2).bind fun bt356 => (turnstilelaw03_right.j2 kj19 (!(bt352.1 == bt356.1) || (!(bt352.2 == bt356.2))) a0_0 a0_1 a0_2 a0_3 a0_0 a0_1 t332 t333)))) else (turnstilelaw03_right.j2 kj19 true a0_0 a0_1 a0_2 a0_3 a0_0 a0_1 t332 t333))))))))))))) = some r := H
              have A40 := Aside0.mk A400
              clear A400
              replace H := Option.bind_eq_some_iff.mp H
              obtain ⟨⟨t335, t336⟩, A410, H⟩ := H
              replace H : ((sat_Wide_Plus.f t332 t333 t335 t336).bind fun bt338 => ((turnstileref03_Wide_Plus.f kj19 a0_0 a0_1 a0_2 a0_3).bind fun bt340 => ((turnstilelaw03_wide.f bt340.1 bt340.2).bind fun bt342 => (if (!(bt338.1 == bt342.1) || (!(bt338.2 == bt342.2))) = true then (turnstilelaw03_right.j2 kj19 true a0_0 a0_1 a0_2 a0_3 a0_0 a0_1 t332 t333) else ((sat_Wide_Minus.f t332 t333 t335 t336).bind fun bt344 => ((turnstileref03_Wide_Minus.f kj19 a0_0 a0_1 a0_2 a0_3).bind fun bt346 => ((turnstilelaw03_wide.f bt346.1 bt346.2).bind fun bt348 => (if (!(bt344.1 == bt348.1) || (!(bt344.2 == bt348.2))) = true then (turnstilelaw03_right.j2 kj19 true a0_0 a0_1 a0_2 a0_3 a0_0 a0_1 t332 t333) else ((sat_Wide_Cmp.f t332 t333 t335 t336).bind fun t350 => ((turnstileref03_Wide_Cmp.f kj19 a0_0 a0_1 a0_2 a0_3).bind fun t351 => (if t350 = t351 then ((sat_Wide_Minus.f t335 t336 t332 t333).bind fun bt352 => ((turnstileref03_Wide_Minus.f kj19 a0_2 a0_3 a0_0 a0_1).bind fun bt354 => ((turnstilelaw03_wide.f bt354.1 bt354.2).bind fun bt356 => (turnstilelaw03_right.j2 kj19 (!(bt352.1 == bt356.1) || (!(bt352.2 == bt356.2))) a0_0 a0_1 a0_2 a0_3 a0_0 a0_1 t332 t333)))) else (turnstilelaw03_right.j2 kj19 true a0_0 a0_1 a0_2 a0_3 a0_0 a0_1 t332 t333)))))))))))) = some r := H
              have A41 := Aside0.mk A410
              clear A410
              have HC42 := Aside0.mk H
              clear H
              obtain ⟨hcz43_0, hcz43_1, hcz43_2, hcz43_3, hfz43_0, hfz43_1, hfz43_2, hfz43_3⟩ := bc4 BK311
              go_upto_region 9 with (first | ((with_reducible refine gate_dst (N := 3) rfl ?_); refine bx 3 #[.int .u64 0, .int .u64 0] 66 ?_; intro gb330 hg w44 hbox hb; have n0_ := bb BK311 hb; have n1_ := bs HB hb; have n2_ := Aside0.mk (hbox); have n3_ := sz HB hg; have n4_ := sz HB hg; have n5_ := nl BK311 hg; have n6_ := nr BK311 hg; clear BK311; clear HB; have BK311 := n0_; have HB := n1_; have BK330 := n2_; have GW330 := n3_; have GE330 := n4_; have NB311_330 := n5_; have NB330_311 := n6_; clear n0_ n1_ n2_ n3_ n4_ n5_ n6_; clear hb hbox hg; have hnb45 := NB330_311.out; have hnc45 := NB311_330.out; obtain ⟨hcz46_0, hcz46_1, hfz46_0, hfz46_1⟩ := bc2 BK330; obtain ⟨hcz47_0, hcz47_1, hcz47_2, hcz47_3, hfz47_0, hfz47_1, hfz47_2, hfz47_3⟩ := bc4 BK311) | ((with_reducible refine gate_dst (N := 4) rfl ?_); refine bx 4 #[.int .u64 0, .int .u64 0] 66 ?_; intro gb331 hg w48 hbox hb; have n0_ := bb BK311 hb; have n1_ := bbp (.cells #[.int .u64 a0_0, .int .u64 a0_1] 66 (0, 0)) BK330 hb; have n2_ := bs HB hb; have n3_ := Aside0.mk (hbox); have n4_ := sz HB hg; have n5_ := sz HB hg; have n6_ := nl BK311 hg; have n7_ := nr BK311 hg; have n8_ := nlp (.cells #[.int .u64 a0_0, .int .u64 a0_1] 66 (0, 0)) BK330 hg; have n9_ := nrp (.cells #[.int .u64 a0_0, .int .u64 a0_1] 66 (0, 0)) BK330 hg; clear BK311; clear BK330; clear HB; have BK311 := n0_; have BK330 := n1_; have HB := n2_; have BK331 := n3_; have GW331 := n4_; have GE331 := n5_; have NB311_331 := n6_; have NB331_311 := n7_; have NB330_331 := n8_; have NB331_330 := n9_; clear n0_ n1_ n2_ n3_ n4_ n5_ n6_ n7_ n8_ n9_; clear hb hbox hg; have hnb49 := NB331_311.out; have hnc49 := NB311_331.out; have hnb50 := NB331_330.out; have hnc50 := NB330_331.out; obtain ⟨hcz51_0, hcz51_1, hfz51_0, hfz51_1⟩ := bc2 BK331; obtain ⟨hcz52_0, hcz52_1, hfz52_0, hfz52_1⟩ := bc2 BK330) | ((with_reducible refine gate_callee (f := 46) rfl ?_); refine gm (some 85) Try.func46 #[.agg #[.int .u64 a0_0, .int .u64 a0_1]] (turnstilelaw03_wide.calls a0_0 a0_1 t332 t333 _ A40.out) ?_; intro w53 hb; have n0_ := bb BK311 hb; have n1_ := bb BK330 hb; have n2_ := bbp (.cells #[.int .u64 a0_2, .int .u64 a0_3] 66 (0, 0)) BK331 hb; have n3_ := bs HB hb; clear BK311; clear BK330; clear BK331; clear HB; have BK311 := n0_; have BK330 := n1_; have BK331 := n2_; have HB := n3_; clear n0_ n1_ n2_ n3_; (try clear hb); (try clear hb2); (try clear hk); (try clear hi)) | ((with_reducible refine gate_dst (N := 5) rfl ?_); refine bx 5 #[.int .u64 0, .int .u64 0] 24 ?_; intro gb334 hg w54 hbox hb; have n0_ := bb BK311 hb; have n1_ := bb BK330 hb; have n2_ := bb BK331 hb; have n3_ := bs HB hb; have n4_ := Aside0.mk (hbox); have n5_ := sz HB hg; have n6_ := sz HB hg; have n7_ := nl BK311 hg; have n8_ := nr BK311 hg; have n9_ := nl BK330 hg; have n10_ := nr BK330 hg; have n11_ := nl BK331 hg; have n12_ := nr BK331 hg; clear BK311; clear BK330; clear BK331; clear HB; have BK311 := n0_; have BK330 := n1_; have BK331 := n2_; have HB := n3_; have BK334 := n4_; have GW334 := n5_; have GE334 := n6_; have NB311_334 := n7_; have NB334_311 := n8_; have NB330_334 := n9_; have NB334_330 := n10_; have NB331_334 := n11_; have NB334_331 := n12_; clear n0_ n1_ n2_ n3_ n4_ n5_ n6_ n7_ n8_ n9_ n10_ n11_ n12_; clear hb hbox hg; have hnb55 := NB334_311.out; have hnc55 := NB311_334.out; have hnb56 := NB334_330.out; have hnc56 := NB330_334.out; have hnb57 := NB334_331.out; have hnc57 := NB331_334.out; obtain ⟨hcz58_0, hcz58_1, hfz58_0, hfz58_1⟩ := bc2 BK334; obtain ⟨hcz59_0, hcz59_1, hfz59_0, hfz59_1⟩ := bc2 BK331) | ((with_reducible refine gate_callee (f := 46) rfl ?_); refine gm (some 87) Try.func46 #[.agg #[.int .u64 a0_2, .int .u64 a0_3]] (turnstilelaw03_wide.calls a0_2 a0_3 t335 t336 _ A41.out) ?_; intro w60 hb; have n0_ := bb BK311 hb; have n1_ := bb BK330 hb; have n2_ := bb BK331 hb; have n3_ := bbp (.cells #[.int .u64 t332, .int .u64 t333] 24 (0, 0)) BK334 hb; have n4_ := bs HB hb; clear BK311; clear BK330; clear BK331; clear BK334; clear HB; have BK311 := n0_; have BK330 := n1_; have BK331 := n2_; have BK334 := n3_; have HB := n4_; clear n0_ n1_ n2_ n3_ n4_; (try clear hb); (try clear hb2); (try clear hk); (try clear hi)) | ((with_reducible refine gate_dst (N := 6) rfl ?_); refine bx 6 #[.int .u64 0, .int .u64 0] 24 ?_; intro gb337 hg w61 hbox hb; have n0_ := bb BK311 hb; have n1_ := bb BK330 hb; have n2_ := bb BK331 hb; have n3_ := bb BK334 hb; have n4_ := bs HB hb; have n5_ := Aside0.mk (hbox); have n6_ := sz HB hg; have n7_ := sz HB hg; have n8_ := nl BK311 hg; have n9_ := nr BK311 hg; have n10_ := nl BK330 hg; have n11_ := nr BK330 hg; have n12_ := nl BK331 hg; have n13_ := nr BK331 hg; have n14_ := nl BK334 hg; have n15_ := nr BK334 hg; clear BK311; clear BK330; clear BK331; clear BK334; clear HB; have BK311 := n0_; have BK330 := n1_; have BK331 := n2_; have BK334 := n3_; have HB := n4_; have BK337 := n5_; have GW337 := n6_; have GE337 := n7_; have NB311_337 := n8_; have NB337_311 := n9_; have NB330_337 := n10_; have NB337_330 := n11_; have NB331_337 := n12_; have NB337_331 := n13_; have NB334_337 := n14_; have NB337_334 := n15_; clear n0_ n1_ n2_ n3_ n4_ n5_ n6_ n7_ n8_ n9_ n10_ n11_ n12_ n13_ n14_ n15_; clear hb hbox hg; have hnb62 := NB337_311.out; have hnc62 := NB311_337.out; have hnb63 := NB337_330.out; have hnc63 := NB330_337.out; have hnb64 := NB337_331.out; have hnc64 := NB331_337.out; have hnb65 := NB337_334.out; have hnc65 := NB334_337.out; obtain ⟨hcz66_0, hcz66_1, hfz66_0, hfz66_1⟩ := bc2 BK337))
              (try simp only [Act.put, List.setIfInBounds_toArray, List.set_cons_zero, List.set_cons_succ])
              go_cut [124] (fun v124 wc => ∃ (kq : Nat) (x124_41 : Bool), v124 = .bool x124_41 ∧ Aside0 (turnstilelaw03_right.j2 kq x124_41 a0_0 a0_1 a0_2 a0_3 a0_0 a0_1 t332 t333 = some r) ∧ Aside0 (kq ≤ kj19) ∧ Aside0 (wc.heap[gb311]? = some (.cells #[.int .u64 a0_0, .int .u64 a0_1, .int .u64 a0_2, .int .u64 a0_3] 40 (0, 0))) ∧ Aside0 (wc.heap[gb330]? = some (.cells #[.int .u64 a0_0, .int .u64 a0_1] 66 (0, 0))) ∧ Aside0 (wc.heap[gb331]? = some (.cells #[.int .u64 a0_2, .int .u64 a0_3] 66 (0, 0))) ∧ Aside0 (wc.heap[gb334]? = some (.cells #[.int .u64 t332, .int .u64 t333] 24 (0, 0))) ∧ Aside0 (wc.heap[gb337]? = some (.cells #[.int .u64 t335, .int .u64 t336] 24 (0, 0))) ∧ Aside0 (Below w.heap.size w wc))
              case first =>
                have H := HC42.out
                clear HC42
                replace H := Option.bind_eq_some_iff.mp H
                obtain ⟨⟨t338, t339⟩, A670, H⟩ := H
                replace H : ((turnstileref03_Wide_Plus.f kj19 a0_0 a0_1 a0_2 a0_3).bind fun bt340 => ((turnstilelaw03_wide.f bt340.1 bt340.2).bind fun bt342 => (if (!(t338 == bt342.1) || (!(t339 == bt342.2))) = true then (turnstilelaw03_right.j2 kj19 true a0_0 a0_1 a0_2 a0_3 a0_0 a0_1 t332 t333) else ((sat_Wide_Minus.f t332 t333 t335 t336).bind fun bt344 => ((turnstileref03_Wide_Minus.f kj19 a0_0 a0_1 a0_2 a0_3).bind fun bt346 => ((turnstilelaw03_wide.f bt346.1 bt346.2).bind fun bt348 => (if (!(bt344.1 == bt348.1) || (!(bt344.2 == bt348.2))) = true then (turnstilelaw03_right.j2 kj19 true a0_0 a0_1 a0_2 a0_3 a0_0 a0_1 t332 t333) else ((sat_Wide_Cmp.f t332 t333 t335 t336).bind fun t350 => ((turnstileref03_Wide_Cmp.f kj19 a0_0 a0_1 a0_2 a0_3).bind fun t351 => (if t350 = t351 then ((sat_Wide_Minus.f t335 t336 t332 t333).bind fun bt352 => ((turnstileref03_Wide_Minus.f kj19 a0_2 a0_3 a0_0 a0_1).bind fun bt354 => ((turnstilelaw03_wide.f bt354.1 bt354.2).bind fun bt356 => (turnstilelaw03_right.j2 kj19 (!(bt352.1 == bt356.1) || (!(bt352.2 == bt356.2))) a0_0 a0_1 a0_2 a0_3 a0_0 a0_1 t332 t333)))) else (turnstilelaw03_right.j2 kj19 true a0_0 a0_1 a0_2 a0_3 a0_0 a0_1 t332 t333))))))))))) = some r := H
                have A67 := Aside0.mk A670
                clear A670
                replace H := Option.bind_eq_some_iff.mp H
                obtain ⟨⟨t340, t341⟩, A680, H⟩ := H
                replace H : ((turnstilelaw03_wide.f t340 t341).bind fun bt342 => (if (!(t338 == bt342.1) || (!(t339 == bt342.2))) = true then (turnstilelaw03_right.j2 kj19 true a0_0 a0_1 a0_2 a0_3 a0_0 a0_1 t332 t333) else ((sat_Wide_Minus.f t332 t333 t335 t336).bind fun bt344 => ((turnstileref03_Wide_Minus.f kj19 a0_0 a0_1 a0_2 a0_3).bind fun bt346 => ((turnstilelaw03_wide.f bt346.1 bt346.2).bind fun bt348 => (if (!(bt344.1 == bt348.1) || (!(bt344.2 == bt348.2))) = true then (turnstilelaw03_right.j2 kj19 true a0_0 a0_1 a0_2 a0_3 a0_0 a0_1 t332 t333) else ((sat_Wide_Cmp.f t332 t333 t335 t336).bind fun t350 => ((turnstileref03_Wide_Cmp.f kj19 a0_0 a0_1 a0_2 a0_3).bind fun t351 => (if t350 = t351 then ((sat_Wide_Minus.f t335 t336 t332 t333).bind fun bt352 => ((turnstileref03_Wide_Minus.f kj19 a0_2 a0_3 a0_0 a0_1).bind fun bt354 => ((turnstilelaw03_wide.f bt354.1 bt354.2).bind fun bt356 => (turnstilelaw03_right.j2 kj19 (!(bt352.1 == bt356.1) || (!(bt352.2 == bt356.2))) a0_0 a0_1 a0_2 a0_3 a0_0 a0_1 t332 t333)))) else (turnstilelaw03_right.j2 kj19 true a0_0 a0_1 a0_2 a0_3 a0_0 a0_1 t332 t333)))))))))) = some r := H
                have A68 := Aside0.mk A680
                clear A680
                replace H := Option.bind_eq_some_iff.mp H
                obtain ⟨⟨t342, t343⟩, A690, H⟩ := H
                replace H : (if (!(t338 == t342) || (!(t339 == t343))) = true then (turnstilelaw03_right.j2 kj19 true a0_0 a0_1 a0_2 a0_3 a0_0 a0_1 t332 t333) else ((sat_Wide_Minus.f t332 t333 t335 t336).bind fun bt344 => ((turnstileref03_Wide_Minus.f kj19 a0_0 a0_1 a0_2 a0_3).bind fun bt346 => ((turnstilelaw03_wide.f bt346.1 bt346.2).bind fun bt348 => (if (!(bt344.1 == bt348.1) || (!(bt344.2 == bt348.2))) = true then (turnstilelaw03_right.j2 kj19 true a0_0 a0_1 a0_2 a0_3 a0_0 a0_1 t332 t333) else ((sat_Wide_Cmp.f t332 t333 t335 t336).bind fun t350 => ((turnstileref03_Wide_Cmp.f kj19 a0_0 a0_1 a0_2 a0_3).bind fun t351 => (if t350 = t351 then ((sat_Wide_Minus.f t335 t336 t332 t333).bind fun bt352 => ((turnstileref03_Wide_Minus.f kj19 a0_2 a0_3 a0_0 a0_1).bind fun bt354 => ((turnstilelaw03_wide.f bt354.1 bt354.2).bind fun bt356 => (turnstilelaw03_right.j2 kj19 (!(bt352.1 == bt356.1) || (!(bt352.2 == bt356.2))) a0_0 a0_1 a0_2 a0_3 a0_0 a0_1 t332 t333)))) else (turnstilelaw03_right.j2 kj19 true a0_0 a0_1 a0_2 a0_3 a0_0 a0_1 t332 t333))))))))) = some r := H
                have A69 := Aside0.mk A690
                clear A690
                by_cases c70 : (!(t338 == t342) || (!(t339 == t343))) = true
                · rw [if_pos c70] at H
                  have c70b0 : (!(t338 == t342) || (!(t339 == t343))) = true := c70
                  clear c70
                  (first | rw [c70b0] | (simp only [i64_w, i32_w]; rw [c70b0]) | skip)
                  have H' := Aside0.mk H
                  clear H
                  try go_wp2
                  have n0_ : Aside0 (((w61.setCell ⟨gb337, 0, none⟩ (.int .u64 t335)).setCell ⟨gb337, 1, none⟩ (.int .u64 t336)).heap[gb311]? = some (.cells #[.int .u64 a0_0, .int .u64 a0_1, .int .u64 a0_2, .int .u64 a0_3] 40 (0, 0))) := ⟨bk BK311⟩
                  have n1_ : Aside0 (((w61.setCell ⟨gb337, 0, none⟩ (.int .u64 t335)).setCell ⟨gb337, 1, none⟩ (.int .u64 t336)).heap[gb330]? = some (.cells #[.int .u64 a0_0, .int .u64 a0_1] 66 (0, 0))) := ⟨bk BK330⟩
                  have n2_ : Aside0 (((w61.setCell ⟨gb337, 0, none⟩ (.int .u64 t335)).setCell ⟨gb337, 1, none⟩ (.int .u64 t336)).heap[gb331]? = some (.cells #[.int .u64 a0_2, .int .u64 a0_3] 66 (0, 0))) := ⟨bk BK331⟩
                  have n3_ : Aside0 (((w61.setCell ⟨gb337, 0, none⟩ (.int .u64 t335)).setCell ⟨gb337, 1, none⟩ (.int .u64 t336)).heap[gb334]? = some (.cells #[.int .u64 t332, .int .u64 t333] 24 (0, 0))) := ⟨bk BK334⟩
                  have n4_ : Aside0 (((w61.setCell ⟨gb337, 0, none⟩ (.int .u64 t335)).setCell ⟨gb337, 1, none⟩ (.int .u64 t336)).heap[gb337]? = some (.cells #[.int .u64 t335, .int .u64 t336] 24 (0, 0))) := ⟨bk BK337⟩
                  have n5_ : Aside0 (Below w.heap.size w ((w61.setCell ⟨gb337, 0, none⟩ (.int .u64 t335)).setCell ⟨gb337, 1, none⟩ (.int .u64 t336))) := ⟨bw HB⟩
                  (try clear BK311)
                  (try clear BK330)
                  (try clear BK331)
                  (try clear BK334)
                  (try clear BK337)
                  (try clear HB)
                  generalize ((w61.setCell ⟨gb337, 0, none⟩ (.int .u64 t335)).setCell ⟨gb337, 1, none⟩ (.int .u64 t336)) = w71 at n0_ n1_ n2_ n3_ n4_ n5_ ⊢
                  have BK311 := n0_
                  have BK330 := n1_
                  have BK331 := n2_
                  have BK334 := n3_
                  have BK337 := n4_
                  have HB := n5_
                  clear n0_ n1_ n2_ n3_ n4_ n5_
                  have n0_ := Aside0.mk (blk_drew BK311.out)
                  have n1_ := Aside0.mk (blk_drew BK330.out)
                  have n2_ := Aside0.mk (blk_drew BK331.out)
                  have n3_ := Aside0.mk (blk_drew BK334.out)
                  have n4_ := Aside0.mk (blk_drew BK337.out)
                  have n5_ := Aside0.mk (below_drew1 HB.out)
                  clear BK311
                  clear BK330
                  clear BK331
                  clear BK334
                  clear BK337
                  clear HB
                  have BK311 := n0_
                  have BK330 := n1_
                  have BK331 := n2_
                  have BK334 := n3_
                  have BK337 := n4_
                  have HB := n5_
                  clear n0_ n1_ n2_ n3_ n4_ n5_
                  refine start_ (n := 37) (S := fun w' => w'.cell? ⟨gb334, 0, none⟩ = some (.int .u64 t332) ∧ w'.cell? ⟨gb334, 1, none⟩ = some (.int .u64 t333) ∧ w'.cell? ⟨gb337, 0, none⟩ = some (.int .u64 t335) ∧ w'.cell? ⟨gb337, 1, none⟩ = some (.int .u64 t336) ∧ w'.cell? ⟨gb330, 0, none⟩ = some (.int .u64 a0_0) ∧ w'.cell? ⟨gb330, 1, none⟩ = some (.int .u64 a0_1) ∧ w'.cell? ⟨gb331, 0, none⟩ = some (.int .u64 a0_2) ∧ w'.cell? ⟨gb331, 1, none⟩ = some (.int .u64 a0_3)) (ds := []) #[false, false, false, false, false, false, false, false, false, false, false, false, false, false, false, false, false, false, false, false, false, false, false, false, false, false, false, false, false, false, false, false, false, false, false, false, false] (by kernel_rfl) rfl rfl ⟨(blk_cell BK334.out 0).trans rfl, (blk_cell BK334.out 1).trans rfl, (blk_cell BK337.out 0).trans rfl, (blk_cell BK337.out 1).trans rfl, (blk_cell BK330.out 0).trans rfl, (blk_cell BK330.out 1).trans rfl, (blk_cell BK331.out 0).trans rfl, (blk_cell BK331.out 1).trans rfl⟩ (fun hHeld => ?_); refine with_tabW turnstilelaw03_right.tab9 turnstilelaw03_right.bits9 (fun HT_ HW_ => ?_)
                  generalize w71.drew = w72 at BK311 BK330 BK331 BK334 BK337 HB hHeld ⊢
                  refine chain_ (fuel := 33) [(0, 1, some 88), (1, 1, some 89), (3, 1, some 91), (4, 1, some 92)] #[true, true, false, true, true, false, false, false, false, false, false, false, false, false, false, false, false, false, false, false, false, false, false, false, false, false, false, false, false, false, false, false, false, false, false, false, false] HT_.out HW_.out (by kernel_rfl) (fun _ _ _ _ _ h => h) (Or.inr hHeld) rfl ?_
                  (iterate 4 refine lkT ?_); refine .nil ?_
                  refine one_ (i := 2) (N := some 90) #[true, true, true, true, true, false, false, false, false, false, false, false, false, false, false, false, false, false, false, false, false, false, false, false, false, false, false, false, false, false, false, false, false, false, false, false, false] rfl rfl (one_of HT_.out (by kernel_rfl)) (by decide) (fun K hK => ?_)
                  refine ge Try.func19 #[.agg #[.int .u64 t332, .int .u64 t333], .agg #[.int .u64 t335, .int .u64 t336]] ?_
                  with_reducible refine (sat_Wide_Plus.calls t332 t333 t335 t336 t338 t339 _ A67.out).mono ?_
                  rintro e w73 ⟨rfl, hb⟩
                  refine ⟨_, rfl, ?_⟩
                  have n0_ := bb BK311 hb
                  have n1_ := bb BK330 hb
                  have n2_ := bb BK331 hb
                  have n3_ := bb BK334 hb
                  have n4_ := bb BK337 hb
                  have n5_ := bs HB hb
                  clear BK311
                  clear BK330
                  clear BK331
                  clear BK334
                  clear BK337
                  clear HB
                  have BK311 := n0_
                  have BK330 := n1_
                  have BK331 := n2_
                  have BK334 := n3_
                  have BK337 := n4_
                  have HB := n5_
                  clear n0_ n1_ n2_ n3_ n4_ n5_
                  (try clear hb)
                  (try clear hb2)
                  (try clear hk)
                  (try clear hi)
                  refine hK.out _ _ ⟨(blk_cell BK334.out 0).trans rfl, (blk_cell BK334.out 1).trans rfl, (blk_cell BK337.out 0).trans rfl, (blk_cell BK337.out 1).trans rfl, (blk_cell BK330.out 0).trans rfl, (blk_cell BK330.out 1).trans rfl, (blk_cell BK331.out 0).trans rfl, (blk_cell BK331.out 1).trans rfl⟩ (fun hHeld => ?_)
                  clear hK K
                  refine norm_ (a' := ?_) ?_ ?_
                  rotate_left
                  · show Act.put _ (some 90) _ = _
                    simp only [Act.put, List.setIfInBounds_toArray, List.set_cons_zero, List.set_cons_succ, i64_w, i32_w]
                    rfl
                  refine one_ (i := 5) (N := some 93) #[true, true, true, true, true, true, false, false, false, false, false, false, false, false, false, false, false, false, false, false, false, false, false, false, false, false, false, false, false, false, false, false, false, false, false, false, false] rfl rfl (one_of HT_.out (by kernel_rfl)) (by decide) (fun K hK => ?_)
                  refine ge Try.func49 #[.agg #[.int .u64 a0_0, .int .u64 a0_1], .agg #[.int .u64 a0_2, .int .u64 a0_3]] ?_
                  with_reducible refine (turnstileref03_Wide_Plus.calls kj19 a0_0 a0_1 a0_2 a0_3 t340 t341 _ A68.out).mono ?_
                  rintro e w74 ⟨rfl, hb⟩
                  refine ⟨_, rfl, ?_⟩
                  have n0_ := bb BK311 hb
                  have n1_ := bb BK330 hb
                  have n2_ := bb BK331 hb
                  have n3_ := bb BK334 hb
                  have n4_ := bb BK337 hb
                  have n5_ := bs HB hb
                  clear BK311
                  clear BK330
                  clear BK331
                  clear BK334
                  clear BK337
                  clear HB
                  have BK311 := n0_
                  have BK330 := n1_
                  have BK331 := n2_
                  have BK334 := n3_
                  have BK337 := n4_
                  have HB := n5_
                  clear n0_ n1_ n2_ n3_ n4_ n5_
                  (try clear hb)
                  (try clear hb2)
                  (try clear hk)
                  (try clear hi)
                  refine hK.out _ _ ⟨(blk_cell BK334.out 0).trans rfl, (blk_cell BK334.out 1).trans rfl, (blk_cell BK337.out 0).trans rfl, (blk_cell BK337.out 1).trans rfl, (blk_cell BK330.out 0).trans rfl, (blk_cell BK330.out 1).trans rfl, (blk_cell BK331.out 0).trans rfl, (blk_cell BK331.out 1).trans rfl⟩ (fun hHeld => ?_)
                  clear hK K
                  refine norm_ (a' := ?_) ?_ ?_
                  rotate_left
                  · show Act.put _ (some 93) _ = _
                    simp only [Act.put, List.setIfInBounds_toArray, List.set_cons_zero, List.set_cons_succ, i64_w, i32_w]
                    rfl
                  refine one_ (i := 6) (N := some 94) #[true, true, true, true, true, true, true, false, false, false, false, false, false, false, false, false, false, false, false, false, false, false, false, false, false, false, false, false, false, false, false, false, false, false, false, false, false] rfl rfl (one_of HT_.out (by kernel_rfl)) (by decide) (fun K hK => ?_)
                  refine ge Try.func46 #[.agg #[.int .u64 t340, .int .u64 t341]] ?_
                  with_reducible refine (turnstilelaw03_wide.calls t340 t341 t342 t343 _ A69.out).mono ?_
                  rintro e w75 ⟨rfl, hb⟩
                  refine ⟨_, rfl, ?_⟩
                  have n0_ := bb BK311 hb
                  have n1_ := bb BK330 hb
                  have n2_ := bb BK331 hb
                  have n3_ := bb BK334 hb
                  have n4_ := bb BK337 hb
                  have n5_ := bs HB hb
                  clear BK311
                  clear BK330
                  clear BK331
                  clear BK334
                  clear BK337
                  clear HB
                  have BK311 := n0_
                  have BK330 := n1_
                  have BK331 := n2_
                  have BK334 := n3_
                  have BK337 := n4_
                  have HB := n5_
                  clear n0_ n1_ n2_ n3_ n4_ n5_
                  (try clear hb)
                  (try clear hb2)
                  (try clear hk)
                  (try clear hi)
                  refine hK.out _ _ ⟨(blk_cell BK334.out 0).trans rfl, (blk_cell BK334.out 1).trans rfl, (blk_cell BK337.out 0).trans rfl, (blk_cell BK337.out 1).trans rfl, (blk_cell BK330.out 0).trans rfl, (blk_cell BK330.out 1).trans rfl, (blk_cell BK331.out 0).trans rfl, (blk_cell BK331.out 1).trans rfl⟩ (fun hHeld => ?_)
                  clear hK K
                  refine norm_ (a' := ?_) ?_ ?_
                  rotate_left
                  · show Act.put _ (some 94) _ = _
                    simp only [Act.put, List.setIfInBounds_toArray, List.set_cons_zero, List.set_cons_succ, i64_w, i32_w]
                    rfl
                  refine chain_ (fuel := 0) [(7, 0, some 95), (8, 0, some 96), (9, 2, some 97), (10, 2, some 98), (11, 2, some 99), (12, 2, some 100), (13, 2, some 101), (14, 2, some 102), (15, 2, some 103), (16, 2, some 104), (17, 0, some 105), (18, 0, some 106), (19, 2, some 107), (20, 2, some 108), (21, 2, some 109), (22, 2, some 110), (23, 2, some 111), (24, 2, some 112), (25, 2, some 113), (26, 0, some 114), (27, 0, some 115), (28, 2, some 116), (29, 2, some 117), (30, 2, some 118), (31, 2, some 119), (32, 2, some 120), (33, 2, some 121), (34, 2, some 122), (35, 2, some 123), (36, 0, some 124)] #[true, true, true, true, true, true, true, true, true, true, true, true, true, true, true, true, true, true, true, true, true, true, true, true, true, true, true, true, true, true, true, true, true, true, true, true, true] HT_.out HW_.out (by kernel_rfl) (fun _ _ _ _ _ h => h) (Or.inl (by decide)) rfl ?_
                  (iterate 2 refine lkP ?_); (iterate 8 refine lkO ?_); (iterate 2 refine lkP ?_); (iterate 7 refine lkO ?_); (iterate 2 refine lkP ?_); (iterate 8 refine lkO ?_); refine lkP ?_; refine .nil ?_
                  refine done_ (done_of HT_.out (by kernel_rfl)) ?_
                  try go_wp2
                  go_meet
                  case rel => exact ⟨_, (true), rs, H', ⟨by have := HJ1.out; have := HJ19.out; first | omega | exact Nat.le_refl _⟩, ⟨bk BK311⟩, ⟨bk BK330⟩, ⟨bk BK331⟩, ⟨bk BK334⟩, ⟨bk BK337⟩, ⟨bw HB⟩⟩
                · rw [if_neg c70] at H
                  have c70b0 : (!(t338 == t342) || (!(t339 == t343))) = false := by simpa using c70
                  clear c70
                  (first | rw [c70b0] | (simp only [i64_w, i32_w]; rw [c70b0]) | skip)
                  replace H := Option.bind_eq_some_iff.mp H
                  obtain ⟨⟨t344, t345⟩, A760, H⟩ := H
                  replace H : ((turnstileref03_Wide_Minus.f kj19 a0_0 a0_1 a0_2 a0_3).bind fun bt346 => ((turnstilelaw03_wide.f bt346.1 bt346.2).bind fun bt348 => (if (!(t344 == bt348.1) || (!(t345 == bt348.2))) = true then (turnstilelaw03_right.j2 kj19 true a0_0 a0_1 a0_2 a0_3 a0_0 a0_1 t332 t333) else ((sat_Wide_Cmp.f t332 t333 t335 t336).bind fun t350 => ((turnstileref03_Wide_Cmp.f kj19 a0_0 a0_1 a0_2 a0_3).bind fun t351 => (if t350 = t351 then ((sat_Wide_Minus.f t335 t336 t332 t333).bind fun bt352 => ((turnstileref03_Wide_Minus.f kj19 a0_2 a0_3 a0_0 a0_1).bind fun bt354 => ((turnstilelaw03_wide.f bt354.1 bt354.2).bind fun bt356 => (turnstilelaw03_right.j2 kj19 (!(bt352.1 == bt356.1) || (!(bt352.2 == bt356.2))) a0_0 a0_1 a0_2 a0_3 a0_0 a0_1 t332 t333)))) else (turnstilelaw03_right.j2 kj19 true a0_0 a0_1 a0_2 a0_3 a0_0 a0_1 t332 t333))))))) = some r := H
                  have A76 := Aside0.mk A760
                  clear A760
                  replace H := Option.bind_eq_some_iff.mp H
                  obtain ⟨⟨t346, t347⟩, A770, H⟩ := H
                  replace H : ((turnstilelaw03_wide.f t346 t347).bind fun bt348 => (if (!(t344 == bt348.1) || (!(t345 == bt348.2))) = true then (turnstilelaw03_right.j2 kj19 true a0_0 a0_1 a0_2 a0_3 a0_0 a0_1 t332 t333) else ((sat_Wide_Cmp.f t332 t333 t335 t336).bind fun t350 => ((turnstileref03_Wide_Cmp.f kj19 a0_0 a0_1 a0_2 a0_3).bind fun t351 => (if t350 = t351 then ((sat_Wide_Minus.f t335 t336 t332 t333).bind fun bt352 => ((turnstileref03_Wide_Minus.f kj19 a0_2 a0_3 a0_0 a0_1).bind fun bt354 => ((turnstilelaw03_wide.f bt354.1 bt354.2).bind fun bt356 => (turnstilelaw03_right.j2 kj19 (!(bt352.1 == bt356.1) || (!(bt352.2 == bt356.2))) a0_0 a0_1 a0_2 a0_3 a0_0 a0_1 t332 t333)))) else (turnstilelaw03_right.j2 kj19 true a0_0 a0_1 a0_2 a0_3 a0_0 a0_1 t332 t333)))))) = some r := H
                  have A77 := Aside0.mk A770
                  clear A770
                  replace H := Option.bind_eq_some_iff.mp H
                  obtain ⟨⟨t348, t349⟩, A780, H⟩ := H
                  replace H : (if (!(t344 == t348) || (!(t345 == t349))) = true then (turnstilelaw03_right.j2 kj19 true a0_0 a0_1 a0_2 a0_3 a0_0 a0_1 t332 t333) else ((sat_Wide_Cmp.f t332 t333 t335 t336).bind fun t350 => ((turnstileref03_Wide_Cmp.f kj19 a0_0 a0_1 a0_2 a0_3).bind fun t351 => (if t350 = t351 then ((sat_Wide_Minus.f t335 t336 t332 t333).bind fun bt352 => ((turnstileref03_Wide_Minus.f kj19 a0_2 a0_3 a0_0 a0_1).bind fun bt354 => ((turnstilelaw03_wide.f bt354.1 bt354.2).bind fun bt356 => (turnstilelaw03_right.j2 kj19 (!(bt352.1 == bt356.1) || (!(bt352.2 == bt356.2))) a0_0 a0_1 a0_2 a0_3 a0_0 a0_1 t332 t333)))) else (turnstilelaw03_right.j2 kj19 true a0_0 a0_1 a0_2 a0_3 a0_0 a0_1 t332 t333))))) = some r := H
                  have A78 := Aside0.mk A780
                  clear A780
                  by_cases c79 : (!(t344 == t348) || (!(t345 == t349))) = true
                  · rw [if_pos c79] at H
                    have c79b0 : (!(t344 == t348) || (!(t345 == t349))) = true := c79
                    clear c79
                    have H' := Aside0.mk H
                    clear H
                    try go_wp2
                    have n0_ : Aside0 (((w61.setCell ⟨gb337, 0, none⟩ (.int .u64 t335)).setCell ⟨gb337, 1, none⟩ (.int .u64 t336)).heap[gb311]? = some (.cells #[.int .u64 a0_0, .int .u64 a0_1, .int .u64 a0_2, .int .u64 a0_3] 40 (0, 0))) := ⟨bk BK311⟩
                    have n1_ : Aside0 (((w61.setCell ⟨gb337, 0, none⟩ (.int .u64 t335)).setCell ⟨gb337, 1, none⟩ (.int .u64 t336)).heap[gb330]? = some (.cells #[.int .u64 a0_0, .int .u64 a0_1] 66 (0, 0))) := ⟨bk BK330⟩
                    have n2_ : Aside0 (((w61.setCell ⟨gb337, 0, none⟩ (.int .u64 t335)).setCell ⟨gb337, 1, none⟩ (.int .u64 t336)).heap[gb331]? = some (.cells #[.int .u64 a0_2, .int .u64 a0_3] 66 (0, 0))) := ⟨bk BK331⟩
                    have n3_ : Aside0 (((w61.setCell ⟨gb337, 0, none⟩ (.int .u64 t335)).setCell ⟨gb337, 1, none⟩ (.int .u64 t336)).heap[gb334]? = some (.cells #[.int .u64 t332, .int .u64 t333] 24 (0, 0))) := ⟨bk BK334⟩
                    have n4_ : Aside0 (((w61.setCell ⟨gb337, 0, none⟩ (.int .u64 t335)).setCell ⟨gb337, 1, none⟩ (.int .u64 t336)).heap[gb337]? = some (.cells #[.int .u64 t335, .int .u64 t336] 24 (0, 0))) := ⟨bk BK337⟩
                    have n5_ : Aside0 (Below w.heap.size w ((w61.setCell ⟨gb337, 0, none⟩ (.int .u64 t335)).setCell ⟨gb337, 1, none⟩ (.int .u64 t336))) := ⟨bw HB⟩
                    (try clear BK311)
                    (try clear BK330)
                    (try clear BK331)
                    (try clear BK334)
                    (try clear BK337)
                    (try clear HB)
                    generalize ((w61.setCell ⟨gb337, 0, none⟩ (.int .u64 t335)).setCell ⟨gb337, 1, none⟩ (.int .u64 t336)) = w80 at n0_ n1_ n2_ n3_ n4_ n5_ ⊢
                    have BK311 := n0_
                    have BK330 := n1_
                    have BK331 := n2_
                    have BK334 := n3_
                    have BK337 := n4_
                    have HB := n5_
                    clear n0_ n1_ n2_ n3_ n4_ n5_
                    have n0_ := Aside0.mk (blk_drew BK311.out)
                    have n1_ := Aside0.mk (blk_drew BK330.out)
                    have n2_ := Aside0.mk (blk_drew BK331.out)
                    have n3_ := Aside0.mk (blk_drew BK334.out)
                    have n4_ := Aside0.mk (blk_drew BK337.out)
                    have n5_ := Aside0.mk (below_drew1 HB.out)
                    clear BK311
                    clear BK330
                    clear BK331
                    clear BK334
                    clear BK337
                    clear HB
                    have BK311 := n0_
                    have BK330 := n1_
                    have BK331 := n2_
                    have BK334 := n3_
                    have BK337 := n4_
                    have HB := n5_
                    clear n0_ n1_ n2_ n3_ n4_ n5_
                    refine start_ (n := 37) (S := fun w' => w'.cell? ⟨gb334, 0, none⟩ = some (.int .u64 t332) ∧ w'.cell? ⟨gb334, 1, none⟩ = some (.int .u64 t333) ∧ w'.cell? ⟨gb337, 0, none⟩ = some (.int .u64 t335) ∧ w'.cell? ⟨gb337, 1, none⟩ = some (.int .u64 t336) ∧ w'.cell? ⟨gb330, 0, none⟩ = some (.int .u64 a0_0) ∧ w'.cell? ⟨gb330, 1, none⟩ = some (.int .u64 a0_1) ∧ w'.cell? ⟨gb331, 0, none⟩ = some (.int .u64 a0_2) ∧ w'.cell? ⟨gb331, 1, none⟩ = some (.int .u64 a0_3)) (ds := []) #[false, false, false, false, false, false, false, false, false, false, false, false, false, false, false, false, false, false, false, false, false, false, false, false, false, false, false, false, false, false, false, false, false, false, false, false, false] (by kernel_rfl) rfl rfl ⟨(blk_cell BK334.out 0).trans rfl, (blk_cell BK334.out 1).trans rfl, (blk_cell BK337.out 0).trans rfl, (blk_cell BK337.out 1).trans rfl, (blk_cell BK330.out 0).trans rfl, (blk_cell BK330.out 1).trans rfl, (blk_cell BK331.out 0).trans rfl, (blk_cell BK331.out 1).trans rfl⟩ (fun hHeld => ?_); refine with_tabW turnstilelaw03_right.tab9 turnstilelaw03_right.bits9 (fun HT_ HW_ => ?_)
                    generalize w80.drew = w81 at BK311 BK330 BK331 BK334 BK337 HB hHeld ⊢
                    refine chain_ (fuel := 33) [(0, 1, some 88), (1, 1, some 89), (3, 1, some 91), (4, 1, some 92)] #[true, true, false, true, true, false, false, false, false, false, false, false, false, false, false, false, false, false, false, false, false, false, false, false, false, false, false, false, false, false, false, false, false, false, false, false, false] HT_.out HW_.out (by kernel_rfl) (fun _ _ _ _ _ h => h) (Or.inr hHeld) rfl ?_
                    (iterate 4 refine lkT ?_); refine .nil ?_
                    refine one_ (i := 2) (N := some 90) #[true, true, true, true, true, false, false, false, false, false, false, false, false, false, false, false, false, false, false, false, false, false, false, false, false, false, false, false, false, false, false, false, false, false, false, false, false] rfl rfl (one_of HT_.out (by kernel_rfl)) (by decide) (fun K hK => ?_)
                    refine ge Try.func19 #[.agg #[.int .u64 t332, .int .u64 t333], .agg #[.int .u64 t335, .int .u64 t336]] ?_
                    with_reducible refine (sat_Wide_Plus.calls t332 t333 t335 t336 t338 t339 _ A67.out).mono ?_
                    rintro e w82 ⟨rfl, hb⟩
                    refine ⟨_, rfl, ?_⟩
                    have n0_ := bb BK311 hb
                    have n1_ := bb BK330 hb
                    have n2_ := bb BK331 hb
                    have n3_ := bb BK334 hb
                    have n4_ := bb BK337 hb
                    have n5_ := bs HB hb
                    clear BK311
                    clear BK330
                    clear BK331
                    clear BK334
                    clear BK337
                    clear HB
                    have BK311 := n0_
                    have BK330 := n1_
                    have BK331 := n2_
                    have BK334 := n3_
                    have BK337 := n4_
                    have HB := n5_
                    clear n0_ n1_ n2_ n3_ n4_ n5_
                    (try clear hb)
                    (try clear hb2)
                    (try clear hk)
                    (try clear hi)
                    refine hK.out _ _ ⟨(blk_cell BK334.out 0).trans rfl, (blk_cell BK334.out 1).trans rfl, (blk_cell BK337.out 0).trans rfl, (blk_cell BK337.out 1).trans rfl, (blk_cell BK330.out 0).trans rfl, (blk_cell BK330.out 1).trans rfl, (blk_cell BK331.out 0).trans rfl, (blk_cell BK331.out 1).trans rfl⟩ (fun hHeld => ?_)
                    clear hK K
                    refine norm_ (a' := ?_) ?_ ?_
                    rotate_left
                    · show Act.put _ (some 90) _ = _
                      simp only [Act.put, List.setIfInBounds_toArray, List.set_cons_zero, List.set_cons_succ, i64_w, i32_w]
                      rfl
                    refine one_ (i := 5) (N := some 93) #[true, true, true, true, true, true, false, false, false, false, false, false, false, false, false, false, false, false, false, false, false, false, false, false, false, false, false, false, false, false, false, false, false, false, false, false, false] rfl rfl (one_of HT_.out (by kernel_rfl)) (by decide) (fun K hK => ?_)
                    refine ge Try.func49 #[.agg #[.int .u64 a0_0, .int .u64 a0_1], .agg #[.int .u64 a0_2, .int .u64 a0_3]] ?_
                    with_reducible refine (turnstileref03_Wide_Plus.calls kj19 a0_0 a0_1 a0_2 a0_3 t340 t341 _ A68.out).mono ?_
                    rintro e w83 ⟨rfl, hb⟩
                    refine ⟨_, rfl, ?_⟩
                    have n0_ := bb BK311 hb
                    have n1_ := bb BK330 hb
                    have n2_ := bb BK331 hb
                    have n3_ := bb BK334 hb
                    have n4_ := bb BK337 hb
                    have n5_ := bs HB hb
                    clear BK311
                    clear BK330
                    clear BK331
                    clear BK334
                    clear BK337
                    clear HB
                    have BK311 := n0_
                    have BK330 := n1_
                    have BK331 := n2_
                    have BK334 := n3_
                    have BK337 := n4_
                    have HB := n5_
                    clear n0_ n1_ n2_ n3_ n4_ n5_
                    (try clear hb)
                    (try clear hb2)
                    (try clear hk)
                    (try clear hi)
                    refine hK.out _ _ ⟨(blk_cell BK334.out 0).trans rfl, (blk_cell BK334.out 1).trans rfl, (blk_cell BK337.out 0).trans rfl, (blk_cell BK337.out 1).trans rfl, (blk_cell BK330.out 0).trans rfl, (blk_cell BK330.out 1).trans rfl, (blk_cell BK331.out 0).trans rfl, (blk_cell BK331.out 1).trans rfl⟩ (fun hHeld => ?_)
                    clear hK K
                    refine norm_ (a' := ?_) ?_ ?_
                    rotate_left
                    · show Act.put _ (some 93) _ = _
                      simp only [Act.put, List.setIfInBounds_toArray, List.set_cons_zero, List.set_cons_succ, i64_w, i32_w]
                      rfl
                    refine one_ (i := 6) (N := some 94) #[true, true, true, true, true, true, true, false, false, false, false, false, false, false, false, false, false, false, false, false, false, false, false, false, false, false, false, false, false, false, false, false, false, false, false, false, false] rfl rfl (one_of HT_.out (by kernel_rfl)) (by decide) (fun K hK => ?_)
                    refine ge Try.func46 #[.agg #[.int .u64 t340, .int .u64 t341]] ?_
                    with_reducible refine (turnstilelaw03_wide.calls t340 t341 t342 t343 _ A69.out).mono ?_
                    rintro e w84 ⟨rfl, hb⟩
                    refine ⟨_, rfl, ?_⟩
                    have n0_ := bb BK311 hb
                    have n1_ := bb BK330 hb
                    have n2_ := bb BK331 hb
                    have n3_ := bb BK334 hb
                    have n4_ := bb BK337 hb
                    have n5_ := bs HB hb
                    clear BK311
                    clear BK330
                    clear BK331
                    clear BK334
                    clear BK337
                    clear HB
                    have BK311 := n0_
                    have BK330 := n1_
                    have BK331 := n2_
                    have BK334 := n3_
                    have BK337 := n4_
                    have HB := n5_
                    clear n0_ n1_ n2_ n3_ n4_ n5_
                    (try clear hb)
                    (try clear hb2)
                    (try clear hk)
                    (try clear hi)
                    refine hK.out _ _ ⟨(blk_cell BK334.out 0).trans rfl, (blk_cell BK334.out 1).trans rfl, (blk_cell BK337.out 0).trans rfl, (blk_cell BK337.out 1).trans rfl, (blk_cell BK330.out 0).trans rfl, (blk_cell BK330.out 1).trans rfl, (blk_cell BK331.out 0).trans rfl, (blk_cell BK331.out 1).trans rfl⟩ (fun hHeld => ?_)
                    clear hK K
                    refine norm_ (a' := ?_) ?_ ?_
                    rotate_left
                    · show Act.put _ (some 94) _ = _
                      simp only [Act.put, List.setIfInBounds_toArray, List.set_cons_zero, List.set_cons_succ, i64_w, i32_w]
                      rfl
                    refine chain_ (fuel := 24) [(7, 0, some 95), (8, 0, some 96), (9, 1, some 97), (10, 1, some 98), (12, 1, some 100), (13, 1, some 101)] #[true, true, true, true, true, true, true, true, true, true, true, false, true, true, false, false, false, false, false, false, false, false, false, false, false, false, false, false, false, false, false, false, false, false, false, false, false] HT_.out HW_.out (by kernel_rfl) (fun _ _ _ _ _ h => h) (Or.inr hHeld) rfl ?_
                    (iterate 2 refine lkP ?_); (iterate 4 refine lkT ?_); refine .nil ?_
                    refine one_ (i := 11) (N := some 99) #[true, true, true, true, true, true, true, true, true, true, true, true, true, true, false, false, false, false, false, false, false, false, false, false, false, false, false, false, false, false, false, false, false, false, false, false, false] rfl rfl (one_of HT_.out (by kernel_rfl)) (by decide) (fun K hK => ?_)
                    refine ge Try.func22 #[.agg #[.int .u64 t332, .int .u64 t333], .agg #[.int .u64 t335, .int .u64 t336]] ?_
                    with_reducible refine (sat_Wide_Minus.calls t332 t333 t335 t336 t344 t345 _ A76.out).mono ?_
                    rintro e w85 ⟨rfl, hb⟩
                    refine ⟨_, rfl, ?_⟩
                    have n0_ := bb BK311 hb
                    have n1_ := bb BK330 hb
                    have n2_ := bb BK331 hb
                    have n3_ := bb BK334 hb
                    have n4_ := bb BK337 hb
                    have n5_ := bs HB hb
                    clear BK311
                    clear BK330
                    clear BK331
                    clear BK334
                    clear BK337
                    clear HB
                    have BK311 := n0_
                    have BK330 := n1_
                    have BK331 := n2_
                    have BK334 := n3_
                    have BK337 := n4_
                    have HB := n5_
                    clear n0_ n1_ n2_ n3_ n4_ n5_
                    (try clear hb)
                    (try clear hb2)
                    (try clear hk)
                    (try clear hi)
                    refine hK.out _ _ ⟨(blk_cell BK334.out 0).trans rfl, (blk_cell BK334.out 1).trans rfl, (blk_cell BK337.out 0).trans rfl, (blk_cell BK337.out 1).trans rfl, (blk_cell BK330.out 0).trans rfl, (blk_cell BK330.out 1).trans rfl, (blk_cell BK331.out 0).trans rfl, (blk_cell BK331.out 1).trans rfl⟩ (fun hHeld => ?_)
                    clear hK K
                    refine norm_ (a' := ?_) ?_ ?_
                    rotate_left
                    · show Act.put _ (some 99) _ = _
                      simp only [Act.put, List.setIfInBounds_toArray, List.set_cons_zero, List.set_cons_succ, i64_w, i32_w]
                      rfl
                    refine one_ (i := 14) (N := some 102) #[true, true, true, true, true, true, true, true, true, true, true, true, true, true, true, false, false, false, false, false, false, false, false, false, false, false, false, false, false, false, false, false, false, false, false, false, false] rfl rfl (one_of HT_.out (by kernel_rfl)) (by decide) (fun K hK => ?_)
                    refine ge Try.func50 #[.agg #[.int .u64 a0_0, .int .u64 a0_1], .agg #[.int .u64 a0_2, .int .u64 a0_3]] ?_
                    with_reducible refine (turnstileref03_Wide_Minus.calls kj19 a0_0 a0_1 a0_2 a0_3 t346 t347 _ A77.out).mono ?_
                    rintro e w86 ⟨rfl, hb⟩
                    refine ⟨_, rfl, ?_⟩
                    have n0_ := bb BK311 hb
                    have n1_ := bb BK330 hb
                    have n2_ := bb BK331 hb
                    have n3_ := bb BK334 hb
                    have n4_ := bb BK337 hb
                    have n5_ := bs HB hb
                    clear BK311
                    clear BK330
                    clear BK331
                    clear BK334
                    clear BK337
                    clear HB
                    have BK311 := n0_
                    have BK330 := n1_
                    have BK331 := n2_
                    have BK334 := n3_
                    have BK337 := n4_
                    have HB := n5_
                    clear n0_ n1_ n2_ n3_ n4_ n5_
                    (try clear hb)
                    (try clear hb2)
                    (try clear hk)
                    (try clear hi)
                    refine hK.out _ _ ⟨(blk_cell BK334.out 0).trans rfl, (blk_cell BK334.out 1).trans rfl, (blk_cell BK337.out 0).trans rfl, (blk_cell BK337.out 1).trans rfl, (blk_cell BK330.out 0).trans rfl, (blk_cell BK330.out 1).trans rfl, (blk_cell BK331.out 0).trans rfl, (blk_cell BK331.out 1).trans rfl⟩ (fun hHeld => ?_)
                    clear hK K
                    refine norm_ (a' := ?_) ?_ ?_
                    rotate_left
                    · show Act.put _ (some 102) _ = _
                      simp only [Act.put, List.setIfInBounds_toArray, List.set_cons_zero, List.set_cons_succ, i64_w, i32_w]
                      rfl
                    refine one_ (i := 15) (N := some 103) #[true, true, true, true, true, true, true, true, true, true, true, true, true, true, true, true, false, false, false, false, false, false, false, false, false, false, false, false, false, false, false, false, false, false, false, false, false] rfl rfl (one_of HT_.out (by kernel_rfl)) (by decide) (fun K hK => ?_)
                    refine ge Try.func46 #[.agg #[.int .u64 t346, .int .u64 t347]] ?_
                    with_reducible refine (turnstilelaw03_wide.calls t346 t347 t348 t349 _ A78.out).mono ?_
                    rintro e w87 ⟨rfl, hb⟩
                    refine ⟨_, rfl, ?_⟩
                    have n0_ := bb BK311 hb
                    have n1_ := bb BK330 hb
                    have n2_ := bb BK331 hb
                    have n3_ := bb BK334 hb
                    have n4_ := bb BK337 hb
                    have n5_ := bs HB hb
                    clear BK311
                    clear BK330
                    clear BK331
                    clear BK334
                    clear BK337
                    clear HB
                    have BK311 := n0_
                    have BK330 := n1_
                    have BK331 := n2_
                    have BK334 := n3_
                    have BK337 := n4_
                    have HB := n5_
                    clear n0_ n1_ n2_ n3_ n4_ n5_
                    (try clear hb)
                    (try clear hb2)
                    (try clear hk)
                    (try clear hi)
                    refine hK.out _ _ ⟨(blk_cell BK334.out 0).trans rfl, (blk_cell BK334.out 1).trans rfl, (blk_cell BK337.out 0).trans rfl, (blk_cell BK337.out 1).trans rfl, (blk_cell BK330.out 0).trans rfl, (blk_cell BK330.out 1).trans rfl, (blk_cell BK331.out 0).trans rfl, (blk_cell BK331.out 1).trans rfl⟩ (fun hHeld => ?_)
                    clear hK K
                    refine norm_ (a' := ?_) ?_ ?_
                    rotate_left
                    · show Act.put _ (some 103) _ = _
                      simp only [Act.put, List.setIfInBounds_toArray, List.set_cons_zero, List.set_cons_succ, i64_w, i32_w]
                      rfl
                    refine chain_ (fuel := 0) [(16, 0, some 104), (17, 0, some 105), (18, 0, some 106), (19, 2, some 107), (20, 2, some 108), (21, 2, some 109), (22, 2, some 110), (23, 2, some 111), (24, 2, some 112), (25, 2, some 113), (26, 0, some 114), (27, 0, some 115), (28, 2, some 116), (29, 2, some 117), (30, 2, some 118), (31, 2, some 119), (32, 2, some 120), (33, 2, some 121), (34, 2, some 122), (35, 2, some 123), (36, 0, some 124)] #[true, true, true, true, true, true, true, true, true, true, true, true, true, true, true, true, true, true, true, true, true, true, true, true, true, true, true, true, true, true, true, true, true, true, true, true, true] HT_.out HW_.out (by kernel_rfl) (fun _ _ _ _ _ h => h) (Or.inl (by decide)) rfl ?_
                    (iterate 3 refine lkP ?_); (iterate 7 refine lkO ?_); (iterate 2 refine lkP ?_); (iterate 8 refine lkO ?_); refine lkP ?_; refine .nil ?_
                    refine done_ (done_of HT_.out (by kernel_rfl)) ?_
                    try go_wp2
                    go_meet
                    case rel => exact ⟨_, (true), rs, H', ⟨by have := HJ1.out; have := HJ19.out; first | omega | exact Nat.le_refl _⟩, ⟨bk BK311⟩, ⟨bk BK330⟩, ⟨bk BK331⟩, ⟨bk BK334⟩, ⟨bk BK337⟩, ⟨bw HB⟩⟩
                  · rw [if_neg c79] at H
                    have c79b0 : (!(t344 == t348) || (!(t345 == t349))) = false := by simpa using c79
                    clear c79
                    replace H := Option.bind_eq_some_iff.mp H
                    obtain ⟨t350, A880, H⟩ := H
                    replace H : ((turnstileref03_Wide_Cmp.f kj19 a0_0 a0_1 a0_2 a0_3).bind fun t351 => (if t350 = t351 then ((sat_Wide_Minus.f t335 t336 t332 t333).bind fun bt352 => ((turnstileref03_Wide_Minus.f kj19 a0_2 a0_3 a0_0 a0_1).bind fun bt354 => ((turnstilelaw03_wide.f bt354.1 bt354.2).bind fun bt356 => (turnstilelaw03_right.j2 kj19 (!(bt352.1 == bt356.1) || (!(bt352.2 == bt356.2))) a0_0 a0_1 a0_2 a0_3 a0_0 a0_1 t332 t333)))) else (turnstilelaw03_right.j2 kj19 true a0_0 a0_1 a0_2 a0_3 a0_0 a0_1 t332 t333))) = some r := H
                    have A88 := Aside0.mk A880
                    clear A880
                    replace H := Option.bind_eq_some_iff.mp H
                    obtain ⟨t351, A890, H⟩ := H
                    replace H : (if t350 = t351 then ((sat_Wide_Minus.f t335 t336 t332 t333).bind fun bt352 => ((turnstileref03_Wide_Minus.f kj19 a0_2 a0_3 a0_0 a0_1).bind fun bt354 => ((turnstilelaw03_wide.f bt354.1 bt354.2).bind fun bt356 => (turnstilelaw03_right.j2 kj19 (!(bt352.1 == bt356.1) || (!(bt352.2 == bt356.2))) a0_0 a0_1 a0_2 a0_3 a0_0 a0_1 t332 t333)))) else (turnstilelaw03_right.j2 kj19 true a0_0 a0_1 a0_2 a0_3 a0_0 a0_1 t332 t333)) = some r := H
                    have A89 := Aside0.mk A890
                    clear A890
                    by_cases c90 : t350 = t351
                    · rw [if_pos c90] at H
                      have c90b0 : (t350 == t351) = true := beq_iff_eq.mpr c90
                      have c90b1 : (t350 != t351) = false := bne_eq_false_iff_eq.mpr c90
                      clear c90
                      (try (have hd91 := c70b0; rw [c90b0] at hd91; (first | rw [Bool.true_and] at hd91 | rw [Bool.and_true] at hd91 | (rw [Bool.not_true] at hd91; rw [Bool.false_or] at hd91) | skip)))
                      (try (have hd92 := c79b0; rw [c90b0] at hd92; (first | rw [Bool.true_and] at hd92 | rw [Bool.and_true] at hd92 | (rw [Bool.not_true] at hd92; rw [Bool.false_or] at hd92) | skip)))
                      replace H := Option.bind_eq_some_iff.mp H
                      obtain ⟨⟨t352, t353⟩, A930, H⟩ := H
                      replace H : ((turnstileref03_Wide_Minus.f kj19 a0_2 a0_3 a0_0 a0_1).bind fun bt354 => ((turnstilelaw03_wide.f bt354.1 bt354.2).bind fun bt356 => (turnstilelaw03_right.j2 kj19 (!(t352 == bt356.1) || (!(t353 == bt356.2))) a0_0 a0_1 a0_2 a0_3 a0_0 a0_1 t332 t333))) = some r := H
                      have A93 := Aside0.mk A930
                      clear A930
                      replace H := Option.bind_eq_some_iff.mp H
                      obtain ⟨⟨t354, t355⟩, A940, H⟩ := H
                      replace H : ((turnstilelaw03_wide.f t354 t355).bind fun bt356 => (turnstilelaw03_right.j2 kj19 (!(t352 == bt356.1) || (!(t353 == bt356.2))) a0_0 a0_1 a0_2 a0_3 a0_0 a0_1 t332 t333)) = some r := H
                      have A94 := Aside0.mk A940
                      clear A940
                      replace H := Option.bind_eq_some_iff.mp H
                      obtain ⟨⟨t356, t357⟩, A950, H⟩ := H
                      replace H : (turnstilelaw03_right.j2 kj19 (!(t352 == t356) || (!(t353 == t357))) a0_0 a0_1 a0_2 a0_3 a0_0 a0_1 t332 t333) = some r := H
                      have A95 := Aside0.mk A950
                      clear A950
                      have H' := Aside0.mk H
                      clear H
                      try go_wp2
                      have n0_ : Aside0 (((w61.setCell ⟨gb337, 0, none⟩ (.int .u64 t335)).setCell ⟨gb337, 1, none⟩ (.int .u64 t336)).heap[gb311]? = some (.cells #[.int .u64 a0_0, .int .u64 a0_1, .int .u64 a0_2, .int .u64 a0_3] 40 (0, 0))) := ⟨bk BK311⟩
                      have n1_ : Aside0 (((w61.setCell ⟨gb337, 0, none⟩ (.int .u64 t335)).setCell ⟨gb337, 1, none⟩ (.int .u64 t336)).heap[gb330]? = some (.cells #[.int .u64 a0_0, .int .u64 a0_1] 66 (0, 0))) := ⟨bk BK330⟩
                      have n2_ : Aside0 (((w61.setCell ⟨gb337, 0, none⟩ (.int .u64 t335)).setCell ⟨gb337, 1, none⟩ (.int .u64 t336)).heap[gb331]? = some (.cells #[.int .u64 a0_2, .int .u64 a0_3] 66 (0, 0))) := ⟨bk BK331⟩
                      have n3_ : Aside0 (((w61.setCell ⟨gb337, 0, none⟩ (.int .u64 t335)).setCell ⟨gb337, 1, none⟩ (.int .u64 t336)).heap[gb334]? = some (.cells #[.int .u64 t332, .int .u64 t333] 24 (0, 0))) := ⟨bk BK334⟩
                      have n4_ : Aside0 (((w61.setCell ⟨gb337, 0, none⟩ (.int .u64 t335)).setCell ⟨gb337, 1, none⟩ (.int .u64 t336)).heap[gb337]? = some (.cells #[.int .u64 t335, .int .u64 t336] 24 (0, 0))) := ⟨bk BK337⟩
                      have n5_ : Aside0 (Below w.heap.size w ((w61.setCell ⟨gb337, 0, none⟩ (.int .u64 t335)).setCell ⟨gb337, 1, none⟩ (.int .u64 t336))) := ⟨bw HB⟩
                      (try clear BK311)
                      (try clear BK330)
                      (try clear BK331)
                      (try clear BK334)
                      (try clear BK337)
                      (try clear HB)
                      generalize ((w61.setCell ⟨gb337, 0, none⟩ (.int .u64 t335)).setCell ⟨gb337, 1, none⟩ (.int .u64 t336)) = w96 at n0_ n1_ n2_ n3_ n4_ n5_ ⊢
                      have BK311 := n0_
                      have BK330 := n1_
                      have BK331 := n2_
                      have BK334 := n3_
                      have BK337 := n4_
                      have HB := n5_
                      clear n0_ n1_ n2_ n3_ n4_ n5_
                      have n0_ := Aside0.mk (blk_drew BK311.out)
                      have n1_ := Aside0.mk (blk_drew BK330.out)
                      have n2_ := Aside0.mk (blk_drew BK331.out)
                      have n3_ := Aside0.mk (blk_drew BK334.out)
                      have n4_ := Aside0.mk (blk_drew BK337.out)
                      have n5_ := Aside0.mk (below_drew1 HB.out)
                      clear BK311
                      clear BK330
                      clear BK331
                      clear BK334
                      clear BK337
                      clear HB
                      have BK311 := n0_
                      have BK330 := n1_
                      have BK331 := n2_
                      have BK334 := n3_
                      have BK337 := n4_
                      have HB := n5_
                      clear n0_ n1_ n2_ n3_ n4_ n5_
                      refine start_ (n := 37) (S := fun w' => w'.cell? ⟨gb334, 0, none⟩ = some (.int .u64 t332) ∧ w'.cell? ⟨gb334, 1, none⟩ = some (.int .u64 t333) ∧ w'.cell? ⟨gb337, 0, none⟩ = some (.int .u64 t335) ∧ w'.cell? ⟨gb337, 1, none⟩ = some (.int .u64 t336) ∧ w'.cell? ⟨gb330, 0, none⟩ = some (.int .u64 a0_0) ∧ w'.cell? ⟨gb330, 1, none⟩ = some (.int .u64 a0_1) ∧ w'.cell? ⟨gb331, 0, none⟩ = some (.int .u64 a0_2) ∧ w'.cell? ⟨gb331, 1, none⟩ = some (.int .u64 a0_3)) (ds := []) #[false, false, false, false, false, false, false, false, false, false, false, false, false, false, false, false, false, false, false, false, false, false, false, false, false, false, false, false, false, false, false, false, false, false, false, false, false] (by kernel_rfl) rfl rfl ⟨(blk_cell BK334.out 0).trans rfl, (blk_cell BK334.out 1).trans rfl, (blk_cell BK337.out 0).trans rfl, (blk_cell BK337.out 1).trans rfl, (blk_cell BK330.out 0).trans rfl, (blk_cell BK330.out 1).trans rfl, (blk_cell BK331.out 0).trans rfl, (blk_cell BK331.out 1).trans rfl⟩ (fun hHeld => ?_); refine with_tabW turnstilelaw03_right.tab9 turnstilelaw03_right.bits9 (fun HT_ HW_ => ?_)
                      generalize w96.drew = w97 at BK311 BK330 BK331 BK334 BK337 HB hHeld ⊢
                      refine chain_ (fuel := 33) [(0, 1, some 88), (1, 1, some 89), (3, 1, some 91), (4, 1, some 92)] #[true, true, false, true, true, false, false, false, false, false, false, false, false, false, false, false, false, false, false, false, false, false, false, false, false, false, false, false, false, false, false, false, false, false, false, false, false] HT_.out HW_.out (by kernel_rfl) (fun _ _ _ _ _ h => h) (Or.inr hHeld) rfl ?_
                      (iterate 4 refine lkT ?_); refine .nil ?_
                      refine one_ (i := 2) (N := some 90) #[true, true, true, true, true, false, false, false, false, false, false, false, false, false, false, false, false, false, false, false, false, false, false, false, false, false, false, false, false, false, false, false, false, false, false, false, false] rfl rfl (one_of HT_.out (by kernel_rfl)) (by decide) (fun K hK => ?_)
                      refine ge Try.func19 #[.agg #[.int .u64 t332, .int .u64 t333], .agg #[.int .u64 t335, .int .u64 t336]] ?_
                      with_reducible refine (sat_Wide_Plus.calls t332 t333 t335 t336 t338 t339 _ A67.out).mono ?_
                      rintro e w98 ⟨rfl, hb⟩
                      refine ⟨_, rfl, ?_⟩
                      have n0_ := bb BK311 hb
                      have n1_ := bb BK330 hb
                      have n2_ := bb BK331 hb
                      have n3_ := bb BK334 hb
                      have n4_ := bb BK337 hb
                      have n5_ := bs HB hb
                      clear BK311
                      clear BK330
                      clear BK331
                      clear BK334
                      clear BK337
                      clear HB
                      have BK311 := n0_
                      have BK330 := n1_
                      have BK331 := n2_
                      have BK334 := n3_
                      have BK337 := n4_
                      have HB := n5_
                      clear n0_ n1_ n2_ n3_ n4_ n5_
                      (try clear hb)
                      (try clear hb2)
                      (try clear hk)
                      (try clear hi)
                      refine hK.out _ _ ⟨(blk_cell BK334.out 0).trans rfl, (blk_cell BK334.out 1).trans rfl, (blk_cell BK337.out 0).trans rfl, (blk_cell BK337.out 1).trans rfl, (blk_cell BK330.out 0).trans rfl, (blk_cell BK330.out 1).trans rfl, (blk_cell BK331.out 0).trans rfl, (blk_cell BK331.out 1).trans rfl⟩ (fun hHeld => ?_)
                      clear hK K
                      refine norm_ (a' := ?_) ?_ ?_
                      rotate_left
                      · show Act.put _ (some 90) _ = _
                        simp only [Act.put, List.setIfInBounds_toArray, List.set_cons_zero, List.set_cons_succ, i64_w, i32_w]
                        rfl
                      refine one_ (i := 5) (N := some 93) #[true, true, true, true, true, true, false, false, false, false, false, false, false, false, false, false, false, false, false, false, false, false, false, false, false, false, false, false, false, false, false, false, false, false, false, false, false] rfl rfl (one_of HT_.out (by kernel_rfl)) (by decide) (fun K hK => ?_)
                      refine ge Try.func49 #[.agg #[.int .u64 a0_0, .int .u64 a0_1], .agg #[.int .u64 a0_2, .int .u64 a0_3]] ?_
                      with_reducible refine (turnstileref03_Wide_Plus.calls kj19 a0_0 a0_1 a0_2 a0_3 t340 t341 _ A68.out).mono ?_
                      rintro e w99 ⟨rfl, hb⟩
                      refine ⟨_, rfl, ?_⟩
                      have n0_ := bb BK311 hb
                      have n1_ := bb BK330 hb
                      have n2_ := bb BK331 hb
                      have n3_ := bb BK334 hb
                      have n4_ := bb BK337 hb
                      have n5_ := bs HB hb
                      clear BK311
                      clear BK330
                      clear BK331
                      clear BK334
                      clear BK337
                      clear HB
                      have BK311 := n0_
                      have BK330 := n1_
                      have BK331 := n2_
                      have BK334 := n3_
                      have BK337 := n4_
                      have HB := n5_
                      clear n0_ n1_ n2_ n3_ n4_ n5_
                      (try clear hb)
                      (try clear hb2)
                      (try clear hk)
                      (try clear hi)
                      refine hK.out _ _ ⟨(blk_cell BK334.out 0).trans rfl, (blk_cell BK334.out 1).trans rfl, (blk_cell BK337.out 0).trans rfl, (blk_cell BK337.out 1).trans rfl, (blk_cell BK330.out 0).trans rfl, (blk_cell BK330.out 1).trans rfl, (blk_cell BK331.out 0).trans rfl, (blk_cell BK331.out 1).trans rfl⟩ (fun hHeld => ?_)
                      clear hK K
                      refine norm_ (a' := ?_) ?_ ?_
                      rotate_left
                      · show Act.put _ (some 93) _ = _
                        simp only [Act.put, List.setIfInBounds_toArray, List.set_cons_zero, List.set_cons_succ, i64_w, i32_w]
                        rfl
                      refine one_ (i := 6) (N := some 94) #[true, true, true, true, true, true, true, false, false, false, false, false, false, false, false, false, false, false, false, false, false, false, false, false, false, false, false, false, false, false, false, false, false, false, false, false, false] rfl rfl (one_of HT_.out (by kernel_rfl)) (by decide) (fun K hK => ?_)
                      refine ge Try.func46 #[.agg #[.int .u64 t340, .int .u64 t341]] ?_
                      with_reducible refine (turnstilelaw03_wide.calls t340 t341 t342 t343 _ A69.out).mono ?_
                      rintro e w100 ⟨rfl, hb⟩
                      refine ⟨_, rfl, ?_⟩
                      have n0_ := bb BK311 hb
                      have n1_ := bb BK330 hb
                      have n2_ := bb BK331 hb
                      have n3_ := bb BK334 hb
                      have n4_ := bb BK337 hb
                      have n5_ := bs HB hb
                      clear BK311
                      clear BK330
                      clear BK331
                      clear BK334
                      clear BK337
                      clear HB
                      have BK311 := n0_
                      have BK330 := n1_
                      have BK331 := n2_
                      have BK334 := n3_
                      have BK337 := n4_
                      have HB := n5_
                      clear n0_ n1_ n2_ n3_ n4_ n5_
                      (try clear hb)
                      (try clear hb2)
                      (try clear hk)
                      (try clear hi)
                      refine hK.out _ _ ⟨(blk_cell BK334.out 0).trans rfl, (blk_cell BK334.out 1).trans rfl, (blk_cell BK337.out 0).trans rfl, (blk_cell BK337.out 1).trans rfl, (blk_cell BK330.out 0).trans rfl, (blk_cell BK330.out 1).trans rfl, (blk_cell BK331.out 0).trans rfl, (blk_cell BK331.out 1).trans rfl⟩ (fun hHeld => ?_)
                      clear hK K
                      refine norm_ (a' := ?_) ?_ ?_
                      rotate_left
                      · show Act.put _ (some 94) _ = _
                        simp only [Act.put, List.setIfInBounds_toArray, List.set_cons_zero, List.set_cons_succ, i64_w, i32_w]
                        rfl
                      refine chain_ (fuel := 24) [(7, 0, some 95), (8, 0, some 96), (9, 1, some 97), (10, 1, some 98), (12, 1, some 100), (13, 1, some 101)] #[true, true, true, true, true, true, true, true, true, true, true, false, true, true, false, false, false, false, false, false, false, false, false, false, false, false, false, false, false, false, false, false, false, false, false, false, false] HT_.out HW_.out (by kernel_rfl) (fun _ _ _ _ _ h => h) (Or.inr hHeld) rfl ?_
                      (iterate 2 refine lkP ?_); (iterate 4 refine lkT ?_); refine .nil ?_
                      refine one_ (i := 11) (N := some 99) #[true, true, true, true, true, true, true, true, true, true, true, true, true, true, false, false, false, false, false, false, false, false, false, false, false, false, false, false, false, false, false, false, false, false, false, false, false] rfl rfl (one_of HT_.out (by kernel_rfl)) (by decide) (fun K hK => ?_)
                      refine ge Try.func22 #[.agg #[.int .u64 t332, .int .u64 t333], .agg #[.int .u64 t335, .int .u64 t336]] ?_
                      with_reducible refine (sat_Wide_Minus.calls t332 t333 t335 t336 t344 t345 _ A76.out).mono ?_
                      rintro e w101 ⟨rfl, hb⟩
                      refine ⟨_, rfl, ?_⟩
                      have n0_ := bb BK311 hb
                      have n1_ := bb BK330 hb
                      have n2_ := bb BK331 hb
                      have n3_ := bb BK334 hb
                      have n4_ := bb BK337 hb
                      have n5_ := bs HB hb
                      clear BK311
                      clear BK330
                      clear BK331
                      clear BK334
                      clear BK337
                      clear HB
                      have BK311 := n0_
                      have BK330 := n1_
                      have BK331 := n2_
                      have BK334 := n3_
                      have BK337 := n4_
                      have HB := n5_
                      clear n0_ n1_ n2_ n3_ n4_ n5_
                      (try clear hb)
                      (try clear hb2)
                      (try clear hk)
                      (try clear hi)
                      refine hK.out _ _ ⟨(blk_cell BK334.out 0).trans rfl, (blk_cell BK334.out 1).trans rfl, (blk_cell BK337.out 0).trans rfl, (blk_cell BK337.out 1).trans rfl, (blk_cell BK330.out 0).trans rfl, (blk_cell BK330.out 1).trans rfl, (blk_cell BK331.out 0).trans rfl, (blk_cell BK331.out 1).trans rfl⟩ (fun hHeld => ?_)
                      clear hK K
                      refine norm_ (a' := ?_) ?_ ?_
                      rotate_left
                      · show Act.put _ (some 99) _ = _
                        simp only [Act.put, List.setIfInBounds_toArray, List.set_cons_zero, List.set_cons_succ, i64_w, i32_w]
                        rfl
                      refine one_ (i := 14) (N := some 102) #[true, true, true, true, true, true, true, true, true, true, true, true, true, true, true, false, false, false, false, false, false, false, false, false, false, false, false, false, false, false, false, false, false, false, false, false, false] rfl rfl (one_of HT_.out (by kernel_rfl)) (by decide) (fun K hK => ?_)
                      refine ge Try.func50 #[.agg #[.int .u64 a0_0, .int .u64 a0_1], .agg #[.int .u64 a0_2, .int .u64 a0_3]] ?_
                      with_reducible refine (turnstileref03_Wide_Minus.calls kj19 a0_0 a0_1 a0_2 a0_3 t346 t347 _ A77.out).mono ?_
                      rintro e w102 ⟨rfl, hb⟩
                      refine ⟨_, rfl, ?_⟩
                      have n0_ := bb BK311 hb
                      have n1_ := bb BK330 hb
                      have n2_ := bb BK331 hb
                      have n3_ := bb BK334 hb
                      have n4_ := bb BK337 hb
                      have n5_ := bs HB hb
                      clear BK311
                      clear BK330
                      clear BK331
                      clear BK334
                      clear BK337
                      clear HB
                      have BK311 := n0_
                      have BK330 := n1_
                      have BK331 := n2_
                      have BK334 := n3_
                      have BK337 := n4_
                      have HB := n5_
                      clear n0_ n1_ n2_ n3_ n4_ n5_
                      (try clear hb)
                      (try clear hb2)
                      (try clear hk)
                      (try clear hi)
                      refine hK.out _ _ ⟨(blk_cell BK334.out 0).trans rfl, (blk_cell BK334.out 1).trans rfl, (blk_cell BK337.out 0).trans rfl, (blk_cell BK337.out 1).trans rfl, (blk_cell BK330.out 0).trans rfl, (blk_cell BK330.out 1).trans rfl, (blk_cell BK331.out 0).trans rfl, (blk_cell BK331.out 1).trans rfl⟩ (fun hHeld => ?_)
                      clear hK K
                      refine norm_ (a' := ?_) ?_ ?_
                      rotate_left
                      · show Act.put _ (some 102) _ = _
                        simp only [Act.put, List.setIfInBounds_toArray, List.set_cons_zero, List.set_cons_succ, i64_w, i32_w]
                        rfl
                      refine one_ (i := 15) (N := some 103) #[true, true, true, true, true, true, true, true, true, true, true, true, true, true, true, true, false, false, false, false, false, false, false, false, false, false, false, false, false, false, false, false, false, false, false, false, false] rfl rfl (one_of HT_.out (by kernel_rfl)) (by decide) (fun K hK => ?_)
                      refine ge Try.func46 #[.agg #[.int .u64 t346, .int .u64 t347]] ?_
                      with_reducible refine (turnstilelaw03_wide.calls t346 t347 t348 t349 _ A78.out).mono ?_
                      rintro e w103 ⟨rfl, hb⟩
                      refine ⟨_, rfl, ?_⟩
                      have n0_ := bb BK311 hb
                      have n1_ := bb BK330 hb
                      have n2_ := bb BK331 hb
                      have n3_ := bb BK334 hb
                      have n4_ := bb BK337 hb
                      have n5_ := bs HB hb
                      clear BK311
                      clear BK330
                      clear BK331
                      clear BK334
                      clear BK337
                      clear HB
                      have BK311 := n0_
                      have BK330 := n1_
                      have BK331 := n2_
                      have BK334 := n3_
                      have BK337 := n4_
                      have HB := n5_
                      clear n0_ n1_ n2_ n3_ n4_ n5_
                      (try clear hb)
                      (try clear hb2)
                      (try clear hk)
                      (try clear hi)
                      refine hK.out _ _ ⟨(blk_cell BK334.out 0).trans rfl, (blk_cell BK334.out 1).trans rfl, (blk_cell BK337.out 0).trans rfl, (blk_cell BK337.out 1).trans rfl, (blk_cell BK330.out 0).trans rfl, (blk_cell BK330.out 1).trans rfl, (blk_cell BK331.out 0).trans rfl, (blk_cell BK331.out 1).trans rfl⟩ (fun hHeld => ?_)
                      clear hK K
                      refine norm_ (a' := ?_) ?_ ?_
                      rotate_left
                      · show Act.put _ (some 103) _ = _
                        simp only [Act.put, List.setIfInBounds_toArray, List.set_cons_zero, List.set_cons_succ, i64_w, i32_w]
                        rfl
                      refine chain_ (fuel := 14) [(16, 0, some 104), (17, 0, some 105), (18, 0, some 106), (19, 1, some 107), (20, 1, some 108), (22, 1, some 110), (23, 1, some 111)] #[true, true, true, true, true, true, true, true, true, true, true, true, true, true, true, true, true, true, true, true, true, false, true, true, false, false, false, false, false, false, false, false, false, false, false, false, false] HT_.out HW_.out (by kernel_rfl) (fun _ _ _ _ _ h => h) (Or.inr hHeld) rfl ?_
                      (iterate 3 refine lkP ?_); (iterate 4 refine lkT ?_); refine .nil ?_
                      refine one_ (i := 21) (N := some 109) #[true, true, true, true, true, true, true, true, true, true, true, true, true, true, true, true, true, true, true, true, true, true, true, true, false, false, false, false, false, false, false, false, false, false, false, false, false] rfl rfl (one_of HT_.out (by kernel_rfl)) (by decide) (fun K hK => ?_)
                      refine ge Try.func21 #[.agg #[.int .u64 t332, .int .u64 t333], .agg #[.int .u64 t335, .int .u64 t336]] ?_
                      with_reducible refine (sat_Wide_Cmp.calls t332 t333 t335 t336 t350 _ A88.out).mono ?_
                      rintro e w104 ⟨rfl, hb⟩
                      refine ⟨_, rfl, ?_⟩
                      have n0_ := bb BK311 hb
                      have n1_ := bb BK330 hb
                      have n2_ := bb BK331 hb
                      have n3_ := bb BK334 hb
                      have n4_ := bb BK337 hb
                      have n5_ := bs HB hb
                      clear BK311
                      clear BK330
                      clear BK331
                      clear BK334
                      clear BK337
                      clear HB
                      have BK311 := n0_
                      have BK330 := n1_
                      have BK331 := n2_
                      have BK334 := n3_
                      have BK337 := n4_
                      have HB := n5_
                      clear n0_ n1_ n2_ n3_ n4_ n5_
                      (try clear hb)
                      (try clear hb2)
                      (try clear hk)
                      (try clear hi)
                      refine hK.out _ _ ⟨(blk_cell BK334.out 0).trans rfl, (blk_cell BK334.out 1).trans rfl, (blk_cell BK337.out 0).trans rfl, (blk_cell BK337.out 1).trans rfl, (blk_cell BK330.out 0).trans rfl, (blk_cell BK330.out 1).trans rfl, (blk_cell BK331.out 0).trans rfl, (blk_cell BK331.out 1).trans rfl⟩ (fun hHeld => ?_)
                      clear hK K
                      refine norm_ (a' := ?_) ?_ ?_
                      rotate_left
                      · show Act.put _ (some 109) _ = _
                        simp only [Act.put, List.setIfInBounds_toArray, List.set_cons_zero, List.set_cons_succ, i64_w, i32_w]
                        rfl
                      refine one_ (i := 24) (N := some 112) #[true, true, true, true, true, true, true, true, true, true, true, true, true, true, true, true, true, true, true, true, true, true, true, true, true, false, false, false, false, false, false, false, false, false, false, false, false] rfl rfl (one_of HT_.out (by kernel_rfl)) (by decide) (fun K hK => ?_)
                      refine ge Try.func51 #[.agg #[.int .u64 a0_0, .int .u64 a0_1], .agg #[.int .u64 a0_2, .int .u64 a0_3]] ?_
                      with_reducible refine (turnstileref03_Wide_Cmp.calls kj19 a0_0 a0_1 a0_2 a0_3 t351 _ A89.out).mono ?_
                      rintro e w105 ⟨rfl, hb⟩
                      refine ⟨_, rfl, ?_⟩
                      have n0_ := bb BK311 hb
                      have n1_ := bb BK330 hb
                      have n2_ := bb BK331 hb
                      have n3_ := bb BK334 hb
                      have n4_ := bb BK337 hb
                      have n5_ := bs HB hb
                      clear BK311
                      clear BK330
                      clear BK331
                      clear BK334
                      clear BK337
                      clear HB
                      have BK311 := n0_
                      have BK330 := n1_
                      have BK331 := n2_
                      have BK334 := n3_
                      have BK337 := n4_
                      have HB := n5_
                      clear n0_ n1_ n2_ n3_ n4_ n5_
                      (try clear hb)
                      (try clear hb2)
                      (try clear hk)
                      (try clear hi)
                      refine hK.out _ _ ⟨(blk_cell BK334.out 0).trans rfl, (blk_cell BK334.out 1).trans rfl, (blk_cell BK337.out 0).trans rfl, (blk_cell BK337.out 1).trans rfl, (blk_cell BK330.out 0).trans rfl, (blk_cell BK330.out 1).trans rfl, (blk_cell BK331.out 0).trans rfl, (blk_cell BK331.out 1).trans rfl⟩ (fun hHeld => ?_)
                      clear hK K
                      refine norm_ (a' := ?_) ?_ ?_
                      rotate_left
                      · show Act.put _ (some 112) _ = _
                        simp only [Act.put, List.setIfInBounds_toArray, List.set_cons_zero, List.set_cons_succ, i64_w, i32_w]
                        rfl
                      refine chain_ (fuel := 5) [(25, 0, some 113), (26, 0, some 114), (27, 0, some 115), (28, 1, some 116), (29, 1, some 117), (31, 1, some 119), (32, 1, some 120)] #[true, true, true, true, true, true, true, true, true, true, true, true, true, true, true, true, true, true, true, true, true, true, true, true, true, true, true, true, true, true, false, true, true, false, false, false, false] HT_.out HW_.out (by kernel_rfl) (fun _ _ _ _ _ h => h) (Or.inr hHeld) rfl ?_
                      (iterate 3 refine lkP ?_); (iterate 4 refine lkT ?_); refine .nil ?_
                      refine one_ (i := 30) (N := some 118) #[true, true, true, true, true, true, true, true, true, true, true, true, true, true, true, true, true, true, true, true, true, true, true, true, true, true, true, true, true, true, true, true, true, false, false, false, false] rfl rfl (one_of HT_.out (by kernel_rfl)) (by decide) (fun K hK => ?_)
                      refine ge Try.func22 #[.agg #[.int .u64 t335, .int .u64 t336], .agg #[.int .u64 t332, .int .u64 t333]] ?_
                      with_reducible refine (sat_Wide_Minus.calls t335 t336 t332 t333 t352 t353 _ A93.out).mono ?_
                      rintro e w106 ⟨rfl, hb⟩
                      refine ⟨_, rfl, ?_⟩
                      have n0_ := bb BK311 hb
                      have n1_ := bb BK330 hb
                      have n2_ := bb BK331 hb
                      have n3_ := bb BK334 hb
                      have n4_ := bb BK337 hb
                      have n5_ := bs HB hb
                      clear BK311
                      clear BK330
                      clear BK331
                      clear BK334
                      clear BK337
                      clear HB
                      have BK311 := n0_
                      have BK330 := n1_
                      have BK331 := n2_
                      have BK334 := n3_
                      have BK337 := n4_
                      have HB := n5_
                      clear n0_ n1_ n2_ n3_ n4_ n5_
                      (try clear hb)
                      (try clear hb2)
                      (try clear hk)
                      (try clear hi)
                      refine hK.out _ _ ⟨(blk_cell BK334.out 0).trans rfl, (blk_cell BK334.out 1).trans rfl, (blk_cell BK337.out 0).trans rfl, (blk_cell BK337.out 1).trans rfl, (blk_cell BK330.out 0).trans rfl, (blk_cell BK330.out 1).trans rfl, (blk_cell BK331.out 0).trans rfl, (blk_cell BK331.out 1).trans rfl⟩ (fun hHeld => ?_)
                      clear hK K
                      refine norm_ (a' := ?_) ?_ ?_
                      rotate_left
                      · show Act.put _ (some 118) _ = _
                        simp only [Act.put, List.setIfInBounds_toArray, List.set_cons_zero, List.set_cons_succ, i64_w, i32_w]
                        rfl
                      refine one_ (i := 33) (N := some 121) #[true, true, true, true, true, true, true, true, true, true, true, true, true, true, true, true, true, true, true, true, true, true, true, true, true, true, true, true, true, true, true, true, true, true, false, false, false] rfl rfl (one_of HT_.out (by kernel_rfl)) (by decide) (fun K hK => ?_)
                      refine ge Try.func50 #[.agg #[.int .u64 a0_2, .int .u64 a0_3], .agg #[.int .u64 a0_0, .int .u64 a0_1]] ?_
                      with_reducible refine (turnstileref03_Wide_Minus.calls kj19 a0_2 a0_3 a0_0 a0_1 t354 t355 _ A94.out).mono ?_
                      rintro e w107 ⟨rfl, hb⟩
                      refine ⟨_, rfl, ?_⟩
                      have n0_ := bb BK311 hb
                      have n1_ := bb BK330 hb
                      have n2_ := bb BK331 hb
                      have n3_ := bb BK334 hb
                      have n4_ := bb BK337 hb
                      have n5_ := bs HB hb
                      clear BK311
                      clear BK330
                      clear BK331
                      clear BK334
                      clear BK337
                      clear HB
                      have BK311 := n0_
                      have BK330 := n1_
                      have BK331 := n2_
                      have BK334 := n3_
                      have BK337 := n4_
                      have HB := n5_
                      clear n0_ n1_ n2_ n3_ n4_ n5_
                      (try clear hb)
                      (try clear hb2)
                      (try clear hk)
                      (try clear hi)
                      refine hK.out _ _ ⟨(blk_cell BK334.out 0).trans rfl, (blk_cell BK334.out 1).trans rfl, (blk_cell BK337.out 0).trans rfl, (blk_cell BK337.out 1).trans rfl, (blk_cell BK330.out 0).trans rfl, (blk_cell BK330.out 1).trans rfl, (blk_cell BK331.out 0).trans rfl, (blk_cell BK331.out 1).trans rfl⟩ (fun hHeld => ?_)
                      clear hK K
                      refine norm_ (a' := ?_) ?_ ?_
                      rotate_left
                      · show Act.put _ (some 121) _ = _
                        simp only [Act.put, List.setIfInBounds_toArray, List.set_cons_zero, List.set_cons_succ, i64_w, i32_w]
                        rfl
                      refine one_ (i := 34) (N := some 122) #[true, true, true, true, true, true, true, true, true, true, true, true, true, true, true, true, true, true, true, true, true, true, true, true, true, true, true, true, true, true, true, true, true, true, true, false, false] rfl rfl (one_of HT_.out (by kernel_rfl)) (by decide) (fun K hK => ?_)
                      refine ge Try.func46 #[.agg #[.int .u64 t354, .int .u64 t355]] ?_
                      with_reducible refine (turnstilelaw03_wide.calls t354 t355 t356 t357 _ A95.out).mono ?_
                      rintro e w108 ⟨rfl, hb⟩
                      refine ⟨_, rfl, ?_⟩
                      have n0_ := bb BK311 hb
                      have n1_ := bb BK330 hb
                      have n2_ := bb BK331 hb
                      have n3_ := bb BK334 hb
                      have n4_ := bb BK337 hb
                      have n5_ := bs HB hb
                      clear BK311
                      clear BK330
                      clear BK331
                      clear BK334
                      clear BK337
                      clear HB
                      have BK311 := n0_
                      have BK330 := n1_
                      have BK331 := n2_
                      have BK334 := n3_
                      have BK337 := n4_
                      have HB := n5_
                      clear n0_ n1_ n2_ n3_ n4_ n5_
                      (try clear hb)
                      (try clear hb2)
                      (try clear hk)
                      (try clear hi)
                      refine hK.out _ _ ⟨(blk_cell BK334.out 0).trans rfl, (blk_cell BK334.out 1).trans rfl, (blk_cell BK337.out 0).trans rfl, (blk_cell BK337.out 1).trans rfl, (blk_cell BK330.out 0).trans rfl, (blk_cell BK330.out 1).trans rfl, (blk_cell BK331.out 0).trans rfl, (blk_cell BK331.out 1).trans rfl⟩ (fun hHeld => ?_)
                      clear hK K
                      refine norm_ (a' := ?_) ?_ ?_
                      rotate_left
                      · show Act.put _ (some 122) _ = _
                        simp only [Act.put, List.setIfInBounds_toArray, List.set_cons_zero, List.set_cons_succ, i64_w, i32_w]
                        rfl
                      refine chain_ (fuel := 0) [(35, 0, some 123), (36, 0, some 124)] #[true, true, true, true, true, true, true, true, true, true, true, true, true, true, true, true, true, true, true, true, true, true, true, true, true, true, true, true, true, true, true, true, true, true, true, true, true] HT_.out HW_.out (by kernel_rfl) (fun _ _ _ _ _ h => h) (Or.inl (by decide)) rfl ?_
                      (iterate 2 refine lkP ?_); refine .nil ?_
                      refine done_ (done_of HT_.out (by kernel_rfl)) ?_
                      try go_wp2
                      go_meet
                      case rel => exact ⟨_, ((!(t352 == t356) || (!(t353 == t357)))), rs, H', ⟨by have := HJ1.out; have := HJ19.out; first | omega | exact Nat.le_refl _⟩, ⟨bk BK311⟩, ⟨bk BK330⟩, ⟨bk BK331⟩, ⟨bk BK334⟩, ⟨bk BK337⟩, ⟨bw HB⟩⟩
                    · rw [if_neg c90] at H
                      have c90b0 : (t350 == t351) = false := beq_eq_false_iff_ne.mpr c90
                      have c90b1 : (t350 != t351) = true := bne_iff_ne.mpr c90
                      (try (have hd109 := c70b0; rw [c90b0] at hd109; (first | rw [Bool.true_and] at hd109 | rw [Bool.and_true] at hd109 | (rw [Bool.not_true] at hd109; rw [Bool.false_or] at hd109) | skip)))
                      (try (have hd110 := c79b0; rw [c90b0] at hd110; (first | rw [Bool.true_and] at hd110 | rw [Bool.and_true] at hd110 | (rw [Bool.not_true] at hd110; rw [Bool.false_or] at hd110) | skip)))
                      have H' := Aside0.mk H
                      clear H
                      try go_wp2
                      have n0_ : Aside0 (((w61.setCell ⟨gb337, 0, none⟩ (.int .u64 t335)).setCell ⟨gb337, 1, none⟩ (.int .u64 t336)).heap[gb311]? = some (.cells #[.int .u64 a0_0, .int .u64 a0_1, .int .u64 a0_2, .int .u64 a0_3] 40 (0, 0))) := ⟨bk BK311⟩
                      have n1_ : Aside0 (((w61.setCell ⟨gb337, 0, none⟩ (.int .u64 t335)).setCell ⟨gb337, 1, none⟩ (.int .u64 t336)).heap[gb330]? = some (.cells #[.int .u64 a0_0, .int .u64 a0_1] 66 (0, 0))) := ⟨bk BK330⟩
                      have n2_ : Aside0 (((w61.setCell ⟨gb337, 0, none⟩ (.int .u64 t335)).setCell ⟨gb337, 1, none⟩ (.int .u64 t336)).heap[gb331]? = some (.cells #[.int .u64 a0_2, .int .u64 a0_3] 66 (0, 0))) := ⟨bk BK331⟩
                      have n3_ : Aside0 (((w61.setCell ⟨gb337, 0, none⟩ (.int .u64 t335)).setCell ⟨gb337, 1, none⟩ (.int .u64 t336)).heap[gb334]? = some (.cells #[.int .u64 t332, .int .u64 t333] 24 (0, 0))) := ⟨bk BK334⟩
                      have n4_ : Aside0 (((w61.setCell ⟨gb337, 0, none⟩ (.int .u64 t335)).setCell ⟨gb337, 1, none⟩ (.int .u64 t336)).heap[gb337]? = some (.cells #[.int .u64 t335, .int .u64 t336] 24 (0, 0))) := ⟨bk BK337⟩
                      have n5_ : Aside0 (Below w.heap.size w ((w61.setCell ⟨gb337, 0, none⟩ (.int .u64 t335)).setCell ⟨gb337, 1, none⟩ (.int .u64 t336))) := ⟨bw HB⟩
                      (try clear BK311)
                      (try clear BK330)
                      (try clear BK331)
                      (try clear BK334)
                      (try clear BK337)
                      (try clear HB)
                      generalize ((w61.setCell ⟨gb337, 0, none⟩ (.int .u64 t335)).setCell ⟨gb337, 1, none⟩ (.int .u64 t336)) = w111 at n0_ n1_ n2_ n3_ n4_ n5_ ⊢
                      have BK311 := n0_
                      have BK330 := n1_
                      have BK331 := n2_
                      have BK334 := n3_
                      have BK337 := n4_
                      have HB := n5_
                      clear n0_ n1_ n2_ n3_ n4_ n5_
                      have n0_ := Aside0.mk (blk_drew BK311.out)
                      have n1_ := Aside0.mk (blk_drew BK330.out)
                      have n2_ := Aside0.mk (blk_drew BK331.out)
                      have n3_ := Aside0.mk (blk_drew BK334.out)
                      have n4_ := Aside0.mk (blk_drew BK337.out)
                      have n5_ := Aside0.mk (below_drew1 HB.out)
                      clear BK311
                      clear BK330
                      clear BK331
                      clear BK334
                      clear BK337
                      clear HB
                      have BK311 := n0_
                      have BK330 := n1_
                      have BK331 := n2_
                      have BK334 := n3_
                      have BK337 := n4_
                      have HB := n5_
                      clear n0_ n1_ n2_ n3_ n4_ n5_
                      refine start_ (n := 37) (S := fun w' => w'.cell? ⟨gb334, 0, none⟩ = some (.int .u64 t332) ∧ w'.cell? ⟨gb334, 1, none⟩ = some (.int .u64 t333) ∧ w'.cell? ⟨gb337, 0, none⟩ = some (.int .u64 t335) ∧ w'.cell? ⟨gb337, 1, none⟩ = some (.int .u64 t336) ∧ w'.cell? ⟨gb330, 0, none⟩ = some (.int .u64 a0_0) ∧ w'.cell? ⟨gb330, 1, none⟩ = some (.int .u64 a0_1) ∧ w'.cell? ⟨gb331, 0, none⟩ = some (.int .u64 a0_2) ∧ w'.cell? ⟨gb331, 1, none⟩ = some (.int .u64 a0_3)) (ds := []) #[false, false, false, false, false, false, false, false, false, false, false, false, false, false, false, false, false, false, false, false, false, false, false, false, false, false, false, false, false, false, false, false, false, false, false, false, false] (by kernel_rfl) rfl rfl ⟨(blk_cell BK334.out 0).trans rfl, (blk_cell BK334.out 1).trans rfl, (blk_cell BK337.out 0).trans rfl, (blk_cell BK337.out 1).trans rfl, (blk_cell BK330.out 0).trans rfl, (blk_cell BK330.out 1).trans rfl, (blk_cell BK331.out 0).trans rfl, (blk_cell BK331.out 1).trans rfl⟩ (fun hHeld => ?_); refine with_tabW turnstilelaw03_right.tab9 turnstilelaw03_right.bits9 (fun HT_ HW_ => ?_)
                      generalize w111.drew = w112 at BK311 BK330 BK331 BK334 BK337 HB hHeld ⊢
                      refine chain_ (fuel := 33) [(0, 1, some 88), (1, 1, some 89), (3, 1, some 91), (4, 1, some 92)] #[true, true, false, true, true, false, false, false, false, false, false, false, false, false, false, false, false, false, false, false, false, false, false, false, false, false, false, false, false, false, false, false, false, false, false, false, false] HT_.out HW_.out (by kernel_rfl) (fun _ _ _ _ _ h => h) (Or.inr hHeld) rfl ?_
                      (iterate 4 refine lkT ?_); refine .nil ?_
                      refine one_ (i := 2) (N := some 90) #[true, true, true, true, true, false, false, false, false, false, false, false, false, false, false, false, false, false, false, false, false, false, false, false, false, false, false, false, false, false, false, false, false, false, false, false, false] rfl rfl (one_of HT_.out (by kernel_rfl)) (by decide) (fun K hK => ?_)
                      refine ge Try.func19 #[.agg #[.int .u64 t332, .int .u64 t333], .agg #[.int .u64 t335, .int .u64 t336]] ?_
                      with_reducible refine (sat_Wide_Plus.calls t332 t333 t335 t336 t338 t339 _ A67.out).mono ?_
                      rintro e w113 ⟨rfl, hb⟩
                      refine ⟨_, rfl, ?_⟩
                      have n0_ := bb BK311 hb
                      have n1_ := bb BK330 hb
                      have n2_ := bb BK331 hb
                      have n3_ := bb BK334 hb
                      have n4_ := bb BK337 hb
                      have n5_ := bs HB hb
                      clear BK311
                      clear BK330
                      clear BK331
                      clear BK334
                      clear BK337
                      clear HB
                      have BK311 := n0_
                      have BK330 := n1_
                      have BK331 := n2_
                      have BK334 := n3_
                      have BK337 := n4_
                      have HB := n5_
                      clear n0_ n1_ n2_ n3_ n4_ n5_
                      (try clear hb)
                      (try clear hb2)
                      (try clear hk)
                      (try clear hi)
                      refine hK.out _ _ ⟨(blk_cell BK334.out 0).trans rfl, (blk_cell BK334.out 1).trans rfl, (blk_cell BK337.out 0).trans rfl, (blk_cell BK337.out 1).trans rfl, (blk_cell BK330.out 0).trans rfl, (blk_cell BK330.out 1).trans rfl, (blk_cell BK331.out 0).trans rfl, (blk_cell BK331.out 1).trans rfl⟩ (fun hHeld => ?_)
                      clear hK K
                      refine norm_ (a' := ?_) ?_ ?_
                      rotate_left
                      · show Act.put _ (some 90) _ = _
                        simp only [Act.put, List.setIfInBounds_toArray, List.set_cons_zero, List.set_cons_succ, i64_w, i32_w]
                        rfl
                      refine one_ (i := 5) (N := some 93) #[true, true, true, true, true, true, false, false, false, false, false, false, false, false, false, false, false, false, false, false, false, false, false, false, false, false, false, false, false, false, false, false, false, false, false, false, false] rfl rfl (one_of HT_.out (by kernel_rfl)) (by decide) (fun K hK => ?_)
                      refine ge Try.func49 #[.agg #[.int .u64 a0_0, .int .u64 a0_1], .agg #[.int .u64 a0_2, .int .u64 a0_3]] ?_
                      with_reducible refine (turnstileref03_Wide_Plus.calls kj19 a0_0 a0_1 a0_2 a0_3 t340 t341 _ A68.out).mono ?_
                      rintro e w114 ⟨rfl, hb⟩
                      refine ⟨_, rfl, ?_⟩
                      have n0_ := bb BK311 hb
                      have n1_ := bb BK330 hb
                      have n2_ := bb BK331 hb
                      have n3_ := bb BK334 hb
                      have n4_ := bb BK337 hb
                      have n5_ := bs HB hb
                      clear BK311
                      clear BK330
                      clear BK331
                      clear BK334
                      clear BK337
                      clear HB
                      have BK311 := n0_
                      have BK330 := n1_
                      have BK331 := n2_
                      have BK334 := n3_
                      have BK337 := n4_
                      have HB := n5_
                      clear n0_ n1_ n2_ n3_ n4_ n5_
                      (try clear hb)
                      (try clear hb2)
                      (try clear hk)
                      (try clear hi)
                      refine hK.out _ _ ⟨(blk_cell BK334.out 0).trans rfl, (blk_cell BK334.out 1).trans rfl, (blk_cell BK337.out 0).trans rfl, (blk_cell BK337.out 1).trans rfl, (blk_cell BK330.out 0).trans rfl, (blk_cell BK330.out 1).trans rfl, (blk_cell BK331.out 0).trans rfl, (blk_cell BK331.out 1).trans rfl⟩ (fun hHeld => ?_)
                      clear hK K
                      refine norm_ (a' := ?_) ?_ ?_
                      rotate_left
                      · show Act.put _ (some 93) _ = _
                        simp only [Act.put, List.setIfInBounds_toArray, List.set_cons_zero, List.set_cons_succ, i64_w, i32_w]
                        rfl
                      refine one_ (i := 6) (N := some 94) #[true, true, true, true, true, true, true, false, false, false, false, false, false, false, false, false, false, false, false, false, false, false, false, false, false, false, false, false, false, false, false, false, false, false, false, false, false] rfl rfl (one_of HT_.out (by kernel_rfl)) (by decide) (fun K hK => ?_)
                      refine ge Try.func46 #[.agg #[.int .u64 t340, .int .u64 t341]] ?_
                      with_reducible refine (turnstilelaw03_wide.calls t340 t341 t342 t343 _ A69.out).mono ?_
                      rintro e w115 ⟨rfl, hb⟩
                      refine ⟨_, rfl, ?_⟩
                      have n0_ := bb BK311 hb
                      have n1_ := bb BK330 hb
                      have n2_ := bb BK331 hb
                      have n3_ := bb BK334 hb
                      have n4_ := bb BK337 hb
                      have n5_ := bs HB hb
                      clear BK311
                      clear BK330
                      clear BK331
                      clear BK334
                      clear BK337
                      clear HB
                      have BK311 := n0_
                      have BK330 := n1_
                      have BK331 := n2_
                      have BK334 := n3_
                      have BK337 := n4_
                      have HB := n5_
                      clear n0_ n1_ n2_ n3_ n4_ n5_
                      (try clear hb)
                      (try clear hb2)
                      (try clear hk)
                      (try clear hi)
                      refine hK.out _ _ ⟨(blk_cell BK334.out 0).trans rfl, (blk_cell BK334.out 1).trans rfl, (blk_cell BK337.out 0).trans rfl, (blk_cell BK337.out 1).trans rfl, (blk_cell BK330.out 0).trans rfl, (blk_cell BK330.out 1).trans rfl, (blk_cell BK331.out 0).trans rfl, (blk_cell BK331.out 1).trans rfl⟩ (fun hHeld => ?_)
                      clear hK K
                      refine norm_ (a' := ?_) ?_ ?_
                      rotate_left
                      · show Act.put _ (some 94) _ = _
                        simp only [Act.put, List.setIfInBounds_toArray, List.set_cons_zero, List.set_cons_succ, i64_w, i32_w]
                        rfl
                      refine chain_ (fuel := 24) [(7, 0, some 95), (8, 0, some 96), (9, 1, some 97), (10, 1, some 98), (12, 1, some 100), (13, 1, some 101)] #[true, true, true, true, true, true, true, true, true, true, true, false, true, true, false, false, false, false, false, false, false, false, false, false, false, false, false, false, false, false, false, false, false, false, false, false, false] HT_.out HW_.out (by kernel_rfl) (fun _ _ _ _ _ h => h) (Or.inr hHeld) rfl ?_
                      (iterate 2 refine lkP ?_); (iterate 4 refine lkT ?_); refine .nil ?_
                      refine one_ (i := 11) (N := some 99) #[true, true, true, true, true, true, true, true, true, true, true, true, true, true, false, false, false, false, false, false, false, false, false, false, false, false, false, false, false, false, false, false, false, false, false, false, false] rfl rfl (one_of HT_.out (by kernel_rfl)) (by decide) (fun K hK => ?_)
                      refine ge Try.func22 #[.agg #[.int .u64 t332, .int .u64 t333], .agg #[.int .u64 t335, .int .u64 t336]] ?_
                      with_reducible refine (sat_Wide_Minus.calls t332 t333 t335 t336 t344 t345 _ A76.out).mono ?_
                      rintro e w116 ⟨rfl, hb⟩
                      refine ⟨_, rfl, ?_⟩
                      have n0_ := bb BK311 hb
                      have n1_ := bb BK330 hb
                      have n2_ := bb BK331 hb
                      have n3_ := bb BK334 hb
                      have n4_ := bb BK337 hb
                      have n5_ := bs HB hb
                      clear BK311
                      clear BK330
                      clear BK331
                      clear BK334
                      clear BK337
                      clear HB
                      have BK311 := n0_
                      have BK330 := n1_
                      have BK331 := n2_
                      have BK334 := n3_
                      have BK337 := n4_
                      have HB := n5_
                      clear n0_ n1_ n2_ n3_ n4_ n5_
                      (try clear hb)
                      (try clear hb2)
                      (try clear hk)
                      (try clear hi)
                      refine hK.out _ _ ⟨(blk_cell BK334.out 0).trans rfl, (blk_cell BK334.out 1).trans rfl, (blk_cell BK337.out 0).trans rfl, (blk_cell BK337.out 1).trans rfl, (blk_cell BK330.out 0).trans rfl, (blk_cell BK330.out 1).trans rfl, (blk_cell BK331.out 0).trans rfl, (blk_cell BK331.out 1).trans rfl⟩ (fun hHeld => ?_)
                      clear hK K
                      refine norm_ (a' := ?_) ?_ ?_
                      rotate_left
                      · show Act.put _ (some 99) _ = _
                        simp only [Act.put, List.setIfInBounds_toArray, List.set_cons_zero, List.set_cons_succ, i64_w, i32_w]
                        rfl
                      refine one_ (i := 14) (N := some 102) #[true, true, true, true, true, true, true, true, true, true, true, true, true, true, true, false, false, false, false, false, false, false, false, false, false, false, false, false, false, false, false, false, false, false, false, false, false] rfl rfl (one_of HT_.out (by kernel_rfl)) (by decide) (fun K hK => ?_)
                      refine ge Try.func50 #[.agg #[.int .u64 a0_0, .int .u64 a0_1], .agg #[.int .u64 a0_2, .int .u64 a0_3]] ?_
                      with_reducible refine (turnstileref03_Wide_Minus.calls kj19 a0_0 a0_1 a0_2 a0_3 t346 t347 _ A77.out).mono ?_
                      rintro e w117 ⟨rfl, hb⟩
                      refine ⟨_, rfl, ?_⟩
                      have n0_ := bb BK311 hb
                      have n1_ := bb BK330 hb
                      have n2_ := bb BK331 hb
                      have n3_ := bb BK334 hb
                      have n4_ := bb BK337 hb
                      have n5_ := bs HB hb
                      clear BK311
                      clear BK330
                      clear BK331
                      clear BK334
                      clear BK337
                      clear HB
                      have BK311 := n0_
                      have BK330 := n1_
                      have BK331 := n2_
                      have BK334 := n3_
                      have BK337 := n4_
                      have HB := n5_
                      clear n0_ n1_ n2_ n3_ n4_ n5_
                      (try clear hb)
                      (try clear hb2)
                      (try clear hk)
                      (try clear hi)
                      refine hK.out _ _ ⟨(blk_cell BK334.out 0).trans rfl, (blk_cell BK334.out 1).trans rfl, (blk_cell BK337.out 0).trans rfl, (blk_cell BK337.out 1).trans rfl, (blk_cell BK330.out 0).trans rfl, (blk_cell BK330.out 1).trans rfl, (blk_cell BK331.out 0).trans rfl, (blk_cell BK331.out 1).trans rfl⟩ (fun hHeld => ?_)
                      clear hK K
                      refine norm_ (a' := ?_) ?_ ?_
                      rotate_left
                      · show Act.put _ (some 102) _ = _
                        simp only [Act.put, List.setIfInBounds_toArray, List.set_cons_zero, List.set_cons_succ, i64_w, i32_w]
                        rfl
                      refine one_ (i := 15) (N := some 103) #[true, true, true, true, true, true, true, true, true, true, true, true, true, true, true, true, false, false, false, false, false, false, false, false, false, false, false, false, false, false, false, false, false, false, false, false, false] rfl rfl (one_of HT_.out (by kernel_rfl)) (by decide) (fun K hK => ?_)
                      refine ge Try.func46 #[.agg #[.int .u64 t346, .int .u64 t347]] ?_
                      with_reducible refine (turnstilelaw03_wide.calls t346 t347 t348 t349 _ A78.out).mono ?_
                      rintro e w118 ⟨rfl, hb⟩
                      refine ⟨_, rfl, ?_⟩
                      have n0_ := bb BK311 hb
                      have n1_ := bb BK330 hb
                      have n2_ := bb BK331 hb
                      have n3_ := bb BK334 hb
                      have n4_ := bb BK337 hb
                      have n5_ := bs HB hb
                      clear BK311
                      clear BK330
                      clear BK331
                      clear BK334
                      clear BK337
                      clear HB
                      have BK311 := n0_
                      have BK330 := n1_
                      have BK331 := n2_
                      have BK334 := n3_
                      have BK337 := n4_
                      have HB := n5_
                      clear n0_ n1_ n2_ n3_ n4_ n5_
                      (try clear hb)
                      (try clear hb2)
                      (try clear hk)
                      (try clear hi)
                      refine hK.out _ _ ⟨(blk_cell BK334.out 0).trans rfl, (blk_cell BK334.out 1).trans rfl, (blk_cell BK337.out 0).trans rfl, (blk_cell BK337.out 1).trans rfl, (blk_cell BK330.out 0).trans rfl, (blk_cell BK330.out 1).trans rfl, (blk_cell BK331.out 0).trans rfl, (blk_cell BK331.out 1).trans rfl⟩ (fun hHeld => ?_)
                      clear hK K
                      refine norm_ (a' := ?_) ?_ ?_
                      rotate_left
                      · show Act.put _ (some 103) _ = _
                        simp only [Act.put, List.setIfInBounds_toArray, List.set_cons_zero, List.set_cons_succ, i64_w, i32_w]
                        rfl
                      refine chain_ (fuel := 14) [(16, 0, some 104), (17, 0, some 105), (18, 0, some 106), (19, 1, some 107), (20, 1, some 108), (22, 1, some 110), (23, 1, some 111)] #[true, true, true, true, true, true, true, true, true, true, true, true, true, true, true, true, true, true, true, true, true, false, true, true, false, false, false, false, false, false, false, false, false, false, false, false, false] HT_.out HW_.out (by kernel_rfl) (fun _ _ _ _ _ h => h) (Or.inr hHeld) rfl ?_
                      (iterate 3 refine lkP ?_); (iterate 4 refine lkT ?_); refine .nil ?_
                      refine one_ (i := 21) (N := some 109) #[true, true, true, true, true, true, true, true, true, true, true, true, true, true, true, true, true, true, true, true, true, true, true, true, false, false, false, false, false, false, false, false, false, false, false, false, false] rfl rfl (one_of HT_.out (by kernel_rfl)) (by decide) (fun K hK => ?_)
                      refine ge Try.func21 #[.agg #[.int .u64 t332, .int .u64 t333], .agg #[.int .u64 t335, .int .u64 t336]] ?_
                      with_reducible refine (sat_Wide_Cmp.calls t332 t333 t335 t336 t350 _ A88.out).mono ?_
                      rintro e w119 ⟨rfl, hb⟩
                      refine ⟨_, rfl, ?_⟩
                      have n0_ := bb BK311 hb
                      have n1_ := bb BK330 hb
                      have n2_ := bb BK331 hb
                      have n3_ := bb BK334 hb
                      have n4_ := bb BK337 hb
                      have n5_ := bs HB hb
                      clear BK311
                      clear BK330
                      clear BK331
                      clear BK334
                      clear BK337
                      clear HB
                      have BK311 := n0_
                      have BK330 := n1_
                      have BK331 := n2_
                      have BK334 := n3_
                      have BK337 := n4_
                      have HB := n5_
                      clear n0_ n1_ n2_ n3_ n4_ n5_
                      (try clear hb)
                      (try clear hb2)
                      (try clear hk)
                      (try clear hi)
                      refine hK.out _ _ ⟨(blk_cell BK334.out 0).trans rfl, (blk_cell BK334.out 1).trans rfl, (blk_cell BK337.out 0).trans rfl, (blk_cell BK337.out 1).trans rfl, (blk_cell BK330.out 0).trans rfl, (blk_cell BK330.out 1).trans rfl, (blk_cell BK331.out 0).trans rfl, (blk_cell BK331.out 1).trans rfl⟩ (fun hHeld => ?_)
                      clear hK K
                      refine norm_ (a' := ?_) ?_ ?_
                      rotate_left
                      · show Act.put _ (some 109) _ = _
                        simp only [Act.put, List.setIfInBounds_toArray, List.set_cons_zero, List.set_cons_succ, i64_w, i32_w]
                        rfl
                      refine one_ (i := 24) (N := some 112) #[true, true, true, true, true, true, true, true, true, true, true, true, true, true, true, true, true, true, true, true, true, true, true, true, true, false, false, false, false, false, false, false, false, false, false, false, false] rfl rfl (one_of HT_.out (by kernel_rfl)) (by decide) (fun K hK => ?_)
                      refine ge Try.func51 #[.agg #[.int .u64 a0_0, .int .u64 a0_1], .agg #[.int .u64 a0_2, .int .u64 a0_3]] ?_
                      with_reducible refine (turnstileref03_Wide_Cmp.calls kj19 a0_0 a0_1 a0_2 a0_3 t351 _ A89.out).mono ?_
                      rintro e w120 ⟨rfl, hb⟩
                      refine ⟨_, rfl, ?_⟩
                      have n0_ := bb BK311 hb
                      have n1_ := bb BK330 hb
                      have n2_ := bb BK331 hb
                      have n3_ := bb BK334 hb
                      have n4_ := bb BK337 hb
                      have n5_ := bs HB hb
                      clear BK311
                      clear BK330
                      clear BK331
                      clear BK334
                      clear BK337
                      clear HB
                      have BK311 := n0_
                      have BK330 := n1_
                      have BK331 := n2_
                      have BK334 := n3_
                      have BK337 := n4_
                      have HB := n5_
                      clear n0_ n1_ n2_ n3_ n4_ n5_
                      (try clear hb)
                      (try clear hb2)
                      (try clear hk)
                      (try clear hi)
                      refine hK.out _ _ ⟨(blk_cell BK334.out 0).trans rfl, (blk_cell BK334.out 1).trans rfl, (blk_cell BK337.out 0).trans rfl, (blk_cell BK337.out 1).trans rfl, (blk_cell BK330.out 0).trans rfl, (blk_cell BK330.out 1).trans rfl, (blk_cell BK331.out 0).trans rfl, (blk_cell BK331.out 1).trans rfl⟩ (fun hHeld => ?_)
                      clear hK K
                      refine norm_ (a' := ?_) ?_ ?_
                      rotate_left
                      · show Act.put _ (some 112) _ = _
                        simp only [Act.put, List.setIfInBounds_toArray, List.set_cons_zero, List.set_cons_succ, i64_w, i32_w]
                        rfl
                      refine chain_ (fuel := 0) [(25, 0, some 113), (26, 0, some 114), (27, 0, some 115), (28, 2, some 116), (29, 2, some 117), (30, 2, some 118), (31, 2, some 119), (32, 2, some 120), (33, 2, some 121), (34, 2, some 122), (35, 2, some 123), (36, 0, some 124)] #[true, true, true, true, true, true, true, true, true, true, true, true, true, true, true, true, true, true, true, true, true, true, true, true, true, true, true, true, true, true, true, true, true, true, true, true, true] HT_.out HW_.out (by kernel_rfl) (fun _ _ _ _ _ h => h) (Or.inl (by decide)) rfl ?_
                      (iterate 3 refine lkP ?_); (iterate 8 refine lkO ?_); refine lkP ?_; refine .nil ?_
                      refine done_ (done_of HT_.out (by kernel_rfl)) ?_
                      try go_wp2
                      go_meet
                      case rel => exact ⟨_, (true), rs, H', ⟨by have := HJ1.out; have := HJ19.out; first | omega | exact Nat.le_refl _⟩, ⟨bk BK311⟩, ⟨bk BK330⟩, ⟨bk BK331⟩, ⟨bk BK334⟩, ⟨bk BK337⟩, ⟨bw HB⟩⟩
              case rest =>
                clear HC42
                try clear c1
                try clear c2
                try clear p2
                try clear c4
                try clear c5
                try clear c7
                try clear c9
                try clear c19
                try clear c21
                try clear c22
                try clear c46
                try clear c49
                try clear c50
                try clear c51
                try clear c70
                try clear c70b0
                try clear c79
                try clear c79b0
                try clear c90
                try clear c90b0
                try clear c90b1
                obtain ⟨kq, x124_41, rfl, HA, HJ41, BK311, BK330, BK331, BK334, BK337, HB⟩ := hcut
                cases kq with
                | zero => exact absurd HA.out (by simp [turnstilelaw03_right.j2])
                | succ kj41 =>
                  have H := HA.out
                  clear HA
                  simp only [turnstilelaw03_right.j2] at H
                  by_cases c121 : x124_41 = true
                  · subst c121
                    have H1 : (some false) = some r := by rw [if_pos rfl] at H; exact H
                    clear H
                    have H := H1
                    clear H1
                    obtain rfl := Option.some.inj H
                    go_wp2
                    go_ret
                    exact ⟨re, bw HB⟩
                  · replace c121 := Bool.eq_false_iff.mpr c121
                    subst c121
                    have H1 : ((sat_Wide_Narrow.f t332 t333).bind fun bt358 => ((turnstileref03_Wide_Narrow.f a0_0 a0_1).bind fun bt360 => (if bt358.1 = bt360.1 then (turnstilelaw03_right.j3 kj41 (bt358.2 != bt360.2) a0_0 a0_1 a0_2 a0_3 a0_0 a0_1 t332 t333) else (turnstilelaw03_right.j3 kj41 true a0_0 a0_1 a0_2 a0_3 a0_0 a0_1 t332 t333)))) = some r := by rw [if_neg (show ¬ (false = true) by decide)] at H; exact H
                    clear H
                    have H := H1
                    clear H1
                    replace H := Option.bind_eq_some_iff.mp H
                    obtain ⟨⟨t358, t359⟩, A1220, H⟩ := H
                    replace H : ((turnstileref03_Wide_Narrow.f a0_0 a0_1).bind fun bt360 => (if t358 = bt360.1 then (turnstilelaw03_right.j3 kj41 (t359 != bt360.2) a0_0 a0_1 a0_2 a0_3 a0_0 a0_1 t332 t333) else (turnstilelaw03_right.j3 kj41 true a0_0 a0_1 a0_2 a0_3 a0_0 a0_1 t332 t333))) = some r := H
                    have A122 := Aside0.mk A1220
                    clear A1220
                    replace H := Option.bind_eq_some_iff.mp H
                    obtain ⟨⟨t360, t361⟩, A1230, H⟩ := H
                    replace H : (if t358 = t360 then (turnstilelaw03_right.j3 kj41 (t359 != t361) a0_0 a0_1 a0_2 a0_3 a0_0 a0_1 t332 t333) else (turnstilelaw03_right.j3 kj41 true a0_0 a0_1 a0_2 a0_3 a0_0 a0_1 t332 t333)) = some r := H
                    have A123 := Aside0.mk A1230
                    clear A1230
                    have HC124 := Aside0.mk H
                    clear H
                    have hnb125 := NB334_311.out
                    have hnc125 := NB311_334.out
                    have hnb126 := NB334_330.out
                    have hnc126 := NB330_334.out
                    have hnb127 := NB334_331.out
                    have hnc127 := NB331_334.out
                    have hnb128 := NB334_337.out
                    have hnc128 := NB337_334.out
                    obtain ⟨hcz129_0, hcz129_1, hfz129_0, hfz129_1⟩ := bc2 BK334
                    go_upto_region 13 with (first | ((with_reducible refine gate_callee (f := 18) rfl ?_); refine gm (some 127) Try.func18 #[.agg #[.int .u64 t332, .int .u64 t333]] (sat_Wide_Narrow.calls t332 t333 t358 t359 _ A122.out) ?_; intro w130 hb; have n0_ := bb BK311 hb; have n1_ := bb BK330 hb; have n2_ := bb BK331 hb; have n3_ := bb BK334 hb; have n4_ := bb BK337 hb; have n5_ := bs HB hb; clear BK311; clear BK330; clear BK331; clear BK334; clear BK337; clear HB; have BK311 := n0_; have BK330 := n1_; have BK331 := n2_; have BK334 := n3_; have BK337 := n4_; have HB := n5_; clear n0_ n1_ n2_ n3_ n4_ n5_; (try clear hb); (try clear hb2); (try clear hk); (try clear hi); have hnb131 := NB330_311.out; have hnc131 := NB311_330.out; have hnb132 := NB330_331.out; have hnc132 := NB331_330.out; have hnb133 := NB330_337.out; have hnc133 := NB337_330.out; obtain ⟨hcz134_0, hcz134_1, hfz134_0, hfz134_1⟩ := bc2 BK330) | ((with_reducible refine gate_callee (f := 52) rfl ?_); refine gm (some 132) Try.func52 #[.agg #[.int .u64 a0_0, .int .u64 a0_1]] (turnstileref03_Wide_Narrow.calls a0_0 a0_1 t360 t361 _ A123.out) ?_; intro w135 hb; have n0_ := bb BK311 hb; have n1_ := bb BK330 hb; have n2_ := bb BK331 hb; have n3_ := bb BK334 hb; have n4_ := bb BK337 hb; have n5_ := bs HB hb; clear BK311; clear BK330; clear BK331; clear BK334; clear BK337; clear HB; have BK311 := n0_; have BK330 := n1_; have BK331 := n2_; have BK334 := n3_; have BK337 := n4_; have HB := n5_; clear n0_ n1_ n2_ n3_ n4_ n5_; (try clear hb); (try clear hb2); (try clear hk); (try clear hi)))
                    (try simp only [Act.put, List.setIfInBounds_toArray, List.set_cons_zero, List.set_cons_succ])
                    go_cut [142] (fun v142 wc => ∃ (kq : Nat) (x142_123 : Bool), v142 = .bool x142_123 ∧ Aside0 (turnstilelaw03_right.j3 kq x142_123 a0_0 a0_1 a0_2 a0_3 a0_0 a0_1 t332 t333 = some r) ∧ Aside0 (kq ≤ kj41) ∧ Aside0 (wc.heap[gb311]? = some (.cells #[.int .u64 a0_0, .int .u64 a0_1, .int .u64 a0_2, .int .u64 a0_3] 40 (0, 0))) ∧ Aside0 (wc.heap[gb330]? = some (.cells #[.int .u64 a0_0, .int .u64 a0_1] 66 (0, 0))) ∧ Aside0 (wc.heap[gb331]? = some (.cells #[.int .u64 a0_2, .int .u64 a0_3] 66 (0, 0))) ∧ Aside0 (wc.heap[gb334]? = some (.cells #[.int .u64 t332, .int .u64 t333] 24 (0, 0))) ∧ Aside0 (wc.heap[gb337]? = some (.cells #[.int .u64 t335, .int .u64 t336] 24 (0, 0))) ∧ Aside0 (Below w.heap.size w wc))
                    case first =>
                      have H := HC124.out
                      clear HC124
                      by_cases c136 : t358 = t360
                      · rw [if_pos c136] at H
                        have c136b0 : (t358 == t360) = true := beq_iff_eq.mpr c136
                        have c136b1 : (t358 != t360) = false := bne_eq_false_iff_eq.mpr c136
                        clear c136
                        (first | rw [c136b0] | (simp only [i64_w, i32_w]; rw [c136b0]) | skip)
                        have H' := Aside0.mk H
                        clear H
                        go_wp2
                        go_meet
                        case rel => exact ⟨_, ((t359 != t361)), rs, H', ⟨by have := HJ1.out; have := HJ19.out; have := HJ41.out; first | omega | exact Nat.le_refl _⟩, ⟨bk BK311⟩, ⟨bk BK330⟩, ⟨bk BK331⟩, ⟨bk BK334⟩, ⟨bk BK337⟩, ⟨bw HB⟩⟩
                      · rw [if_neg c136] at H
                        have c136b0 : (t358 == t360) = false := beq_eq_false_iff_ne.mpr c136
                        have c136b1 : (t358 != t360) = true := bne_iff_ne.mpr c136
                        (first | rw [c136b0] | (simp only [i64_w, i32_w]; rw [c136b0]) | skip)
                        have H' := Aside0.mk H
                        clear H
                        go_wp2
                        go_meet
                        case rel => exact ⟨_, (true), rs, H', ⟨by have := HJ1.out; have := HJ19.out; have := HJ41.out; first | omega | exact Nat.le_refl _⟩, ⟨bk BK311⟩, ⟨bk BK330⟩, ⟨bk BK331⟩, ⟨bk BK334⟩, ⟨bk BK337⟩, ⟨bw HB⟩⟩
                    case rest =>
                      clear HC124
                      try clear c1
                      try clear c2
                      try clear p2
                      try clear c4
                      try clear c5
                      try clear c7
                      try clear c9
                      try clear c12
                      try clear c13
                      try clear c18
                      try clear c19
                      try clear c21
                      try clear c22
                      try clear c46
                      try clear c49
                      try clear c50
                      try clear c51
                      try clear c52
                      try clear c70
                      try clear c70b0
                      try clear c79
                      try clear c79b0
                      try clear c90
                      try clear c90b0
                      try clear c90b1
                      try clear c121
                      try clear c125
                      try clear c126
                      try clear c127
                      try clear c128
                      try clear c131
                      try clear c132
                      try clear c133
                      try clear c136
                      try clear c136b0
                      try clear c136b1
                      try clear hcz129_0
                      try clear hcz129_1
                      try clear hcz134_0
                      try clear hcz134_1
                      try clear hfz129_0
                      try clear hfz129_1
                      try clear hfz134_0
                      try clear hfz134_1
                      try clear p2
                      obtain ⟨kq, x142_123, rfl, HA, HJ123, BK311, BK330, BK331, BK334, BK337, HB⟩ := hcut
                      cases kq with
                      | zero => exact absurd HA.out (by simp [turnstilelaw03_right.j3])
                      | succ kj123 =>
                        have H := HA.out
                        clear HA
                        simp only [turnstilelaw03_right.j3] at H
                        by_cases c137 : x142_123 = true
                        · subst c137
                          have H1 : (some false) = some r := by rw [if_pos rfl] at H; exact H
                          clear H
                          have H := H1
                          clear H1
                          obtain rfl := Option.some.inj H
                          go_wp2
                          go_ret
                          exact ⟨re, bw HB⟩
                        · replace c137 := Bool.eq_false_iff.mpr c137
                          subst c137
                          have H1 : ((sat_Wide_DivMod.f kj123 t332 t333 a0_2).bind fun bt362 => ((turnstileref03_Wide_DivMod.f kj123 a0_0 a0_1 a0_2).bind fun bt366 => ((turnstilelaw03_wide.f bt366.1 bt366.2.1).bind fun bt370 => (if (bt362.1 == bt370.1 && (bt362.2.1 == bt370.2)) = true then (some (bt362.2.2 == bt366.2.2)) else (some false))))) = some r := by rw [if_neg (show ¬ (false = true) by decide)] at H; exact H
                          clear H
                          have H := H1
                          clear H1
                          replace H := Option.bind_eq_some_iff.mp H
                          obtain ⟨⟨t362, t363, t364⟩, A1380, H⟩ := H
                          replace H : ((turnstileref03_Wide_DivMod.f kj123 a0_0 a0_1 a0_2).bind fun bt366 => ((turnstilelaw03_wide.f bt366.1 bt366.2.1).bind fun bt370 => (if (t362 == bt370.1 && (t363 == bt370.2)) = true then (some (t364 == bt366.2.2)) else (some false)))) = some r := H
                          have A138 := Aside0.mk A1380
                          clear A1380
                          replace H := Option.bind_eq_some_iff.mp H
                          obtain ⟨⟨t366, t367, t368⟩, A1390, H⟩ := H
                          replace H : ((turnstilelaw03_wide.f t366 t367).bind fun bt370 => (if (t362 == bt370.1 && (t363 == bt370.2)) = true then (some (t364 == t368)) else (some false))) = some r := H
                          have A139 := Aside0.mk A1390
                          clear A1390
                          replace H := Option.bind_eq_some_iff.mp H
                          obtain ⟨⟨t370, t371⟩, A1400, H⟩ := H
                          replace H : (if (t362 == t370 && (t363 == t371)) = true then (some (t364 == t368)) else (some false)) = some r := H
                          have A140 := Aside0.mk A1400
                          clear A1400
                          by_cases c141 : (t362 == t370 && (t363 == t371)) = true
                          · rw [if_pos c141] at H
                            have c141b0 : (t362 == t370 && (t363 == t371)) = true := c141
                            (try (have c141b1 : decide (t362 = t370 && (t363 == t371)) = true := by simpa using c141))
                            (try (have c141b2 : (t362 == t370 && (t363 == t371)) = true := by simpa using c141))
                            clear c141
                            obtain rfl := Option.some.inj H
                            have hnb142 := NB334_311.out
                            have hnc142 := NB311_334.out
                            have hnb143 := NB334_330.out
                            have hnc143 := NB330_334.out
                            have hnb144 := NB334_331.out
                            have hnc144 := NB331_334.out
                            have hnb145 := NB334_337.out
                            have hnc145 := NB337_334.out
                            obtain ⟨hcz146_0, hcz146_1, hfz146_0, hfz146_1⟩ := bc2 BK334
                            have hnb147 := NB311_330.out
                            have hnc147 := NB330_311.out
                            have hnb148 := NB311_331.out
                            have hnc148 := NB331_311.out
                            have hnb149 := NB311_337.out
                            have hnc149 := NB337_311.out
                            obtain ⟨hcz150_0, hcz150_1, hcz150_2, hcz150_3, hfz150_0, hfz150_1, hfz150_2, hfz150_3⟩ := bc4 BK311
                            try go_wp2_with (first | ((with_reducible refine gate_callee (f := 16) rfl ?_); refine gm (some 147) Try.func16 #[.agg #[.int .u64 t332, .int .u64 t333], .int .u64 a0_2] (sat_Wide_DivMod.calls kj123 t332 t333 a0_2 t362 t363 t364 _ A138.out) ?_; intro w151 hb; have n0_ := bb BK311 hb; have n1_ := bb BK330 hb; have n2_ := bb BK331 hb; have n3_ := bb BK334 hb; have n4_ := bb BK337 hb; have n5_ := bs HB hb; clear BK311; clear BK330; clear BK331; clear BK334; clear BK337; clear HB; have BK311 := n0_; have BK330 := n1_; have BK331 := n2_; have BK334 := n3_; have BK337 := n4_; have HB := n5_; clear n0_ n1_ n2_ n3_ n4_ n5_; (try clear hb); (try clear hb2); (try clear hk); (try clear hi)) | ((with_reducible refine gate_dst (N := 11) rfl ?_); refine bx 11 #[.int .u64 0, .int .u64 0] 24 ?_; intro gb365 hg w152 hbox hb; have n0_ := bb BK311 hb; have n1_ := bb BK330 hb; have n2_ := bb BK331 hb; have n3_ := bb BK334 hb; have n4_ := bb BK337 hb; have n5_ := bs HB hb; have n6_ := Aside0.mk (hbox); have n7_ := sz HB hg; have n8_ := sz HB hg; have n9_ := nl BK311 hg; have n10_ := nr BK311 hg; have n11_ := nl BK330 hg; have n12_ := nr BK330 hg; have n13_ := nl BK331 hg; have n14_ := nr BK331 hg; have n15_ := nl BK334 hg; have n16_ := nr BK334 hg; have n17_ := nl BK337 hg; have n18_ := nr BK337 hg; clear BK311; clear BK330; clear BK331; clear BK334; clear BK337; clear HB; have BK311 := n0_; have BK330 := n1_; have BK331 := n2_; have BK334 := n3_; have BK337 := n4_; have HB := n5_; have BK365 := n6_; have GW365 := n7_; have GE365 := n8_; have NB311_365 := n9_; have NB365_311 := n10_; have NB330_365 := n11_; have NB365_330 := n12_; have NB331_365 := n13_; have NB365_331 := n14_; have NB334_365 := n15_; have NB365_334 := n16_; have NB337_365 := n17_; have NB365_337 := n18_; clear n0_ n1_ n2_ n3_ n4_ n5_ n6_ n7_ n8_ n9_ n10_ n11_ n12_ n13_ n14_ n15_ n16_ n17_ n18_; clear hb hbox hg; have hnb153 := NB365_311.out; have hnc153 := NB311_365.out; have hnb154 := NB365_330.out; have hnc154 := NB330_365.out; have hnb155 := NB365_331.out; have hnc155 := NB331_365.out; have hnb156 := NB365_334.out; have hnc156 := NB334_365.out; have hnb157 := NB365_337.out; have hnc157 := NB337_365.out; obtain ⟨hcz158_0, hcz158_1, hfz158_0, hfz158_1⟩ := bc2 BK365; have hnb159 := NB330_331.out; have hnc159 := NB331_330.out; have hnb160 := NB330_337.out; have hnc160 := NB337_330.out; obtain ⟨hcz161_0, hcz161_1, hfz161_0, hfz161_1⟩ := bc2 BK330; obtain ⟨hcz162_0, hcz162_1, hcz162_2, hcz162_3, hfz162_0, hfz162_1, hfz162_2, hfz162_3⟩ := bc4 BK311) | ((with_reducible refine gate_callee (f := 53) rfl ?_); refine gm (some 154) Try.func53 #[.agg #[.int .u64 a0_0, .int .u64 a0_1], .int .u64 a0_2] (turnstileref03_Wide_DivMod.calls kj123 a0_0 a0_1 a0_2 t366 t367 t368 _ A139.out) ?_; intro w163 hb; have n0_ := bb BK311 hb; have n1_ := bb BK330 hb; have n2_ := bb BK331 hb; have n3_ := bb BK334 hb; have n4_ := bb BK337 hb; have n5_ := bbp (.cells #[.int .u64 t362, .int .u64 t363] 24 (0, 0)) BK365 hb; have n6_ := bs HB hb; clear BK311; clear BK330; clear BK331; clear BK334; clear BK337; clear BK365; clear HB; have BK311 := n0_; have BK330 := n1_; have BK331 := n2_; have BK334 := n3_; have BK337 := n4_; have BK365 := n5_; have HB := n6_; clear n0_ n1_ n2_ n3_ n4_ n5_ n6_; (try clear hb); (try clear hb2); (try clear hk); (try clear hi)) | ((with_reducible refine gate_dst (N := 13) rfl ?_); refine bx 13 #[.int .u64 0, .int .u64 0] 66 ?_; intro gb369 hg w164 hbox hb; have n0_ := bb BK311 hb; have n1_ := bb BK330 hb; have n2_ := bb BK331 hb; have n3_ := bb BK334 hb; have n4_ := bb BK337 hb; have n5_ := bb BK365 hb; have n6_ := bs HB hb; have n7_ := Aside0.mk (hbox); have n8_ := sz HB hg; have n9_ := sz HB hg; have n10_ := nl BK311 hg; have n11_ := nr BK311 hg; have n12_ := nl BK330 hg; have n13_ := nr BK330 hg; have n14_ := nl BK331 hg; have n15_ := nr BK331 hg; have n16_ := nl BK334 hg; have n17_ := nr BK334 hg; have n18_ := nl BK337 hg; have n19_ := nr BK337 hg; have n20_ := nl BK365 hg; have n21_ := nr BK365 hg; clear BK311; clear BK330; clear BK331; clear BK334; clear BK337; clear BK365; clear HB; have BK311 := n0_; have BK330 := n1_; have BK331 := n2_; have BK334 := n3_; have BK337 := n4_; have BK365 := n5_; have HB := n6_; have BK369 := n7_; have GW369 := n8_; have GE369 := n9_; have NB311_369 := n10_; have NB369_311 := n11_; have NB330_369 := n12_; have NB369_330 := n13_; have NB331_369 := n14_; have NB369_331 := n15_; have NB334_369 := n16_; have NB369_334 := n17_; have NB337_369 := n18_; have NB369_337 := n19_; have NB365_369 := n20_; have NB369_365 := n21_; clear n0_ n1_ n2_ n3_ n4_ n5_ n6_ n7_ n8_ n9_ n10_ n11_ n12_ n13_ n14_ n15_ n16_ n17_ n18_ n19_ n20_ n21_; clear hb hbox hg; have hnb165 := NB369_311.out; have hnc165 := NB311_369.out; have hnb166 := NB369_330.out; have hnc166 := NB330_369.out; have hnb167 := NB369_331.out; have hnc167 := NB331_369.out; have hnb168 := NB369_334.out; have hnc168 := NB334_369.out; have hnb169 := NB369_337.out; have hnc169 := NB337_369.out; have hnb170 := NB369_365.out; have hnc170 := NB365_369.out; obtain ⟨hcz171_0, hcz171_1, hfz171_0, hfz171_1⟩ := bc2 BK369))
                            have n0_ : Aside0 (((w164.setCell ⟨gb369, 0, none⟩ (.int .u64 t366)).setCell ⟨gb369, 1, none⟩ (.int .u64 t367)).heap[gb311]? = some (.cells #[.int .u64 a0_0, .int .u64 a0_1, .int .u64 a0_2, .int .u64 a0_3] 40 (0, 0))) := ⟨bk BK311⟩
                            have n1_ : Aside0 (((w164.setCell ⟨gb369, 0, none⟩ (.int .u64 t366)).setCell ⟨gb369, 1, none⟩ (.int .u64 t367)).heap[gb330]? = some (.cells #[.int .u64 a0_0, .int .u64 a0_1] 66 (0, 0))) := ⟨bk BK330⟩
                            have n2_ : Aside0 (((w164.setCell ⟨gb369, 0, none⟩ (.int .u64 t366)).setCell ⟨gb369, 1, none⟩ (.int .u64 t367)).heap[gb331]? = some (.cells #[.int .u64 a0_2, .int .u64 a0_3] 66 (0, 0))) := ⟨bk BK331⟩
                            have n3_ : Aside0 (((w164.setCell ⟨gb369, 0, none⟩ (.int .u64 t366)).setCell ⟨gb369, 1, none⟩ (.int .u64 t367)).heap[gb334]? = some (.cells #[.int .u64 t332, .int .u64 t333] 24 (0, 0))) := ⟨bk BK334⟩
                            have n4_ : Aside0 (((w164.setCell ⟨gb369, 0, none⟩ (.int .u64 t366)).setCell ⟨gb369, 1, none⟩ (.int .u64 t367)).heap[gb337]? = some (.cells #[.int .u64 t335, .int .u64 t336] 24 (0, 0))) := ⟨bk BK337⟩
                            have n5_ : Aside0 (((w164.setCell ⟨gb369, 0, none⟩ (.int .u64 t366)).setCell ⟨gb369, 1, none⟩ (.int .u64 t367)).heap[gb365]? = some (.cells #[.int .u64 t362, .int .u64 t363] 24 (0, 0))) := ⟨bk BK365⟩
                            have n6_ : Aside0 (((w164.setCell ⟨gb369, 0, none⟩ (.int .u64 t366)).setCell ⟨gb369, 1, none⟩ (.int .u64 t367)).heap[gb369]? = some (.cells #[.int .u64 t366, .int .u64 t367] 66 (0, 0))) := ⟨bk BK369⟩
                            have n7_ : Aside0 (Below w.heap.size w ((w164.setCell ⟨gb369, 0, none⟩ (.int .u64 t366)).setCell ⟨gb369, 1, none⟩ (.int .u64 t367))) := ⟨bw HB⟩
                            (try clear BK311)
                            (try clear BK330)
                            (try clear BK331)
                            (try clear BK334)
                            (try clear BK337)
                            (try clear BK365)
                            (try clear BK369)
                            (try clear HB)
                            generalize ((w164.setCell ⟨gb369, 0, none⟩ (.int .u64 t366)).setCell ⟨gb369, 1, none⟩ (.int .u64 t367)) = w172 at n0_ n1_ n2_ n3_ n4_ n5_ n6_ n7_ ⊢
                            have BK311 := n0_
                            have BK330 := n1_
                            have BK331 := n2_
                            have BK334 := n3_
                            have BK337 := n4_
                            have BK365 := n5_
                            have BK369 := n6_
                            have HB := n7_
                            clear n0_ n1_ n2_ n3_ n4_ n5_ n6_ n7_
                            have n0_ := Aside0.mk (blk_drew BK311.out)
                            have n1_ := Aside0.mk (blk_drew BK330.out)
                            have n2_ := Aside0.mk (blk_drew BK331.out)
                            have n3_ := Aside0.mk (blk_drew BK334.out)
                            have n4_ := Aside0.mk (blk_drew BK337.out)
                            have n5_ := Aside0.mk (blk_drew BK365.out)
                            have n6_ := Aside0.mk (blk_drew BK369.out)
                            have n7_ := Aside0.mk (below_drew1 HB.out)
                            clear BK311
                            clear BK330
                            clear BK331
                            clear BK334
                            clear BK337
                            clear BK365
                            clear BK369
                            clear HB
                            have BK311 := n0_
                            have BK330 := n1_
                            have BK331 := n2_
                            have BK334 := n3_
                            have BK337 := n4_
                            have BK365 := n5_
                            have BK369 := n6_
                            have HB := n7_
                            clear n0_ n1_ n2_ n3_ n4_ n5_ n6_ n7_
                            refine start_ (n := 10) (S := fun w' => w'.cell? ⟨gb365, 0, none⟩ = some (.int .u64 t362) ∧ w'.cell? ⟨gb365, 1, none⟩ = some (.int .u64 t363) ∧ w'.cell? ⟨gb369, 0, none⟩ = some (.int .u64 t366) ∧ w'.cell? ⟨gb369, 1, none⟩ = some (.int .u64 t367)) (ds := []) #[false, false, false, false, false, false, false, false, false, false] (by kernel_rfl) rfl rfl ⟨(blk_cell BK365.out 0).trans rfl, (blk_cell BK365.out 1).trans rfl, (blk_cell BK369.out 0).trans rfl, (blk_cell BK369.out 1).trans rfl⟩ (fun hHeld => ?_); refine with_tabW turnstilelaw03_right.tab17 turnstilelaw03_right.bits17 (fun HT_ HW_ => ?_)
                            generalize w172.drew = w173 at BK311 BK330 BK331 BK334 BK337 BK365 BK369 HB hHeld ⊢
                            refine chain_ (fuel := 8) [(0, 1, some 157), (1, 1, some 158)] #[true, true, false, false, false, false, false, false, false, false] HT_.out HW_.out (by kernel_rfl) (fun _ _ _ _ _ h => h) (Or.inr hHeld) rfl ?_
                            (iterate 2 refine lkT ?_); refine .nil ?_
                            refine one_ (i := 2) (N := some 159) #[true, true, true, false, false, false, false, false, false, false] rfl rfl (one_of HT_.out (by kernel_rfl)) (by decide) (fun K hK => ?_)
                            refine ge Try.func46 #[.agg #[.int .u64 t366, .int .u64 t367]] ?_
                            with_reducible refine (turnstilelaw03_wide.calls t366 t367 t370 t371 _ A140.out).mono ?_
                            rintro e w174 ⟨rfl, hb⟩
                            refine ⟨_, rfl, ?_⟩
                            have n0_ := bb BK311 hb
                            have n1_ := bb BK330 hb
                            have n2_ := bb BK331 hb
                            have n3_ := bb BK334 hb
                            have n4_ := bb BK337 hb
                            have n5_ := bb BK365 hb
                            have n6_ := bb BK369 hb
                            have n7_ := bs HB hb
                            clear BK311
                            clear BK330
                            clear BK331
                            clear BK334
                            clear BK337
                            clear BK365
                            clear BK369
                            clear HB
                            have BK311 := n0_
                            have BK330 := n1_
                            have BK331 := n2_
                            have BK334 := n3_
                            have BK337 := n4_
                            have BK365 := n5_
                            have BK369 := n6_
                            have HB := n7_
                            clear n0_ n1_ n2_ n3_ n4_ n5_ n6_ n7_
                            (try clear hb)
                            (try clear hb2)
                            (try clear hk)
                            (try clear hi)
                            refine hK.out _ _ ⟨(blk_cell BK365.out 0).trans rfl, (blk_cell BK365.out 1).trans rfl, (blk_cell BK369.out 0).trans rfl, (blk_cell BK369.out 1).trans rfl⟩ (fun hHeld => ?_)
                            clear hK K
                            refine norm_ (a' := ?_) ?_ ?_
                            rotate_left
                            · show Act.put _ (some 159) _ = _
                              simp only [Act.put, List.setIfInBounds_toArray, List.set_cons_zero, List.set_cons_succ, i64_w, i32_w]
                              rfl
                            refine chain_ (fuel := 0) [(3, 0, some 160), (4, 0, some 161), (5, 0, some 162), (6, 0, some 163), (7, 0, some 164), (8, 0, some 165), (9, 0, some 2)] #[true, true, true, true, true, true, true, true, true, true] HT_.out HW_.out (by kernel_rfl) (fun _ _ _ _ _ h => h) (Or.inl (by decide)) rfl ?_
                            (iterate 7 refine lkP ?_); refine .nil ?_
                            refine done_ (done_of HT_.out (by kernel_rfl)) ?_
                            try go_wp2
                            go_ret
                            exact ⟨re, bw HB⟩
                          · rw [if_neg c141] at H
                            have c141b0 : (t362 == t370 && (t363 == t371)) = false := by simpa using c141
                            (try (have c141b1 : decide (t362 = t370 && (t363 == t371)) = false := by simpa using c141))
                            (try (have c141b2 : (t362 == t370 && (t363 == t371)) = false := by simpa using c141))
                            (try (have c141b3 : ¬ (t362 = t370 && (t363 == t371)) := by simpa using c141))
                            clear c141
                            obtain rfl := Option.some.inj H
                            have hnb175 := NB334_311.out
                            have hnc175 := NB311_334.out
                            have hnb176 := NB334_330.out
                            have hnc176 := NB330_334.out
                            have hnb177 := NB334_331.out
                            have hnc177 := NB331_334.out
                            have hnb178 := NB334_337.out
                            have hnc178 := NB337_334.out
                            obtain ⟨hcz179_0, hcz179_1, hfz179_0, hfz179_1⟩ := bc2 BK334
                            have hnb180 := NB311_330.out
                            have hnc180 := NB330_311.out
                            have hnb181 := NB311_331.out
                            have hnc181 := NB331_311.out
                            have hnb182 := NB311_337.out
                            have hnc182 := NB337_311.out
                            obtain ⟨hcz183_0, hcz183_1, hcz183_2, hcz183_3, hfz183_0, hfz183_1, hfz183_2, hfz183_3⟩ := bc4 BK311
                            try go_wp2_with (first | ((with_reducible refine gate_callee (f := 16) rfl ?_); refine gm (some 147) Try.func16 #[.agg #[.int .u64 t332, .int .u64 t333], .int .u64 a0_2] (sat_Wide_DivMod.calls kj123 t332 t333 a0_2 t362 t363 t364 _ A138.out) ?_; intro w184 hb; have n0_ := bb BK311 hb; have n1_ := bb BK330 hb; have n2_ := bb BK331 hb; have n3_ := bb BK334 hb; have n4_ := bb BK337 hb; have n5_ := bs HB hb; clear BK311; clear BK330; clear BK331; clear BK334; clear BK337; clear HB; have BK311 := n0_; have BK330 := n1_; have BK331 := n2_; have BK334 := n3_; have BK337 := n4_; have HB := n5_; clear n0_ n1_ n2_ n3_ n4_ n5_; (try clear hb); (try clear hb2); (try clear hk); (try clear hi)) | ((with_reducible refine gate_dst (N := 11) rfl ?_); refine bx 11 #[.int .u64 0, .int .u64 0] 24 ?_; intro gb365 hg w185 hbox hb; have n0_ := bb BK311 hb; have n1_ := bb BK330 hb; have n2_ := bb BK331 hb; have n3_ := bb BK334 hb; have n4_ := bb BK337 hb; have n5_ := bs HB hb; have n6_ := Aside0.mk (hbox); have n7_ := sz HB hg; have n8_ := sz HB hg; have n9_ := nl BK311 hg; have n10_ := nr BK311 hg; have n11_ := nl BK330 hg; have n12_ := nr BK330 hg; have n13_ := nl BK331 hg; have n14_ := nr BK331 hg; have n15_ := nl BK334 hg; have n16_ := nr BK334 hg; have n17_ := nl BK337 hg; have n18_ := nr BK337 hg; clear BK311; clear BK330; clear BK331; clear BK334; clear BK337; clear HB; have BK311 := n0_; have BK330 := n1_; have BK331 := n2_; have BK334 := n3_; have BK337 := n4_; have HB := n5_; have BK365 := n6_; have GW365 := n7_; have GE365 := n8_; have NB311_365 := n9_; have NB365_311 := n10_; have NB330_365 := n11_; have NB365_330 := n12_; have NB331_365 := n13_; have NB365_331 := n14_; have NB334_365 := n15_; have NB365_334 := n16_; have NB337_365 := n17_; have NB365_337 := n18_; clear n0_ n1_ n2_ n3_ n4_ n5_ n6_ n7_ n8_ n9_ n10_ n11_ n12_ n13_ n14_ n15_ n16_ n17_ n18_; clear hb hbox hg; have hnb186 := NB365_311.out; have hnc186 := NB311_365.out; have hnb187 := NB365_330.out; have hnc187 := NB330_365.out; have hnb188 := NB365_331.out; have hnc188 := NB331_365.out; have hnb189 := NB365_334.out; have hnc189 := NB334_365.out; have hnb190 := NB365_337.out; have hnc190 := NB337_365.out; obtain ⟨hcz191_0, hcz191_1, hfz191_0, hfz191_1⟩ := bc2 BK365; have hnb192 := NB330_331.out; have hnc192 := NB331_330.out; have hnb193 := NB330_337.out; have hnc193 := NB337_330.out; obtain ⟨hcz194_0, hcz194_1, hfz194_0, hfz194_1⟩ := bc2 BK330; obtain ⟨hcz195_0, hcz195_1, hcz195_2, hcz195_3, hfz195_0, hfz195_1, hfz195_2, hfz195_3⟩ := bc4 BK311) | ((with_reducible refine gate_callee (f := 53) rfl ?_); refine gm (some 154) Try.func53 #[.agg #[.int .u64 a0_0, .int .u64 a0_1], .int .u64 a0_2] (turnstileref03_Wide_DivMod.calls kj123 a0_0 a0_1 a0_2 t366 t367 t368 _ A139.out) ?_; intro w196 hb; have n0_ := bb BK311 hb; have n1_ := bb BK330 hb; have n2_ := bb BK331 hb; have n3_ := bb BK334 hb; have n4_ := bb BK337 hb; have n5_ := bbp (.cells #[.int .u64 t362, .int .u64 t363] 24 (0, 0)) BK365 hb; have n6_ := bs HB hb; clear BK311; clear BK330; clear BK331; clear BK334; clear BK337; clear BK365; clear HB; have BK311 := n0_; have BK330 := n1_; have BK331 := n2_; have BK334 := n3_; have BK337 := n4_; have BK365 := n5_; have HB := n6_; clear n0_ n1_ n2_ n3_ n4_ n5_ n6_; (try clear hb); (try clear hb2); (try clear hk); (try clear hi)) | ((with_reducible refine gate_dst (N := 13) rfl ?_); refine bx 13 #[.int .u64 0, .int .u64 0] 66 ?_; intro gb369 hg w197 hbox hb; have n0_ := bb BK311 hb; have n1_ := bb BK330 hb; have n2_ := bb BK331 hb; have n3_ := bb BK334 hb; have n4_ := bb BK337 hb; have n5_ := bb BK365 hb; have n6_ := bs HB hb; have n7_ := Aside0.mk (hbox); have n8_ := sz HB hg; have n9_ := sz HB hg; have n10_ := nl BK311 hg; have n11_ := nr BK311 hg; have n12_ := nl BK330 hg; have n13_ := nr BK330 hg; have n14_ := nl BK331 hg; have n15_ := nr BK331 hg; have n16_ := nl BK334 hg; have n17_ := nr BK334 hg; have n18_ := nl BK337 hg; have n19_ := nr BK337 hg; have n20_ := nl BK365 hg; have n21_ := nr BK365 hg; clear BK311; clear BK330; clear BK331; clear BK334; clear BK337; clear BK365; clear HB; have BK311 := n0_; have BK330 := n1_; have BK331 := n2_; have BK334 := n3_; have BK337 := n4_; have BK365 := n5_; have HB := n6_; have BK369 := n7_; have GW369 := n8_; have GE369 := n9_; have NB311_369 := n10_; have NB369_311 := n11_; have NB330_369 := n12_; have NB369_330 := n13_; have NB331_369 := n14_; have NB369_331 := n15_; have NB334_369 := n16_; have NB369_334 := n17_; have NB337_369 := n18_; have NB369_337 := n19_; have NB365_369 := n20_; have NB369_365 := n21_; clear n0_ n1_ n2_ n3_ n4_ n5_ n6_ n7_ n8_ n9_ n10_ n11_ n12_ n13_ n14_ n15_ n16_ n17_ n18_ n19_ n20_ n21_; clear hb hbox hg; have hnb198 := NB369_311.out; have hnc198 := NB311_369.out; have hnb199 := NB369_330.out; have hnc199 := NB330_369.out; have hnb200 := NB369_331.out; have hnc200 := NB331_369.out; have hnb201 := NB369_334.out; have hnc201 := NB334_369.out; have hnb202 := NB369_337.out; have hnc202 := NB337_369.out; have hnb203 := NB369_365.out; have hnc203 := NB365_369.out; obtain ⟨hcz204_0, hcz204_1, hfz204_0, hfz204_1⟩ := bc2 BK369))
                            have n0_ : Aside0 (((w197.setCell ⟨gb369, 0, none⟩ (.int .u64 t366)).setCell ⟨gb369, 1, none⟩ (.int .u64 t367)).heap[gb311]? = some (.cells #[.int .u64 a0_0, .int .u64 a0_1, .int .u64 a0_2, .int .u64 a0_3] 40 (0, 0))) := ⟨bk BK311⟩
                            have n1_ : Aside0 (((w197.setCell ⟨gb369, 0, none⟩ (.int .u64 t366)).setCell ⟨gb369, 1, none⟩ (.int .u64 t367)).heap[gb330]? = some (.cells #[.int .u64 a0_0, .int .u64 a0_1] 66 (0, 0))) := ⟨bk BK330⟩
                            have n2_ : Aside0 (((w197.setCell ⟨gb369, 0, none⟩ (.int .u64 t366)).setCell ⟨gb369, 1, none⟩ (.int .u64 t367)).heap[gb331]? = some (.cells #[.int .u64 a0_2, .int .u64 a0_3] 66 (0, 0))) := ⟨bk BK331⟩
                            have n3_ : Aside0 (((w197.setCell ⟨gb369, 0, none⟩ (.int .u64 t366)).setCell ⟨gb369, 1, none⟩ (.int .u64 t367)).heap[gb334]? = some (.cells #[.int .u64 t332, .int .u64 t333] 24 (0, 0))) := ⟨bk BK334⟩
                            have n4_ : Aside0 (((w197.setCell ⟨gb369, 0, none⟩ (.int .u64 t366)).setCell ⟨gb369, 1, none⟩ (.int .u64 t367)).heap[gb337]? = some (.cells #[.int .u64 t335, .int .u64 t336] 24 (0, 0))) := ⟨bk BK337⟩
                            have n5_ : Aside0 (((w197.setCell ⟨gb369, 0, none⟩ (.int .u64 t366)).setCell ⟨gb369, 1, none⟩ (.int .u64 t367)).heap[gb365]? = some (.cells #[.int .u64 t362, .int .u64 t363] 24 (0, 0))) := ⟨bk BK365⟩
                            have n6_ : Aside0 (((w197.setCell ⟨gb369, 0, none⟩ (.int .u64 t366)).setCell ⟨gb369, 1, none⟩ (.int .u64 t367)).heap[gb369]? = some (.cells #[.int .u64 t366, .int .u64 t367] 66 (0, 0))) := ⟨bk BK369⟩
                            have n7_ : Aside0 (Below w.heap.size w ((w197.setCell ⟨gb369, 0, none⟩ (.int .u64 t366)).setCell ⟨gb369, 1, none⟩ (.int .u64 t367))) := ⟨bw HB⟩
                            (try clear BK311)
                            (try clear BK330)
                            (try clear BK331)
                            (try clear BK334)
                            (try clear BK337)
                            (try clear BK365)
                            (try clear BK369)
                            (try clear HB)
                            generalize ((w197.setCell ⟨gb369, 0, none⟩ (.int .u64 t366)).setCell ⟨gb369, 1, none⟩ (.int .u64 t367)) = w205 at n0_ n1_ n2_ n3_ n4_ n5_ n6_ n7_ ⊢
                            have BK311 := n0_
                            have BK330 := n1_
                            have BK331 := n2_
                            have BK334 := n3_
                            have BK337 := n4_
                            have BK365 := n5_
                            have BK369 := n6_
                            have HB := n7_
                            clear n0_ n1_ n2_ n3_ n4_ n5_ n6_ n7_
                            have n0_ := Aside0.mk (blk_drew BK311.out)
                            have n1_ := Aside0.mk (blk_drew BK330.out)
                            have n2_ := Aside0.mk (blk_drew BK331.out)
                            have n3_ := Aside0.mk (blk_drew BK334.out)
                            have n4_ := Aside0.mk (blk_drew BK337.out)
                            have n5_ := Aside0.mk (blk_drew BK365.out)
                            have n6_ := Aside0.mk (blk_drew BK369.out)
                            have n7_ := Aside0.mk (below_drew1 HB.out)
                            clear BK311
                            clear BK330
                            clear BK331
                            clear BK334
                            clear BK337
                            clear BK365
                            clear BK369
                            clear HB
                            have BK311 := n0_
                            have BK330 := n1_
                            have BK331 := n2_
                            have BK334 := n3_
                            have BK337 := n4_
                            have BK365 := n5_
                            have BK369 := n6_
                            have HB := n7_
                            clear n0_ n1_ n2_ n3_ n4_ n5_ n6_ n7_
                            refine start_ (n := 10) (S := fun w' => w'.cell? ⟨gb365, 0, none⟩ = some (.int .u64 t362) ∧ w'.cell? ⟨gb365, 1, none⟩ = some (.int .u64 t363) ∧ w'.cell? ⟨gb369, 0, none⟩ = some (.int .u64 t366) ∧ w'.cell? ⟨gb369, 1, none⟩ = some (.int .u64 t367)) (ds := []) #[false, false, false, false, false, false, false, false, false, false] (by kernel_rfl) rfl rfl ⟨(blk_cell BK365.out 0).trans rfl, (blk_cell BK365.out 1).trans rfl, (blk_cell BK369.out 0).trans rfl, (blk_cell BK369.out 1).trans rfl⟩ (fun hHeld => ?_); refine with_tabW turnstilelaw03_right.tab17 turnstilelaw03_right.bits17 (fun HT_ HW_ => ?_)
                            generalize w205.drew = w206 at BK311 BK330 BK331 BK334 BK337 BK365 BK369 HB hHeld ⊢
                            refine chain_ (fuel := 8) [(0, 1, some 157), (1, 1, some 158)] #[true, true, false, false, false, false, false, false, false, false] HT_.out HW_.out (by kernel_rfl) (fun _ _ _ _ _ h => h) (Or.inr hHeld) rfl ?_
                            (iterate 2 refine lkT ?_); refine .nil ?_
                            refine one_ (i := 2) (N := some 159) #[true, true, true, false, false, false, false, false, false, false] rfl rfl (one_of HT_.out (by kernel_rfl)) (by decide) (fun K hK => ?_)
                            refine ge Try.func46 #[.agg #[.int .u64 t366, .int .u64 t367]] ?_
                            with_reducible refine (turnstilelaw03_wide.calls t366 t367 t370 t371 _ A140.out).mono ?_
                            rintro e w207 ⟨rfl, hb⟩
                            refine ⟨_, rfl, ?_⟩
                            have n0_ := bb BK311 hb
                            have n1_ := bb BK330 hb
                            have n2_ := bb BK331 hb
                            have n3_ := bb BK334 hb
                            have n4_ := bb BK337 hb
                            have n5_ := bb BK365 hb
                            have n6_ := bb BK369 hb
                            have n7_ := bs HB hb
                            clear BK311
                            clear BK330
                            clear BK331
                            clear BK334
                            clear BK337
                            clear BK365
                            clear BK369
                            clear HB
                            have BK311 := n0_
                            have BK330 := n1_
                            have BK331 := n2_
                            have BK334 := n3_
                            have BK337 := n4_
                            have BK365 := n5_
                            have BK369 := n6_
                            have HB := n7_
                            clear n0_ n1_ n2_ n3_ n4_ n5_ n6_ n7_
                            (try clear hb)
                            (try clear hb2)
                            (try clear hk)
                            (try clear hi)
                            refine hK.out _ _ ⟨(blk_cell BK365.out 0).trans rfl, (blk_cell BK365.out 1).trans rfl, (blk_cell BK369.out 0).trans rfl, (blk_cell BK369.out 1).trans rfl⟩ (fun hHeld => ?_)
                            clear hK K
                            refine norm_ (a' := ?_) ?_ ?_
                            rotate_left
                            · show Act.put _ (some 159) _ = _
                              simp only [Act.put, List.setIfInBounds_toArray, List.set_cons_zero, List.set_cons_succ, i64_w, i32_w]
                              rfl
                            refine chain_ (fuel := 0) [(3, 0, some 160), (4, 0, some 161), (5, 2, some 162), (6, 2, some 163), (7, 2, some 164), (8, 0, some 165), (9, 0, some 2)] #[true, true, true, true, true, true, true, true, true, true] HT_.out HW_.out (by kernel_rfl) (fun _ _ _ _ _ h => h) (Or.inl (by decide)) rfl ?_
                            (iterate 2 refine lkP ?_); (iterate 3 refine lkO ?_); (iterate 2 refine lkP ?_); refine .nil ?_
                            refine done_ (done_of HT_.out (by kernel_rfl)) ?_
                            try go_wp2
                            go_ret
                            exact ⟨re, bw HB⟩

end Go.Proofs.Ythnpgilknoiaaaa.Q
