/- Written by the session's own program hyb.py: what functions of the program compute; Lean checks it. -/
import Derived.Test.YtokfhdpokemekaaQx0
import Derived.Test.YtokfhdpokemekaaQx1
import Derived.Test.YtokfhdpokemekaaQx14
import Derived.Test.YtokfhdpokemekaaQx15
import Derived.Test.YtokfhdpokemekaaQx16
import Derived.Test.YtokfhdpokemekaaQx17
import Derived.Test.YtokfhdpokemekaaQx18
import Derived.Test.YtokfhdpokemekaaQx20
import Derived.Test.YtokfhdpokemekaaQx26
import Derived.Test.YtokfhdpokemekaaQx27
namespace Go.Proofs.Ytokfhdpokemekaa.Q
open Go.RowKit Go.Proofs.YtokfhdpokemekaaW.PrintWords Go.Proofs.YtokfhdpokemekaaW.PrintLast Go.Proofs.YtokfhdpokemekaaW.PrintMore Go.Proofs.YtokfhdpokemekaaW.PrintShort
attribute [local go_sem] run_Add64 run_Sub64
attribute [local go_sem] max2_int min2_int max_two min_two max_three min_three max_four min_four   -- for this text's walks alone
set_option linter.unusedVariables false
set_option linter.unusedSimpArgs false

attribute [local go_sem high] eqA29
/-! ### turnstilelaw06_right: function 15 -/
mutual
def turnstilelaw06_right.j0 : Nat → Bool → Int → Int → Int → Int → Int → Int → Int → Int → Int → Int → Int → Int → Int → Option (Bool)
  | 0, _, _, _, _, _, _, _, _, _, _, _, _, _, _ => none
  | k + 1, x28, x386000, x386001, x386002, x386003, x386004, x386005, x386006, x386007, x386008, x386009, x386010, x386011, x386012 => if x28 = true then (some false) else ((policy_Admit.f k x386000 x386001 x386002 x386003 x386004 x386005 x386006 x386007 x386011 x386012).bind fun bt390 => ((turnstileref06_Admit.f k x386000 x386001 x386002 x386003 x386004 x386005 x386006 x386007 x386011 x386012).bind fun bt396 => (if (!(bt390.1 == bt396.1) || (!(bt390.2.1 == bt396.2.1) || (!(bt390.2.2.1 == bt396.2.2.1)))) = true then (turnstilelaw06_right.j1 k true x386000 x386001 x386002 x386003 x386004 x386005 x386006 x386007 x386008 x386009 x386010 x386011 x386012) else (if (bt390.2.2.2.1 != bt396.2.2.2.1) = true then (turnstilelaw06_right.j1 k true x386000 x386001 x386002 x386003 x386004 x386005 x386006 x386007 x386008 x386009 x386010 x386011 x386012) else (if bt390.2.2.2.2 = bt396.2.2.2.2 then ((policy_Left.f k x386000 x386001 x386002 x386003 x386004 x386005 x386006 x386007 x386011).bind fun t402 => ((turnstileref06_Left.f k x386000 x386001 x386002 x386003 x386004 x386005 x386006 x386007 x386011).bind fun t403 => (turnstilelaw06_right.j1 k (t402 != t403) x386000 x386001 x386002 x386003 x386004 x386005 x386006 x386007 x386008 x386009 x386010 x386011 x386012))) else (turnstilelaw06_right.j1 k true x386000 x386001 x386002 x386003 x386004 x386005 x386006 x386007 x386008 x386009 x386010 x386011 x386012))))))
def turnstilelaw06_right.j1 : Nat → Bool → Int → Int → Int → Int → Int → Int → Int → Int → Int → Int → Int → Int → Int → Option (Bool)
  | 0, _, _, _, _, _, _, _, _, _, _, _, _, _, _ => none
  | k + 1, x84, x386000, x386001, x386002, x386003, x386004, x386005, x386006, x386007, x386008, x386009, x386010, x386011, x386012 => if x84 = true then (some false) else ((policy_Covers.f x386000 x386001 x386002 x386003 x386004 x386005 x386006 x386007 x386008 x386009 x386010).bind fun t404 => ((turnstileref06_Covers.f x386000 x386001 x386002 x386003 x386004 x386005 x386006 x386007 x386008 x386009 x386010).bind fun t405 => (if (t404 == t405) = true then ((policy_Max.f x386000 x386001 x386002 x386003 x386004 x386005 x386006 x386007 x386008 x386009 x386010).bind fun bt406 => ((turnstileref06_Max.f x386000 x386001 x386002 x386003 x386004 x386005 x386006 x386007 x386008 x386009 x386010).bind fun bt409 => (some (bt406.1 == bt409.1 && (bt406.2.1 == bt409.2.1 && (bt406.2.2 == bt409.2.2)))))) else (some false))))
end
def turnstilelaw06_right.f (k : Nat) (a0_0 : Int) (a0_1 : Int) (a0_2 : Int) (a0_3 : Int) (a0_4 : Int) (a0_5 : Int) (a0_6 : Int) (a0_7 : Int) (a0_8 : Int) (a0_9 : Int) (a0_10 : Int) (a0_11 : Int) (a0_12 : Int) : Option (Bool) := (policy_Valid.f a0_0 a0_1 a0_2 a0_3 a0_4).bind fun t386 => ((turnstileref06_Valid.f a0_0 a0_1 a0_2 a0_3 a0_4).bind fun t387 => (if (t386 != t387) = true then (turnstilelaw06_right.j0 k true a0_0 a0_1 a0_2 a0_3 a0_4 a0_5 a0_6 a0_7 a0_8 a0_9 a0_10 a0_11 a0_12) else ((policy_Fits.f a0_0 a0_1 a0_2 a0_3 a0_4 a0_5 a0_6 a0_7).bind fun t388 => ((turnstileref06_Fits.f a0_0 a0_1 a0_2 a0_3 a0_4 a0_5 a0_6 a0_7).bind fun t389 => (turnstilelaw06_right.j0 k (t388 != t389) a0_0 a0_1 a0_2 a0_3 a0_4 a0_5 a0_6 a0_7 a0_8 a0_9 a0_10 a0_11 a0_12)))))
theorem turnstilelaw06_right.mono_l : ∀ k, (∀ y0 y1 y2 y3 y4 y5 y6 y7 y8 y9 y10 y11 y12 y13, LeO (turnstilelaw06_right.j0 k y0 y1 y2 y3 y4 y5 y6 y7 y8 y9 y10 y11 y12 y13) (turnstilelaw06_right.j0 (k + 1) y0 y1 y2 y3 y4 y5 y6 y7 y8 y9 y10 y11 y12 y13)) ∧ (∀ y0 y1 y2 y3 y4 y5 y6 y7 y8 y9 y10 y11 y12 y13, LeO (turnstilelaw06_right.j1 k y0 y1 y2 y3 y4 y5 y6 y7 y8 y9 y10 y11 y12 y13) (turnstilelaw06_right.j1 (k + 1) y0 y1 y2 y3 y4 y5 y6 y7 y8 y9 y10 y11 y12 y13))
  | 0 => ⟨fun _ _ _ _ _ _ _ _ _ _ _ _ _ _ r h => by simp [turnstilelaw06_right.j0] at h, fun _ _ _ _ _ _ _ _ _ _ _ _ _ _ r h => by simp [turnstilelaw06_right.j1] at h⟩
  | k + 1 => by
    obtain ⟨ih0, ih1⟩ := turnstilelaw06_right.mono_l k
    refine ⟨?_, ?_⟩
    · intro y0 y1 y2 y3 y4 y5 y6 y7 y8 y9 y10 y11 y12 y13
      unfold turnstilelaw06_right.j0
      repeat' first
      | (with_reducible exact ih0 _ _ _ _ _ _ _ _ _ _ _ _ _ _)
      | (with_reducible exact ih1 _ _ _ _ _ _ _ _ _ _ _ _ _ _)
      | (with_reducible exact policy_Admit.mono _ _ _ _ _ _ _ _ _ _ _)
      | (with_reducible exact policy_Left.mono _ _ _ _ _ _ _ _ _ _)
      | (with_reducible exact turnstileref06_Admit.mono _ _ _ _ _ _ _ _ _ _ _)
      | (with_reducible exact turnstileref06_Left.mono _ _ _ _ _ _ _ _ _ _)
      | (with_reducible exact LeO.refl _)
      | (with_reducible exact LeO.none _)
      | (with_reducible refine LeO.ite ?_ ?_)
      | (with_reducible refine LeO.bind ?_ (fun _ => ?_))
      | exact ih0 _ _ _ _ _ _ _ _ _ _ _ _ _ _
      | exact ih1 _ _ _ _ _ _ _ _ _ _ _ _ _ _
      | exact policy_Admit.mono _ _ _ _ _ _ _ _ _ _ _
      | exact policy_Left.mono _ _ _ _ _ _ _ _ _ _
      | exact turnstileref06_Admit.mono _ _ _ _ _ _ _ _ _ _ _
      | exact turnstileref06_Left.mono _ _ _ _ _ _ _ _ _ _
      | exact LeO.none _
      | refine LeO.ite ?_ ?_
      | refine LeO.bind ?_ (fun _ => ?_)
    · intro y0 y1 y2 y3 y4 y5 y6 y7 y8 y9 y10 y11 y12 y13
      unfold turnstilelaw06_right.j1
      repeat' first
      | (with_reducible exact ih0 _ _ _ _ _ _ _ _ _ _ _ _ _ _)
      | (with_reducible exact ih1 _ _ _ _ _ _ _ _ _ _ _ _ _ _)
      | (with_reducible exact policy_Admit.mono _ _ _ _ _ _ _ _ _ _ _)
      | (with_reducible exact policy_Left.mono _ _ _ _ _ _ _ _ _ _)
      | (with_reducible exact turnstileref06_Admit.mono _ _ _ _ _ _ _ _ _ _ _)
      | (with_reducible exact turnstileref06_Left.mono _ _ _ _ _ _ _ _ _ _)
      | (with_reducible exact LeO.refl _)
      | (with_reducible exact LeO.none _)
      | (with_reducible refine LeO.ite ?_ ?_)
      | (with_reducible refine LeO.bind ?_ (fun _ => ?_))
      | exact ih0 _ _ _ _ _ _ _ _ _ _ _ _ _ _
      | exact ih1 _ _ _ _ _ _ _ _ _ _ _ _ _ _
      | exact policy_Admit.mono _ _ _ _ _ _ _ _ _ _ _
      | exact policy_Left.mono _ _ _ _ _ _ _ _ _ _
      | exact turnstileref06_Admit.mono _ _ _ _ _ _ _ _ _ _ _
      | exact turnstileref06_Left.mono _ _ _ _ _ _ _ _ _ _
      | exact LeO.none _
      | refine LeO.ite ?_ ?_
      | refine LeO.bind ?_ (fun _ => ?_)
theorem turnstilelaw06_right.mono : ∀ a0 a1 a2 a3 a4 a5 a6 a7 a8 a9 a10 a11 a12 k, LeO (turnstilelaw06_right.f k a0 a1 a2 a3 a4 a5 a6 a7 a8 a9 a10 a11 a12) (turnstilelaw06_right.f (k + 1) a0 a1 a2 a3 a4 a5 a6 a7 a8 a9 a10 a11 a12) := by
  intro a0 a1 a2 a3 a4 a5 a6 a7 a8 a9 a10 a11 a12 k
  obtain ⟨ih0, ih1⟩ := turnstilelaw06_right.mono_l k
  unfold turnstilelaw06_right.f
  repeat' first
      | (with_reducible exact ih0 _ _ _ _ _ _ _ _ _ _ _ _ _ _)
      | (with_reducible exact ih1 _ _ _ _ _ _ _ _ _ _ _ _ _ _)
      | (with_reducible exact policy_Admit.mono _ _ _ _ _ _ _ _ _ _ _)
      | (with_reducible exact policy_Left.mono _ _ _ _ _ _ _ _ _ _)
      | (with_reducible exact turnstileref06_Admit.mono _ _ _ _ _ _ _ _ _ _ _)
      | (with_reducible exact turnstileref06_Left.mono _ _ _ _ _ _ _ _ _ _)
      | (with_reducible exact LeO.refl _)
      | (with_reducible exact LeO.none _)
      | (with_reducible refine LeO.ite ?_ ?_)
      | (with_reducible refine LeO.bind ?_ (fun _ => ?_))
      | exact ih0 _ _ _ _ _ _ _ _ _ _ _ _ _ _
      | exact ih1 _ _ _ _ _ _ _ _ _ _ _ _ _ _
      | exact policy_Admit.mono _ _ _ _ _ _ _ _ _ _ _
      | exact policy_Left.mono _ _ _ _ _ _ _ _ _ _
      | exact turnstileref06_Admit.mono _ _ _ _ _ _ _ _ _ _ _
      | exact turnstileref06_Left.mono _ _ _ _ _ _ _ _ _ _
      | exact LeO.none _
      | refine LeO.ite ?_ ?_
      | refine LeO.bind ?_ (fun _ => ?_)
def turnstilelaw06_right.T1 : Bool × List (List Nat × List Nat) := (true, [([], []), ([0], [0]), ([1], [1]), ([], []), ([3], [3]), ([4, 2], [4]), ([2, 5], [2, 5]), ([6, 5], [6]), ([7], [7]), ([8, 7], [7, 8]), ([7], [7]), ([10, 7], [7, 10]), ([9, 11, 7, 7], [7, 9, 11]), ([7], [7]), ([13, 7], [7, 13]), ([7], [7]), ([15, 7], [7, 15]), ([14, 16, 12, 7], [7, 14, 16]), ([12, 17, 7], [7, 12, 17]), ([7, 18], [7, 18])])
def turnstilelaw06_right.B1 : List Nat := [0, 1, 3, 0, 8, 31, 63, 127, 255, 511, 255, 1279, 4095, 255, 8447, 255, 33023, 131071, 262143, 524287]
theorem turnstilelaw06_right.tab1 : rtab .any (opsOf Try.f15 1) = turnstilelaw06_right.T1 := by kernel_rfl
theorem turnstilelaw06_right.bits1 : waitsOk turnstilelaw06_right.T1.2 turnstilelaw06_right.B1 = true := by kernel_rfl
def turnstilelaw06_right.T5 : Bool × List (List Nat × List Nat) := (true, [([], []), ([], []), ([0, 1], [0, 1]), ([2], [2]), ([3], [3]), ([3], [3]), ([4, 5, 3], [3, 4, 5]), ([3, 6], [3, 6]), ([7, 3], [7]), ([8], [8]), ([8], [8]), ([9, 10, 8], [8, 9, 10]), ([8, 11], [8, 11]), ([12, 8], [12]), ([13], [13]), ([14, 13], [13, 14]), ([13], [13]), ([16, 13], [13, 16]), ([13], [13]), ([18, 13], [13, 18]), ([15, 17, 19, 13, 13], [13, 15, 17, 19]), ([13], [13]), ([21, 13], [13, 21]), ([13], [13]), ([23, 13], [13, 23]), ([13], [13]), ([25, 13], [13, 25]), ([22, 24, 26, 20, 13], [13, 22, 24, 26]), ([20, 27, 13], [13, 20, 27]), ([13, 28], [13, 28])])
def turnstilelaw06_right.B5 : List Nat := [0, 0, 3, 7, 15, 15, 63, 127, 255, 511, 511, 2047, 4095, 8191, 16383, 32767, 16383, 81919, 16383, 278527, 1048575, 16383, 2113535, 16383, 8404991, 16383, 33570815, 134217727, 268435455, 536870911]
theorem turnstilelaw06_right.tab5 : rtab .any (opsOf Try.f15 5) = turnstilelaw06_right.T5 := by kernel_rfl
theorem turnstilelaw06_right.bits5 : waitsOk turnstilelaw06_right.T5.2 turnstilelaw06_right.B5 = true := by kernel_rfl
def turnstilelaw06_right.T7 : Bool × List (List Nat × List Nat) := (true, [([], []), ([0], [0]), ([], []), ([2], [2]), ([], []), ([4], [4]), ([1, 3, 5], [1, 3, 5]), ([], []), ([7], [7]), ([], []), ([9], [9]), ([], []), ([11], [11]), ([8, 10, 12, 6], [8, 10, 12]), ([6, 13], [6, 13]), ([14, 13], [14]), ([15], [15]), ([16, 15], [15, 16]), ([15], [15]), ([18, 15], [15, 18]), ([15], [15]), ([20, 15], [15, 20]), ([17, 19, 21, 15, 15], [15, 17, 19, 21]), ([15], [15]), ([23, 15], [15, 23]), ([15], [15]), ([25, 15], [15, 25]), ([15], [15]), ([27, 15], [15, 27]), ([24, 26, 28, 22, 15], [15, 24, 26, 28]), ([22, 29, 15], [15, 22, 29]), ([15, 30], [15, 30]), ([31, 29, 0, 1, 2, 3, 4, 5, 6, 7, 8, 9, 10, 11, 12, 13, 14, 15, 16, 17, 18, 19, 20, 21, 22, 23, 24, 25, 26, 27, 28, 29, 30, 31], [31])])
def turnstilelaw06_right.B7 : List Nat := [0, 1, 0, 4, 0, 16, 63, 0, 128, 0, 512, 0, 2048, 8191, 16383, 32767, 65535, 131071, 65535, 327679, 65535, 1114111, 4194303, 65535, 8454143, 65535, 33619967, 65535, 134283263, 536870911, 1073741823, 2147483647, 4294967295]
theorem turnstilelaw06_right.tab7 : rtab .any (opsOf Try.f15 7) = turnstilelaw06_right.T7 := by kernel_rfl
theorem turnstilelaw06_right.bits7 : waitsOk turnstilelaw06_right.T7.2 turnstilelaw06_right.B7 = true := by kernel_rfl
set_option maxHeartbeats 8000000 in
set_option maxRecDepth 100000 in
theorem turnstilelaw06_right.calls (k : Nat) (a0_0 : Int) (a0_1 : Int) (a0_2 : Int) (a0_3 : Int) (a0_4 : Int) (a0_5 : Int) (a0_6 : Int) (a0_7 : Int) (a0_8 : Int) (a0_9 : Int) (a0_10 : Int) (a0_11 : Int) (a0_12 : Int) (r : Bool) (w : World) (h : turnstilelaw06_right.f k a0_0 a0_1 a0_2 a0_3 a0_4 a0_5 a0_6 a0_7 a0_8 a0_9 a0_10 a0_11 a0_12 = some r) :
    Calls Try.prog 15 #[.agg #[.int .i64 a0_0, .int .u64 a0_1, .int .u64 a0_2, .int .u64 a0_3, .int .u64 a0_4, .int .u64 a0_5, .int .u64 a0_6, .int .u64 a0_7, .int .u64 a0_8, .int .u64 a0_9, .int .u64 a0_10, .int .u64 a0_11, .int .u64 a0_12]] w fun e w' => e = .returned (.bool r) ∧ Below w.heap.size w w' := by
  have hu31 := Try.underlying31
  have hu27 := Try.underlying27
  have hu29 := Try.underlying29
  have HB := Aside0.mk (Below.refl w.heap.size w)
  have H : ((policy_Valid.f a0_0 a0_1 a0_2 a0_3 a0_4).bind fun t386 => ((turnstileref06_Valid.f a0_0 a0_1 a0_2 a0_3 a0_4).bind fun t387 => (if (t386 != t387) = true then (turnstilelaw06_right.j0 k true a0_0 a0_1 a0_2 a0_3 a0_4 a0_5 a0_6 a0_7 a0_8 a0_9 a0_10 a0_11 a0_12) else ((policy_Fits.f a0_0 a0_1 a0_2 a0_3 a0_4 a0_5 a0_6 a0_7).bind fun t388 => ((turnstileref06_Fits.f a0_0 a0_1 a0_2 a0_3 a0_4 a0_5 a0_6 a0_7).bind fun t389 => (turnstilelaw06_right.j0 k (t388 != t389) a0_0 a0_1 a0_2 a0_3 a0_4 a0_5 a0_6 a0_7 a0_8 a0_9 a0_10 a0_11 a0_12)))))) = some r := h
  clear h
  have HC2 := Aside0.mk H
  clear H
  go_enter Try.func15, Try.ntmps15
  go_upto_region 1 with (first | ((with_reducible refine gate_dst (N := 1) rfl ?_); refine bx 1 #[.int .i64 a0_0, .int .u64 a0_1, .int .u64 a0_2, .int .u64 a0_3, .int .u64 a0_4, .int .u64 a0_5, .int .u64 a0_6, .int .u64 a0_7, .int .u64 a0_8, .int .u64 a0_9, .int .u64 a0_10, .int .u64 a0_11, .int .u64 a0_12] 31 ?_; intro gb385 hg w3 hbox hb; have n0_ := bs HB hb; have n1_ := Aside0.mk (hbox); have n2_ := sz HB hg; have n3_ := sz HB hg; clear HB; have HB := n0_; have BK385 := n1_; have GW385 := n2_; have GE385 := n3_; clear n0_ n1_ n2_ n3_; clear hb hbox hg))
  (try simp only [Act.put, List.setIfInBounds_toArray, List.set_cons_zero, List.set_cons_succ])
  go_cut [28] (fun v28 wc => ∃ (kq : Nat) (x28_1 : Bool), v28 = .bool x28_1 ∧ Aside0 (turnstilelaw06_right.j0 kq x28_1 a0_0 a0_1 a0_2 a0_3 a0_4 a0_5 a0_6 a0_7 a0_8 a0_9 a0_10 a0_11 a0_12 = some r) ∧ Aside0 (kq ≤ k) ∧ Aside0 (wc.heap[gb385]? = some (.cells #[.int .i64 a0_0, .int .u64 a0_1, .int .u64 a0_2, .int .u64 a0_3, .int .u64 a0_4, .int .u64 a0_5, .int .u64 a0_6, .int .u64 a0_7, .int .u64 a0_8, .int .u64 a0_9, .int .u64 a0_10, .int .u64 a0_11, .int .u64 a0_12] 31 (0, 0))) ∧ Aside0 (Below w.heap.size w wc))
  case first =>
    have H := HC2.out
    clear HC2
    replace H := Option.bind_eq_some_iff.mp H
    obtain ⟨t386, A40, H⟩ := H
    replace H : ((turnstileref06_Valid.f a0_0 a0_1 a0_2 a0_3 a0_4).bind fun t387 => (if (t386 != t387) = true then (turnstilelaw06_right.j0 k true a0_0 a0_1 a0_2 a0_3 a0_4 a0_5 a0_6 a0_7 a0_8 a0_9 a0_10 a0_11 a0_12) else ((policy_Fits.f a0_0 a0_1 a0_2 a0_3 a0_4 a0_5 a0_6 a0_7).bind fun t388 => ((turnstileref06_Fits.f a0_0 a0_1 a0_2 a0_3 a0_4 a0_5 a0_6 a0_7).bind fun t389 => (turnstilelaw06_right.j0 k (t388 != t389) a0_0 a0_1 a0_2 a0_3 a0_4 a0_5 a0_6 a0_7 a0_8 a0_9 a0_10 a0_11 a0_12))))) = some r := H
    have A4 := Aside0.mk A40
    clear A40
    replace H := Option.bind_eq_some_iff.mp H
    obtain ⟨t387, A50, H⟩ := H
    replace H : (if (t386 != t387) = true then (turnstilelaw06_right.j0 k true a0_0 a0_1 a0_2 a0_3 a0_4 a0_5 a0_6 a0_7 a0_8 a0_9 a0_10 a0_11 a0_12) else ((policy_Fits.f a0_0 a0_1 a0_2 a0_3 a0_4 a0_5 a0_6 a0_7).bind fun t388 => ((turnstileref06_Fits.f a0_0 a0_1 a0_2 a0_3 a0_4 a0_5 a0_6 a0_7).bind fun t389 => (turnstilelaw06_right.j0 k (t388 != t389) a0_0 a0_1 a0_2 a0_3 a0_4 a0_5 a0_6 a0_7 a0_8 a0_9 a0_10 a0_11 a0_12)))) = some r := H
    have A5 := Aside0.mk A50
    clear A50
    by_cases c6 : (t386 != t387) = true
    · rw [if_pos c6] at H
      have c6b0 : (t386 != t387) = true := c6
      (try (have c6b1 : decide (t386 = t387) = false := by simpa using c6))
      (try (have c6b2 : (t386 == t387) = false := by simpa using c6))
      (try (have c6b3 : ¬ (t386 = t387) := by simpa using c6))
      clear c6
      (first | rw [c6b0] | (simp only [i64_w, i32_w]; rw [c6b0]) | skip)
      have H' := Aside0.mk H
      clear H
      try go_wp2
      have n0_ := Aside0.mk (blk_drew BK385.out)
      have n1_ := Aside0.mk (below_drew1 HB.out)
      clear BK385
      clear HB
      have BK385 := n0_
      have HB := n1_
      clear n0_ n1_
      refine start_ (n := 20) (S := fun w' => w'.cell? ⟨gb385, 0, none⟩ = some (.int .i64 a0_0) ∧ w'.cell? ⟨gb385, 1, none⟩ = some (.int .u64 a0_1) ∧ w'.cell? ⟨gb385, 2, none⟩ = some (.int .u64 a0_2) ∧ w'.cell? ⟨gb385, 3, none⟩ = some (.int .u64 a0_3) ∧ w'.cell? ⟨gb385, 4, none⟩ = some (.int .u64 a0_4) ∧ w'.cell? ⟨gb385, 5, none⟩ = some (.int .u64 a0_5) ∧ w'.cell? ⟨gb385, 6, none⟩ = some (.int .u64 a0_6) ∧ w'.cell? ⟨gb385, 7, none⟩ = some (.int .u64 a0_7) ∧ w'.cell? ⟨gb385, 8, none⟩ = some (.int .u64 a0_8) ∧ w'.cell? ⟨gb385, 9, none⟩ = some (.int .u64 a0_9) ∧ w'.cell? ⟨gb385, 10, none⟩ = some (.int .u64 a0_10) ∧ w'.cell? ⟨gb385, 11, none⟩ = some (.int .u64 a0_11) ∧ w'.cell? ⟨gb385, 12, none⟩ = some (.int .u64 a0_12)) (ds := []) #[false, false, false, false, false, false, false, false, false, false, false, false, false, false, false, false, false, false, false, false] (by kernel_rfl) rfl rfl ⟨(blk_cell BK385.out 0).trans rfl, (blk_cell BK385.out 1).trans rfl, (blk_cell BK385.out 2).trans rfl, (blk_cell BK385.out 3).trans rfl, (blk_cell BK385.out 4).trans rfl, (blk_cell BK385.out 5).trans rfl, (blk_cell BK385.out 6).trans rfl, (blk_cell BK385.out 7).trans rfl, (blk_cell BK385.out 8).trans rfl, (blk_cell BK385.out 9).trans rfl, (blk_cell BK385.out 10).trans rfl, (blk_cell BK385.out 11).trans rfl, (blk_cell BK385.out 12).trans rfl⟩ (fun hHeld => ?_); refine with_tabW turnstilelaw06_right.tab1 turnstilelaw06_right.bits1 (fun HT_ HW_ => ?_)
      generalize w3.drew = w7 at BK385 HB hHeld ⊢
      refine chain_ (fuel := 16) [(0, 0, some 9), (3, 0, some 12), (1, 1, some 10), (4, 1, some 13)] #[true, true, false, true, true, false, false, false, false, false, false, false, false, false, false, false, false, false, false, false] HT_.out HW_.out (by kernel_rfl) (fun _ _ _ _ _ h => h) (Or.inr hHeld) rfl ?_
      (iterate 2 refine lkP ?_); (iterate 2 refine lkT ?_); refine .nil ?_
      refine one_ (i := 2) (N := some 11) #[true, true, true, true, true, false, false, false, false, false, false, false, false, false, false, false, false, false, false, false] rfl rfl (one_of HT_.out (by kernel_rfl)) (by decide) (fun K hK => ?_)
      refine ge Try.func18 #[.agg #[.int .i64 a0_0, .int .u64 a0_1, .int .u64 a0_2, .int .u64 a0_3, .int .u64 a0_4]] ?_
      with_reducible refine (policy_Valid.calls a0_0 a0_1 a0_2 a0_3 a0_4 t386 _ A4.out).mono ?_
      rintro e w8 ⟨rfl, hb⟩
      refine ⟨_, rfl, ?_⟩
      have n0_ := bb BK385 hb
      have n1_ := bs HB hb
      clear BK385
      clear HB
      have BK385 := n0_
      have HB := n1_
      clear n0_ n1_
      (try clear hb)
      (try clear hb2)
      (try clear hk)
      (try clear hi)
      refine hK.out _ _ ⟨(blk_cell BK385.out 0).trans rfl, (blk_cell BK385.out 1).trans rfl, (blk_cell BK385.out 2).trans rfl, (blk_cell BK385.out 3).trans rfl, (blk_cell BK385.out 4).trans rfl, (blk_cell BK385.out 5).trans rfl, (blk_cell BK385.out 6).trans rfl, (blk_cell BK385.out 7).trans rfl, (blk_cell BK385.out 8).trans rfl, (blk_cell BK385.out 9).trans rfl, (blk_cell BK385.out 10).trans rfl, (blk_cell BK385.out 11).trans rfl, (blk_cell BK385.out 12).trans rfl⟩ (fun hHeld => ?_)
      clear hK K
      refine norm_ (a' := ?_) ?_ ?_
      rotate_left
      · show Act.put _ (some 11) _ = _
        simp only [Act.put, List.setIfInBounds_toArray, List.set_cons_zero, List.set_cons_succ, i64_w, i32_w]
        rfl
      refine one_ (i := 5) (N := some 14) #[true, true, true, true, true, true, false, false, false, false, false, false, false, false, false, false, false, false, false, false] rfl rfl (one_of HT_.out (by kernel_rfl)) (by decide) (fun K hK => ?_)
      refine ge Try.func41 #[.agg #[.int .i64 a0_0, .int .u64 a0_1, .int .u64 a0_2, .int .u64 a0_3, .int .u64 a0_4]] ?_
      with_reducible refine (turnstileref06_Valid.calls a0_0 a0_1 a0_2 a0_3 a0_4 t387 _ A5.out).mono ?_
      rintro e w9 ⟨rfl, hb⟩
      refine ⟨_, rfl, ?_⟩
      have n0_ := bb BK385 hb
      have n1_ := bs HB hb
      clear BK385
      clear HB
      have BK385 := n0_
      have HB := n1_
      clear n0_ n1_
      (try clear hb)
      (try clear hb2)
      (try clear hk)
      (try clear hi)
      refine hK.out _ _ ⟨(blk_cell BK385.out 0).trans rfl, (blk_cell BK385.out 1).trans rfl, (blk_cell BK385.out 2).trans rfl, (blk_cell BK385.out 3).trans rfl, (blk_cell BK385.out 4).trans rfl, (blk_cell BK385.out 5).trans rfl, (blk_cell BK385.out 6).trans rfl, (blk_cell BK385.out 7).trans rfl, (blk_cell BK385.out 8).trans rfl, (blk_cell BK385.out 9).trans rfl, (blk_cell BK385.out 10).trans rfl, (blk_cell BK385.out 11).trans rfl, (blk_cell BK385.out 12).trans rfl⟩ (fun hHeld => ?_)
      clear hK K
      refine norm_ (a' := ?_) ?_ ?_
      rotate_left
      · show Act.put _ (some 14) _ = _
        simp only [Act.put, List.setIfInBounds_toArray, List.set_cons_zero, List.set_cons_succ, i64_w, i32_w]
        rfl
      refine chain_ (fuel := 0) [(6, 0, some 15), (7, 0, some 16), (8, 2, some 17), (9, 2, some 18), (10, 2, some 19), (11, 2, some 20), (12, 2, some 21), (13, 2, some 22), (14, 2, some 23), (15, 2, some 24), (16, 2, some 25), (17, 2, some 26), (18, 2, some 27), (19, 0, some 28)] #[true, true, true, true, true, true, true, true, true, true, true, true, true, true, true, true, true, true, true, true] HT_.out HW_.out (by kernel_rfl) (fun _ _ _ _ _ h => h) (Or.inl (by decide)) rfl ?_
      (iterate 2 refine lkP ?_); (iterate 11 refine lkO ?_); refine lkP ?_; refine .nil ?_
      refine done_ (done_of HT_.out (by kernel_rfl)) ?_
      try go_wp2
      go_meet
      case rel => exact ⟨_, (true), rs, H', ⟨by first | omega | exact Nat.le_refl _⟩, ⟨bk BK385⟩, ⟨bw HB⟩⟩
    · rw [if_neg c6] at H
      have c6b0 : (t386 != t387) = false := by simpa using c6
      (try (have c6b1 : decide (t386 = t387) = true := by simpa using c6))
      (try (have c6b2 : (t386 == t387) = true := by simpa using c6))
      clear c6
      (first | rw [c6b0] | (simp only [i64_w, i32_w]; rw [c6b0]) | skip)
      replace H := Option.bind_eq_some_iff.mp H
      obtain ⟨t388, A100, H⟩ := H
      replace H : ((turnstileref06_Fits.f a0_0 a0_1 a0_2 a0_3 a0_4 a0_5 a0_6 a0_7).bind fun t389 => (turnstilelaw06_right.j0 k (t388 != t389) a0_0 a0_1 a0_2 a0_3 a0_4 a0_5 a0_6 a0_7 a0_8 a0_9 a0_10 a0_11 a0_12)) = some r := H
      have A10 := Aside0.mk A100
      clear A100
      replace H := Option.bind_eq_some_iff.mp H
      obtain ⟨t389, A110, H⟩ := H
      replace H : (turnstilelaw06_right.j0 k (t388 != t389) a0_0 a0_1 a0_2 a0_3 a0_4 a0_5 a0_6 a0_7 a0_8 a0_9 a0_10 a0_11 a0_12) = some r := H
      have A11 := Aside0.mk A110
      clear A110
      have H' := Aside0.mk H
      clear H
      try go_wp2
      have n0_ := Aside0.mk (blk_drew BK385.out)
      have n1_ := Aside0.mk (below_drew1 HB.out)
      clear BK385
      clear HB
      have BK385 := n0_
      have HB := n1_
      clear n0_ n1_
      refine start_ (n := 20) (S := fun w' => w'.cell? ⟨gb385, 0, none⟩ = some (.int .i64 a0_0) ∧ w'.cell? ⟨gb385, 1, none⟩ = some (.int .u64 a0_1) ∧ w'.cell? ⟨gb385, 2, none⟩ = some (.int .u64 a0_2) ∧ w'.cell? ⟨gb385, 3, none⟩ = some (.int .u64 a0_3) ∧ w'.cell? ⟨gb385, 4, none⟩ = some (.int .u64 a0_4) ∧ w'.cell? ⟨gb385, 5, none⟩ = some (.int .u64 a0_5) ∧ w'.cell? ⟨gb385, 6, none⟩ = some (.int .u64 a0_6) ∧ w'.cell? ⟨gb385, 7, none⟩ = some (.int .u64 a0_7) ∧ w'.cell? ⟨gb385, 8, none⟩ = some (.int .u64 a0_8) ∧ w'.cell? ⟨gb385, 9, none⟩ = some (.int .u64 a0_9) ∧ w'.cell? ⟨gb385, 10, none⟩ = some (.int .u64 a0_10) ∧ w'.cell? ⟨gb385, 11, none⟩ = some (.int .u64 a0_11) ∧ w'.cell? ⟨gb385, 12, none⟩ = some (.int .u64 a0_12)) (ds := []) #[false, false, false, false, false, false, false, false, false, false, false, false, false, false, false, false, false, false, false, false] (by kernel_rfl) rfl rfl ⟨(blk_cell BK385.out 0).trans rfl, (blk_cell BK385.out 1).trans rfl, (blk_cell BK385.out 2).trans rfl, (blk_cell BK385.out 3).trans rfl, (blk_cell BK385.out 4).trans rfl, (blk_cell BK385.out 5).trans rfl, (blk_cell BK385.out 6).trans rfl, (blk_cell BK385.out 7).trans rfl, (blk_cell BK385.out 8).trans rfl, (blk_cell BK385.out 9).trans rfl, (blk_cell BK385.out 10).trans rfl, (blk_cell BK385.out 11).trans rfl, (blk_cell BK385.out 12).trans rfl⟩ (fun hHeld => ?_); refine with_tabW turnstilelaw06_right.tab1 turnstilelaw06_right.bits1 (fun HT_ HW_ => ?_)
      generalize w3.drew = w12 at BK385 HB hHeld ⊢
      refine chain_ (fuel := 16) [(0, 0, some 9), (3, 0, some 12), (1, 1, some 10), (4, 1, some 13)] #[true, true, false, true, true, false, false, false, false, false, false, false, false, false, false, false, false, false, false, false] HT_.out HW_.out (by kernel_rfl) (fun _ _ _ _ _ h => h) (Or.inr hHeld) rfl ?_
      (iterate 2 refine lkP ?_); (iterate 2 refine lkT ?_); refine .nil ?_
      refine one_ (i := 2) (N := some 11) #[true, true, true, true, true, false, false, false, false, false, false, false, false, false, false, false, false, false, false, false] rfl rfl (one_of HT_.out (by kernel_rfl)) (by decide) (fun K hK => ?_)
      refine ge Try.func18 #[.agg #[.int .i64 a0_0, .int .u64 a0_1, .int .u64 a0_2, .int .u64 a0_3, .int .u64 a0_4]] ?_
      with_reducible refine (policy_Valid.calls a0_0 a0_1 a0_2 a0_3 a0_4 t386 _ A4.out).mono ?_
      rintro e w13 ⟨rfl, hb⟩
      refine ⟨_, rfl, ?_⟩
      have n0_ := bb BK385 hb
      have n1_ := bs HB hb
      clear BK385
      clear HB
      have BK385 := n0_
      have HB := n1_
      clear n0_ n1_
      (try clear hb)
      (try clear hb2)
      (try clear hk)
      (try clear hi)
      refine hK.out _ _ ⟨(blk_cell BK385.out 0).trans rfl, (blk_cell BK385.out 1).trans rfl, (blk_cell BK385.out 2).trans rfl, (blk_cell BK385.out 3).trans rfl, (blk_cell BK385.out 4).trans rfl, (blk_cell BK385.out 5).trans rfl, (blk_cell BK385.out 6).trans rfl, (blk_cell BK385.out 7).trans rfl, (blk_cell BK385.out 8).trans rfl, (blk_cell BK385.out 9).trans rfl, (blk_cell BK385.out 10).trans rfl, (blk_cell BK385.out 11).trans rfl, (blk_cell BK385.out 12).trans rfl⟩ (fun hHeld => ?_)
      clear hK K
      refine norm_ (a' := ?_) ?_ ?_
      rotate_left
      · show Act.put _ (some 11) _ = _
        simp only [Act.put, List.setIfInBounds_toArray, List.set_cons_zero, List.set_cons_succ, i64_w, i32_w]
        rfl
      refine one_ (i := 5) (N := some 14) #[true, true, true, true, true, true, false, false, false, false, false, false, false, false, false, false, false, false, false, false] rfl rfl (one_of HT_.out (by kernel_rfl)) (by decide) (fun K hK => ?_)
      refine ge Try.func41 #[.agg #[.int .i64 a0_0, .int .u64 a0_1, .int .u64 a0_2, .int .u64 a0_3, .int .u64 a0_4]] ?_
      with_reducible refine (turnstileref06_Valid.calls a0_0 a0_1 a0_2 a0_3 a0_4 t387 _ A5.out).mono ?_
      rintro e w14 ⟨rfl, hb⟩
      refine ⟨_, rfl, ?_⟩
      have n0_ := bb BK385 hb
      have n1_ := bs HB hb
      clear BK385
      clear HB
      have BK385 := n0_
      have HB := n1_
      clear n0_ n1_
      (try clear hb)
      (try clear hb2)
      (try clear hk)
      (try clear hi)
      refine hK.out _ _ ⟨(blk_cell BK385.out 0).trans rfl, (blk_cell BK385.out 1).trans rfl, (blk_cell BK385.out 2).trans rfl, (blk_cell BK385.out 3).trans rfl, (blk_cell BK385.out 4).trans rfl, (blk_cell BK385.out 5).trans rfl, (blk_cell BK385.out 6).trans rfl, (blk_cell BK385.out 7).trans rfl, (blk_cell BK385.out 8).trans rfl, (blk_cell BK385.out 9).trans rfl, (blk_cell BK385.out 10).trans rfl, (blk_cell BK385.out 11).trans rfl, (blk_cell BK385.out 12).trans rfl⟩ (fun hHeld => ?_)
      clear hK K
      refine norm_ (a' := ?_) ?_ ?_
      rotate_left
      · show Act.put _ (some 14) _ = _
        simp only [Act.put, List.setIfInBounds_toArray, List.set_cons_zero, List.set_cons_succ, i64_w, i32_w]
        rfl
      refine chain_ (fuel := 4) [(6, 0, some 15), (7, 0, some 16), (8, 0, some 17), (10, 0, some 19), (13, 0, some 22), (15, 0, some 24), (9, 1, some 18), (11, 1, some 20), (14, 1, some 23), (16, 1, some 25)] #[true, true, true, true, true, true, true, true, true, true, true, true, false, true, true, true, true, false, false, false] HT_.out HW_.out (by kernel_rfl) (fun _ _ _ _ _ h => h) (Or.inr hHeld) rfl ?_
      (iterate 6 refine lkP ?_); (iterate 4 refine lkT ?_); refine .nil ?_
      refine one_ (i := 12) (N := some 21) #[true, true, true, true, true, true, true, true, true, true, true, true, true, true, true, true, true, false, false, false] rfl rfl (one_of HT_.out (by kernel_rfl)) (by decide) (fun K hK => ?_)
      refine ge Try.func25 #[.agg #[.int .i64 a0_0, .int .u64 a0_1, .int .u64 a0_2, .int .u64 a0_3, .int .u64 a0_4], .agg #[.int .u64 a0_5, .int .u64 a0_6, .int .u64 a0_7]] ?_
      with_reducible refine (policy_Fits.calls a0_0 a0_1 a0_2 a0_3 a0_4 a0_5 a0_6 a0_7 t388 _ A10.out).mono ?_
      rintro e w15 ⟨rfl, hb⟩
      refine ⟨_, rfl, ?_⟩
      have n0_ := bb BK385 hb
      have n1_ := bs HB hb
      clear BK385
      clear HB
      have BK385 := n0_
      have HB := n1_
      clear n0_ n1_
      (try clear hb)
      (try clear hb2)
      (try clear hk)
      (try clear hi)
      refine hK.out _ _ ⟨(blk_cell BK385.out 0).trans rfl, (blk_cell BK385.out 1).trans rfl, (blk_cell BK385.out 2).trans rfl, (blk_cell BK385.out 3).trans rfl, (blk_cell BK385.out 4).trans rfl, (blk_cell BK385.out 5).trans rfl, (blk_cell BK385.out 6).trans rfl, (blk_cell BK385.out 7).trans rfl, (blk_cell BK385.out 8).trans rfl, (blk_cell BK385.out 9).trans rfl, (blk_cell BK385.out 10).trans rfl, (blk_cell BK385.out 11).trans rfl, (blk_cell BK385.out 12).trans rfl⟩ (fun hHeld => ?_)
      clear hK K
      refine norm_ (a' := ?_) ?_ ?_
      rotate_left
      · show Act.put _ (some 21) _ = _
        simp only [Act.put, List.setIfInBounds_toArray, List.set_cons_zero, List.set_cons_succ, i64_w, i32_w]
        rfl
      refine one_ (i := 17) (N := some 26) #[true, true, true, true, true, true, true, true, true, true, true, true, true, true, true, true, true, true, false, false] rfl rfl (one_of HT_.out (by kernel_rfl)) (by decide) (fun K hK => ?_)
      refine ge Try.func42 #[.agg #[.int .i64 a0_0, .int .u64 a0_1, .int .u64 a0_2, .int .u64 a0_3, .int .u64 a0_4], .agg #[.int .u64 a0_5, .int .u64 a0_6, .int .u64 a0_7]] ?_
      with_reducible refine (turnstileref06_Fits.calls a0_0 a0_1 a0_2 a0_3 a0_4 a0_5 a0_6 a0_7 t389 _ A11.out).mono ?_
      rintro e w16 ⟨rfl, hb⟩
      refine ⟨_, rfl, ?_⟩
      have n0_ := bb BK385 hb
      have n1_ := bs HB hb
      clear BK385
      clear HB
      have BK385 := n0_
      have HB := n1_
      clear n0_ n1_
      (try clear hb)
      (try clear hb2)
      (try clear hk)
      (try clear hi)
      refine hK.out _ _ ⟨(blk_cell BK385.out 0).trans rfl, (blk_cell BK385.out 1).trans rfl, (blk_cell BK385.out 2).trans rfl, (blk_cell BK385.out 3).trans rfl, (blk_cell BK385.out 4).trans rfl, (blk_cell BK385.out 5).trans rfl, (blk_cell BK385.out 6).trans rfl, (blk_cell BK385.out 7).trans rfl, (blk_cell BK385.out 8).trans rfl, (blk_cell BK385.out 9).trans rfl, (blk_cell BK385.out 10).trans rfl, (blk_cell BK385.out 11).trans rfl, (blk_cell BK385.out 12).trans rfl⟩ (fun hHeld => ?_)
      clear hK K
      refine norm_ (a' := ?_) ?_ ?_
      rotate_left
      · show Act.put _ (some 26) _ = _
        simp only [Act.put, List.setIfInBounds_toArray, List.set_cons_zero, List.set_cons_succ, i64_w, i32_w]
        rfl
      refine chain_ (fuel := 0) [(18, 0, some 27), (19, 0, some 28)] #[true, true, true, true, true, true, true, true, true, true, true, true, true, true, true, true, true, true, true, true] HT_.out HW_.out (by kernel_rfl) (fun _ _ _ _ _ h => h) (Or.inl (by decide)) rfl ?_
      (iterate 2 refine lkP ?_); refine .nil ?_
      refine done_ (done_of HT_.out (by kernel_rfl)) ?_
      try go_wp2
      go_meet
      case rel => exact ⟨_, ((t388 != t389)), rs, H', ⟨by first | omega | exact Nat.le_refl _⟩, ⟨bk BK385⟩, ⟨bw HB⟩⟩
  case rest =>
    clear HC2
    try clear c1
    try clear c2
    try clear p2
    try clear c4
    try clear c6
    try clear c6b0
    try clear c6b1
    try clear c6b2
    try clear c15
    obtain ⟨kq, x28_1, rfl, HA, HJ1, BK385, HB⟩ := hcut
    cases kq with
    | zero => exact absurd HA.out (by simp [turnstilelaw06_right.j0])
    | succ kj1 =>
      have H := HA.out
      clear HA
      simp only [turnstilelaw06_right.j0] at H
      by_cases c17 : x28_1 = true
      · subst c17
        have H1 : (some false) = some r := by rw [if_pos rfl] at H; exact H
        clear H
        have H := H1
        clear H1
        obtain rfl := Option.some.inj H
        go_wp2
        go_ret
        exact ⟨re, bw HB⟩
      · replace c17 := Bool.eq_false_iff.mpr c17
        subst c17
        have H1 : ((policy_Admit.f kj1 a0_0 a0_1 a0_2 a0_3 a0_4 a0_5 a0_6 a0_7 a0_11 a0_12).bind fun bt390 => ((turnstileref06_Admit.f kj1 a0_0 a0_1 a0_2 a0_3 a0_4 a0_5 a0_6 a0_7 a0_11 a0_12).bind fun bt396 => (if (!(bt390.1 == bt396.1) || (!(bt390.2.1 == bt396.2.1) || (!(bt390.2.2.1 == bt396.2.2.1)))) = true then (turnstilelaw06_right.j1 kj1 true a0_0 a0_1 a0_2 a0_3 a0_4 a0_5 a0_6 a0_7 a0_8 a0_9 a0_10 a0_11 a0_12) else (if (bt390.2.2.2.1 != bt396.2.2.2.1) = true then (turnstilelaw06_right.j1 kj1 true a0_0 a0_1 a0_2 a0_3 a0_4 a0_5 a0_6 a0_7 a0_8 a0_9 a0_10 a0_11 a0_12) else (if bt390.2.2.2.2 = bt396.2.2.2.2 then ((policy_Left.f kj1 a0_0 a0_1 a0_2 a0_3 a0_4 a0_5 a0_6 a0_7 a0_11).bind fun t402 => ((turnstileref06_Left.f kj1 a0_0 a0_1 a0_2 a0_3 a0_4 a0_5 a0_6 a0_7 a0_11).bind fun t403 => (turnstilelaw06_right.j1 kj1 (t402 != t403) a0_0 a0_1 a0_2 a0_3 a0_4 a0_5 a0_6 a0_7 a0_8 a0_9 a0_10 a0_11 a0_12))) else (turnstilelaw06_right.j1 kj1 true a0_0 a0_1 a0_2 a0_3 a0_4 a0_5 a0_6 a0_7 a0_8 a0_9 a0_10 a0_11 a0_12)))))) = some r := by rw [if_neg (show ¬ (false = true) by decide)] at H; exact H
        clear H
        have H := H1
        clear H1
        replace H := Option.bind_eq_some_iff.mp H
        obtain ⟨⟨t390, t391, t392, t393, t394⟩, A180, H⟩ := H
        replace H : ((turnstileref06_Admit.f kj1 a0_0 a0_1 a0_2 a0_3 a0_4 a0_5 a0_6 a0_7 a0_11 a0_12).bind fun bt396 => (if (!(t390 == bt396.1) || (!(t391 == bt396.2.1) || (!(t392 == bt396.2.2.1)))) = true then (turnstilelaw06_right.j1 kj1 true a0_0 a0_1 a0_2 a0_3 a0_4 a0_5 a0_6 a0_7 a0_8 a0_9 a0_10 a0_11 a0_12) else (if (t393 != bt396.2.2.2.1) = true then (turnstilelaw06_right.j1 kj1 true a0_0 a0_1 a0_2 a0_3 a0_4 a0_5 a0_6 a0_7 a0_8 a0_9 a0_10 a0_11 a0_12) else (if t394 = bt396.2.2.2.2 then ((policy_Left.f kj1 a0_0 a0_1 a0_2 a0_3 a0_4 a0_5 a0_6 a0_7 a0_11).bind fun t402 => ((turnstileref06_Left.f kj1 a0_0 a0_1 a0_2 a0_3 a0_4 a0_5 a0_6 a0_7 a0_11).bind fun t403 => (turnstilelaw06_right.j1 kj1 (t402 != t403) a0_0 a0_1 a0_2 a0_3 a0_4 a0_5 a0_6 a0_7 a0_8 a0_9 a0_10 a0_11 a0_12))) else (turnstilelaw06_right.j1 kj1 true a0_0 a0_1 a0_2 a0_3 a0_4 a0_5 a0_6 a0_7 a0_8 a0_9 a0_10 a0_11 a0_12))))) = some r := H
        have A18 := Aside0.mk A180
        clear A180
        replace H := Option.bind_eq_some_iff.mp H
        obtain ⟨⟨t396, t397, t398, t399, t400⟩, A190, H⟩ := H
        replace H : (if (!(t390 == t396) || (!(t391 == t397) || (!(t392 == t398)))) = true then (turnstilelaw06_right.j1 kj1 true a0_0 a0_1 a0_2 a0_3 a0_4 a0_5 a0_6 a0_7 a0_8 a0_9 a0_10 a0_11 a0_12) else (if (t393 != t399) = true then (turnstilelaw06_right.j1 kj1 true a0_0 a0_1 a0_2 a0_3 a0_4 a0_5 a0_6 a0_7 a0_8 a0_9 a0_10 a0_11 a0_12) else (if t394 = t400 then ((policy_Left.f kj1 a0_0 a0_1 a0_2 a0_3 a0_4 a0_5 a0_6 a0_7 a0_11).bind fun t402 => ((turnstileref06_Left.f kj1 a0_0 a0_1 a0_2 a0_3 a0_4 a0_5 a0_6 a0_7 a0_11).bind fun t403 => (turnstilelaw06_right.j1 kj1 (t402 != t403) a0_0 a0_1 a0_2 a0_3 a0_4 a0_5 a0_6 a0_7 a0_8 a0_9 a0_10 a0_11 a0_12))) else (turnstilelaw06_right.j1 kj1 true a0_0 a0_1 a0_2 a0_3 a0_4 a0_5 a0_6 a0_7 a0_8 a0_9 a0_10 a0_11 a0_12)))) = some r := H
        have A19 := Aside0.mk A190
        clear A190
        have HC20 := Aside0.mk H
        clear H
        have hcz21_0 : wc.cell? ⟨gb385, 0, none⟩ = some (.int .i64 a0_0) := (blk_cell BK385.out 0).trans rfl
        have hcz21_1 : wc.cell? ⟨gb385, 1, none⟩ = some (.int .u64 a0_1) := (blk_cell BK385.out 1).trans rfl
        have hcz21_2 : wc.cell? ⟨gb385, 2, none⟩ = some (.int .u64 a0_2) := (blk_cell BK385.out 2).trans rfl
        have hcz21_3 : wc.cell? ⟨gb385, 3, none⟩ = some (.int .u64 a0_3) := (blk_cell BK385.out 3).trans rfl
        have hcz21_4 : wc.cell? ⟨gb385, 4, none⟩ = some (.int .u64 a0_4) := (blk_cell BK385.out 4).trans rfl
        have hcz21_5 : wc.cell? ⟨gb385, 5, none⟩ = some (.int .u64 a0_5) := (blk_cell BK385.out 5).trans rfl
        have hcz21_6 : wc.cell? ⟨gb385, 6, none⟩ = some (.int .u64 a0_6) := (blk_cell BK385.out 6).trans rfl
        have hcz21_7 : wc.cell? ⟨gb385, 7, none⟩ = some (.int .u64 a0_7) := (blk_cell BK385.out 7).trans rfl
        have hcz21_8 : wc.cell? ⟨gb385, 8, none⟩ = some (.int .u64 a0_8) := (blk_cell BK385.out 8).trans rfl
        have hcz21_9 : wc.cell? ⟨gb385, 9, none⟩ = some (.int .u64 a0_9) := (blk_cell BK385.out 9).trans rfl
        have hcz21_10 : wc.cell? ⟨gb385, 10, none⟩ = some (.int .u64 a0_10) := (blk_cell BK385.out 10).trans rfl
        have hcz21_11 : wc.cell? ⟨gb385, 11, none⟩ = some (.int .u64 a0_11) := (blk_cell BK385.out 11).trans rfl
        have hcz21_12 : wc.cell? ⟨gb385, 12, none⟩ = some (.int .u64 a0_12) := (blk_cell BK385.out 12).trans rfl
        have hfz21_0 := blk_frozen BK385.out 0
        have hfz21_1 := blk_frozen BK385.out 1
        have hfz21_2 := blk_frozen BK385.out 2
        have hfz21_3 := blk_frozen BK385.out 3
        have hfz21_4 := blk_frozen BK385.out 4
        have hfz21_5 := blk_frozen BK385.out 5
        have hfz21_6 := blk_frozen BK385.out 6
        have hfz21_7 := blk_frozen BK385.out 7
        have hfz21_8 := blk_frozen BK385.out 8
        have hfz21_9 := blk_frozen BK385.out 9
        have hfz21_10 := blk_frozen BK385.out 10
        have hfz21_11 := blk_frozen BK385.out 11
        have hfz21_12 := blk_frozen BK385.out 12
        go_upto_region 5 with (first | ((with_reducible refine gate_callee (f := 16) rfl ?_); refine gm (some 38) Try.func16 #[.agg #[.int .i64 a0_0, .int .u64 a0_1, .int .u64 a0_2, .int .u64 a0_3, .int .u64 a0_4], .agg #[.int .u64 a0_5, .int .u64 a0_6, .int .u64 a0_7], .int .u64 a0_11, .int .u64 a0_12] (policy_Admit.calls kj1 a0_0 a0_1 a0_2 a0_3 a0_4 a0_5 a0_6 a0_7 a0_11 a0_12 t390 t391 t392 t393 t394 _ A18.out) ?_; intro w22 hb; have n0_ := bb BK385 hb; have n1_ := bs HB hb; clear BK385; clear HB; have BK385 := n0_; have HB := n1_; clear n0_ n1_; (try clear hb); (try clear hb2); (try clear hk); (try clear hi)) | ((with_reducible refine gate_dst (N := 3) rfl ?_); refine bx 3 #[.int .u64 0, .int .u64 0, .int .u64 0] 29 ?_; intro gb395 hg w23 hbox hb; have n0_ := bb BK385 hb; have n1_ := bs HB hb; have n2_ := Aside0.mk (hbox); have n3_ := sz HB hg; have n4_ := sz HB hg; have n5_ := nl BK385 hg; have n6_ := nr BK385 hg; clear BK385; clear HB; have BK385 := n0_; have HB := n1_; have BK395 := n2_; have GW395 := n3_; have GE395 := n4_; have NB385_395 := n5_; have NB395_385 := n6_; clear n0_ n1_ n2_ n3_ n4_ n5_ n6_; clear hb hbox hg; have hnb24 := NB395_385.out; have hnc24 := NB385_395.out; obtain ⟨hcz25_0, hcz25_1, hcz25_2, hfz25_0, hfz25_1, hfz25_2⟩ := bc3 BK395; have hcz26_0 : w23.cell? ⟨gb385, 0, none⟩ = some (.int .i64 a0_0) := (blk_cell BK385.out 0).trans rfl; have hcz26_1 : w23.cell? ⟨gb385, 1, none⟩ = some (.int .u64 a0_1) := (blk_cell BK385.out 1).trans rfl; have hcz26_2 : w23.cell? ⟨gb385, 2, none⟩ = some (.int .u64 a0_2) := (blk_cell BK385.out 2).trans rfl; have hcz26_3 : w23.cell? ⟨gb385, 3, none⟩ = some (.int .u64 a0_3) := (blk_cell BK385.out 3).trans rfl; have hcz26_4 : w23.cell? ⟨gb385, 4, none⟩ = some (.int .u64 a0_4) := (blk_cell BK385.out 4).trans rfl; have hcz26_5 : w23.cell? ⟨gb385, 5, none⟩ = some (.int .u64 a0_5) := (blk_cell BK385.out 5).trans rfl; have hcz26_6 : w23.cell? ⟨gb385, 6, none⟩ = some (.int .u64 a0_6) := (blk_cell BK385.out 6).trans rfl; have hcz26_7 : w23.cell? ⟨gb385, 7, none⟩ = some (.int .u64 a0_7) := (blk_cell BK385.out 7).trans rfl; have hcz26_8 : w23.cell? ⟨gb385, 8, none⟩ = some (.int .u64 a0_8) := (blk_cell BK385.out 8).trans rfl; have hcz26_9 : w23.cell? ⟨gb385, 9, none⟩ = some (.int .u64 a0_9) := (blk_cell BK385.out 9).trans rfl; have hcz26_10 : w23.cell? ⟨gb385, 10, none⟩ = some (.int .u64 a0_10) := (blk_cell BK385.out 10).trans rfl; have hcz26_11 : w23.cell? ⟨gb385, 11, none⟩ = some (.int .u64 a0_11) := (blk_cell BK385.out 11).trans rfl; have hcz26_12 : w23.cell? ⟨gb385, 12, none⟩ = some (.int .u64 a0_12) := (blk_cell BK385.out 12).trans rfl; have hfz26_0 := blk_frozen BK385.out 0; have hfz26_1 := blk_frozen BK385.out 1; have hfz26_2 := blk_frozen BK385.out 2; have hfz26_3 := blk_frozen BK385.out 3; have hfz26_4 := blk_frozen BK385.out 4; have hfz26_5 := blk_frozen BK385.out 5; have hfz26_6 := blk_frozen BK385.out 6; have hfz26_7 := blk_frozen BK385.out 7; have hfz26_8 := blk_frozen BK385.out 8; have hfz26_9 := blk_frozen BK385.out 9; have hfz26_10 := blk_frozen BK385.out 10; have hfz26_11 := blk_frozen BK385.out 11; have hfz26_12 := blk_frozen BK385.out 12) | ((with_reducible refine gate_callee (f := 43) rfl ?_); refine gm (some 51) Try.func43 #[.agg #[.int .i64 a0_0, .int .u64 a0_1, .int .u64 a0_2, .int .u64 a0_3, .int .u64 a0_4], .agg #[.int .u64 a0_5, .int .u64 a0_6, .int .u64 a0_7], .int .u64 a0_11, .int .u64 a0_12] (turnstileref06_Admit.calls kj1 a0_0 a0_1 a0_2 a0_3 a0_4 a0_5 a0_6 a0_7 a0_11 a0_12 t396 t397 t398 t399 t400 _ A19.out) ?_; intro w27 hb; have n0_ := bb BK385 hb; have n1_ := bbp (.cells #[.int .u64 t390, .int .u64 t391, .int .u64 t392] 29 (0, 0)) BK395 hb; have n2_ := bs HB hb; clear BK385; clear BK395; clear HB; have BK385 := n0_; have BK395 := n1_; have HB := n2_; clear n0_ n1_ n2_; (try clear hb); (try clear hb2); (try clear hk); (try clear hi)) | ((with_reducible refine gate_dst (N := 6) rfl ?_); refine bx 6 #[.int .u64 0, .int .u64 0, .int .u64 0] 29 ?_; intro gb401 hg w28 hbox hb; have n0_ := bb BK385 hb; have n1_ := bb BK395 hb; have n2_ := bs HB hb; have n3_ := Aside0.mk (hbox); have n4_ := sz HB hg; have n5_ := sz HB hg; have n6_ := nl BK385 hg; have n7_ := nr BK385 hg; have n8_ := nl BK395 hg; have n9_ := nr BK395 hg; clear BK385; clear BK395; clear HB; have BK385 := n0_; have BK395 := n1_; have HB := n2_; have BK401 := n3_; have GW401 := n4_; have GE401 := n5_; have NB385_401 := n6_; have NB401_385 := n7_; have NB395_401 := n8_; have NB401_395 := n9_; clear n0_ n1_ n2_ n3_ n4_ n5_ n6_ n7_ n8_ n9_; clear hb hbox hg; have hnb29 := NB401_385.out; have hnc29 := NB385_401.out; have hnb30 := NB401_395.out; have hnc30 := NB395_401.out; obtain ⟨hcz31_0, hcz31_1, hcz31_2, hfz31_0, hfz31_1, hfz31_2⟩ := bc3 BK401))
        (try simp only [Act.put, List.setIfInBounds_toArray, List.set_cons_zero, List.set_cons_succ])
        go_cut [84] (fun v84 wc => ∃ (kq : Nat) (x84_19 : Bool), v84 = .bool x84_19 ∧ Aside0 (turnstilelaw06_right.j1 kq x84_19 a0_0 a0_1 a0_2 a0_3 a0_4 a0_5 a0_6 a0_7 a0_8 a0_9 a0_10 a0_11 a0_12 = some r) ∧ Aside0 (kq ≤ kj1) ∧ Aside0 (wc.heap[gb385]? = some (.cells #[.int .i64 a0_0, .int .u64 a0_1, .int .u64 a0_2, .int .u64 a0_3, .int .u64 a0_4, .int .u64 a0_5, .int .u64 a0_6, .int .u64 a0_7, .int .u64 a0_8, .int .u64 a0_9, .int .u64 a0_10, .int .u64 a0_11, .int .u64 a0_12] 31 (0, 0))) ∧ Aside0 (wc.heap[gb395]? = some (.cells #[.int .u64 t390, .int .u64 t391, .int .u64 t392] 29 (0, 0))) ∧ Aside0 (wc.heap[gb401]? = some (.cells #[.int .u64 t396, .int .u64 t397, .int .u64 t398] 29 (0, 0))) ∧ Aside0 (Below w.heap.size w wc))
        case first =>
          have H := HC20.out
          clear HC20
          by_cases c32 : (!(t390 == t396) || (!(t391 == t397) || (!(t392 == t398)))) = true
          · rw [if_pos c32] at H
            have c32b0 : (!(t390 == t396) || (!(t391 == t397) || (!(t392 == t398)))) = true := c32
            clear c32
            (first | rw [c32b0] | (simp only [i64_w, i32_w]; rw [c32b0]) | skip)
            have H' := Aside0.mk H
            clear H
            try go_wp2
            have n0_ : Aside0 ((((w28.setCell ⟨gb401, 0, none⟩ (.int .u64 t396)).setCell ⟨gb401, 1, none⟩ (.int .u64 t397)).setCell ⟨gb401, 2, none⟩ (.int .u64 t398)).heap[gb385]? = some (.cells #[.int .i64 a0_0, .int .u64 a0_1, .int .u64 a0_2, .int .u64 a0_3, .int .u64 a0_4, .int .u64 a0_5, .int .u64 a0_6, .int .u64 a0_7, .int .u64 a0_8, .int .u64 a0_9, .int .u64 a0_10, .int .u64 a0_11, .int .u64 a0_12] 31 (0, 0))) := ⟨bk BK385⟩
            have n1_ : Aside0 ((((w28.setCell ⟨gb401, 0, none⟩ (.int .u64 t396)).setCell ⟨gb401, 1, none⟩ (.int .u64 t397)).setCell ⟨gb401, 2, none⟩ (.int .u64 t398)).heap[gb395]? = some (.cells #[.int .u64 t390, .int .u64 t391, .int .u64 t392] 29 (0, 0))) := ⟨bk BK395⟩
            have n2_ : Aside0 ((((w28.setCell ⟨gb401, 0, none⟩ (.int .u64 t396)).setCell ⟨gb401, 1, none⟩ (.int .u64 t397)).setCell ⟨gb401, 2, none⟩ (.int .u64 t398)).heap[gb401]? = some (.cells #[.int .u64 t396, .int .u64 t397, .int .u64 t398] 29 (0, 0))) := ⟨bk BK401⟩
            have n3_ : Aside0 (Below w.heap.size w (((w28.setCell ⟨gb401, 0, none⟩ (.int .u64 t396)).setCell ⟨gb401, 1, none⟩ (.int .u64 t397)).setCell ⟨gb401, 2, none⟩ (.int .u64 t398))) := ⟨bw HB⟩
            (try clear BK385)
            (try clear BK395)
            (try clear BK401)
            (try clear HB)
            generalize (((w28.setCell ⟨gb401, 0, none⟩ (.int .u64 t396)).setCell ⟨gb401, 1, none⟩ (.int .u64 t397)).setCell ⟨gb401, 2, none⟩ (.int .u64 t398)) = w33 at n0_ n1_ n2_ n3_ ⊢
            have BK385 := n0_
            have BK395 := n1_
            have BK401 := n2_
            have HB := n3_
            clear n0_ n1_ n2_ n3_
            have n0_ := Aside0.mk (blk_drew BK385.out)
            have n1_ := Aside0.mk (blk_drew BK395.out)
            have n2_ := Aside0.mk (blk_drew BK401.out)
            have n3_ := Aside0.mk (below_drew1 HB.out)
            clear BK385
            clear BK395
            clear BK401
            clear HB
            have BK385 := n0_
            have BK395 := n1_
            have BK401 := n2_
            have HB := n3_
            clear n0_ n1_ n2_ n3_
            refine start_ (n := 30) (S := fun w' => w'.cell? ⟨gb395, 0, none⟩ = some (.int .u64 t390) ∧ w'.cell? ⟨gb395, 1, none⟩ = some (.int .u64 t391) ∧ w'.cell? ⟨gb395, 2, none⟩ = some (.int .u64 t392) ∧ w'.cell? ⟨gb401, 0, none⟩ = some (.int .u64 t396) ∧ w'.cell? ⟨gb401, 1, none⟩ = some (.int .u64 t397) ∧ w'.cell? ⟨gb401, 2, none⟩ = some (.int .u64 t398)) (ds := []) #[false, false, false, false, false, false, false, false, false, false, false, false, false, false, false, false, false, false, false, false, false, false, false, false, false, false, false, false, false, false] (by kernel_rfl) rfl rfl ⟨(blk_cell BK395.out 0).trans rfl, (blk_cell BK395.out 1).trans rfl, (blk_cell BK395.out 2).trans rfl, (blk_cell BK401.out 0).trans rfl, (blk_cell BK401.out 1).trans rfl, (blk_cell BK401.out 2).trans rfl⟩ (fun hHeld => ?_); refine with_tabW turnstilelaw06_right.tab5 turnstilelaw06_right.bits5 (fun HT_ HW_ => ?_)
            generalize w33.drew = w34 at BK385 BK395 BK401 HB hHeld ⊢
            refine chain_ (fuel := 0) [(0, 1, some 55), (1, 1, some 56), (2, 0, some 57), (3, 0, some 58), (4, 2, some 59), (5, 2, some 60), (6, 2, some 61), (7, 0, some 62), (8, 0, some 63), (9, 2, some 64), (10, 2, some 65), (11, 2, some 66), (12, 0, some 67), (13, 0, some 68), (14, 2, some 69), (15, 2, some 70), (16, 2, some 71), (17, 2, some 72), (18, 2, some 73), (19, 2, some 74), (20, 2, some 75), (21, 2, some 76), (22, 2, some 77), (23, 2, some 78), (24, 2, some 79), (25, 2, some 80), (26, 2, some 81), (27, 2, some 82), (28, 2, some 83), (29, 0, some 84)] #[true, true, true, true, true, true, true, true, true, true, true, true, true, true, true, true, true, true, true, true, true, true, true, true, true, true, true, true, true, true] HT_.out HW_.out (by kernel_rfl) (fun _ _ _ _ _ h => h) (Or.inr hHeld) rfl ?_
            (iterate 2 refine lkT ?_); (iterate 2 refine lkP ?_); (iterate 3 refine lkO ?_); (iterate 2 refine lkP ?_); (iterate 3 refine lkO ?_); (iterate 2 refine lkP ?_); (iterate 15 refine lkO ?_); refine lkP ?_; refine .nil ?_
            refine done_ (done_of HT_.out (by kernel_rfl)) ?_
            try go_wp2
            go_meet
            case rel => exact ⟨_, (true), rs, H', ⟨by have := HJ1.out; first | omega | exact Nat.le_refl _⟩, ⟨bk BK385⟩, ⟨bk BK395⟩, ⟨bk BK401⟩, ⟨bw HB⟩⟩
          · rw [if_neg c32] at H
            have c32b0 : (!(t390 == t396) || (!(t391 == t397) || (!(t392 == t398)))) = false := by simpa using c32
            clear c32
            (first | rw [c32b0] | (simp only [i64_w, i32_w]; rw [c32b0]) | skip)
            by_cases c35 : (t393 != t399) = true
            · rw [if_pos c35] at H
              have c35b0 : (t393 != t399) = true := c35
              (try (have c35b1 : decide (t393 = t399) = false := by simpa using c35))
              (try (have c35b2 : (t393 == t399) = false := by simpa using c35))
              (try (have c35b3 : ¬ (t393 = t399) := by simpa using c35))
              clear c35
              have H' := Aside0.mk H
              clear H
              try go_wp2
              have n0_ : Aside0 ((((w28.setCell ⟨gb401, 0, none⟩ (.int .u64 t396)).setCell ⟨gb401, 1, none⟩ (.int .u64 t397)).setCell ⟨gb401, 2, none⟩ (.int .u64 t398)).heap[gb385]? = some (.cells #[.int .i64 a0_0, .int .u64 a0_1, .int .u64 a0_2, .int .u64 a0_3, .int .u64 a0_4, .int .u64 a0_5, .int .u64 a0_6, .int .u64 a0_7, .int .u64 a0_8, .int .u64 a0_9, .int .u64 a0_10, .int .u64 a0_11, .int .u64 a0_12] 31 (0, 0))) := ⟨bk BK385⟩
              have n1_ : Aside0 ((((w28.setCell ⟨gb401, 0, none⟩ (.int .u64 t396)).setCell ⟨gb401, 1, none⟩ (.int .u64 t397)).setCell ⟨gb401, 2, none⟩ (.int .u64 t398)).heap[gb395]? = some (.cells #[.int .u64 t390, .int .u64 t391, .int .u64 t392] 29 (0, 0))) := ⟨bk BK395⟩
              have n2_ : Aside0 ((((w28.setCell ⟨gb401, 0, none⟩ (.int .u64 t396)).setCell ⟨gb401, 1, none⟩ (.int .u64 t397)).setCell ⟨gb401, 2, none⟩ (.int .u64 t398)).heap[gb401]? = some (.cells #[.int .u64 t396, .int .u64 t397, .int .u64 t398] 29 (0, 0))) := ⟨bk BK401⟩
              have n3_ : Aside0 (Below w.heap.size w (((w28.setCell ⟨gb401, 0, none⟩ (.int .u64 t396)).setCell ⟨gb401, 1, none⟩ (.int .u64 t397)).setCell ⟨gb401, 2, none⟩ (.int .u64 t398))) := ⟨bw HB⟩
              (try clear BK385)
              (try clear BK395)
              (try clear BK401)
              (try clear HB)
              generalize (((w28.setCell ⟨gb401, 0, none⟩ (.int .u64 t396)).setCell ⟨gb401, 1, none⟩ (.int .u64 t397)).setCell ⟨gb401, 2, none⟩ (.int .u64 t398)) = w36 at n0_ n1_ n2_ n3_ ⊢
              have BK385 := n0_
              have BK395 := n1_
              have BK401 := n2_
              have HB := n3_
              clear n0_ n1_ n2_ n3_
              have n0_ := Aside0.mk (blk_drew BK385.out)
              have n1_ := Aside0.mk (blk_drew BK395.out)
              have n2_ := Aside0.mk (blk_drew BK401.out)
              have n3_ := Aside0.mk (below_drew1 HB.out)
              clear BK385
              clear BK395
              clear BK401
              clear HB
              have BK385 := n0_
              have BK395 := n1_
              have BK401 := n2_
              have HB := n3_
              clear n0_ n1_ n2_ n3_
              refine start_ (n := 30) (S := fun w' => w'.cell? ⟨gb395, 0, none⟩ = some (.int .u64 t390) ∧ w'.cell? ⟨gb395, 1, none⟩ = some (.int .u64 t391) ∧ w'.cell? ⟨gb395, 2, none⟩ = some (.int .u64 t392) ∧ w'.cell? ⟨gb401, 0, none⟩ = some (.int .u64 t396) ∧ w'.cell? ⟨gb401, 1, none⟩ = some (.int .u64 t397) ∧ w'.cell? ⟨gb401, 2, none⟩ = some (.int .u64 t398)) (ds := []) #[false, false, false, false, false, false, false, false, false, false, false, false, false, false, false, false, false, false, false, false, false, false, false, false, false, false, false, false, false, false] (by kernel_rfl) rfl rfl ⟨(blk_cell BK395.out 0).trans rfl, (blk_cell BK395.out 1).trans rfl, (blk_cell BK395.out 2).trans rfl, (blk_cell BK401.out 0).trans rfl, (blk_cell BK401.out 1).trans rfl, (blk_cell BK401.out 2).trans rfl⟩ (fun hHeld => ?_); refine with_tabW turnstilelaw06_right.tab5 turnstilelaw06_right.bits5 (fun HT_ HW_ => ?_)
              generalize w36.drew = w37 at BK385 BK395 BK401 HB hHeld ⊢
              refine chain_ (fuel := 0) [(0, 1, some 55), (1, 1, some 56), (2, 0, some 57), (3, 0, some 58), (4, 0, some 59), (5, 0, some 60), (6, 0, some 61), (7, 0, some 62), (8, 0, some 63), (9, 2, some 64), (10, 2, some 65), (11, 2, some 66), (12, 0, some 67), (13, 0, some 68), (14, 2, some 69), (15, 2, some 70), (16, 2, some 71), (17, 2, some 72), (18, 2, some 73), (19, 2, some 74), (20, 2, some 75), (21, 2, some 76), (22, 2, some 77), (23, 2, some 78), (24, 2, some 79), (25, 2, some 80), (26, 2, some 81), (27, 2, some 82), (28, 2, some 83), (29, 0, some 84)] #[true, true, true, true, true, true, true, true, true, true, true, true, true, true, true, true, true, true, true, true, true, true, true, true, true, true, true, true, true, true] HT_.out HW_.out (by kernel_rfl) (fun _ _ _ _ _ h => h) (Or.inr hHeld) rfl ?_
              (iterate 2 refine lkT ?_); (iterate 7 refine lkP ?_); (iterate 3 refine lkO ?_); (iterate 2 refine lkP ?_); (iterate 15 refine lkO ?_); refine lkP ?_; refine .nil ?_
              refine done_ (done_of HT_.out (by kernel_rfl)) ?_
              try go_wp2
              go_meet
              case rel => exact ⟨_, (true), rs, H', ⟨by have := HJ1.out; first | omega | exact Nat.le_refl _⟩, ⟨bk BK385⟩, ⟨bk BK395⟩, ⟨bk BK401⟩, ⟨bw HB⟩⟩
            · rw [if_neg c35] at H
              have c35b0 : (t393 != t399) = false := by simpa using c35
              (try (have c35b1 : decide (t393 = t399) = true := by simpa using c35))
              (try (have c35b2 : (t393 == t399) = true := by simpa using c35))
              clear c35
              by_cases c38 : t394 = t400
              · rw [if_pos c38] at H
                have c38b0 : (t394 == t400) = true := beq_iff_eq.mpr c38
                have c38b1 : (t394 != t400) = false := bne_eq_false_iff_eq.mpr c38
                clear c38
                (try (have hd39 := c32b0; rw [c38b0] at hd39; (first | rw [Bool.true_and] at hd39 | rw [Bool.and_true] at hd39 | (rw [Bool.not_true] at hd39; rw [Bool.false_or] at hd39) | skip)))
                replace H := Option.bind_eq_some_iff.mp H
                obtain ⟨t402, A400, H⟩ := H
                replace H : ((turnstileref06_Left.f kj1 a0_0 a0_1 a0_2 a0_3 a0_4 a0_5 a0_6 a0_7 a0_11).bind fun t403 => (turnstilelaw06_right.j1 kj1 (t402 != t403) a0_0 a0_1 a0_2 a0_3 a0_4 a0_5 a0_6 a0_7 a0_8 a0_9 a0_10 a0_11 a0_12)) = some r := H
                have A40 := Aside0.mk A400
                clear A400
                replace H := Option.bind_eq_some_iff.mp H
                obtain ⟨t403, A410, H⟩ := H
                replace H : (turnstilelaw06_right.j1 kj1 (t402 != t403) a0_0 a0_1 a0_2 a0_3 a0_4 a0_5 a0_6 a0_7 a0_8 a0_9 a0_10 a0_11 a0_12) = some r := H
                have A41 := Aside0.mk A410
                clear A410
                have H' := Aside0.mk H
                clear H
                try go_wp2
                have n0_ : Aside0 ((((w28.setCell ⟨gb401, 0, none⟩ (.int .u64 t396)).setCell ⟨gb401, 1, none⟩ (.int .u64 t397)).setCell ⟨gb401, 2, none⟩ (.int .u64 t398)).heap[gb385]? = some (.cells #[.int .i64 a0_0, .int .u64 a0_1, .int .u64 a0_2, .int .u64 a0_3, .int .u64 a0_4, .int .u64 a0_5, .int .u64 a0_6, .int .u64 a0_7, .int .u64 a0_8, .int .u64 a0_9, .int .u64 a0_10, .int .u64 a0_11, .int .u64 a0_12] 31 (0, 0))) := ⟨bk BK385⟩
                have n1_ : Aside0 ((((w28.setCell ⟨gb401, 0, none⟩ (.int .u64 t396)).setCell ⟨gb401, 1, none⟩ (.int .u64 t397)).setCell ⟨gb401, 2, none⟩ (.int .u64 t398)).heap[gb395]? = some (.cells #[.int .u64 t390, .int .u64 t391, .int .u64 t392] 29 (0, 0))) := ⟨bk BK395⟩
                have n2_ : Aside0 ((((w28.setCell ⟨gb401, 0, none⟩ (.int .u64 t396)).setCell ⟨gb401, 1, none⟩ (.int .u64 t397)).setCell ⟨gb401, 2, none⟩ (.int .u64 t398)).heap[gb401]? = some (.cells #[.int .u64 t396, .int .u64 t397, .int .u64 t398] 29 (0, 0))) := ⟨bk BK401⟩
                have n3_ : Aside0 (Below w.heap.size w (((w28.setCell ⟨gb401, 0, none⟩ (.int .u64 t396)).setCell ⟨gb401, 1, none⟩ (.int .u64 t397)).setCell ⟨gb401, 2, none⟩ (.int .u64 t398))) := ⟨bw HB⟩
                (try clear BK385)
                (try clear BK395)
                (try clear BK401)
                (try clear HB)
                generalize (((w28.setCell ⟨gb401, 0, none⟩ (.int .u64 t396)).setCell ⟨gb401, 1, none⟩ (.int .u64 t397)).setCell ⟨gb401, 2, none⟩ (.int .u64 t398)) = w42 at n0_ n1_ n2_ n3_ ⊢
                have BK385 := n0_
                have BK395 := n1_
                have BK401 := n2_
                have HB := n3_
                clear n0_ n1_ n2_ n3_
                have n0_ := Aside0.mk (blk_drew BK385.out)
                have n1_ := Aside0.mk (blk_drew BK395.out)
                have n2_ := Aside0.mk (blk_drew BK401.out)
                have n3_ := Aside0.mk (below_drew1 HB.out)
                clear BK385
                clear BK395
                clear BK401
                clear HB
                have BK385 := n0_
                have BK395 := n1_
                have BK401 := n2_
                have HB := n3_
                clear n0_ n1_ n2_ n3_
                refine start_ (n := 30) (S := fun w' => w'.cell? ⟨gb395, 0, none⟩ = some (.int .u64 t390) ∧ w'.cell? ⟨gb395, 1, none⟩ = some (.int .u64 t391) ∧ w'.cell? ⟨gb395, 2, none⟩ = some (.int .u64 t392) ∧ w'.cell? ⟨gb401, 0, none⟩ = some (.int .u64 t396) ∧ w'.cell? ⟨gb401, 1, none⟩ = some (.int .u64 t397) ∧ w'.cell? ⟨gb401, 2, none⟩ = some (.int .u64 t398) ∧ w'.cell? ⟨gb385, 0, none⟩ = some (.int .i64 a0_0) ∧ w'.cell? ⟨gb385, 1, none⟩ = some (.int .u64 a0_1) ∧ w'.cell? ⟨gb385, 2, none⟩ = some (.int .u64 a0_2) ∧ w'.cell? ⟨gb385, 3, none⟩ = some (.int .u64 a0_3) ∧ w'.cell? ⟨gb385, 4, none⟩ = some (.int .u64 a0_4) ∧ w'.cell? ⟨gb385, 5, none⟩ = some (.int .u64 a0_5) ∧ w'.cell? ⟨gb385, 6, none⟩ = some (.int .u64 a0_6) ∧ w'.cell? ⟨gb385, 7, none⟩ = some (.int .u64 a0_7) ∧ w'.cell? ⟨gb385, 8, none⟩ = some (.int .u64 a0_8) ∧ w'.cell? ⟨gb385, 9, none⟩ = some (.int .u64 a0_9) ∧ w'.cell? ⟨gb385, 10, none⟩ = some (.int .u64 a0_10) ∧ w'.cell? ⟨gb385, 11, none⟩ = some (.int .u64 a0_11) ∧ w'.cell? ⟨gb385, 12, none⟩ = some (.int .u64 a0_12)) (ds := []) #[false, false, false, false, false, false, false, false, false, false, false, false, false, false, false, false, false, false, false, false, false, false, false, false, false, false, false, false, false, false] (by kernel_rfl) rfl rfl ⟨(blk_cell BK395.out 0).trans rfl, (blk_cell BK395.out 1).trans rfl, (blk_cell BK395.out 2).trans rfl, (blk_cell BK401.out 0).trans rfl, (blk_cell BK401.out 1).trans rfl, (blk_cell BK401.out 2).trans rfl, (blk_cell BK385.out 0).trans rfl, (blk_cell BK385.out 1).trans rfl, (blk_cell BK385.out 2).trans rfl, (blk_cell BK385.out 3).trans rfl, (blk_cell BK385.out 4).trans rfl, (blk_cell BK385.out 5).trans rfl, (blk_cell BK385.out 6).trans rfl, (blk_cell BK385.out 7).trans rfl, (blk_cell BK385.out 8).trans rfl, (blk_cell BK385.out 9).trans rfl, (blk_cell BK385.out 10).trans rfl, (blk_cell BK385.out 11).trans rfl, (blk_cell BK385.out 12).trans rfl⟩ (fun hHeld => ?_); refine with_tabW turnstilelaw06_right.tab5 turnstilelaw06_right.bits5 (fun HT_ HW_ => ?_)
                generalize w42.drew = w43 at BK385 BK395 BK401 HB hHeld ⊢
                refine chain_ (fuel := 4) [(0, 1, some 55), (1, 1, some 56), (2, 0, some 57), (3, 0, some 58), (4, 0, some 59), (5, 0, some 60), (6, 0, some 61), (7, 0, some 62), (8, 0, some 63), (9, 0, some 64), (10, 0, some 65), (11, 0, some 66), (12, 0, some 67), (13, 0, some 68), (14, 0, some 69), (16, 0, some 71), (18, 0, some 73), (21, 0, some 76), (23, 0, some 78), (25, 0, some 80), (15, 1, some 70), (17, 1, some 72), (19, 1, some 74), (22, 1, some 77), (24, 1, some 79), (26, 1, some 81)] #[true, true, true, true, true, true, true, true, true, true, true, true, true, true, true, true, true, true, true, true, false, true, true, true, true, true, true, false, false, false] HT_.out HW_.out (by kernel_rfl) (fun _ _ _ _ _ h => h) (Or.inr hHeld) rfl ?_
                (iterate 2 refine lkT ?_); (iterate 18 refine lkP ?_); (iterate 6 refine lkT ?_); refine .nil ?_
                refine one_ (i := 20) (N := some 75) #[true, true, true, true, true, true, true, true, true, true, true, true, true, true, true, true, true, true, true, true, true, true, true, true, true, true, true, false, false, false] rfl rfl (one_of HT_.out (by kernel_rfl)) (by decide) (fun K hK => ?_)
                refine ge Try.func17 #[.agg #[.int .i64 a0_0, .int .u64 a0_1, .int .u64 a0_2, .int .u64 a0_3, .int .u64 a0_4], .agg #[.int .u64 a0_5, .int .u64 a0_6, .int .u64 a0_7], .int .u64 a0_11] ?_
                with_reducible refine (policy_Left.calls kj1 a0_0 a0_1 a0_2 a0_3 a0_4 a0_5 a0_6 a0_7 a0_11 t402 _ A40.out).mono ?_
                rintro e w44 ⟨rfl, hb⟩
                refine ⟨_, rfl, ?_⟩
                have n0_ := bb BK385 hb
                have n1_ := bb BK395 hb
                have n2_ := bb BK401 hb
                have n3_ := bs HB hb
                clear BK385
                clear BK395
                clear BK401
                clear HB
                have BK385 := n0_
                have BK395 := n1_
                have BK401 := n2_
                have HB := n3_
                clear n0_ n1_ n2_ n3_
                (try clear hb)
                (try clear hb2)
                (try clear hk)
                (try clear hi)
                refine hK.out _ _ ⟨(blk_cell BK395.out 0).trans rfl, (blk_cell BK395.out 1).trans rfl, (blk_cell BK395.out 2).trans rfl, (blk_cell BK401.out 0).trans rfl, (blk_cell BK401.out 1).trans rfl, (blk_cell BK401.out 2).trans rfl, (blk_cell BK385.out 0).trans rfl, (blk_cell BK385.out 1).trans rfl, (blk_cell BK385.out 2).trans rfl, (blk_cell BK385.out 3).trans rfl, (blk_cell BK385.out 4).trans rfl, (blk_cell BK385.out 5).trans rfl, (blk_cell BK385.out 6).trans rfl, (blk_cell BK385.out 7).trans rfl, (blk_cell BK385.out 8).trans rfl, (blk_cell BK385.out 9).trans rfl, (blk_cell BK385.out 10).trans rfl, (blk_cell BK385.out 11).trans rfl, (blk_cell BK385.out 12).trans rfl⟩ (fun hHeld => ?_)
                clear hK K
                refine norm_ (a' := ?_) ?_ ?_
                rotate_left
                · show Act.put _ (some 75) _ = _
                  simp only [Act.put, List.setIfInBounds_toArray, List.set_cons_zero, List.set_cons_succ, i64_w, i32_w]
                  rfl
                refine one_ (i := 27) (N := some 82) #[true, true, true, true, true, true, true, true, true, true, true, true, true, true, true, true, true, true, true, true, true, true, true, true, true, true, true, true, false, false] rfl rfl (one_of HT_.out (by kernel_rfl)) (by decide) (fun K hK => ?_)
                refine ge Try.func44 #[.agg #[.int .i64 a0_0, .int .u64 a0_1, .int .u64 a0_2, .int .u64 a0_3, .int .u64 a0_4], .agg #[.int .u64 a0_5, .int .u64 a0_6, .int .u64 a0_7], .int .u64 a0_11] ?_
                with_reducible refine (turnstileref06_Left.calls kj1 a0_0 a0_1 a0_2 a0_3 a0_4 a0_5 a0_6 a0_7 a0_11 t403 _ A41.out).mono ?_
                rintro e w45 ⟨rfl, hb⟩
                refine ⟨_, rfl, ?_⟩
                have n0_ := bb BK385 hb
                have n1_ := bb BK395 hb
                have n2_ := bb BK401 hb
                have n3_ := bs HB hb
                clear BK385
                clear BK395
                clear BK401
                clear HB
                have BK385 := n0_
                have BK395 := n1_
                have BK401 := n2_
                have HB := n3_
                clear n0_ n1_ n2_ n3_
                (try clear hb)
                (try clear hb2)
                (try clear hk)
                (try clear hi)
                refine hK.out _ _ ⟨(blk_cell BK395.out 0).trans rfl, (blk_cell BK395.out 1).trans rfl, (blk_cell BK395.out 2).trans rfl, (blk_cell BK401.out 0).trans rfl, (blk_cell BK401.out 1).trans rfl, (blk_cell BK401.out 2).trans rfl, (blk_cell BK385.out 0).trans rfl, (blk_cell BK385.out 1).trans rfl, (blk_cell BK385.out 2).trans rfl, (blk_cell BK385.out 3).trans rfl, (blk_cell BK385.out 4).trans rfl, (blk_cell BK385.out 5).trans rfl, (blk_cell BK385.out 6).trans rfl, (blk_cell BK385.out 7).trans rfl, (blk_cell BK385.out 8).trans rfl, (blk_cell BK385.out 9).trans rfl, (blk_cell BK385.out 10).trans rfl, (blk_cell BK385.out 11).trans rfl, (blk_cell BK385.out 12).trans rfl⟩ (fun hHeld => ?_)
                clear hK K
                refine norm_ (a' := ?_) ?_ ?_
                rotate_left
                · show Act.put _ (some 82) _ = _
                  simp only [Act.put, List.setIfInBounds_toArray, List.set_cons_zero, List.set_cons_succ, i64_w, i32_w]
                  rfl
                refine chain_ (fuel := 0) [(28, 0, some 83), (29, 0, some 84)] #[true, true, true, true, true, true, true, true, true, true, true, true, true, true, true, true, true, true, true, true, true, true, true, true, true, true, true, true, true, true] HT_.out HW_.out (by kernel_rfl) (fun _ _ _ _ _ h => h) (Or.inl (by decide)) rfl ?_
                (iterate 2 refine lkP ?_); refine .nil ?_
                refine done_ (done_of HT_.out (by kernel_rfl)) ?_
                try go_wp2
                go_meet
                case rel => exact ⟨_, ((t402 != t403)), rs, H', ⟨by have := HJ1.out; first | omega | exact Nat.le_refl _⟩, ⟨bk BK385⟩, ⟨bk BK395⟩, ⟨bk BK401⟩, ⟨bw HB⟩⟩
              · rw [if_neg c38] at H
                have c38b0 : (t394 == t400) = false := beq_eq_false_iff_ne.mpr c38
                have c38b1 : (t394 != t400) = true := bne_iff_ne.mpr c38
                (try (have hd46 := c32b0; rw [c38b0] at hd46; (first | rw [Bool.true_and] at hd46 | rw [Bool.and_true] at hd46 | (rw [Bool.not_true] at hd46; rw [Bool.false_or] at hd46) | skip)))
                have H' := Aside0.mk H
                clear H
                try go_wp2
                have n0_ : Aside0 ((((w28.setCell ⟨gb401, 0, none⟩ (.int .u64 t396)).setCell ⟨gb401, 1, none⟩ (.int .u64 t397)).setCell ⟨gb401, 2, none⟩ (.int .u64 t398)).heap[gb385]? = some (.cells #[.int .i64 a0_0, .int .u64 a0_1, .int .u64 a0_2, .int .u64 a0_3, .int .u64 a0_4, .int .u64 a0_5, .int .u64 a0_6, .int .u64 a0_7, .int .u64 a0_8, .int .u64 a0_9, .int .u64 a0_10, .int .u64 a0_11, .int .u64 a0_12] 31 (0, 0))) := ⟨bk BK385⟩
                have n1_ : Aside0 ((((w28.setCell ⟨gb401, 0, none⟩ (.int .u64 t396)).setCell ⟨gb401, 1, none⟩ (.int .u64 t397)).setCell ⟨gb401, 2, none⟩ (.int .u64 t398)).heap[gb395]? = some (.cells #[.int .u64 t390, .int .u64 t391, .int .u64 t392] 29 (0, 0))) := ⟨bk BK395⟩
                have n2_ : Aside0 ((((w28.setCell ⟨gb401, 0, none⟩ (.int .u64 t396)).setCell ⟨gb401, 1, none⟩ (.int .u64 t397)).setCell ⟨gb401, 2, none⟩ (.int .u64 t398)).heap[gb401]? = some (.cells #[.int .u64 t396, .int .u64 t397, .int .u64 t398] 29 (0, 0))) := ⟨bk BK401⟩
                have n3_ : Aside0 (Below w.heap.size w (((w28.setCell ⟨gb401, 0, none⟩ (.int .u64 t396)).setCell ⟨gb401, 1, none⟩ (.int .u64 t397)).setCell ⟨gb401, 2, none⟩ (.int .u64 t398))) := ⟨bw HB⟩
                (try clear BK385)
                (try clear BK395)
                (try clear BK401)
                (try clear HB)
                generalize (((w28.setCell ⟨gb401, 0, none⟩ (.int .u64 t396)).setCell ⟨gb401, 1, none⟩ (.int .u64 t397)).setCell ⟨gb401, 2, none⟩ (.int .u64 t398)) = w47 at n0_ n1_ n2_ n3_ ⊢
                have BK385 := n0_
                have BK395 := n1_
                have BK401 := n2_
                have HB := n3_
                clear n0_ n1_ n2_ n3_
                have n0_ := Aside0.mk (blk_drew BK385.out)
                have n1_ := Aside0.mk (blk_drew BK395.out)
                have n2_ := Aside0.mk (blk_drew BK401.out)
                have n3_ := Aside0.mk (below_drew1 HB.out)
                clear BK385
                clear BK395
                clear BK401
                clear HB
                have BK385 := n0_
                have BK395 := n1_
                have BK401 := n2_
                have HB := n3_
                clear n0_ n1_ n2_ n3_
                refine start_ (n := 30) (S := fun w' => w'.cell? ⟨gb395, 0, none⟩ = some (.int .u64 t390) ∧ w'.cell? ⟨gb395, 1, none⟩ = some (.int .u64 t391) ∧ w'.cell? ⟨gb395, 2, none⟩ = some (.int .u64 t392) ∧ w'.cell? ⟨gb401, 0, none⟩ = some (.int .u64 t396) ∧ w'.cell? ⟨gb401, 1, none⟩ = some (.int .u64 t397) ∧ w'.cell? ⟨gb401, 2, none⟩ = some (.int .u64 t398)) (ds := []) #[false, false, false, false, false, false, false, false, false, false, false, false, false, false, false, false, false, false, false, false, false, false, false, false, false, false, false, false, false, false] (by kernel_rfl) rfl rfl ⟨(blk_cell BK395.out 0).trans rfl, (blk_cell BK395.out 1).trans rfl, (blk_cell BK395.out 2).trans rfl, (blk_cell BK401.out 0).trans rfl, (blk_cell BK401.out 1).trans rfl, (blk_cell BK401.out 2).trans rfl⟩ (fun hHeld => ?_); refine with_tabW turnstilelaw06_right.tab5 turnstilelaw06_right.bits5 (fun HT_ HW_ => ?_)
                generalize w47.drew = w48 at BK385 BK395 BK401 HB hHeld ⊢
                refine chain_ (fuel := 0) [(0, 1, some 55), (1, 1, some 56), (2, 0, some 57), (3, 0, some 58), (4, 0, some 59), (5, 0, some 60), (6, 0, some 61), (7, 0, some 62), (8, 0, some 63), (9, 0, some 64), (10, 0, some 65), (11, 0, some 66), (12, 0, some 67), (13, 0, some 68), (14, 2, some 69), (15, 2, some 70), (16, 2, some 71), (17, 2, some 72), (18, 2, some 73), (19, 2, some 74), (20, 2, some 75), (21, 2, some 76), (22, 2, some 77), (23, 2, some 78), (24, 2, some 79), (25, 2, some 80), (26, 2, some 81), (27, 2, some 82), (28, 2, some 83), (29, 0, some 84)] #[true, true, true, true, true, true, true, true, true, true, true, true, true, true, true, true, true, true, true, true, true, true, true, true, true, true, true, true, true, true] HT_.out HW_.out (by kernel_rfl) (fun _ _ _ _ _ h => h) (Or.inr hHeld) rfl ?_
                (iterate 2 refine lkT ?_); (iterate 12 refine lkP ?_); (iterate 15 refine lkO ?_); refine lkP ?_; refine .nil ?_
                refine done_ (done_of HT_.out (by kernel_rfl)) ?_
                try go_wp2
                go_meet
                case rel => exact ⟨_, (true), rs, H', ⟨by have := HJ1.out; first | omega | exact Nat.le_refl _⟩, ⟨bk BK385⟩, ⟨bk BK395⟩, ⟨bk BK401⟩, ⟨bw HB⟩⟩
        case rest =>
          clear HC20
          try clear c1
          try clear p2
          try clear c3
          try clear c4
          try clear c17
          try clear c32
          try clear c32b0
          try clear c35
          try clear c35b0
          try clear c35b1
          try clear c35b2
          try clear c38
          try clear c38b0
          try clear c38b1
          try clear c44
          obtain ⟨kq, x84_19, rfl, HA, HJ19, BK385, BK395, BK401, HB⟩ := hcut
          cases kq with
          | zero => exact absurd HA.out (by simp [turnstilelaw06_right.j1])
          | succ kj19 =>
            have H := HA.out
            clear HA
            simp only [turnstilelaw06_right.j1] at H
            by_cases c49 : x84_19 = true
            · subst c49
              have H1 : (some false) = some r := by rw [if_pos rfl] at H; exact H
              clear H
              have H := H1
              clear H1
              obtain rfl := Option.some.inj H
              go_wp2
              go_ret
              exact ⟨re, bw HB⟩
            · replace c49 := Bool.eq_false_iff.mpr c49
              subst c49
              have H1 : ((policy_Covers.f a0_0 a0_1 a0_2 a0_3 a0_4 a0_5 a0_6 a0_7 a0_8 a0_9 a0_10).bind fun t404 => ((turnstileref06_Covers.f a0_0 a0_1 a0_2 a0_3 a0_4 a0_5 a0_6 a0_7 a0_8 a0_9 a0_10).bind fun t405 => (if (t404 == t405) = true then ((policy_Max.f a0_0 a0_1 a0_2 a0_3 a0_4 a0_5 a0_6 a0_7 a0_8 a0_9 a0_10).bind fun bt406 => ((turnstileref06_Max.f a0_0 a0_1 a0_2 a0_3 a0_4 a0_5 a0_6 a0_7 a0_8 a0_9 a0_10).bind fun bt409 => (some (bt406.1 == bt409.1 && (bt406.2.1 == bt409.2.1 && (bt406.2.2 == bt409.2.2)))))) else (some false)))) = some r := by rw [if_neg (show ¬ (false = true) by decide)] at H; exact H
              clear H
              have H := H1
              clear H1
              replace H := Option.bind_eq_some_iff.mp H
              obtain ⟨t404, A500, H⟩ := H
              replace H : ((turnstileref06_Covers.f a0_0 a0_1 a0_2 a0_3 a0_4 a0_5 a0_6 a0_7 a0_8 a0_9 a0_10).bind fun t405 => (if (t404 == t405) = true then ((policy_Max.f a0_0 a0_1 a0_2 a0_3 a0_4 a0_5 a0_6 a0_7 a0_8 a0_9 a0_10).bind fun bt406 => ((turnstileref06_Max.f a0_0 a0_1 a0_2 a0_3 a0_4 a0_5 a0_6 a0_7 a0_8 a0_9 a0_10).bind fun bt409 => (some (bt406.1 == bt409.1 && (bt406.2.1 == bt409.2.1 && (bt406.2.2 == bt409.2.2)))))) else (some false))) = some r := H
              have A50 := Aside0.mk A500
              clear A500
              replace H := Option.bind_eq_some_iff.mp H
              obtain ⟨t405, A510, H⟩ := H
              replace H : (if (t404 == t405) = true then ((policy_Max.f a0_0 a0_1 a0_2 a0_3 a0_4 a0_5 a0_6 a0_7 a0_8 a0_9 a0_10).bind fun bt406 => ((turnstileref06_Max.f a0_0 a0_1 a0_2 a0_3 a0_4 a0_5 a0_6 a0_7 a0_8 a0_9 a0_10).bind fun bt409 => (some (bt406.1 == bt409.1 && (bt406.2.1 == bt409.2.1 && (bt406.2.2 == bt409.2.2)))))) else (some false)) = some r := H
              have A51 := Aside0.mk A510
              clear A510
              by_cases c52 : (t404 == t405) = true
              · rw [if_pos c52] at H
                have c52b0 : (t404 == t405) = true := c52
                (try (have c52b1 : decide (t404 = t405) = true := by simpa using c52))
                (try (have c52b2 : (t404 == t405) = true := by simpa using c52))
                clear c52
                replace H := Option.bind_eq_some_iff.mp H
                obtain ⟨⟨t406, t407, t408⟩, A530, H⟩ := H
                replace H : ((turnstileref06_Max.f a0_0 a0_1 a0_2 a0_3 a0_4 a0_5 a0_6 a0_7 a0_8 a0_9 a0_10).bind fun bt409 => (some (t406 == bt409.1 && (t407 == bt409.2.1 && (t408 == bt409.2.2))))) = some r := H
                have A53 := Aside0.mk A530
                clear A530
                replace H := Option.bind_eq_some_iff.mp H
                obtain ⟨⟨t409, t410, t411⟩, A540, H⟩ := H
                replace H : (some (t406 == t409 && (t407 == t410 && (t408 == t411)))) = some r := H
                have A54 := Aside0.mk A540
                clear A540
                obtain rfl := Option.some.inj H
                try go_wp2
                have n0_ := Aside0.mk (blk_drew BK385.out)
                have n1_ := Aside0.mk (blk_drew BK395.out)
                have n2_ := Aside0.mk (blk_drew BK401.out)
                have n3_ := Aside0.mk (below_drew1 HB.out)
                clear BK385
                clear BK395
                clear BK401
                clear HB
                have BK385 := n0_
                have BK395 := n1_
                have BK401 := n2_
                have HB := n3_
                clear n0_ n1_ n2_ n3_
                refine start_ (n := 33) (S := fun w' => w'.cell? ⟨gb385, 0, none⟩ = some (.int .i64 a0_0) ∧ w'.cell? ⟨gb385, 1, none⟩ = some (.int .u64 a0_1) ∧ w'.cell? ⟨gb385, 2, none⟩ = some (.int .u64 a0_2) ∧ w'.cell? ⟨gb385, 3, none⟩ = some (.int .u64 a0_3) ∧ w'.cell? ⟨gb385, 4, none⟩ = some (.int .u64 a0_4) ∧ w'.cell? ⟨gb385, 5, none⟩ = some (.int .u64 a0_5) ∧ w'.cell? ⟨gb385, 6, none⟩ = some (.int .u64 a0_6) ∧ w'.cell? ⟨gb385, 7, none⟩ = some (.int .u64 a0_7) ∧ w'.cell? ⟨gb385, 8, none⟩ = some (.int .u64 a0_8) ∧ w'.cell? ⟨gb385, 9, none⟩ = some (.int .u64 a0_9) ∧ w'.cell? ⟨gb385, 10, none⟩ = some (.int .u64 a0_10) ∧ w'.cell? ⟨gb385, 11, none⟩ = some (.int .u64 a0_11) ∧ w'.cell? ⟨gb385, 12, none⟩ = some (.int .u64 a0_12)) (ds := []) #[false, false, false, false, false, false, false, false, false, false, false, false, false, false, false, false, false, false, false, false, false, false, false, false, false, false, false, false, false, false, false, false, false] (by kernel_rfl) rfl rfl ⟨(blk_cell BK385.out 0).trans rfl, (blk_cell BK385.out 1).trans rfl, (blk_cell BK385.out 2).trans rfl, (blk_cell BK385.out 3).trans rfl, (blk_cell BK385.out 4).trans rfl, (blk_cell BK385.out 5).trans rfl, (blk_cell BK385.out 6).trans rfl, (blk_cell BK385.out 7).trans rfl, (blk_cell BK385.out 8).trans rfl, (blk_cell BK385.out 9).trans rfl, (blk_cell BK385.out 10).trans rfl, (blk_cell BK385.out 11).trans rfl, (blk_cell BK385.out 12).trans rfl⟩ (fun hHeld => ?_); refine with_tabW turnstilelaw06_right.tab7 turnstilelaw06_right.bits7 (fun HT_ HW_ => ?_)
                generalize wc.drew = w55 at BK385 BK395 BK401 HB hHeld ⊢
                refine chain_ (fuel := 21) [(0, 0, some 85), (2, 0, some 87), (4, 0, some 89), (7, 0, some 92), (9, 0, some 94), (11, 0, some 96), (1, 1, some 86), (3, 1, some 88), (5, 1, some 90), (8, 1, some 93), (10, 1, some 95), (12, 1, some 97)] #[true, true, true, true, true, true, false, true, true, true, true, true, true, false, false, false, false, false, false, false, false, false, false, false, false, false, false, false, false, false, false, false, false] HT_.out HW_.out (by kernel_rfl) (fun _ _ _ _ _ h => h) (Or.inr hHeld) rfl ?_
                (iterate 6 refine lkP ?_); (iterate 6 refine lkT ?_); refine .nil ?_
                refine one_ (i := 6) (N := some 91) #[true, true, true, true, true, true, true, true, true, true, true, true, true, false, false, false, false, false, false, false, false, false, false, false, false, false, false, false, false, false, false, false, false] rfl rfl (one_of HT_.out (by kernel_rfl)) (by decide) (fun K hK => ?_)
                refine ge Try.func27 #[.agg #[.int .i64 a0_0, .int .u64 a0_1, .int .u64 a0_2, .int .u64 a0_3, .int .u64 a0_4], .agg #[.int .u64 a0_5, .int .u64 a0_6, .int .u64 a0_7], .agg #[.int .u64 a0_8, .int .u64 a0_9, .int .u64 a0_10]] ?_
                with_reducible refine (policy_Covers.calls a0_0 a0_1 a0_2 a0_3 a0_4 a0_5 a0_6 a0_7 a0_8 a0_9 a0_10 t404 _ A50.out).mono ?_
                rintro e w56 ⟨rfl, hb⟩
                refine ⟨_, rfl, ?_⟩
                have n0_ := bb BK385 hb
                have n1_ := bb BK395 hb
                have n2_ := bb BK401 hb
                have n3_ := bs HB hb
                clear BK385
                clear BK395
                clear BK401
                clear HB
                have BK385 := n0_
                have BK395 := n1_
                have BK401 := n2_
                have HB := n3_
                clear n0_ n1_ n2_ n3_
                (try clear hb)
                (try clear hb2)
                (try clear hk)
                (try clear hi)
                refine hK.out _ _ ⟨(blk_cell BK385.out 0).trans rfl, (blk_cell BK385.out 1).trans rfl, (blk_cell BK385.out 2).trans rfl, (blk_cell BK385.out 3).trans rfl, (blk_cell BK385.out 4).trans rfl, (blk_cell BK385.out 5).trans rfl, (blk_cell BK385.out 6).trans rfl, (blk_cell BK385.out 7).trans rfl, (blk_cell BK385.out 8).trans rfl, (blk_cell BK385.out 9).trans rfl, (blk_cell BK385.out 10).trans rfl, (blk_cell BK385.out 11).trans rfl, (blk_cell BK385.out 12).trans rfl⟩ (fun hHeld => ?_)
                clear hK K
                refine norm_ (a' := ?_) ?_ ?_
                rotate_left
                · show Act.put _ (some 91) _ = _
                  simp only [Act.put, List.setIfInBounds_toArray, List.set_cons_zero, List.set_cons_succ, i64_w, i32_w]
                  rfl
                refine one_ (i := 13) (N := some 98) #[true, true, true, true, true, true, true, true, true, true, true, true, true, true, false, false, false, false, false, false, false, false, false, false, false, false, false, false, false, false, false, false, false] rfl rfl (one_of HT_.out (by kernel_rfl)) (by decide) (fun K hK => ?_)
                refine ge Try.func45 #[.agg #[.int .i64 a0_0, .int .u64 a0_1, .int .u64 a0_2, .int .u64 a0_3, .int .u64 a0_4], .agg #[.int .u64 a0_5, .int .u64 a0_6, .int .u64 a0_7], .agg #[.int .u64 a0_8, .int .u64 a0_9, .int .u64 a0_10]] ?_
                with_reducible refine (turnstileref06_Covers.calls a0_0 a0_1 a0_2 a0_3 a0_4 a0_5 a0_6 a0_7 a0_8 a0_9 a0_10 t405 _ A51.out).mono ?_
                rintro e w57 ⟨rfl, hb⟩
                refine ⟨_, rfl, ?_⟩
                have n0_ := bb BK385 hb
                have n1_ := bb BK395 hb
                have n2_ := bb BK401 hb
                have n3_ := bs HB hb
                clear BK385
                clear BK395
                clear BK401
                clear HB
                have BK385 := n0_
                have BK395 := n1_
                have BK401 := n2_
                have HB := n3_
                clear n0_ n1_ n2_ n3_
                (try clear hb)
                (try clear hb2)
                (try clear hk)
                (try clear hi)
                refine hK.out _ _ ⟨(blk_cell BK385.out 0).trans rfl, (blk_cell BK385.out 1).trans rfl, (blk_cell BK385.out 2).trans rfl, (blk_cell BK385.out 3).trans rfl, (blk_cell BK385.out 4).trans rfl, (blk_cell BK385.out 5).trans rfl, (blk_cell BK385.out 6).trans rfl, (blk_cell BK385.out 7).trans rfl, (blk_cell BK385.out 8).trans rfl, (blk_cell BK385.out 9).trans rfl, (blk_cell BK385.out 10).trans rfl, (blk_cell BK385.out 11).trans rfl, (blk_cell BK385.out 12).trans rfl⟩ (fun hHeld => ?_)
                clear hK K
                refine norm_ (a' := ?_) ?_ ?_
                rotate_left
                · show Act.put _ (some 98) _ = _
                  simp only [Act.put, List.setIfInBounds_toArray, List.set_cons_zero, List.set_cons_succ, i64_w, i32_w]
                  rfl
                refine chain_ (fuel := 5) [(14, 0, some 99), (15, 0, some 100), (16, 0, some 101), (18, 0, some 103), (20, 0, some 105), (23, 0, some 108), (25, 0, some 110), (27, 0, some 112), (17, 1, some 102), (19, 1, some 104), (21, 1, some 106), (24, 1, some 109), (26, 1, some 111), (28, 1, some 113)] #[true, true, true, true, true, true, true, true, true, true, true, true, true, true, true, true, true, true, true, true, true, true, false, true, true, true, true, true, true, false, false, false, false] HT_.out HW_.out (by kernel_rfl) (fun _ _ _ _ _ h => h) (Or.inr hHeld) rfl ?_
                (iterate 8 refine lkP ?_); (iterate 6 refine lkT ?_); refine .nil ?_
                refine one_ (i := 22) (N := some 107) #[true, true, true, true, true, true, true, true, true, true, true, true, true, true, true, true, true, true, true, true, true, true, true, true, true, true, true, true, true, false, false, false, false] rfl rfl (one_of HT_.out (by kernel_rfl)) (by decide) (fun K hK => ?_)
                refine ge Try.func26 #[.agg #[.int .i64 a0_0, .int .u64 a0_1, .int .u64 a0_2, .int .u64 a0_3, .int .u64 a0_4], .agg #[.int .u64 a0_5, .int .u64 a0_6, .int .u64 a0_7], .agg #[.int .u64 a0_8, .int .u64 a0_9, .int .u64 a0_10]] ?_
                with_reducible refine (policy_Max.calls a0_0 a0_1 a0_2 a0_3 a0_4 a0_5 a0_6 a0_7 a0_8 a0_9 a0_10 t406 t407 t408 _ A53.out).mono ?_
                rintro e w58 ⟨rfl, hb⟩
                refine ⟨_, rfl, ?_⟩
                have n0_ := bb BK385 hb
                have n1_ := bb BK395 hb
                have n2_ := bb BK401 hb
                have n3_ := bs HB hb
                clear BK385
                clear BK395
                clear BK401
                clear HB
                have BK385 := n0_
                have BK395 := n1_
                have BK401 := n2_
                have HB := n3_
                clear n0_ n1_ n2_ n3_
                (try clear hb)
                (try clear hb2)
                (try clear hk)
                (try clear hi)
                refine hK.out _ _ ⟨(blk_cell BK385.out 0).trans rfl, (blk_cell BK385.out 1).trans rfl, (blk_cell BK385.out 2).trans rfl, (blk_cell BK385.out 3).trans rfl, (blk_cell BK385.out 4).trans rfl, (blk_cell BK385.out 5).trans rfl, (blk_cell BK385.out 6).trans rfl, (blk_cell BK385.out 7).trans rfl, (blk_cell BK385.out 8).trans rfl, (blk_cell BK385.out 9).trans rfl, (blk_cell BK385.out 10).trans rfl, (blk_cell BK385.out 11).trans rfl, (blk_cell BK385.out 12).trans rfl⟩ (fun hHeld => ?_)
                clear hK K
                refine norm_ (a' := ?_) ?_ ?_
                rotate_left
                · show Act.put _ (some 107) _ = _
                  simp only [Act.put, List.setIfInBounds_toArray, List.set_cons_zero, List.set_cons_succ, i64_w, i32_w]
                  rfl
                refine one_ (i := 29) (N := some 114) #[true, true, true, true, true, true, true, true, true, true, true, true, true, true, true, true, true, true, true, true, true, true, true, true, true, true, true, true, true, true, false, false, false] rfl rfl (one_of HT_.out (by kernel_rfl)) (by decide) (fun K hK => ?_)
                refine ge Try.func46 #[.agg #[.int .i64 a0_0, .int .u64 a0_1, .int .u64 a0_2, .int .u64 a0_3, .int .u64 a0_4], .agg #[.int .u64 a0_5, .int .u64 a0_6, .int .u64 a0_7], .agg #[.int .u64 a0_8, .int .u64 a0_9, .int .u64 a0_10]] ?_
                with_reducible refine (turnstileref06_Max.calls a0_0 a0_1 a0_2 a0_3 a0_4 a0_5 a0_6 a0_7 a0_8 a0_9 a0_10 t409 t410 t411 _ A54.out).mono ?_
                rintro e w59 ⟨rfl, hb⟩
                refine ⟨_, rfl, ?_⟩
                have n0_ := bb BK385 hb
                have n1_ := bb BK395 hb
                have n2_ := bb BK401 hb
                have n3_ := bs HB hb
                clear BK385
                clear BK395
                clear BK401
                clear HB
                have BK385 := n0_
                have BK395 := n1_
                have BK401 := n2_
                have HB := n3_
                clear n0_ n1_ n2_ n3_
                (try clear hb)
                (try clear hb2)
                (try clear hk)
                (try clear hi)
                refine hK.out _ _ ⟨(blk_cell BK385.out 0).trans rfl, (blk_cell BK385.out 1).trans rfl, (blk_cell BK385.out 2).trans rfl, (blk_cell BK385.out 3).trans rfl, (blk_cell BK385.out 4).trans rfl, (blk_cell BK385.out 5).trans rfl, (blk_cell BK385.out 6).trans rfl, (blk_cell BK385.out 7).trans rfl, (blk_cell BK385.out 8).trans rfl, (blk_cell BK385.out 9).trans rfl, (blk_cell BK385.out 10).trans rfl, (blk_cell BK385.out 11).trans rfl, (blk_cell BK385.out 12).trans rfl⟩ (fun hHeld => ?_)
                clear hK K
                refine norm_ (a' := ?_) ?_ ?_
                rotate_left
                · show Act.put _ (some 114) _ = _
                  simp only [Act.put, List.setIfInBounds_toArray, List.set_cons_zero, List.set_cons_succ, i64_w, i32_w]
                  rfl
                refine chain_ (fuel := 0) [(30, 0, some 115), (31, 0, some 116), (32, 0, some 2)] #[true, true, true, true, true, true, true, true, true, true, true, true, true, true, true, true, true, true, true, true, true, true, true, true, true, true, true, true, true, true, true, true, true] HT_.out HW_.out (by kernel_rfl) (fun _ _ _ _ _ h => h) (Or.inl (by decide)) rfl ?_
                (iterate 3 refine lkP ?_); refine .nil ?_
                refine done_ (done_of HT_.out (by kernel_rfl)) ?_
                try go_wp2
                go_ret
                exact ⟨re, bw HB⟩
              · rw [if_neg c52] at H
                have c52b0 : (t404 == t405) = false := by simpa using c52
                (try (have c52b1 : decide (t404 = t405) = false := by simpa using c52))
                (try (have c52b2 : (t404 == t405) = false := by simpa using c52))
                (try (have c52b3 : ¬ (t404 = t405) := by simpa using c52))
                clear c52
                obtain rfl := Option.some.inj H
                try go_wp2
                have n0_ := Aside0.mk (blk_drew BK385.out)
                have n1_ := Aside0.mk (blk_drew BK395.out)
                have n2_ := Aside0.mk (blk_drew BK401.out)
                have n3_ := Aside0.mk (below_drew1 HB.out)
                clear BK385
                clear BK395
                clear BK401
                clear HB
                have BK385 := n0_
                have BK395 := n1_
                have BK401 := n2_
                have HB := n3_
                clear n0_ n1_ n2_ n3_
                refine start_ (n := 33) (S := fun w' => w'.cell? ⟨gb385, 0, none⟩ = some (.int .i64 a0_0) ∧ w'.cell? ⟨gb385, 1, none⟩ = some (.int .u64 a0_1) ∧ w'.cell? ⟨gb385, 2, none⟩ = some (.int .u64 a0_2) ∧ w'.cell? ⟨gb385, 3, none⟩ = some (.int .u64 a0_3) ∧ w'.cell? ⟨gb385, 4, none⟩ = some (.int .u64 a0_4) ∧ w'.cell? ⟨gb385, 5, none⟩ = some (.int .u64 a0_5) ∧ w'.cell? ⟨gb385, 6, none⟩ = some (.int .u64 a0_6) ∧ w'.cell? ⟨gb385, 7, none⟩ = some (.int .u64 a0_7) ∧ w'.cell? ⟨gb385, 8, none⟩ = some (.int .u64 a0_8) ∧ w'.cell? ⟨gb385, 9, none⟩ = some (.int .u64 a0_9) ∧ w'.cell? ⟨gb385, 10, none⟩ = some (.int .u64 a0_10) ∧ w'.cell? ⟨gb385, 11, none⟩ = some (.int .u64 a0_11) ∧ w'.cell? ⟨gb385, 12, none⟩ = some (.int .u64 a0_12)) (ds := []) #[false, false, false, false, false, false, false, false, false, false, false, false, false, false, false, false, false, false, false, false, false, false, false, false, false, false, false, false, false, false, false, false, false] (by kernel_rfl) rfl rfl ⟨(blk_cell BK385.out 0).trans rfl, (blk_cell BK385.out 1).trans rfl, (blk_cell BK385.out 2).trans rfl, (blk_cell BK385.out 3).trans rfl, (blk_cell BK385.out 4).trans rfl, (blk_cell BK385.out 5).trans rfl, (blk_cell BK385.out 6).trans rfl, (blk_cell BK385.out 7).trans rfl, (blk_cell BK385.out 8).trans rfl, (blk_cell BK385.out 9).trans rfl, (blk_cell BK385.out 10).trans rfl, (blk_cell BK385.out 11).trans rfl, (blk_cell BK385.out 12).trans rfl⟩ (fun hHeld => ?_); refine with_tabW turnstilelaw06_right.tab7 turnstilelaw06_right.bits7 (fun HT_ HW_ => ?_)
                generalize wc.drew = w60 at BK385 BK395 BK401 HB hHeld ⊢
                refine chain_ (fuel := 21) [(0, 0, some 85), (2, 0, some 87), (4, 0, some 89), (7, 0, some 92), (9, 0, some 94), (11, 0, some 96), (1, 1, some 86), (3, 1, some 88), (5, 1, some 90), (8, 1, some 93), (10, 1, some 95), (12, 1, some 97)] #[true, true, true, true, true, true, false, true, true, true, true, true, true, false, false, false, false, false, false, false, false, false, false, false, false, false, false, false, false, false, false, false, false] HT_.out HW_.out (by kernel_rfl) (fun _ _ _ _ _ h => h) (Or.inr hHeld) rfl ?_
                (iterate 6 refine lkP ?_); (iterate 6 refine lkT ?_); refine .nil ?_
                refine one_ (i := 6) (N := some 91) #[true, true, true, true, true, true, true, true, true, true, true, true, true, false, false, false, false, false, false, false, false, false, false, false, false, false, false, false, false, false, false, false, false] rfl rfl (one_of HT_.out (by kernel_rfl)) (by decide) (fun K hK => ?_)
                refine ge Try.func27 #[.agg #[.int .i64 a0_0, .int .u64 a0_1, .int .u64 a0_2, .int .u64 a0_3, .int .u64 a0_4], .agg #[.int .u64 a0_5, .int .u64 a0_6, .int .u64 a0_7], .agg #[.int .u64 a0_8, .int .u64 a0_9, .int .u64 a0_10]] ?_
                with_reducible refine (policy_Covers.calls a0_0 a0_1 a0_2 a0_3 a0_4 a0_5 a0_6 a0_7 a0_8 a0_9 a0_10 t404 _ A50.out).mono ?_
                rintro e w61 ⟨rfl, hb⟩
                refine ⟨_, rfl, ?_⟩
                have n0_ := bb BK385 hb
                have n1_ := bb BK395 hb
                have n2_ := bb BK401 hb
                have n3_ := bs HB hb
                clear BK385
                clear BK395
                clear BK401
                clear HB
                have BK385 := n0_
                have BK395 := n1_
                have BK401 := n2_
                have HB := n3_
                clear n0_ n1_ n2_ n3_
                (try clear hb)
                (try clear hb2)
                (try clear hk)
                (try clear hi)
                refine hK.out _ _ ⟨(blk_cell BK385.out 0).trans rfl, (blk_cell BK385.out 1).trans rfl, (blk_cell BK385.out 2).trans rfl, (blk_cell BK385.out 3).trans rfl, (blk_cell BK385.out 4).trans rfl, (blk_cell BK385.out 5).trans rfl, (blk_cell BK385.out 6).trans rfl, (blk_cell BK385.out 7).trans rfl, (blk_cell BK385.out 8).trans rfl, (blk_cell BK385.out 9).trans rfl, (blk_cell BK385.out 10).trans rfl, (blk_cell BK385.out 11).trans rfl, (blk_cell BK385.out 12).trans rfl⟩ (fun hHeld => ?_)
                clear hK K
                refine norm_ (a' := ?_) ?_ ?_
                rotate_left
                · show Act.put _ (some 91) _ = _
                  simp only [Act.put, List.setIfInBounds_toArray, List.set_cons_zero, List.set_cons_succ, i64_w, i32_w]
                  rfl
                refine one_ (i := 13) (N := some 98) #[true, true, true, true, true, true, true, true, true, true, true, true, true, true, false, false, false, false, false, false, false, false, false, false, false, false, false, false, false, false, false, false, false] rfl rfl (one_of HT_.out (by kernel_rfl)) (by decide) (fun K hK => ?_)
                refine ge Try.func45 #[.agg #[.int .i64 a0_0, .int .u64 a0_1, .int .u64 a0_2, .int .u64 a0_3, .int .u64 a0_4], .agg #[.int .u64 a0_5, .int .u64 a0_6, .int .u64 a0_7], .agg #[.int .u64 a0_8, .int .u64 a0_9, .int .u64 a0_10]] ?_
                with_reducible refine (turnstileref06_Covers.calls a0_0 a0_1 a0_2 a0_3 a0_4 a0_5 a0_6 a0_7 a0_8 a0_9 a0_10 t405 _ A51.out).mono ?_
                rintro e w62 ⟨rfl, hb⟩
                refine ⟨_, rfl, ?_⟩
                have n0_ := bb BK385 hb
                have n1_ := bb BK395 hb
                have n2_ := bb BK401 hb
                have n3_ := bs HB hb
                clear BK385
                clear BK395
                clear BK401
                clear HB
                have BK385 := n0_
                have BK395 := n1_
                have BK401 := n2_
                have HB := n3_
                clear n0_ n1_ n2_ n3_
                (try clear hb)
                (try clear hb2)
                (try clear hk)
                (try clear hi)
                refine hK.out _ _ ⟨(blk_cell BK385.out 0).trans rfl, (blk_cell BK385.out 1).trans rfl, (blk_cell BK385.out 2).trans rfl, (blk_cell BK385.out 3).trans rfl, (blk_cell BK385.out 4).trans rfl, (blk_cell BK385.out 5).trans rfl, (blk_cell BK385.out 6).trans rfl, (blk_cell BK385.out 7).trans rfl, (blk_cell BK385.out 8).trans rfl, (blk_cell BK385.out 9).trans rfl, (blk_cell BK385.out 10).trans rfl, (blk_cell BK385.out 11).trans rfl, (blk_cell BK385.out 12).trans rfl⟩ (fun hHeld => ?_)
                clear hK K
                refine norm_ (a' := ?_) ?_ ?_
                rotate_left
                · show Act.put _ (some 98) _ = _
                  simp only [Act.put, List.setIfInBounds_toArray, List.set_cons_zero, List.set_cons_succ, i64_w, i32_w]
                  rfl
                refine chain_ (fuel := 0) [(14, 0, some 99), (15, 0, some 100), (16, 2, some 101), (17, 2, some 102), (18, 2, some 103), (19, 2, some 104), (20, 2, some 105), (21, 2, some 106), (22, 2, some 107), (23, 2, some 108), (24, 2, some 109), (25, 2, some 110), (26, 2, some 111), (27, 2, some 112), (28, 2, some 113), (29, 2, some 114), (30, 2, some 115), (31, 0, some 116), (32, 0, some 2)] #[true, true, true, true, true, true, true, true, true, true, true, true, true, true, true, true, true, true, true, true, true, true, true, true, true, true, true, true, true, true, true, true, true] HT_.out HW_.out (by kernel_rfl) (fun _ _ _ _ _ h => h) (Or.inl (by decide)) rfl ?_
                (iterate 2 refine lkP ?_); (iterate 15 refine lkO ?_); (iterate 2 refine lkP ?_); refine .nil ?_
                refine done_ (done_of HT_.out (by kernel_rfl)) ?_
                try go_wp2
                go_ret
                exact ⟨re, bw HB⟩

end Go.Proofs.Ytokfhdpokemekaa.Q
