/- Written by the session's own program hyb.py: what functions of the program compute; Lean checks it. -/
import Derived.Test.YtokfhdpokemekaaQx0
import Derived.Test.YtokfhdpokemekaaQx22
import Derived.Test.YtokfhdpokemekaaQx25
import Derived.Test.YtokfhdpokemekaaQx26
import Derived.Test.YtokfhdpokemekaaQx27
namespace Go.Proofs.Ytokfhdpokemekaa.Q
open Go.RowKit Go.Proofs.YtokfhdpokemekaaW.PrintWords Go.Proofs.YtokfhdpokemekaaW.PrintLast Go.Proofs.YtokfhdpokemekaaW.PrintMore Go.Proofs.YtokfhdpokemekaaW.PrintShort
attribute [local go_sem] run_Add64 run_Sub64
attribute [local go_sem] max2_int min2_int max_two min_two max_three min_three max_four min_four   -- for this text's walks alone
set_option linter.unusedVariables false
set_option linter.unusedSimpArgs false

/-! ### turnstileref06_Admit: function 43 -/
def turnstileref06_Admit.f (k : Nat) (a0_0 : Int) (a0_1 : Int) (a0_2 : Int) (a0_3 : Int) (a0_4 : Int) (a1_0 : Int) (a1_1 : Int) (a1_2 : Int) (a2 : Int) (a3 : Int) : Option (Int × Int × Int × Bool × Int) := (turnstileref06_Valid.f a0_0 a0_1 a0_2 a0_3 a0_4).bind fun t348 => (if t348 = true then (if a0_0 = 1 then ((turnstileref04_Admit.f k a0_1 a0_2 a1_0 a2 a3).bind fun bt349 => (if bt349.2 = true then (some (bt349.1, 0, 0, true, 0)) else ((turnstileref06_Form.f a0_0 a0_1 a0_2 a0_3 a0_4 a1_0 a1_1 a1_2).bind fun bt351 => ((turnstileref04_Retry.f k a0_1 a0_2 a1_0 a2 a3).bind fun t354 => (some (bt351.1, bt351.2.1, bt351.2.2, false, t354)))))) else ((turnstileref05_Admit.f k a0_3 a0_4 a1_1 a1_2 a2 a3).bind fun bt355 => (if bt355.2.2 = true then (some (0, bt355.1, bt355.2.1, true, 0)) else ((turnstileref06_Form.f a0_0 a0_1 a0_2 a0_3 a0_4 a1_0 a1_1 a1_2).bind fun bt358 => ((turnstileref05_Retry.f k a0_3 a0_4 a1_1 a1_2 a2 a3).bind fun t361 => (some (bt358.1, bt358.2.1, bt358.2.2, false, t361))))))) else (some (0, 0, 0, false, 18446744073709551615)))
theorem turnstileref06_Admit.mono : ∀ a0 a1 a2 a3 a4 a5 a6 a7 a8 a9 k, LeO (turnstileref06_Admit.f k a0 a1 a2 a3 a4 a5 a6 a7 a8 a9) (turnstileref06_Admit.f (k + 1) a0 a1 a2 a3 a4 a5 a6 a7 a8 a9) := by
  intro a0 a1 a2 a3 a4 a5 a6 a7 a8 a9 k
  unfold turnstileref06_Admit.f
  repeat' first
      | (with_reducible exact turnstileref04_Admit.mono _ _ _ _ _ _)
      | (with_reducible exact turnstileref04_Retry.mono _ _ _ _ _ _)
      | (with_reducible exact turnstileref05_Admit.mono _ _ _ _ _ _ _)
      | (with_reducible exact turnstileref05_Retry.mono _ _ _ _ _ _ _)
      | (with_reducible exact LeO.refl _)
      | (with_reducible exact LeO.none _)
      | (with_reducible refine LeO.ite ?_ ?_)
      | (with_reducible refine LeO.bind ?_ (fun _ => ?_))
      | exact turnstileref04_Admit.mono _ _ _ _ _ _
      | exact turnstileref04_Retry.mono _ _ _ _ _ _
      | exact turnstileref05_Admit.mono _ _ _ _ _ _ _
      | exact turnstileref05_Retry.mono _ _ _ _ _ _ _
      | exact LeO.none _
      | refine LeO.ite ?_ ?_
      | refine LeO.bind ?_ (fun _ => ?_)
def turnstileref06_Admit.T7 : Bool × List (List Nat × List Nat) := (true, [([], []), ([], []), ([0, 1], [0, 1]), ([], []), ([3], [3]), ([], []), ([5], [5]), ([], []), ([7], [7]), ([], []), ([], []), ([4, 6, 8, 9, 10, 2], [4, 6, 8, 9, 10]), ([2, 11, 0, 1, 2], [2]), ([12, 0, 1, 2, 12], []), ([11, 13, 0, 1, 2, 3, 4, 5, 6, 7, 8, 9, 10, 11, 12, 13], [11])])
def turnstileref06_Admit.B7 : List Nat := [0, 0, 3, 0, 8, 0, 32, 0, 128, 0, 0, 2047, 4095, 8191, 16383]
theorem turnstileref06_Admit.tab7 : rtab .any (opsOf Try.f43 7) = turnstileref06_Admit.T7 := by kernel_rfl
theorem turnstileref06_Admit.bits7 : waitsOk turnstileref06_Admit.T7.2 turnstileref06_Admit.B7 = true := by kernel_rfl
def turnstileref06_Admit.T11 : Bool × List (List Nat × List Nat) := (true, [([], []), ([], []), ([0, 1], [0, 1]), ([], []), ([3], [3]), ([], []), ([5], [5]), ([], []), ([7], [7]), ([], []), ([9], [9]), ([], []), ([], []), ([4, 6, 8, 10, 11, 12, 2], [4, 6, 8, 10, 11, 12]), ([2, 13, 0, 1, 2], [2]), ([14, 0, 1, 2, 14], []), ([13, 15, 0, 1, 2, 3, 4, 5, 6, 7, 8, 9, 10, 11, 12, 13, 14, 15], [13])])
def turnstileref06_Admit.B11 : List Nat := [0, 0, 3, 0, 8, 0, 32, 0, 128, 0, 512, 0, 0, 8191, 16383, 32767, 65535]
theorem turnstileref06_Admit.tab11 : rtab .any (opsOf Try.f43 11) = turnstileref06_Admit.T11 := by kernel_rfl
theorem turnstileref06_Admit.bits11 : waitsOk turnstileref06_Admit.T11.2 turnstileref06_Admit.B11 = true := by kernel_rfl
set_option maxHeartbeats 8000000 in
set_option maxRecDepth 100000 in
theorem turnstileref06_Admit.calls (k : Nat) (a0_0 : Int) (a0_1 : Int) (a0_2 : Int) (a0_3 : Int) (a0_4 : Int) (a1_0 : Int) (a1_1 : Int) (a1_2 : Int) (a2 : Int) (a3 : Int) (r1 : Int) (r2 : Int) (r3 : Int) (r4 : Bool) (r5 : Int) (w : World) (h : turnstileref06_Admit.f k a0_0 a0_1 a0_2 a0_3 a0_4 a1_0 a1_1 a1_2 a2 a3 = some (r1, r2, r3, r4, r5)) :
    Calls Try.prog 43 #[.agg #[.int .i64 a0_0, .int .u64 a0_1, .int .u64 a0_2, .int .u64 a0_3, .int .u64 a0_4], .agg #[.int .u64 a1_0, .int .u64 a1_1, .int .u64 a1_2], .int .u64 a2, .int .u64 a3] w fun e w' => e = .returned (.tuple #[.agg #[.int .u64 r1, .int .u64 r2, .int .u64 r3], .bool r4, .int .u64 r5]) ∧ Below w.heap.size w w' := by
  have hu27 := Try.underlying27
  have hu29 := Try.underlying29
  have HB := Aside0.mk (Below.refl w.heap.size w)
  have H : ((turnstileref06_Valid.f a0_0 a0_1 a0_2 a0_3 a0_4).bind fun t348 => (if t348 = true then (if a0_0 = 1 then ((turnstileref04_Admit.f k a0_1 a0_2 a1_0 a2 a3).bind fun bt349 => (if bt349.2 = true then (some (bt349.1, 0, 0, true, 0)) else ((turnstileref06_Form.f a0_0 a0_1 a0_2 a0_3 a0_4 a1_0 a1_1 a1_2).bind fun bt351 => ((turnstileref04_Retry.f k a0_1 a0_2 a1_0 a2 a3).bind fun t354 => (some (bt351.1, bt351.2.1, bt351.2.2, false, t354)))))) else ((turnstileref05_Admit.f k a0_3 a0_4 a1_1 a1_2 a2 a3).bind fun bt355 => (if bt355.2.2 = true then (some (0, bt355.1, bt355.2.1, true, 0)) else ((turnstileref06_Form.f a0_0 a0_1 a0_2 a0_3 a0_4 a1_0 a1_1 a1_2).bind fun bt358 => ((turnstileref05_Retry.f k a0_3 a0_4 a1_1 a1_2 a2 a3).bind fun t361 => (some (bt358.1, bt358.2.1, bt358.2.2, false, t361))))))) else (some (0, 0, 0, false, 18446744073709551615)))) = some (r1, r2, r3, r4, r5) := h
  clear h
  replace H := Option.bind_eq_some_iff.mp H
  obtain ⟨t348, A50, H⟩ := H
  replace H : (if t348 = true then (if a0_0 = 1 then ((turnstileref04_Admit.f k a0_1 a0_2 a1_0 a2 a3).bind fun bt349 => (if bt349.2 = true then (some (bt349.1, 0, 0, true, 0)) else ((turnstileref06_Form.f a0_0 a0_1 a0_2 a0_3 a0_4 a1_0 a1_1 a1_2).bind fun bt351 => ((turnstileref04_Retry.f k a0_1 a0_2 a1_0 a2 a3).bind fun t354 => (some (bt351.1, bt351.2.1, bt351.2.2, false, t354)))))) else ((turnstileref05_Admit.f k a0_3 a0_4 a1_1 a1_2 a2 a3).bind fun bt355 => (if bt355.2.2 = true then (some (0, bt355.1, bt355.2.1, true, 0)) else ((turnstileref06_Form.f a0_0 a0_1 a0_2 a0_3 a0_4 a1_0 a1_1 a1_2).bind fun bt358 => ((turnstileref05_Retry.f k a0_3 a0_4 a1_1 a1_2 a2 a3).bind fun t361 => (some (bt358.1, bt358.2.1, bt358.2.2, false, t361))))))) else (some (0, 0, 0, false, 18446744073709551615))) = some (r1, r2, r3, r4, r5) := H
  have A5 := Aside0.mk A50
  clear A50
  by_cases c6 : t348 = true
  · subst c6
    have H1 : (if a0_0 = 1 then ((turnstileref04_Admit.f k a0_1 a0_2 a1_0 a2 a3).bind fun bt349 => (if bt349.2 = true then (some (bt349.1, 0, 0, true, 0)) else ((turnstileref06_Form.f a0_0 a0_1 a0_2 a0_3 a0_4 a1_0 a1_1 a1_2).bind fun bt351 => ((turnstileref04_Retry.f k a0_1 a0_2 a1_0 a2 a3).bind fun t354 => (some (bt351.1, bt351.2.1, bt351.2.2, false, t354)))))) else ((turnstileref05_Admit.f k a0_3 a0_4 a1_1 a1_2 a2 a3).bind fun bt355 => (if bt355.2.2 = true then (some (0, bt355.1, bt355.2.1, true, 0)) else ((turnstileref06_Form.f a0_0 a0_1 a0_2 a0_3 a0_4 a1_0 a1_1 a1_2).bind fun bt358 => ((turnstileref05_Retry.f k a0_3 a0_4 a1_1 a1_2 a2 a3).bind fun t361 => (some (bt358.1, bt358.2.1, bt358.2.2, false, t361))))))) = some (r1, r2, r3, r4, r5) := by rw [if_pos rfl] at H; exact H
    clear H
    have H := H1
    clear H1
    by_cases c7 : a0_0 = 1
    · rw [if_pos c7] at H
      have c7b0 : (a0_0 == 1) = true := beq_iff_eq.mpr c7
      have c7b1 : (a0_0 != 1) = false := bne_eq_false_iff_eq.mpr c7
      clear c7
      replace H := Option.bind_eq_some_iff.mp H
      obtain ⟨⟨t349, t350⟩, A80, H⟩ := H
      replace H : (if t350 = true then (some (t349, 0, 0, true, 0)) else ((turnstileref06_Form.f a0_0 a0_1 a0_2 a0_3 a0_4 a1_0 a1_1 a1_2).bind fun bt351 => ((turnstileref04_Retry.f k a0_1 a0_2 a1_0 a2 a3).bind fun t354 => (some (bt351.1, bt351.2.1, bt351.2.2, false, t354))))) = some (r1, r2, r3, r4, r5) := H
      have A8 := Aside0.mk A80
      clear A80
      by_cases c9 : t350 = true
      · subst c9
        have H1 : (some (t349, 0, 0, true, 0)) = some (r1, r2, r3, r4, r5) := by rw [if_pos rfl] at H; exact H
        clear H
        have H := H1
        clear H1
        simp only [Option.some.injEq, Prod.mk.injEq] at H
        obtain ⟨rfl, rfl, rfl, rfl, rfl⟩ := H
        go_enter Try.func43, Try.ntmps43
        go_wp2_with (first | ((with_reducible refine gate_dst (N := 4) rfl ?_); refine bx 4 #[.int .i64 a0_0, .int .u64 a0_1, .int .u64 a0_2, .int .u64 a0_3, .int .u64 a0_4] 27 ?_; intro gb345 hg w10 hbox hb; have n0_ := bs HB hb; have n1_ := Aside0.mk (hbox); have n2_ := sz HB hg; have n3_ := sz HB hg; clear HB; have HB := n0_; have BK345 := n1_; have GW345 := n2_; have GE345 := n3_; clear n0_ n1_ n2_ n3_; clear hb hbox hg) | ((with_reducible refine gate_dst (N := 5) rfl ?_); refine bx 5 #[.int .u64 a1_0, .int .u64 a1_1, .int .u64 a1_2] 29 ?_; intro gb346 hg w11 hbox hb; have n0_ := bb BK345 hb; have n1_ := bs HB hb; have n2_ := Aside0.mk (hbox); have n3_ := sz HB hg; have n4_ := sz HB hg; have n5_ := nl BK345 hg; have n6_ := nr BK345 hg; clear BK345; clear HB; have BK345 := n0_; have HB := n1_; have BK346 := n2_; have GW346 := n3_; have GE346 := n4_; have NB345_346 := n5_; have NB346_345 := n6_; clear n0_ n1_ n2_ n3_ n4_ n5_ n6_; clear hb hbox hg) | ((with_reducible refine gate_dst (N := 8) rfl ?_); refine bx 8 #[.int .u64 0, .int .u64 0, .int .u64 0] 29 ?_; intro gb347 hg w12 hbox hb; have n0_ := bb BK345 hb; have n1_ := bb BK346 hb; have n2_ := bs HB hb; have n3_ := Aside0.mk (hbox); have n4_ := sz HB hg; have n5_ := sz HB hg; have n6_ := nl BK345 hg; have n7_ := nr BK345 hg; have n8_ := nl BK346 hg; have n9_ := nr BK346 hg; clear BK345; clear BK346; clear HB; have BK345 := n0_; have BK346 := n1_; have HB := n2_; have BK347 := n3_; have GW347 := n4_; have GE347 := n5_; have NB345_347 := n6_; have NB347_345 := n7_; have NB346_347 := n8_; have NB347_346 := n9_; clear n0_ n1_ n2_ n3_ n4_ n5_ n6_ n7_ n8_ n9_; clear hb hbox hg; have hnb13 := NB345_346.out; have hnc13 := NB346_345.out; have hnb14 := NB345_347.out; have hnc14 := NB347_345.out; obtain ⟨hcz15_0, hcz15_1, hcz15_2, hcz15_3, hcz15_4, hfz15_0, hfz15_1, hfz15_2, hfz15_3, hfz15_4⟩ := bc5 BK345) | ((with_reducible refine gate_callee (f := 41) rfl ?_); refine gm (some 17) Try.func41 #[.agg #[.int .i64 a0_0, .int .u64 a0_1, .int .u64 a0_2, .int .u64 a0_3, .int .u64 a0_4]] (turnstileref06_Valid.calls a0_0 a0_1 a0_2 a0_3 a0_4 true _ A5.out) ?_; intro w16 hb; have n0_ := bb BK345 hb; have n1_ := bb BK346 hb; have n2_ := bb BK347 hb; have n3_ := bs HB hb; clear BK345; clear BK346; clear BK347; clear HB; have BK345 := n0_; have BK346 := n1_; have BK347 := n2_; have HB := n3_; clear n0_ n1_ n2_ n3_; (try clear hb); (try clear hb2); (try clear hk); (try clear hi); obtain ⟨hcz17_0, hcz17_1, hcz17_2, hcz17_3, hcz17_4, hfz17_0, hfz17_1, hfz17_2, hfz17_3, hfz17_4⟩ := bc5 BK345; have hnb18 := NB346_347.out; have hnc18 := NB347_346.out; obtain ⟨hcz19_0, hcz19_1, hcz19_2, hfz19_0, hfz19_1, hfz19_2⟩ := bc3 BK346) | ((with_reducible refine gate_callee (f := 62) rfl ?_); refine gm (some 32) Try.func62 #[.int .u64 a0_1, .int .u64 a0_2, .int .u64 a1_0, .int .u64 a2, .int .u64 a3] (turnstileref04_Admit.calls k a0_1 a0_2 a1_0 a2 a3 t349 true _ A8.out) ?_; intro w20 hb; have n0_ := bb BK345 hb; have n1_ := bb BK346 hb; have n2_ := bb BK347 hb; have n3_ := bs HB hb; clear BK345; clear BK346; clear BK347; clear HB; have BK345 := n0_; have BK346 := n1_; have BK347 := n2_; have HB := n3_; clear n0_ n1_ n2_ n3_; (try clear hb); (try clear hb2); (try clear hk); (try clear hi); obtain ⟨hcz21_0, hcz21_1, hcz21_2, hfz21_0, hfz21_1, hfz21_2⟩ := bc3 BK347))
        refine bodyPost_ret (results_ctt rfl _ _ gb347 29 #[.int .u64 t349, .int .u64 0, .int .u64 0] (0, 0) _ rfl (bk BK347) Try.underlying29 rfl (by kernel_rfl)) rfl ?_
        exact ⟨re, bw HB⟩
      · replace c9 := Bool.eq_false_iff.mpr c9
        subst c9
        have H1 : ((turnstileref06_Form.f a0_0 a0_1 a0_2 a0_3 a0_4 a1_0 a1_1 a1_2).bind fun bt351 => ((turnstileref04_Retry.f k a0_1 a0_2 a1_0 a2 a3).bind fun t354 => (some (bt351.1, bt351.2.1, bt351.2.2, false, t354)))) = some (r1, r2, r3, r4, r5) := by rw [if_neg (show ¬ (false = true) by decide)] at H; exact H
        clear H
        have H := H1
        clear H1
        replace H := Option.bind_eq_some_iff.mp H
        obtain ⟨⟨t351, t352, t353⟩, A220, H⟩ := H
        replace H : ((turnstileref04_Retry.f k a0_1 a0_2 a1_0 a2 a3).bind fun t354 => (some (t351, t352, t353, false, t354))) = some (r1, r2, r3, r4, r5) := H
        have A22 := Aside0.mk A220
        clear A220
        replace H := Option.bind_eq_some_iff.mp H
        obtain ⟨t354, A230, H⟩ := H
        replace H : (some (t351, t352, t353, false, t354)) = some (r1, r2, r3, r4, r5) := H
        have A23 := Aside0.mk A230
        clear A230
        simp only [Option.some.injEq, Prod.mk.injEq] at H
        obtain ⟨rfl, rfl, rfl, rfl, rfl⟩ := H
        go_enter Try.func43, Try.ntmps43
        try go_wp2_with (first | ((with_reducible refine gate_dst (N := 4) rfl ?_); refine bx 4 #[.int .i64 a0_0, .int .u64 a0_1, .int .u64 a0_2, .int .u64 a0_3, .int .u64 a0_4] 27 ?_; intro gb345 hg w24 hbox hb; have n0_ := bs HB hb; have n1_ := Aside0.mk (hbox); have n2_ := sz HB hg; have n3_ := sz HB hg; clear HB; have HB := n0_; have BK345 := n1_; have GW345 := n2_; have GE345 := n3_; clear n0_ n1_ n2_ n3_; clear hb hbox hg) | ((with_reducible refine gate_dst (N := 5) rfl ?_); refine bx 5 #[.int .u64 a1_0, .int .u64 a1_1, .int .u64 a1_2] 29 ?_; intro gb346 hg w25 hbox hb; have n0_ := bb BK345 hb; have n1_ := bs HB hb; have n2_ := Aside0.mk (hbox); have n3_ := sz HB hg; have n4_ := sz HB hg; have n5_ := nl BK345 hg; have n6_ := nr BK345 hg; clear BK345; clear HB; have BK345 := n0_; have HB := n1_; have BK346 := n2_; have GW346 := n3_; have GE346 := n4_; have NB345_346 := n5_; have NB346_345 := n6_; clear n0_ n1_ n2_ n3_ n4_ n5_ n6_; clear hb hbox hg) | ((with_reducible refine gate_dst (N := 8) rfl ?_); refine bx 8 #[.int .u64 0, .int .u64 0, .int .u64 0] 29 ?_; intro gb347 hg w26 hbox hb; have n0_ := bb BK345 hb; have n1_ := bb BK346 hb; have n2_ := bs HB hb; have n3_ := Aside0.mk (hbox); have n4_ := sz HB hg; have n5_ := sz HB hg; have n6_ := nl BK345 hg; have n7_ := nr BK345 hg; have n8_ := nl BK346 hg; have n9_ := nr BK346 hg; clear BK345; clear BK346; clear HB; have BK345 := n0_; have BK346 := n1_; have HB := n2_; have BK347 := n3_; have GW347 := n4_; have GE347 := n5_; have NB345_347 := n6_; have NB347_345 := n7_; have NB346_347 := n8_; have NB347_346 := n9_; clear n0_ n1_ n2_ n3_ n4_ n5_ n6_ n7_ n8_ n9_; clear hb hbox hg; have hnb27 := NB345_346.out; have hnc27 := NB346_345.out; have hnb28 := NB345_347.out; have hnc28 := NB347_345.out; obtain ⟨hcz29_0, hcz29_1, hcz29_2, hcz29_3, hcz29_4, hfz29_0, hfz29_1, hfz29_2, hfz29_3, hfz29_4⟩ := bc5 BK345) | ((with_reducible refine gate_callee (f := 41) rfl ?_); refine gm (some 17) Try.func41 #[.agg #[.int .i64 a0_0, .int .u64 a0_1, .int .u64 a0_2, .int .u64 a0_3, .int .u64 a0_4]] (turnstileref06_Valid.calls a0_0 a0_1 a0_2 a0_3 a0_4 true _ A5.out) ?_; intro w30 hb; have n0_ := bb BK345 hb; have n1_ := bb BK346 hb; have n2_ := bb BK347 hb; have n3_ := bs HB hb; clear BK345; clear BK346; clear BK347; clear HB; have BK345 := n0_; have BK346 := n1_; have BK347 := n2_; have HB := n3_; clear n0_ n1_ n2_ n3_; (try clear hb); (try clear hb2); (try clear hk); (try clear hi); obtain ⟨hcz31_0, hcz31_1, hcz31_2, hcz31_3, hcz31_4, hfz31_0, hfz31_1, hfz31_2, hfz31_3, hfz31_4⟩ := bc5 BK345; have hnb32 := NB346_347.out; have hnc32 := NB347_346.out; obtain ⟨hcz33_0, hcz33_1, hcz33_2, hfz33_0, hfz33_1, hfz33_2⟩ := bc3 BK346) | ((with_reducible refine gate_callee (f := 62) rfl ?_); refine gm (some 32) Try.func62 #[.int .u64 a0_1, .int .u64 a0_2, .int .u64 a1_0, .int .u64 a2, .int .u64 a3] (turnstileref04_Admit.calls k a0_1 a0_2 a1_0 a2 a3 t349 false _ A8.out) ?_; intro w34 hb; have n0_ := bb BK345 hb; have n1_ := bb BK346 hb; have n2_ := bb BK347 hb; have n3_ := bs HB hb; clear BK345; clear BK346; clear BK347; clear HB; have BK345 := n0_; have BK346 := n1_; have BK347 := n2_; have HB := n3_; clear n0_ n1_ n2_ n3_; (try clear hb); (try clear hb2); (try clear hk); (try clear hi)))
        have n0_ := Aside0.mk (blk_drew BK345.out)
        have n1_ := Aside0.mk (blk_drew BK346.out)
        have n2_ := Aside0.mk (blk_drew BK347.out)
        have n3_ := Aside0.mk (below_drew1 HB.out)
        clear BK345
        clear BK346
        clear BK347
        clear HB
        have BK345 := n0_
        have BK346 := n1_
        have BK347 := n2_
        have HB := n3_
        clear n0_ n1_ n2_ n3_
        refine start_ (n := 15) (S := fun w' => w'.cell? ⟨gb345, 0, none⟩ = some (.int .i64 a0_0) ∧ w'.cell? ⟨gb345, 1, none⟩ = some (.int .u64 a0_1) ∧ w'.cell? ⟨gb345, 2, none⟩ = some (.int .u64 a0_2) ∧ w'.cell? ⟨gb345, 3, none⟩ = some (.int .u64 a0_3) ∧ w'.cell? ⟨gb345, 4, none⟩ = some (.int .u64 a0_4) ∧ w'.cell? ⟨gb346, 0, none⟩ = some (.int .u64 a1_0) ∧ w'.cell? ⟨gb346, 1, none⟩ = some (.int .u64 a1_1) ∧ w'.cell? ⟨gb346, 2, none⟩ = some (.int .u64 a1_2)) (ds := []) #[false, false, false, false, false, false, false, false, false, false, false, false, false, false, false] (by kernel_rfl) rfl rfl ⟨(blk_cell BK345.out 0).trans rfl, (blk_cell BK345.out 1).trans rfl, (blk_cell BK345.out 2).trans rfl, (blk_cell BK345.out 3).trans rfl, (blk_cell BK345.out 4).trans rfl, (blk_cell BK346.out 0).trans rfl, (blk_cell BK346.out 1).trans rfl, (blk_cell BK346.out 2).trans rfl⟩ (fun hHeld => ?_); refine with_tabW turnstileref06_Admit.tab7 turnstileref06_Admit.bits7 (fun HT_ HW_ => ?_)
        generalize w34.drew = w35 at BK345 BK346 BK347 HB hHeld ⊢
        refine chain_ (fuel := 5) [(3, 0, some 41), (5, 0, some 43), (7, 0, some 45), (9, 0, some 47), (10, 0, some 48), (0, 1, some 38), (1, 1, some 39), (4, 1, some 42), (6, 1, some 44), (8, 1, some 46)] #[true, true, false, true, true, true, true, true, true, true, true, false, false, false, false] HT_.out HW_.out (by kernel_rfl) (fun _ _ _ _ _ h => h) (Or.inr hHeld) rfl ?_
        (iterate 5 refine lkP ?_); (iterate 5 refine lkT ?_); refine .nil ?_
        refine one_ (i := 2) (N := some 40) #[true, true, true, true, true, true, true, true, true, true, true, false, false, false, false] rfl rfl (one_of HT_.out (by kernel_rfl)) (by decide) (fun K hK => ?_)
        refine ge Try.func61 #[.agg #[.int .i64 a0_0, .int .u64 a0_1, .int .u64 a0_2, .int .u64 a0_3, .int .u64 a0_4], .agg #[.int .u64 a1_0, .int .u64 a1_1, .int .u64 a1_2]] ?_
        with_reducible refine (turnstileref06_Form.calls a0_0 a0_1 a0_2 a0_3 a0_4 a1_0 a1_1 a1_2 t351 t352 t353 _ A22.out).mono ?_
        rintro e w36 ⟨rfl, hb⟩
        refine ⟨_, rfl, ?_⟩
        have n0_ := bb BK345 hb
        have n1_ := bb BK346 hb
        have n2_ := bb BK347 hb
        have n3_ := bs HB hb
        clear BK345
        clear BK346
        clear BK347
        clear HB
        have BK345 := n0_
        have BK346 := n1_
        have BK347 := n2_
        have HB := n3_
        clear n0_ n1_ n2_ n3_
        (try clear hb)
        (try clear hb2)
        (try clear hk)
        (try clear hi)
        refine hK.out _ _ ⟨(blk_cell BK345.out 0).trans rfl, (blk_cell BK345.out 1).trans rfl, (blk_cell BK345.out 2).trans rfl, (blk_cell BK345.out 3).trans rfl, (blk_cell BK345.out 4).trans rfl, (blk_cell BK346.out 0).trans rfl, (blk_cell BK346.out 1).trans rfl, (blk_cell BK346.out 2).trans rfl⟩ (fun hHeld => ?_)
        clear hK K
        refine norm_ (a' := ?_) ?_ ?_
        rotate_left
        · show Act.put _ (some 40) _ = _
          simp only [Act.put, List.setIfInBounds_toArray, List.set_cons_zero, List.set_cons_succ, i64_w, i32_w]
          rfl
        refine one_ (i := 11) (N := some 49) #[true, true, true, true, true, true, true, true, true, true, true, true, false, false, false] rfl rfl (one_of HT_.out (by kernel_rfl)) (by decide) (fun K hK => ?_)
        refine ge Try.func63 #[.int .u64 a0_1, .int .u64 a0_2, .int .u64 a1_0, .int .u64 a2, .int .u64 a3] ?_
        with_reducible refine (turnstileref04_Retry.calls k a0_1 a0_2 a1_0 a2 a3 t354 _ A23.out).mono ?_
        rintro e w37 ⟨rfl, hb⟩
        refine ⟨_, rfl, ?_⟩
        have n0_ := bb BK345 hb
        have n1_ := bb BK346 hb
        have n2_ := bb BK347 hb
        have n3_ := bs HB hb
        clear BK345
        clear BK346
        clear BK347
        clear HB
        have BK345 := n0_
        have BK346 := n1_
        have BK347 := n2_
        have HB := n3_
        clear n0_ n1_ n2_ n3_
        (try clear hb)
        (try clear hb2)
        (try clear hk)
        (try clear hi)
        refine hK.out _ _ ⟨(blk_cell BK345.out 0).trans rfl, (blk_cell BK345.out 1).trans rfl, (blk_cell BK345.out 2).trans rfl, (blk_cell BK345.out 3).trans rfl, (blk_cell BK345.out 4).trans rfl, (blk_cell BK346.out 0).trans rfl, (blk_cell BK346.out 1).trans rfl, (blk_cell BK346.out 2).trans rfl⟩ (fun hHeld => ?_)
        clear hK K
        refine norm_ (a' := ?_) ?_ ?_
        rotate_left
        · show Act.put _ (some 49) _ = _
          simp only [Act.put, List.setIfInBounds_toArray, List.set_cons_zero, List.set_cons_succ, i64_w, i32_w]
          rfl
        refine one_ (i := 12) (N := none) #[true, true, true, true, true, true, true, true, true, true, true, true, true, false, false] rfl rfl (one_of HT_.out (by kernel_rfl)) (by decide) (fun K hK => ?_)
        have hs38 : w37.cell? ⟨gb347, 0, none⟩ = some (.int .u64 0) := (blk_cell BK347.out 0).trans rfl
        have hfs38 := blk_frozen BK347.out 0
        have hns38_0 := NB345_347.out
        have hns38_1 := NB346_347.out
        have hms38_0 := NB347_345.out
        have hms38_1 := NB347_346.out
        have hs39 : w37.cell? ⟨gb347, 1, none⟩ = some (.int .u64 0) := (blk_cell BK347.out 1).trans rfl
        have hfs39 := blk_frozen BK347.out 1
        have hns39_0 := NB345_347.out
        have hns39_1 := NB346_347.out
        have hms39_0 := NB347_345.out
        have hms39_1 := NB347_346.out
        have hs40 : w37.cell? ⟨gb347, 2, none⟩ = some (.int .u64 0) := (blk_cell BK347.out 2).trans rfl
        have hfs40 := blk_frozen BK347.out 2
        have hns40_0 := NB345_347.out
        have hns40_1 := NB346_347.out
        have hms40_0 := NB347_345.out
        have hms40_1 := NB347_346.out
        refine skip_ (w1 := ?_) (by rfl) rfl ?_ ?_
        rotate_left
        · go_simp
          rfl
        refine hK.out _ _ ⟨((cell_far (p := ⟨gb347, _, none⟩) NB345_347.out _).trans (((cell_far (p := ⟨gb347, _, none⟩) NB345_347.out _).trans (((cell_far (p := ⟨gb347, _, none⟩) NB345_347.out _).trans (hHeld.1)))))), ((cell_far (p := ⟨gb347, _, none⟩) NB345_347.out _).trans (((cell_far (p := ⟨gb347, _, none⟩) NB345_347.out _).trans (((cell_far (p := ⟨gb347, _, none⟩) NB345_347.out _).trans (hHeld.2.1)))))), ((cell_far (p := ⟨gb347, _, none⟩) NB345_347.out _).trans (((cell_far (p := ⟨gb347, _, none⟩) NB345_347.out _).trans (((cell_far (p := ⟨gb347, _, none⟩) NB345_347.out _).trans (hHeld.2.2.1)))))), ((cell_far (p := ⟨gb347, _, none⟩) NB345_347.out _).trans (((cell_far (p := ⟨gb347, _, none⟩) NB345_347.out _).trans (((cell_far (p := ⟨gb347, _, none⟩) NB345_347.out _).trans (hHeld.2.2.2.1)))))), ((cell_far (p := ⟨gb347, _, none⟩) NB345_347.out _).trans (((cell_far (p := ⟨gb347, _, none⟩) NB345_347.out _).trans (((cell_far (p := ⟨gb347, _, none⟩) NB345_347.out _).trans (hHeld.2.2.2.2.1)))))), ((cell_far (p := ⟨gb347, _, none⟩) NB346_347.out _).trans (((cell_far (p := ⟨gb347, _, none⟩) NB346_347.out _).trans (((cell_far (p := ⟨gb347, _, none⟩) NB346_347.out _).trans (hHeld.2.2.2.2.2.1)))))), ((cell_far (p := ⟨gb347, _, none⟩) NB346_347.out _).trans (((cell_far (p := ⟨gb347, _, none⟩) NB346_347.out _).trans (((cell_far (p := ⟨gb347, _, none⟩) NB346_347.out _).trans (hHeld.2.2.2.2.2.2.1)))))), ((cell_far (p := ⟨gb347, _, none⟩) NB346_347.out _).trans (((cell_far (p := ⟨gb347, _, none⟩) NB346_347.out _).trans (((cell_far (p := ⟨gb347, _, none⟩) NB346_347.out _).trans (hHeld.2.2.2.2.2.2.2))))))⟩ (fun hHeld => ?_)
        clear hK K
        refine chain_ (fuel := 0) [(13, 0, some 9), (14, 0, some 10)] #[true, true, true, true, true, true, true, true, true, true, true, true, true, true, true] HT_.out HW_.out (by kernel_rfl) (fun _ _ _ _ _ h => h) (Or.inl (by decide)) rfl ?_
        (iterate 2 refine lkP ?_); refine .nil ?_
        refine done_ (done_of HT_.out (by kernel_rfl)) ?_
        try go_wp2
        refine bodyPost_ret (results_ctt rfl _ _ gb347 29 #[.int .u64 t351, .int .u64 t352, .int .u64 t353] (0, 0) _ rfl (bk BK347) Try.underlying29 rfl (by kernel_rfl)) rfl ?_
        exact ⟨re, bw HB⟩
    · rw [if_neg c7] at H
      have c7b0 : (a0_0 == 1) = false := beq_eq_false_iff_ne.mpr c7
      have c7b1 : (a0_0 != 1) = true := bne_iff_ne.mpr c7
      replace H := Option.bind_eq_some_iff.mp H
      obtain ⟨⟨t355, t356, t357⟩, A410, H⟩ := H
      replace H : (if t357 = true then (some (0, t355, t356, true, 0)) else ((turnstileref06_Form.f a0_0 a0_1 a0_2 a0_3 a0_4 a1_0 a1_1 a1_2).bind fun bt358 => ((turnstileref05_Retry.f k a0_3 a0_4 a1_1 a1_2 a2 a3).bind fun t361 => (some (bt358.1, bt358.2.1, bt358.2.2, false, t361))))) = some (r1, r2, r3, r4, r5) := H
      have A41 := Aside0.mk A410
      clear A410
      by_cases c42 : t357 = true
      · subst c42
        have H1 : (some (0, t355, t356, true, 0)) = some (r1, r2, r3, r4, r5) := by rw [if_pos rfl] at H; exact H
        clear H
        have H := H1
        clear H1
        simp only [Option.some.injEq, Prod.mk.injEq] at H
        obtain ⟨rfl, rfl, rfl, rfl, rfl⟩ := H
        go_enter Try.func43, Try.ntmps43
        go_wp2_with (first | ((with_reducible refine gate_dst (N := 4) rfl ?_); refine bx 4 #[.int .i64 a0_0, .int .u64 a0_1, .int .u64 a0_2, .int .u64 a0_3, .int .u64 a0_4] 27 ?_; intro gb345 hg w43 hbox hb; have n0_ := bs HB hb; have n1_ := Aside0.mk (hbox); have n2_ := sz HB hg; have n3_ := sz HB hg; clear HB; have HB := n0_; have BK345 := n1_; have GW345 := n2_; have GE345 := n3_; clear n0_ n1_ n2_ n3_; clear hb hbox hg) | ((with_reducible refine gate_dst (N := 5) rfl ?_); refine bx 5 #[.int .u64 a1_0, .int .u64 a1_1, .int .u64 a1_2] 29 ?_; intro gb346 hg w44 hbox hb; have n0_ := bb BK345 hb; have n1_ := bs HB hb; have n2_ := Aside0.mk (hbox); have n3_ := sz HB hg; have n4_ := sz HB hg; have n5_ := nl BK345 hg; have n6_ := nr BK345 hg; clear BK345; clear HB; have BK345 := n0_; have HB := n1_; have BK346 := n2_; have GW346 := n3_; have GE346 := n4_; have NB345_346 := n5_; have NB346_345 := n6_; clear n0_ n1_ n2_ n3_ n4_ n5_ n6_; clear hb hbox hg) | ((with_reducible refine gate_dst (N := 8) rfl ?_); refine bx 8 #[.int .u64 0, .int .u64 0, .int .u64 0] 29 ?_; intro gb347 hg w45 hbox hb; have n0_ := bb BK345 hb; have n1_ := bb BK346 hb; have n2_ := bs HB hb; have n3_ := Aside0.mk (hbox); have n4_ := sz HB hg; have n5_ := sz HB hg; have n6_ := nl BK345 hg; have n7_ := nr BK345 hg; have n8_ := nl BK346 hg; have n9_ := nr BK346 hg; clear BK345; clear BK346; clear HB; have BK345 := n0_; have BK346 := n1_; have HB := n2_; have BK347 := n3_; have GW347 := n4_; have GE347 := n5_; have NB345_347 := n6_; have NB347_345 := n7_; have NB346_347 := n8_; have NB347_346 := n9_; clear n0_ n1_ n2_ n3_ n4_ n5_ n6_ n7_ n8_ n9_; clear hb hbox hg; have hnb46 := NB345_346.out; have hnc46 := NB346_345.out; have hnb47 := NB345_347.out; have hnc47 := NB347_345.out; obtain ⟨hcz48_0, hcz48_1, hcz48_2, hcz48_3, hcz48_4, hfz48_0, hfz48_1, hfz48_2, hfz48_3, hfz48_4⟩ := bc5 BK345) | ((with_reducible refine gate_callee (f := 41) rfl ?_); refine gm (some 17) Try.func41 #[.agg #[.int .i64 a0_0, .int .u64 a0_1, .int .u64 a0_2, .int .u64 a0_3, .int .u64 a0_4]] (turnstileref06_Valid.calls a0_0 a0_1 a0_2 a0_3 a0_4 true _ A5.out) ?_; intro w49 hb; have n0_ := bb BK345 hb; have n1_ := bb BK346 hb; have n2_ := bb BK347 hb; have n3_ := bs HB hb; clear BK345; clear BK346; clear BK347; clear HB; have BK345 := n0_; have BK346 := n1_; have BK347 := n2_; have HB := n3_; clear n0_ n1_ n2_ n3_; (try clear hb); (try clear hb2); (try clear hk); (try clear hi); obtain ⟨hcz50_0, hcz50_1, hcz50_2, hcz50_3, hcz50_4, hfz50_0, hfz50_1, hfz50_2, hfz50_3, hfz50_4⟩ := bc5 BK345; have hnb51 := NB346_347.out; have hnc51 := NB347_346.out; obtain ⟨hcz52_0, hcz52_1, hcz52_2, hfz52_0, hfz52_1, hfz52_2⟩ := bc3 BK346) | ((with_reducible refine gate_callee (f := 64) rfl ?_); refine gl (some 61) Try.func64 #[.int .u64 a0_3, .int .u64 a0_4, .int .u64 a1_1, .int .u64 a1_2, .int .u64 a2, .int .u64 a3] ?_; (with_reducible refine (turnstileref05_Admit.calls k a0_3 a0_4 a1_1 a1_2 a2 a3 t355 t356 true _ A41.out).mono ?_); rintro e w' ⟨rfl, ⟨nd, rfl⟩⟩; refine ⟨_, rfl, ?_⟩; (try (rw [drewN_self w49]; generalize hq_ : World.drewN w49 _ = w49; have n0_ : Aside0 (w49.heap[gb345]? = some (.cells #[.int .i64 a0_0, .int .u64 a0_1, .int .u64 a0_2, .int .u64 a0_3, .int .u64 a0_4] 27 (0, 0))) := ⟨by rw [← hq_]; exact (bk BK345)⟩; have n1_ : Aside0 (w49.heap[gb346]? = some (.cells #[.int .u64 a1_0, .int .u64 a1_1, .int .u64 a1_2] 29 (0, 0))) := ⟨by rw [← hq_]; exact (bk BK346)⟩; have n2_ : Aside0 (w49.heap[gb347]? = some (.cells #[.int .u64 0, .int .u64 0, .int .u64 0] 29 (0, 0))) := ⟨by rw [← hq_]; exact (bk BK347)⟩; have n3_ : Aside0 (Below w.heap.size w w49) := ⟨by rw [← hq_]; exact (bw HB)⟩; clear BK345 BK346 BK347 HB hq_; have BK345 := n0_; have BK346 := n1_; have BK347 := n2_; have HB := n3_; clear n0_ n1_ n2_ n3_)); obtain ⟨hcz53_0, hcz53_1, hcz53_2, hfz53_0, hfz53_1, hfz53_2⟩ := bc3 BK347))
        refine bodyPost_ret (results_ctt rfl _ _ gb347 29 #[.int .u64 0, .int .u64 t355, .int .u64 t356] (0, 0) _ rfl (bk BK347) Try.underlying29 rfl (by kernel_rfl)) rfl ?_
        exact ⟨re, bw HB⟩
      · replace c42 := Bool.eq_false_iff.mpr c42
        subst c42
        have H1 : ((turnstileref06_Form.f a0_0 a0_1 a0_2 a0_3 a0_4 a1_0 a1_1 a1_2).bind fun bt358 => ((turnstileref05_Retry.f k a0_3 a0_4 a1_1 a1_2 a2 a3).bind fun t361 => (some (bt358.1, bt358.2.1, bt358.2.2, false, t361)))) = some (r1, r2, r3, r4, r5) := by rw [if_neg (show ¬ (false = true) by decide)] at H; exact H
        clear H
        have H := H1
        clear H1
        replace H := Option.bind_eq_some_iff.mp H
        obtain ⟨⟨t358, t359, t360⟩, A540, H⟩ := H
        replace H : ((turnstileref05_Retry.f k a0_3 a0_4 a1_1 a1_2 a2 a3).bind fun t361 => (some (t358, t359, t360, false, t361))) = some (r1, r2, r3, r4, r5) := H
        have A54 := Aside0.mk A540
        clear A540
        replace H := Option.bind_eq_some_iff.mp H
        obtain ⟨t361, A550, H⟩ := H
        replace H : (some (t358, t359, t360, false, t361)) = some (r1, r2, r3, r4, r5) := H
        have A55 := Aside0.mk A550
        clear A550
        simp only [Option.some.injEq, Prod.mk.injEq] at H
        obtain ⟨rfl, rfl, rfl, rfl, rfl⟩ := H
        go_enter Try.func43, Try.ntmps43
        try go_wp2_with (first | ((with_reducible refine gate_dst (N := 4) rfl ?_); refine bx 4 #[.int .i64 a0_0, .int .u64 a0_1, .int .u64 a0_2, .int .u64 a0_3, .int .u64 a0_4] 27 ?_; intro gb345 hg w56 hbox hb; have n0_ := bs HB hb; have n1_ := Aside0.mk (hbox); have n2_ := sz HB hg; have n3_ := sz HB hg; clear HB; have HB := n0_; have BK345 := n1_; have GW345 := n2_; have GE345 := n3_; clear n0_ n1_ n2_ n3_; clear hb hbox hg) | ((with_reducible refine gate_dst (N := 5) rfl ?_); refine bx 5 #[.int .u64 a1_0, .int .u64 a1_1, .int .u64 a1_2] 29 ?_; intro gb346 hg w57 hbox hb; have n0_ := bb BK345 hb; have n1_ := bs HB hb; have n2_ := Aside0.mk (hbox); have n3_ := sz HB hg; have n4_ := sz HB hg; have n5_ := nl BK345 hg; have n6_ := nr BK345 hg; clear BK345; clear HB; have BK345 := n0_; have HB := n1_; have BK346 := n2_; have GW346 := n3_; have GE346 := n4_; have NB345_346 := n5_; have NB346_345 := n6_; clear n0_ n1_ n2_ n3_ n4_ n5_ n6_; clear hb hbox hg) | ((with_reducible refine gate_dst (N := 8) rfl ?_); refine bx 8 #[.int .u64 0, .int .u64 0, .int .u64 0] 29 ?_; intro gb347 hg w58 hbox hb; have n0_ := bb BK345 hb; have n1_ := bb BK346 hb; have n2_ := bs HB hb; have n3_ := Aside0.mk (hbox); have n4_ := sz HB hg; have n5_ := sz HB hg; have n6_ := nl BK345 hg; have n7_ := nr BK345 hg; have n8_ := nl BK346 hg; have n9_ := nr BK346 hg; clear BK345; clear BK346; clear HB; have BK345 := n0_; have BK346 := n1_; have HB := n2_; have BK347 := n3_; have GW347 := n4_; have GE347 := n5_; have NB345_347 := n6_; have NB347_345 := n7_; have NB346_347 := n8_; have NB347_346 := n9_; clear n0_ n1_ n2_ n3_ n4_ n5_ n6_ n7_ n8_ n9_; clear hb hbox hg; have hnb59 := NB345_346.out; have hnc59 := NB346_345.out; have hnb60 := NB345_347.out; have hnc60 := NB347_345.out; obtain ⟨hcz61_0, hcz61_1, hcz61_2, hcz61_3, hcz61_4, hfz61_0, hfz61_1, hfz61_2, hfz61_3, hfz61_4⟩ := bc5 BK345) | ((with_reducible refine gate_callee (f := 41) rfl ?_); refine gm (some 17) Try.func41 #[.agg #[.int .i64 a0_0, .int .u64 a0_1, .int .u64 a0_2, .int .u64 a0_3, .int .u64 a0_4]] (turnstileref06_Valid.calls a0_0 a0_1 a0_2 a0_3 a0_4 true _ A5.out) ?_; intro w62 hb; have n0_ := bb BK345 hb; have n1_ := bb BK346 hb; have n2_ := bb BK347 hb; have n3_ := bs HB hb; clear BK345; clear BK346; clear BK347; clear HB; have BK345 := n0_; have BK346 := n1_; have BK347 := n2_; have HB := n3_; clear n0_ n1_ n2_ n3_; (try clear hb); (try clear hb2); (try clear hk); (try clear hi); obtain ⟨hcz63_0, hcz63_1, hcz63_2, hcz63_3, hcz63_4, hfz63_0, hfz63_1, hfz63_2, hfz63_3, hfz63_4⟩ := bc5 BK345; have hnb64 := NB346_347.out; have hnc64 := NB347_346.out; obtain ⟨hcz65_0, hcz65_1, hcz65_2, hfz65_0, hfz65_1, hfz65_2⟩ := bc3 BK346) | ((with_reducible refine gate_callee (f := 64) rfl ?_); refine gl (some 61) Try.func64 #[.int .u64 a0_3, .int .u64 a0_4, .int .u64 a1_1, .int .u64 a1_2, .int .u64 a2, .int .u64 a3] ?_; (with_reducible refine (turnstileref05_Admit.calls k a0_3 a0_4 a1_1 a1_2 a2 a3 t355 t356 false _ A41.out).mono ?_); rintro e w' ⟨rfl, ⟨nd, rfl⟩⟩; refine ⟨_, rfl, ?_⟩; (try (rw [drewN_self w62]; generalize hq_ : World.drewN w62 _ = w62; have n0_ : Aside0 (w62.heap[gb345]? = some (.cells #[.int .i64 a0_0, .int .u64 a0_1, .int .u64 a0_2, .int .u64 a0_3, .int .u64 a0_4] 27 (0, 0))) := ⟨by rw [← hq_]; exact (bk BK345)⟩; have n1_ : Aside0 (w62.heap[gb346]? = some (.cells #[.int .u64 a1_0, .int .u64 a1_1, .int .u64 a1_2] 29 (0, 0))) := ⟨by rw [← hq_]; exact (bk BK346)⟩; have n2_ : Aside0 (w62.heap[gb347]? = some (.cells #[.int .u64 0, .int .u64 0, .int .u64 0] 29 (0, 0))) := ⟨by rw [← hq_]; exact (bk BK347)⟩; have n3_ : Aside0 (Below w.heap.size w w62) := ⟨by rw [← hq_]; exact (bw HB)⟩; clear BK345 BK346 BK347 HB hq_; have BK345 := n0_; have BK346 := n1_; have BK347 := n2_; have HB := n3_; clear n0_ n1_ n2_ n3_))))
        have n0_ := Aside0.mk (blk_drew BK345.out)
        have n1_ := Aside0.mk (blk_drew BK346.out)
        have n2_ := Aside0.mk (blk_drew BK347.out)
        have n3_ := Aside0.mk (below_drew1 HB.out)
        clear BK345
        clear BK346
        clear BK347
        clear HB
        have BK345 := n0_
        have BK346 := n1_
        have BK347 := n2_
        have HB := n3_
        clear n0_ n1_ n2_ n3_
        refine start_ (n := 17) (S := fun w' => w'.cell? ⟨gb345, 0, none⟩ = some (.int .i64 a0_0) ∧ w'.cell? ⟨gb345, 1, none⟩ = some (.int .u64 a0_1) ∧ w'.cell? ⟨gb345, 2, none⟩ = some (.int .u64 a0_2) ∧ w'.cell? ⟨gb345, 3, none⟩ = some (.int .u64 a0_3) ∧ w'.cell? ⟨gb345, 4, none⟩ = some (.int .u64 a0_4) ∧ w'.cell? ⟨gb346, 0, none⟩ = some (.int .u64 a1_0) ∧ w'.cell? ⟨gb346, 1, none⟩ = some (.int .u64 a1_1) ∧ w'.cell? ⟨gb346, 2, none⟩ = some (.int .u64 a1_2)) (ds := []) #[false, false, false, false, false, false, false, false, false, false, false, false, false, false, false, false, false] (by kernel_rfl) rfl rfl ⟨(blk_cell BK345.out 0).trans rfl, (blk_cell BK345.out 1).trans rfl, (blk_cell BK345.out 2).trans rfl, (blk_cell BK345.out 3).trans rfl, (blk_cell BK345.out 4).trans rfl, (blk_cell BK346.out 0).trans rfl, (blk_cell BK346.out 1).trans rfl, (blk_cell BK346.out 2).trans rfl⟩ (fun hHeld => ?_); refine with_tabW turnstileref06_Admit.tab11 turnstileref06_Admit.bits11 (fun HT_ HW_ => ?_)
        generalize w62.drew = w66 at BK345 BK346 BK347 HB hHeld ⊢
        refine chain_ (fuel := 5) [(3, 0, some 72), (5, 0, some 74), (7, 0, some 76), (9, 0, some 78), (11, 0, some 80), (12, 0, some 81), (0, 1, some 69), (1, 1, some 70), (4, 1, some 73), (6, 1, some 75), (8, 1, some 77), (10, 1, some 79)] #[true, true, false, true, true, true, true, true, true, true, true, true, true, false, false, false, false] HT_.out HW_.out (by kernel_rfl) (fun _ _ _ _ _ h => h) (Or.inr hHeld) rfl ?_
        (iterate 6 refine lkP ?_); (iterate 6 refine lkT ?_); refine .nil ?_
        refine one_ (i := 2) (N := some 71) #[true, true, true, true, true, true, true, true, true, true, true, true, true, false, false, false, false] rfl rfl (one_of HT_.out (by kernel_rfl)) (by decide) (fun K hK => ?_)
        refine ge Try.func61 #[.agg #[.int .i64 a0_0, .int .u64 a0_1, .int .u64 a0_2, .int .u64 a0_3, .int .u64 a0_4], .agg #[.int .u64 a1_0, .int .u64 a1_1, .int .u64 a1_2]] ?_
        with_reducible refine (turnstileref06_Form.calls a0_0 a0_1 a0_2 a0_3 a0_4 a1_0 a1_1 a1_2 t358 t359 t360 _ A54.out).mono ?_
        rintro e w67 ⟨rfl, hb⟩
        refine ⟨_, rfl, ?_⟩
        have n0_ := bb BK345 hb
        have n1_ := bb BK346 hb
        have n2_ := bb BK347 hb
        have n3_ := bs HB hb
        clear BK345
        clear BK346
        clear BK347
        clear HB
        have BK345 := n0_
        have BK346 := n1_
        have BK347 := n2_
        have HB := n3_
        clear n0_ n1_ n2_ n3_
        (try clear hb)
        (try clear hb2)
        (try clear hk)
        (try clear hi)
        refine hK.out _ _ ⟨(blk_cell BK345.out 0).trans rfl, (blk_cell BK345.out 1).trans rfl, (blk_cell BK345.out 2).trans rfl, (blk_cell BK345.out 3).trans rfl, (blk_cell BK345.out 4).trans rfl, (blk_cell BK346.out 0).trans rfl, (blk_cell BK346.out 1).trans rfl, (blk_cell BK346.out 2).trans rfl⟩ (fun hHeld => ?_)
        clear hK K
        refine norm_ (a' := ?_) ?_ ?_
        rotate_left
        · show Act.put _ (some 71) _ = _
          simp only [Act.put, List.setIfInBounds_toArray, List.set_cons_zero, List.set_cons_succ, i64_w, i32_w]
          rfl
        refine one_ (i := 13) (N := some 82) #[true, true, true, true, true, true, true, true, true, true, true, true, true, true, false, false, false] rfl rfl (one_of HT_.out (by kernel_rfl)) (by decide) (fun K hK => ?_)
        refine ge Try.func65 #[.int .u64 a0_3, .int .u64 a0_4, .int .u64 a1_1, .int .u64 a1_2, .int .u64 a2, .int .u64 a3] ?_
        with_reducible refine (turnstileref05_Retry.calls k a0_3 a0_4 a1_1 a1_2 a2 a3 t361 _ A55.out).mono ?_
        rintro e w' ⟨rfl, ⟨nd, rfl⟩⟩
        refine ⟨_, rfl, ?_⟩
        refine hK.out _ _ ⟨(blk_cell BK345.out 0).trans rfl, (blk_cell BK345.out 1).trans rfl, (blk_cell BK345.out 2).trans rfl, (blk_cell BK345.out 3).trans rfl, (blk_cell BK345.out 4).trans rfl, (blk_cell BK346.out 0).trans rfl, (blk_cell BK346.out 1).trans rfl, (blk_cell BK346.out 2).trans rfl⟩ (fun hHeld => ?_)
        clear hK K
        refine norm_ (a' := ?_) ?_ ?_
        rotate_left
        · show Act.put _ (some 82) _ = _
          simp only [Act.put, List.setIfInBounds_toArray, List.set_cons_zero, List.set_cons_succ, i64_w, i32_w]
          rfl
        refine one_ (i := 14) (N := none) #[true, true, true, true, true, true, true, true, true, true, true, true, true, true, true, false, false] rfl rfl (one_of HT_.out (by kernel_rfl)) (by decide) (fun K hK => ?_)
        have hs68 : w67.cell? ⟨gb347, 0, none⟩ = some (.int .u64 0) := (blk_cell BK347.out 0).trans rfl
        have hfs68 := blk_frozen BK347.out 0
        have hns68_0 := NB345_347.out
        have hns68_1 := NB346_347.out
        have hms68_0 := NB347_345.out
        have hms68_1 := NB347_346.out
        have hs69 : w67.cell? ⟨gb347, 1, none⟩ = some (.int .u64 0) := (blk_cell BK347.out 1).trans rfl
        have hfs69 := blk_frozen BK347.out 1
        have hns69_0 := NB345_347.out
        have hns69_1 := NB346_347.out
        have hms69_0 := NB347_345.out
        have hms69_1 := NB347_346.out
        have hs70 : w67.cell? ⟨gb347, 2, none⟩ = some (.int .u64 0) := (blk_cell BK347.out 2).trans rfl
        have hfs70 := blk_frozen BK347.out 2
        have hns70_0 := NB345_347.out
        have hns70_1 := NB346_347.out
        have hms70_0 := NB347_345.out
        have hms70_1 := NB347_346.out
        refine skip_ (w1 := ?_) (by rfl) rfl ?_ ?_
        rotate_left
        · go_simp
          rfl
        refine hK.out _ _ ⟨((cell_far (p := ⟨gb347, _, none⟩) NB345_347.out _).trans (((cell_far (p := ⟨gb347, _, none⟩) NB345_347.out _).trans (((cell_far (p := ⟨gb347, _, none⟩) NB345_347.out _).trans (hHeld.1)))))), ((cell_far (p := ⟨gb347, _, none⟩) NB345_347.out _).trans (((cell_far (p := ⟨gb347, _, none⟩) NB345_347.out _).trans (((cell_far (p := ⟨gb347, _, none⟩) NB345_347.out _).trans (hHeld.2.1)))))), ((cell_far (p := ⟨gb347, _, none⟩) NB345_347.out _).trans (((cell_far (p := ⟨gb347, _, none⟩) NB345_347.out _).trans (((cell_far (p := ⟨gb347, _, none⟩) NB345_347.out _).trans (hHeld.2.2.1)))))), ((cell_far (p := ⟨gb347, _, none⟩) NB345_347.out _).trans (((cell_far (p := ⟨gb347, _, none⟩) NB345_347.out _).trans (((cell_far (p := ⟨gb347, _, none⟩) NB345_347.out _).trans (hHeld.2.2.2.1)))))), ((cell_far (p := ⟨gb347, _, none⟩) NB345_347.out _).trans (((cell_far (p := ⟨gb347, _, none⟩) NB345_347.out _).trans (((cell_far (p := ⟨gb347, _, none⟩) NB345_347.out _).trans (hHeld.2.2.2.2.1)))))), ((cell_far (p := ⟨gb347, _, none⟩) NB346_347.out _).trans (((cell_far (p := ⟨gb347, _, none⟩) NB346_347.out _).trans (((cell_far (p := ⟨gb347, _, none⟩) NB346_347.out _).trans (hHeld.2.2.2.2.2.1)))))), ((cell_far (p := ⟨gb347, _, none⟩) NB346_347.out _).trans (((cell_far (p := ⟨gb347, _, none⟩) NB346_347.out _).trans (((cell_far (p := ⟨gb347, _, none⟩) NB346_347.out _).trans (hHeld.2.2.2.2.2.2.1)))))), ((cell_far (p := ⟨gb347, _, none⟩) NB346_347.out _).trans (((cell_far (p := ⟨gb347, _, none⟩) NB346_347.out _).trans (((cell_far (p := ⟨gb347, _, none⟩) NB346_347.out _).trans (hHeld.2.2.2.2.2.2.2))))))⟩ (fun hHeld => ?_)
        clear hK K
        refine chain_ (fuel := 0) [(15, 0, some 9), (16, 0, some 10)] #[true, true, true, true, true, true, true, true, true, true, true, true, true, true, true, true, true] HT_.out HW_.out (by kernel_rfl) (fun _ _ _ _ _ h => h) (Or.inl (by decide)) rfl ?_
        (iterate 2 refine lkP ?_); refine .nil ?_
        refine done_ (done_of HT_.out (by kernel_rfl)) ?_
        try go_wp2
        refine bodyPost_ret (results_ctt rfl _ _ gb347 29 #[.int .u64 t358, .int .u64 t359, .int .u64 t360] (0, 0) _ rfl (bk BK347) Try.underlying29 rfl (by kernel_rfl)) rfl ?_
        exact ⟨re, bw HB⟩
  · replace c6 := Bool.eq_false_iff.mpr c6
    subst c6
    have H1 : (some (0, 0, 0, false, 18446744073709551615)) = some (r1, r2, r3, r4, r5) := by rw [if_neg (show ¬ (false = true) by decide)] at H; exact H
    clear H
    have H := H1
    clear H1
    simp only [Option.some.injEq, Prod.mk.injEq] at H
    obtain ⟨rfl, rfl, rfl, rfl, rfl⟩ := H
    go_enter Try.func43, Try.ntmps43
    go_wp2_with (first | ((with_reducible refine gate_dst (N := 4) rfl ?_); refine bx 4 #[.int .i64 a0_0, .int .u64 a0_1, .int .u64 a0_2, .int .u64 a0_3, .int .u64 a0_4] 27 ?_; intro gb345 hg w71 hbox hb; have n0_ := bs HB hb; have n1_ := Aside0.mk (hbox); have n2_ := sz HB hg; have n3_ := sz HB hg; clear HB; have HB := n0_; have BK345 := n1_; have GW345 := n2_; have GE345 := n3_; clear n0_ n1_ n2_ n3_; clear hb hbox hg) | ((with_reducible refine gate_dst (N := 5) rfl ?_); refine bx 5 #[.int .u64 a1_0, .int .u64 a1_1, .int .u64 a1_2] 29 ?_; intro gb346 hg w72 hbox hb; have n0_ := bb BK345 hb; have n1_ := bs HB hb; have n2_ := Aside0.mk (hbox); have n3_ := sz HB hg; have n4_ := sz HB hg; have n5_ := nl BK345 hg; have n6_ := nr BK345 hg; clear BK345; clear HB; have BK345 := n0_; have HB := n1_; have BK346 := n2_; have GW346 := n3_; have GE346 := n4_; have NB345_346 := n5_; have NB346_345 := n6_; clear n0_ n1_ n2_ n3_ n4_ n5_ n6_; clear hb hbox hg) | ((with_reducible refine gate_dst (N := 8) rfl ?_); refine bx 8 #[.int .u64 0, .int .u64 0, .int .u64 0] 29 ?_; intro gb347 hg w73 hbox hb; have n0_ := bb BK345 hb; have n1_ := bb BK346 hb; have n2_ := bs HB hb; have n3_ := Aside0.mk (hbox); have n4_ := sz HB hg; have n5_ := sz HB hg; have n6_ := nl BK345 hg; have n7_ := nr BK345 hg; have n8_ := nl BK346 hg; have n9_ := nr BK346 hg; clear BK345; clear BK346; clear HB; have BK345 := n0_; have BK346 := n1_; have HB := n2_; have BK347 := n3_; have GW347 := n4_; have GE347 := n5_; have NB345_347 := n6_; have NB347_345 := n7_; have NB346_347 := n8_; have NB347_346 := n9_; clear n0_ n1_ n2_ n3_ n4_ n5_ n6_ n7_ n8_ n9_; clear hb hbox hg; have hnb74 := NB345_346.out; have hnc74 := NB346_345.out; have hnb75 := NB345_347.out; have hnc75 := NB347_345.out; obtain ⟨hcz76_0, hcz76_1, hcz76_2, hcz76_3, hcz76_4, hfz76_0, hfz76_1, hfz76_2, hfz76_3, hfz76_4⟩ := bc5 BK345) | ((with_reducible refine gate_callee (f := 41) rfl ?_); refine gm (some 17) Try.func41 #[.agg #[.int .i64 a0_0, .int .u64 a0_1, .int .u64 a0_2, .int .u64 a0_3, .int .u64 a0_4]] (turnstileref06_Valid.calls a0_0 a0_1 a0_2 a0_3 a0_4 false _ A5.out) ?_; intro w77 hb; have n0_ := bb BK345 hb; have n1_ := bb BK346 hb; have n2_ := bb BK347 hb; have n3_ := bs HB hb; clear BK345; clear BK346; clear BK347; clear HB; have BK345 := n0_; have BK346 := n1_; have BK347 := n2_; have HB := n3_; clear n0_ n1_ n2_ n3_; (try clear hb); (try clear hb2); (try clear hk); (try clear hi); have hnb78 := NB347_346.out; have hnc78 := NB346_347.out; obtain ⟨hcz79_0, hcz79_1, hcz79_2, hfz79_0, hfz79_1, hfz79_2⟩ := bc3 BK347))
    refine bodyPost_ret (results_ctt rfl _ _ gb347 29 #[.int .u64 0, .int .u64 0, .int .u64 0] (0, 0) _ rfl (bk BK347) Try.underlying29 rfl (by kernel_rfl)) rfl ?_
    exact ⟨re, bw HB⟩

end Go.Proofs.Ytokfhdpokemekaa.Q
