/- Written by the session's own program hyb.py: what functions of the program compute; Lean checks it. -/
import Derived.Test.YthnpgilknoiaaaaQx0
import Derived.Test.YthnpgilknoiaaaaQx1
namespace Go.Proofs.Ythnpgilknoiaaaa.Q
open Go.RowKit Go.Proofs.YthnpgilknoiaaaaW.PrintWords Go.Proofs.YthnpgilknoiaaaaW.PrintLast Go.Proofs.YthnpgilknoiaaaaW.PrintMore Go.Proofs.YthnpgilknoiaaaaW.PrintShort
attribute [local go_sem] run_Add64 run_Sub64
attribute [local go_sem] max2_int min2_int max_two min_two max_three min_three max_four min_four   -- for this text's walks alone
set_option linter.unusedVariables false
set_option linter.unusedSimpArgs false

attribute [local go_sem high] eqA24
/-! ### sat_Wide_Cmp: function 21 -/
def sat_Wide_Cmp.f (a0_0 : Int) (a0_1 : Int) (a1_0 : Int) (a1_1 : Int) : Option (Int) := if (a0_0 == a1_0 && (a0_1 == a1_1)) = true then (some 0) else (if a0_0 < a1_0 then (some (-1)) else (if a0_0 = a1_0 then (if a0_1 < a1_1 then (some (-1)) else (some 1)) else (some 1)))
set_option maxHeartbeats 8000000 in
set_option maxRecDepth 100000 in
theorem sat_Wide_Cmp.calls (a0_0 : Int) (a0_1 : Int) (a1_0 : Int) (a1_1 : Int) (r : Int) (w : World) (h : sat_Wide_Cmp.f a0_0 a0_1 a1_0 a1_1 = some r) :
    Calls Try.prog 21 #[.agg #[.int .u64 a0_0, .int .u64 a0_1], .agg #[.int .u64 a1_0, .int .u64 a1_1]] w fun e w' => e = .returned (.int .i64 r) ∧ Below w.heap.size w w' := by
  have hu24 := Try.underlying24
  have HB := Aside0.mk (Below.refl w.heap.size w)
  have H : (if (a0_0 == a1_0 && (a0_1 == a1_1)) = true then (some 0) else (if a0_0 < a1_0 then (some (-1)) else (if a0_0 = a1_0 then (if a0_1 < a1_1 then (some (-1)) else (some 1)) else (some 1)))) = some r := h
  clear h
  by_cases c3 : (a0_0 == a1_0 && (a0_1 == a1_1)) = true
  · rw [if_pos c3] at H
    have c3b0 : (a0_0 == a1_0 && (a0_1 == a1_1)) = true := c3
    (try (have c3b1 : decide (a0_0 = a1_0 && (a0_1 == a1_1)) = true := by simpa using c3))
    (try (have c3b2 : (a0_0 == a1_0 && (a0_1 == a1_1)) = true := by simpa using c3))
    clear c3
    obtain rfl := Option.some.inj H
    go_enter Try.func21, Try.ntmps21
    go_wp2_with (first | ((with_reducible refine gate_dst (N := 2) rfl ?_); refine bx 2 #[.int .u64 a0_0, .int .u64 a0_1] 24 ?_; intro gb150 hg w4 hbox hb; have n0_ := bs HB hb; have n1_ := Aside0.mk (hbox); have n2_ := sz HB hg; have n3_ := sz HB hg; clear HB; have HB := n0_; have BK150 := n1_; have GW150 := n2_; have GE150 := n3_; clear n0_ n1_ n2_ n3_; clear hb hbox hg) | ((with_reducible refine gate_dst (N := 3) rfl ?_); refine bx 3 #[.int .u64 a1_0, .int .u64 a1_1] 24 ?_; intro gb151 hg w5 hbox hb; have n0_ := bb BK150 hb; have n1_ := bs HB hb; have n2_ := Aside0.mk (hbox); have n3_ := sz HB hg; have n4_ := sz HB hg; have n5_ := nl BK150 hg; have n6_ := nr BK150 hg; clear BK150; clear HB; have BK150 := n0_; have HB := n1_; have BK151 := n2_; have GW151 := n3_; have GE151 := n4_; have NB150_151 := n5_; have NB151_150 := n6_; clear n0_ n1_ n2_ n3_ n4_ n5_ n6_; clear hb hbox hg; have hnb6 := NB150_151.out; have hnc6 := NB151_150.out; obtain ⟨hcz7_0, hcz7_1, hfz7_0, hfz7_1⟩ := bc2 BK150; obtain ⟨hcz8_0, hcz8_1, hfz8_0, hfz8_1⟩ := bc2 BK151))
    go_ret
    exact ⟨re, bw HB⟩
  · rw [if_neg c3] at H
    have c3b0 : (a0_0 == a1_0 && (a0_1 == a1_1)) = false := by simpa using c3
    (try (have c3b1 : decide (a0_0 = a1_0 && (a0_1 == a1_1)) = false := by simpa using c3))
    (try (have c3b2 : (a0_0 == a1_0 && (a0_1 == a1_1)) = false := by simpa using c3))
    (try (have c3b3 : ¬ (a0_0 = a1_0 && (a0_1 == a1_1)) := by simpa using c3))
    clear c3
    by_cases c9 : a0_0 < a1_0
    · rw [if_pos c9] at H
      have c9b0 : decide (a0_0 < a1_0) = true := decide_eq_true c9
      clear c9
      obtain rfl := Option.some.inj H
      go_enter Try.func21, Try.ntmps21
      go_wp2_with (first | ((with_reducible refine gate_dst (N := 2) rfl ?_); refine bx 2 #[.int .u64 a0_0, .int .u64 a0_1] 24 ?_; intro gb150 hg w10 hbox hb; have n0_ := bs HB hb; have n1_ := Aside0.mk (hbox); have n2_ := sz HB hg; have n3_ := sz HB hg; clear HB; have HB := n0_; have BK150 := n1_; have GW150 := n2_; have GE150 := n3_; clear n0_ n1_ n2_ n3_; clear hb hbox hg) | ((with_reducible refine gate_dst (N := 3) rfl ?_); refine bx 3 #[.int .u64 a1_0, .int .u64 a1_1] 24 ?_; intro gb151 hg w11 hbox hb; have n0_ := bb BK150 hb; have n1_ := bs HB hb; have n2_ := Aside0.mk (hbox); have n3_ := sz HB hg; have n4_ := sz HB hg; have n5_ := nl BK150 hg; have n6_ := nr BK150 hg; clear BK150; clear HB; have BK150 := n0_; have HB := n1_; have BK151 := n2_; have GW151 := n3_; have GE151 := n4_; have NB150_151 := n5_; have NB151_150 := n6_; clear n0_ n1_ n2_ n3_ n4_ n5_ n6_; clear hb hbox hg; have hnb12 := NB150_151.out; have hnc12 := NB151_150.out; obtain ⟨hcz13_0, hcz13_1, hfz13_0, hfz13_1⟩ := bc2 BK150; obtain ⟨hcz14_0, hcz14_1, hfz14_0, hfz14_1⟩ := bc2 BK151))
      go_ret
      exact ⟨re, bw HB⟩
    · rw [if_neg c9] at H
      have c9b0 : decide (a0_0 < a1_0) = false := decide_eq_false c9
      clear c9
      by_cases c15 : a0_0 = a1_0
      · rw [if_pos c15] at H
        have c15b0 : (a0_0 == a1_0) = true := beq_iff_eq.mpr c15
        have c15b1 : (a0_0 != a1_0) = false := bne_eq_false_iff_eq.mpr c15
        clear c15
        (try (have hd16 := c3b0; rw [c15b0] at hd16; (first | rw [Bool.true_and] at hd16 | rw [Bool.and_true] at hd16 | (rw [Bool.not_true] at hd16; rw [Bool.false_or] at hd16) | skip)))
        (try (have hd17 := c3b1; rw [c15b0] at hd17; (first | rw [Bool.true_and] at hd17 | rw [Bool.and_true] at hd17 | (rw [Bool.not_true] at hd17; rw [Bool.false_or] at hd17) | skip)))
        (try (have hd18 := c3b2; rw [c15b0] at hd18; (first | rw [Bool.true_and] at hd18 | rw [Bool.and_true] at hd18 | (rw [Bool.not_true] at hd18; rw [Bool.false_or] at hd18) | skip)))
        (try (have hd19 := c3b3; rw [c15b0] at hd19; (first | rw [Bool.true_and] at hd19 | rw [Bool.and_true] at hd19 | (rw [Bool.not_true] at hd19; rw [Bool.false_or] at hd19) | skip)))
        by_cases c20 : a0_1 < a1_1
        · rw [if_pos c20] at H
          have c20b0 : decide (a0_1 < a1_1) = true := decide_eq_true c20
          clear c20
          obtain rfl := Option.some.inj H
          go_enter Try.func21, Try.ntmps21
          go_wp2_with (first | ((with_reducible refine gate_dst (N := 2) rfl ?_); refine bx 2 #[.int .u64 a0_0, .int .u64 a0_1] 24 ?_; intro gb150 hg w21 hbox hb; have n0_ := bs HB hb; have n1_ := Aside0.mk (hbox); have n2_ := sz HB hg; have n3_ := sz HB hg; clear HB; have HB := n0_; have BK150 := n1_; have GW150 := n2_; have GE150 := n3_; clear n0_ n1_ n2_ n3_; clear hb hbox hg) | ((with_reducible refine gate_dst (N := 3) rfl ?_); refine bx 3 #[.int .u64 a1_0, .int .u64 a1_1] 24 ?_; intro gb151 hg w22 hbox hb; have n0_ := bb BK150 hb; have n1_ := bs HB hb; have n2_ := Aside0.mk (hbox); have n3_ := sz HB hg; have n4_ := sz HB hg; have n5_ := nl BK150 hg; have n6_ := nr BK150 hg; clear BK150; clear HB; have BK150 := n0_; have HB := n1_; have BK151 := n2_; have GW151 := n3_; have GE151 := n4_; have NB150_151 := n5_; have NB151_150 := n6_; clear n0_ n1_ n2_ n3_ n4_ n5_ n6_; clear hb hbox hg; have hnb23 := NB150_151.out; have hnc23 := NB151_150.out; obtain ⟨hcz24_0, hcz24_1, hfz24_0, hfz24_1⟩ := bc2 BK150; obtain ⟨hcz25_0, hcz25_1, hfz25_0, hfz25_1⟩ := bc2 BK151))
          go_ret
          exact ⟨re, bw HB⟩
        · rw [if_neg c20] at H
          have c20b0 : decide (a0_1 < a1_1) = false := decide_eq_false c20
          clear c20
          obtain rfl := Option.some.inj H
          go_enter Try.func21, Try.ntmps21
          go_wp2_with (first | ((with_reducible refine gate_dst (N := 2) rfl ?_); refine bx 2 #[.int .u64 a0_0, .int .u64 a0_1] 24 ?_; intro gb150 hg w26 hbox hb; have n0_ := bs HB hb; have n1_ := Aside0.mk (hbox); have n2_ := sz HB hg; have n3_ := sz HB hg; clear HB; have HB := n0_; have BK150 := n1_; have GW150 := n2_; have GE150 := n3_; clear n0_ n1_ n2_ n3_; clear hb hbox hg) | ((with_reducible refine gate_dst (N := 3) rfl ?_); refine bx 3 #[.int .u64 a1_0, .int .u64 a1_1] 24 ?_; intro gb151 hg w27 hbox hb; have n0_ := bb BK150 hb; have n1_ := bs HB hb; have n2_ := Aside0.mk (hbox); have n3_ := sz HB hg; have n4_ := sz HB hg; have n5_ := nl BK150 hg; have n6_ := nr BK150 hg; clear BK150; clear HB; have BK150 := n0_; have HB := n1_; have BK151 := n2_; have GW151 := n3_; have GE151 := n4_; have NB150_151 := n5_; have NB151_150 := n6_; clear n0_ n1_ n2_ n3_ n4_ n5_ n6_; clear hb hbox hg; have hnb28 := NB150_151.out; have hnc28 := NB151_150.out; obtain ⟨hcz29_0, hcz29_1, hfz29_0, hfz29_1⟩ := bc2 BK150; obtain ⟨hcz30_0, hcz30_1, hfz30_0, hfz30_1⟩ := bc2 BK151))
          go_ret
          exact ⟨re, bw HB⟩
      · rw [if_neg c15] at H
        have c15b0 : (a0_0 == a1_0) = false := beq_eq_false_iff_ne.mpr c15
        have c15b1 : (a0_0 != a1_0) = true := bne_iff_ne.mpr c15
        (try (have hd31 := c3b0; rw [c15b0] at hd31; (first | rw [Bool.true_and] at hd31 | rw [Bool.and_true] at hd31 | (rw [Bool.not_true] at hd31; rw [Bool.false_or] at hd31) | skip)))
        (try (have hd32 := c3b1; rw [c15b0] at hd32; (first | rw [Bool.true_and] at hd32 | rw [Bool.and_true] at hd32 | (rw [Bool.not_true] at hd32; rw [Bool.false_or] at hd32) | skip)))
        (try (have hd33 := c3b2; rw [c15b0] at hd33; (first | rw [Bool.true_and] at hd33 | rw [Bool.and_true] at hd33 | (rw [Bool.not_true] at hd33; rw [Bool.false_or] at hd33) | skip)))
        (try (have hd34 := c3b3; rw [c15b0] at hd34; (first | rw [Bool.true_and] at hd34 | rw [Bool.and_true] at hd34 | (rw [Bool.not_true] at hd34; rw [Bool.false_or] at hd34) | skip)))
        obtain rfl := Option.some.inj H
        go_enter Try.func21, Try.ntmps21
        go_wp2_with (first | ((with_reducible refine gate_dst (N := 2) rfl ?_); refine bx 2 #[.int .u64 a0_0, .int .u64 a0_1] 24 ?_; intro gb150 hg w35 hbox hb; have n0_ := bs HB hb; have n1_ := Aside0.mk (hbox); have n2_ := sz HB hg; have n3_ := sz HB hg; clear HB; have HB := n0_; have BK150 := n1_; have GW150 := n2_; have GE150 := n3_; clear n0_ n1_ n2_ n3_; clear hb hbox hg) | ((with_reducible refine gate_dst (N := 3) rfl ?_); refine bx 3 #[.int .u64 a1_0, .int .u64 a1_1] 24 ?_; intro gb151 hg w36 hbox hb; have n0_ := bb BK150 hb; have n1_ := bs HB hb; have n2_ := Aside0.mk (hbox); have n3_ := sz HB hg; have n4_ := sz HB hg; have n5_ := nl BK150 hg; have n6_ := nr BK150 hg; clear BK150; clear HB; have BK150 := n0_; have HB := n1_; have BK151 := n2_; have GW151 := n3_; have GE151 := n4_; have NB150_151 := n5_; have NB151_150 := n6_; clear n0_ n1_ n2_ n3_ n4_ n5_ n6_; clear hb hbox hg; have hnb37 := NB150_151.out; have hnc37 := NB151_150.out; obtain ⟨hcz38_0, hcz38_1, hfz38_0, hfz38_1⟩ := bc2 BK150; obtain ⟨hcz39_0, hcz39_1, hfz39_0, hfz39_1⟩ := bc2 BK151))
        go_ret
        exact ⟨re, bw HB⟩

/-! ### sat_Wide_Minus: function 22 -/
def sat_Wide_Minus.f (a0_0 : Int) (a0_1 : Int) (a1_0 : Int) (a1_1 : Int) : Option (Int × Int) := if (sub64b a0_1 a1_1 0) ≤ 1 then (if (sub64b a0_0 a1_0 (sub64b a0_1 a1_1 0)) = 0 then (some (sub64s a0_0 a1_0 (sub64b a0_1 a1_1 0), sub64s a0_1 a1_1 0)) else (some (0, 0))) else (none)
set_option maxHeartbeats 8000000 in
set_option maxRecDepth 100000 in
theorem sat_Wide_Minus.calls (a0_0 : Int) (a0_1 : Int) (a1_0 : Int) (a1_1 : Int) (r1 : Int) (r2 : Int) (w : World) (h : sat_Wide_Minus.f a0_0 a0_1 a1_0 a1_1 = some (r1, r2)) :
    Calls Try.prog 22 #[.agg #[.int .u64 a0_0, .int .u64 a0_1], .agg #[.int .u64 a1_0, .int .u64 a1_1]] w fun e w' => e = .returned (.agg #[.int .u64 r1, .int .u64 r2]) ∧ Below w.heap.size w w' := by
  have hu24 := Try.underlying24
  have HB := Aside0.mk (Below.refl w.heap.size w)
  have H : (if (sub64b a0_1 a1_1 0) ≤ 1 then (if (sub64b a0_0 a1_0 (sub64b a0_1 a1_1 0)) = 0 then (some (sub64s a0_0 a1_0 (sub64b a0_1 a1_1 0), sub64s a0_1 a1_1 0)) else (some (0, 0))) else (none)) = some (r1, r2) := h
  clear h
  by_cases c3 : (sub64b a0_1 a1_1 0) ≤ 1
  · rw [if_pos c3] at H
    have c3b0 := eq_true c3
    have c3b1 : decide ((sub64b a0_1 a1_1 0) ≤ 1) = true := decide_eq_true c3
    clear c3
    by_cases c4 : (sub64b a0_0 a1_0 (sub64b a0_1 a1_1 0)) = 0
    · rw [if_pos c4] at H
      have c4b0 : ((sub64b a0_0 a1_0 (sub64b a0_1 a1_1 0)) == 0) = true := beq_iff_eq.mpr c4
      have c4b1 : ((sub64b a0_0 a1_0 (sub64b a0_1 a1_1 0)) != 0) = false := bne_eq_false_iff_eq.mpr c4
      clear c4
      simp only [Option.some.injEq, Prod.mk.injEq] at H
      obtain ⟨rfl, rfl⟩ := H
      go_enter Try.func22, Try.ntmps22
      go_wp2_with (first | ((with_reducible refine gate_dst (N := 2) rfl ?_); refine bx 2 #[.int .u64 a0_0, .int .u64 a0_1] 24 ?_; intro gb152 hg w5 hbox hb; have n0_ := bs HB hb; have n1_ := Aside0.mk (hbox); have n2_ := sz HB hg; have n3_ := sz HB hg; clear HB; have HB := n0_; have BK152 := n1_; have GW152 := n2_; have GE152 := n3_; clear n0_ n1_ n2_ n3_; clear hb hbox hg) | ((with_reducible refine gate_dst (N := 3) rfl ?_); refine bx 3 #[.int .u64 a1_0, .int .u64 a1_1] 24 ?_; intro gb153 hg w6 hbox hb; have n0_ := bb BK152 hb; have n1_ := bs HB hb; have n2_ := Aside0.mk (hbox); have n3_ := sz HB hg; have n4_ := sz HB hg; have n5_ := nl BK152 hg; have n6_ := nr BK152 hg; clear BK152; clear HB; have BK152 := n0_; have HB := n1_; have BK153 := n2_; have GW153 := n3_; have GE153 := n4_; have NB152_153 := n5_; have NB153_152 := n6_; clear n0_ n1_ n2_ n3_ n4_ n5_ n6_; clear hb hbox hg) | ((with_reducible refine gate_dst (N := 4) rfl ?_); refine bx 4 #[.int .u64 0, .int .u64 0] 24 ?_; intro gb154 hg w7 hbox hb; have n0_ := bb BK152 hb; have n1_ := bb BK153 hb; have n2_ := bs HB hb; have n3_ := Aside0.mk (hbox); have n4_ := sz HB hg; have n5_ := sz HB hg; have n6_ := nl BK152 hg; have n7_ := nr BK152 hg; have n8_ := nl BK153 hg; have n9_ := nr BK153 hg; clear BK152; clear BK153; clear HB; have BK152 := n0_; have BK153 := n1_; have HB := n2_; have BK154 := n3_; have GW154 := n4_; have GE154 := n5_; have NB152_154 := n6_; have NB154_152 := n7_; have NB153_154 := n8_; have NB154_153 := n9_; clear n0_ n1_ n2_ n3_ n4_ n5_ n6_ n7_ n8_ n9_; clear hb hbox hg; have hnb8 := NB152_153.out; have hnc8 := NB153_152.out; have hnb9 := NB152_154.out; have hnc9 := NB154_152.out; obtain ⟨hcz10_0, hcz10_1, hfz10_0, hfz10_1⟩ := bc2 BK152; have hnb11 := NB153_154.out; have hnc11 := NB154_153.out; obtain ⟨hcz12_0, hcz12_1, hfz12_0, hfz12_1⟩ := bc2 BK153; obtain ⟨hcz13_0, hcz13_1, hfz13_0, hfz13_1⟩ := bc2 BK154))
      refine bodyPost_ret (results_cell_row rfl _ _ gb154 24 #[.int .u64 (sub64s a0_0 a1_0 (sub64b a0_1 a1_1 0)), .int .u64 (sub64s a0_1 a1_1 0)] (0, 0) _ rfl (bk BK154) Try.underlying24 rfl (by kernel_rfl)) rfl ?_
      exact ⟨re, bw HB⟩
    · rw [if_neg c4] at H
      have c4b0 : ((sub64b a0_0 a1_0 (sub64b a0_1 a1_1 0)) == 0) = false := beq_eq_false_iff_ne.mpr c4
      have c4b1 : ((sub64b a0_0 a1_0 (sub64b a0_1 a1_1 0)) != 0) = true := bne_iff_ne.mpr c4
      simp only [Option.some.injEq, Prod.mk.injEq] at H
      obtain ⟨rfl, rfl⟩ := H
      go_enter Try.func22, Try.ntmps22
      go_wp2_with (first | ((with_reducible refine gate_dst (N := 2) rfl ?_); refine bx 2 #[.int .u64 a0_0, .int .u64 a0_1] 24 ?_; intro gb152 hg w14 hbox hb; have n0_ := bs HB hb; have n1_ := Aside0.mk (hbox); have n2_ := sz HB hg; have n3_ := sz HB hg; clear HB; have HB := n0_; have BK152 := n1_; have GW152 := n2_; have GE152 := n3_; clear n0_ n1_ n2_ n3_; clear hb hbox hg) | ((with_reducible refine gate_dst (N := 3) rfl ?_); refine bx 3 #[.int .u64 a1_0, .int .u64 a1_1] 24 ?_; intro gb153 hg w15 hbox hb; have n0_ := bb BK152 hb; have n1_ := bs HB hb; have n2_ := Aside0.mk (hbox); have n3_ := sz HB hg; have n4_ := sz HB hg; have n5_ := nl BK152 hg; have n6_ := nr BK152 hg; clear BK152; clear HB; have BK152 := n0_; have HB := n1_; have BK153 := n2_; have GW153 := n3_; have GE153 := n4_; have NB152_153 := n5_; have NB153_152 := n6_; clear n0_ n1_ n2_ n3_ n4_ n5_ n6_; clear hb hbox hg) | ((with_reducible refine gate_dst (N := 4) rfl ?_); refine bx 4 #[.int .u64 0, .int .u64 0] 24 ?_; intro gb154 hg w16 hbox hb; have n0_ := bb BK152 hb; have n1_ := bb BK153 hb; have n2_ := bs HB hb; have n3_ := Aside0.mk (hbox); have n4_ := sz HB hg; have n5_ := sz HB hg; have n6_ := nl BK152 hg; have n7_ := nr BK152 hg; have n8_ := nl BK153 hg; have n9_ := nr BK153 hg; clear BK152; clear BK153; clear HB; have BK152 := n0_; have BK153 := n1_; have HB := n2_; have BK154 := n3_; have GW154 := n4_; have GE154 := n5_; have NB152_154 := n6_; have NB154_152 := n7_; have NB153_154 := n8_; have NB154_153 := n9_; clear n0_ n1_ n2_ n3_ n4_ n5_ n6_ n7_ n8_ n9_; clear hb hbox hg; have hnb17 := NB152_153.out; have hnc17 := NB153_152.out; have hnb18 := NB152_154.out; have hnc18 := NB154_152.out; obtain ⟨hcz19_0, hcz19_1, hfz19_0, hfz19_1⟩ := bc2 BK152; have hnb20 := NB153_154.out; have hnc20 := NB154_153.out; obtain ⟨hcz21_0, hcz21_1, hfz21_0, hfz21_1⟩ := bc2 BK153; obtain ⟨hcz22_0, hcz22_1, hfz22_0, hfz22_1⟩ := bc2 BK154))
      refine bodyPost_ret (results_cell_row rfl _ _ gb154 24 #[.int .u64 0, .int .u64 0] (0, 0) _ rfl (bk BK154) Try.underlying24 rfl (by kernel_rfl)) rfl ?_
      exact ⟨re, bw HB⟩
  · rw [if_neg c3] at H
    exact absurd H (by simp)

end Go.Proofs.Ythnpgilknoiaaaa.Q
