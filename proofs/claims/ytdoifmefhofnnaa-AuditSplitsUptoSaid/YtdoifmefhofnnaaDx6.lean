/- Written by the session's own program hyb.py: what functions of the program compute; Lean checks it. -/
import Derived.Test.YtdoifmefhofnnaaDx0
import Derived.Test.YtdoifmefhofnnaaDx4
namespace Go.Proofs.Ytdoifmefhofnnaa.D
open Go.RowKit Go.Proofs.YtdoifmefhofnnaaW.PrintWords Go.Proofs.YtdoifmefhofnnaaW.PrintLast Go.Proofs.YtdoifmefhofnnaaW.PrintMore Go.Proofs.YtdoifmefhofnnaaW.PrintShort
attribute [local go_sem] run_Add64 run_Sub64
attribute [local go_sem] max2_int min2_int max_two min_two max_three min_three max_four min_four   -- for this text's walks alone
set_option linter.unusedVariables false
set_option linter.unusedSimpArgs false

attribute [local go_sem high] eqA60
/-! ### policy_rules_1: function 56 -/
def policy_rules_1.f (a0_0 : Int) (a0_1 : Int) (a0_2 : Int) (a0_3 : Int) (a0_4 : Int) : Option (Bool) := if a0_1 ≥ 1 then (if a0_3 = 0 then (some (a0_4 == 0)) else (some false)) else (some false)
set_option maxHeartbeats 8000000 in
set_option maxRecDepth 100000 in
theorem policy_rules_1.calls (a0_0 : Int) (a0_1 : Int) (a0_2 : Int) (a0_3 : Int) (a0_4 : Int) (r : Bool) (w : World) (h : policy_rules_1.f a0_0 a0_1 a0_2 a0_3 a0_4 = some r) :
    Calls Try.prog 56 #[.agg #[.int .i64 a0_0, .int .u64 a0_1, .int .u64 a0_2, .int .u64 a0_3, .int .u64 a0_4]] w fun e w' => e = .returned (.bool r) ∧ Below w.heap.size w w' := by
  have hu24 := Try.underlying24
  have HB := Aside0.mk (Below.refl w.heap.size w)
  have H : (if a0_1 ≥ 1 then (if a0_3 = 0 then (some (a0_4 == 0)) else (some false)) else (some false)) = some r := h
  clear h
  by_cases c2 : a0_1 ≥ 1
  · rw [if_pos c2] at H
    have c2b0 : decide (1 ≤ a0_1) = true := decide_eq_true c2
    clear c2
    by_cases c3 : a0_3 = 0
    · rw [if_pos c3] at H
      have c3b0 : (a0_3 == 0) = true := beq_iff_eq.mpr c3
      have c3b1 : (a0_3 != 0) = false := bne_eq_false_iff_eq.mpr c3
      clear c3
      obtain rfl := Option.some.inj H
      go_enter Try.func56, Try.ntmps56
      go_wp2_with (first | ((with_reducible refine gate_dst (N := 1) rfl ?_); refine bx 1 #[.int .i64 a0_0, .int .u64 a0_1, .int .u64 a0_2, .int .u64 a0_3, .int .u64 a0_4] 24 ?_; intro gb101 hg w4 hbox hb; have n0_ := bs HB hb; have n1_ := Aside0.mk (hbox); have n2_ := sz HB hg; have n3_ := sz HB hg; clear HB; have HB := n0_; have BK101 := n1_; have GW101 := n2_; have GE101 := n3_; clear n0_ n1_ n2_ n3_; clear hb hbox hg; obtain ⟨hcz5_0, hcz5_1, hcz5_2, hcz5_3, hcz5_4, hfz5_0, hfz5_1, hfz5_2, hfz5_3, hfz5_4⟩ := bc5 BK101))
      go_ret
      exact ⟨re, bw HB⟩
    · rw [if_neg c3] at H
      have c3b0 : (a0_3 == 0) = false := beq_eq_false_iff_ne.mpr c3
      have c3b1 : (a0_3 != 0) = true := bne_iff_ne.mpr c3
      obtain rfl := Option.some.inj H
      go_enter Try.func56, Try.ntmps56
      go_wp2_with (first | ((with_reducible refine gate_dst (N := 1) rfl ?_); refine bx 1 #[.int .i64 a0_0, .int .u64 a0_1, .int .u64 a0_2, .int .u64 a0_3, .int .u64 a0_4] 24 ?_; intro gb101 hg w6 hbox hb; have n0_ := bs HB hb; have n1_ := Aside0.mk (hbox); have n2_ := sz HB hg; have n3_ := sz HB hg; clear HB; have HB := n0_; have BK101 := n1_; have GW101 := n2_; have GE101 := n3_; clear n0_ n1_ n2_ n3_; clear hb hbox hg; obtain ⟨hcz7_0, hcz7_1, hcz7_2, hcz7_3, hcz7_4, hfz7_0, hfz7_1, hfz7_2, hfz7_3, hfz7_4⟩ := bc5 BK101))
      go_ret
      exact ⟨re, bw HB⟩
  · rw [if_neg c2] at H
    have c2b0 : decide (1 ≤ a0_1) = false := decide_eq_false c2
    clear c2
    obtain rfl := Option.some.inj H
    go_enter Try.func56, Try.ntmps56
    go_wp2_with (first | ((with_reducible refine gate_dst (N := 1) rfl ?_); refine bx 1 #[.int .i64 a0_0, .int .u64 a0_1, .int .u64 a0_2, .int .u64 a0_3, .int .u64 a0_4] 24 ?_; intro gb101 hg w8 hbox hb; have n0_ := bs HB hb; have n1_ := Aside0.mk (hbox); have n2_ := sz HB hg; have n3_ := sz HB hg; clear HB; have HB := n0_; have BK101 := n1_; have GW101 := n2_; have GE101 := n3_; clear n0_ n1_ n2_ n3_; clear hb hbox hg; obtain ⟨hcz9_0, hcz9_1, hcz9_2, hcz9_3, hcz9_4, hfz9_0, hfz9_1, hfz9_2, hfz9_3, hfz9_4⟩ := bc5 BK101))
    go_ret
    exact ⟨re, bw HB⟩

/-! ### sat_Of: function 18 -/
def sat_Of.f (a0 : Int) : Option (Int × Int) := some (0, a0)
set_option maxHeartbeats 8000000 in
set_option maxRecDepth 100000 in
theorem sat_Of.calls (a0 : Int) (r1 : Int) (r2 : Int) (w : World) (h : sat_Of.f a0 = some (r1, r2)) :
    Calls Try.prog 18 #[.int .u64 a0] w fun e w' => e = .returned (.agg #[.int .u64 r1, .int .u64 r2]) ∧ Below w.heap.size w w' := by
  have hu60 := Try.underlying60
  have HB := Aside0.mk (Below.refl w.heap.size w)
  have H : (some (0, a0)) = some (r1, r2) := h
  clear h
  simp only [Option.some.injEq, Prod.mk.injEq] at H
  obtain ⟨rfl, rfl⟩ := H
  go_enter Try.func18, Try.ntmps18
  go_wp2_with (first | ((with_reducible refine gate_dst (N := 2) rfl ?_); refine bx 2 #[.int .u64 0, .int .u64 0] 60 ?_; intro gb104 hg w2 hbox hb; have n0_ := bs HB hb; have n1_ := Aside0.mk (hbox); have n2_ := sz HB hg; have n3_ := sz HB hg; clear HB; have HB := n0_; have BK104 := n1_; have GW104 := n2_; have GE104 := n3_; clear n0_ n1_ n2_ n3_; clear hb hbox hg; obtain ⟨hcz3_0, hcz3_1, hfz3_0, hfz3_1⟩ := bc2 BK104))
  refine bodyPost_ret (results_cell_row rfl _ _ gb104 60 #[.int .u64 0, .int .u64 a0] (0, 0) _ rfl (bk BK104) Try.underlying60 rfl (by kernel_rfl)) rfl ?_
  exact ⟨re, bw HB⟩

/-! ### sat_greatest: function 35 -/
def sat_greatest.f  : Option (Int × Int) := some (18446744073709551615, 18446744073709551615)
set_option maxHeartbeats 8000000 in
set_option maxRecDepth 100000 in
theorem sat_greatest.calls  (r1 : Int) (r2 : Int) (w : World) (h : sat_greatest.f  = some (r1, r2)) :
    Calls Try.prog 35 #[] w fun e w' => e = .returned (.agg #[.int .u64 r1, .int .u64 r2]) ∧ Below w.heap.size w w' := by
  have hu60 := Try.underlying60
  have HB := Aside0.mk (Below.refl w.heap.size w)
  have H : (some (18446744073709551615, 18446744073709551615)) = some (r1, r2) := h
  clear h
  simp only [Option.some.injEq, Prod.mk.injEq] at H
  obtain ⟨rfl, rfl⟩ := H
  go_enter Try.func35, Try.ntmps35
  go_wp2_with (first | ((with_reducible refine gate_dst (N := 0) rfl ?_); refine bx 0 #[.int .u64 0, .int .u64 0] 60 ?_; intro gb105 hg w1 hbox hb; have n0_ := bs HB hb; have n1_ := Aside0.mk (hbox); have n2_ := sz HB hg; have n3_ := sz HB hg; clear HB; have HB := n0_; have BK105 := n1_; have GW105 := n2_; have GE105 := n3_; clear n0_ n1_ n2_ n3_; clear hb hbox hg; obtain ⟨hcz2_0, hcz2_1, hfz2_0, hfz2_1⟩ := bc2 BK105))
  refine bodyPost_ret (results_cell_row rfl _ _ gb105 60 #[.int .u64 18446744073709551615, .int .u64 18446744073709551615] (0, 0) _ rfl (bk BK105) Try.underlying60 rfl (by kernel_rfl)) rfl ?_
  exact ⟨re, bw HB⟩

/-! ### sat_Wide_Plus: function 19 -/
def sat_Wide_Plus.f (a0_0 : Int) (a0_1 : Int) (a1_0 : Int) (a1_1 : Int) : Option (Int × Int) := if (add64c a0_1 a1_1 0) ≤ 1 then (if (add64c a0_0 a1_0 (add64c a0_1 a1_1 0)) = 0 then (some (add64s a0_0 a1_0 (add64c a0_1 a1_1 0), add64s a0_1 a1_1 0)) else ((sat_greatest.f).bind fun bt109 => (some (bt109.1, bt109.2)))) else (none)
set_option maxHeartbeats 8000000 in
set_option maxRecDepth 100000 in
theorem sat_Wide_Plus.calls (a0_0 : Int) (a0_1 : Int) (a1_0 : Int) (a1_1 : Int) (r1 : Int) (r2 : Int) (w : World) (h : sat_Wide_Plus.f a0_0 a0_1 a1_0 a1_1 = some (r1, r2)) :
    Calls Try.prog 19 #[.agg #[.int .u64 a0_0, .int .u64 a0_1], .agg #[.int .u64 a1_0, .int .u64 a1_1]] w fun e w' => e = .returned (.agg #[.int .u64 r1, .int .u64 r2]) ∧ Below w.heap.size w w' := by
  have hu60 := Try.underlying60
  have HB := Aside0.mk (Below.refl w.heap.size w)
  have H : (if (add64c a0_1 a1_1 0) ≤ 1 then (if (add64c a0_0 a1_0 (add64c a0_1 a1_1 0)) = 0 then (some (add64s a0_0 a1_0 (add64c a0_1 a1_1 0), add64s a0_1 a1_1 0)) else ((sat_greatest.f).bind fun bt109 => (some (bt109.1, bt109.2)))) else (none)) = some (r1, r2) := h
  clear h
  by_cases c3 : (add64c a0_1 a1_1 0) ≤ 1
  · rw [if_pos c3] at H
    have c3b0 := eq_true c3
    have c3b1 : decide ((add64c a0_1 a1_1 0) ≤ 1) = true := decide_eq_true c3
    clear c3
    by_cases c4 : (add64c a0_0 a1_0 (add64c a0_1 a1_1 0)) = 0
    · rw [if_pos c4] at H
      have c4b0 : ((add64c a0_0 a1_0 (add64c a0_1 a1_1 0)) == 0) = true := beq_iff_eq.mpr c4
      have c4b1 : ((add64c a0_0 a1_0 (add64c a0_1 a1_1 0)) != 0) = false := bne_eq_false_iff_eq.mpr c4
      clear c4
      simp only [Option.some.injEq, Prod.mk.injEq] at H
      obtain ⟨rfl, rfl⟩ := H
      go_enter Try.func19, Try.ntmps19
      go_wp2_with (first | ((with_reducible refine gate_dst (N := 2) rfl ?_); refine bx 2 #[.int .u64 a0_0, .int .u64 a0_1] 60 ?_; intro gb106 hg w5 hbox hb; have n0_ := bs HB hb; have n1_ := Aside0.mk (hbox); have n2_ := sz HB hg; have n3_ := sz HB hg; clear HB; have HB := n0_; have BK106 := n1_; have GW106 := n2_; have GE106 := n3_; clear n0_ n1_ n2_ n3_; clear hb hbox hg) | ((with_reducible refine gate_dst (N := 3) rfl ?_); refine bx 3 #[.int .u64 a1_0, .int .u64 a1_1] 60 ?_; intro gb107 hg w6 hbox hb; have n0_ := bb BK106 hb; have n1_ := bs HB hb; have n2_ := Aside0.mk (hbox); have n3_ := sz HB hg; have n4_ := sz HB hg; have n5_ := nl BK106 hg; have n6_ := nr BK106 hg; clear BK106; clear HB; have BK106 := n0_; have HB := n1_; have BK107 := n2_; have GW107 := n3_; have GE107 := n4_; have NB106_107 := n5_; have NB107_106 := n6_; clear n0_ n1_ n2_ n3_ n4_ n5_ n6_; clear hb hbox hg) | ((with_reducible refine gate_dst (N := 4) rfl ?_); refine bx 4 #[.int .u64 0, .int .u64 0] 60 ?_; intro gb108 hg w7 hbox hb; have n0_ := bb BK106 hb; have n1_ := bb BK107 hb; have n2_ := bs HB hb; have n3_ := Aside0.mk (hbox); have n4_ := sz HB hg; have n5_ := sz HB hg; have n6_ := nl BK106 hg; have n7_ := nr BK106 hg; have n8_ := nl BK107 hg; have n9_ := nr BK107 hg; clear BK106; clear BK107; clear HB; have BK106 := n0_; have BK107 := n1_; have HB := n2_; have BK108 := n3_; have GW108 := n4_; have GE108 := n5_; have NB106_108 := n6_; have NB108_106 := n7_; have NB107_108 := n8_; have NB108_107 := n9_; clear n0_ n1_ n2_ n3_ n4_ n5_ n6_ n7_ n8_ n9_; clear hb hbox hg; have hnb8 := NB106_107.out; have hnc8 := NB107_106.out; have hnb9 := NB106_108.out; have hnc9 := NB108_106.out; obtain ⟨hcz10_0, hcz10_1, hfz10_0, hfz10_1⟩ := bc2 BK106; have hnb11 := NB107_108.out; have hnc11 := NB108_107.out; obtain ⟨hcz12_0, hcz12_1, hfz12_0, hfz12_1⟩ := bc2 BK107; obtain ⟨hcz13_0, hcz13_1, hfz13_0, hfz13_1⟩ := bc2 BK108))
      refine bodyPost_ret (results_cell_row rfl _ _ gb108 60 #[.int .u64 (add64s a0_0 a1_0 (add64c a0_1 a1_1 0)), .int .u64 (add64s a0_1 a1_1 0)] (0, 0) _ rfl (bk BK108) Try.underlying60 rfl (by kernel_rfl)) rfl ?_
      exact ⟨re, bw HB⟩
    · rw [if_neg c4] at H
      have c4b0 : ((add64c a0_0 a1_0 (add64c a0_1 a1_1 0)) == 0) = false := beq_eq_false_iff_ne.mpr c4
      have c4b1 : ((add64c a0_0 a1_0 (add64c a0_1 a1_1 0)) != 0) = true := bne_iff_ne.mpr c4
      replace H := Option.bind_eq_some_iff.mp H
      obtain ⟨⟨t109, t110⟩, A140, H⟩ := H
      replace H : (some (t109, t110)) = some (r1, r2) := H
      have A14 := Aside0.mk A140
      clear A140
      simp only [Option.some.injEq, Prod.mk.injEq] at H
      obtain ⟨rfl, rfl⟩ := H
      go_enter Try.func19, Try.ntmps19
      go_wp2_with (first | ((with_reducible refine gate_dst (N := 2) rfl ?_); refine bx 2 #[.int .u64 a0_0, .int .u64 a0_1] 60 ?_; intro gb106 hg w15 hbox hb; have n0_ := bs HB hb; have n1_ := Aside0.mk (hbox); have n2_ := sz HB hg; have n3_ := sz HB hg; clear HB; have HB := n0_; have BK106 := n1_; have GW106 := n2_; have GE106 := n3_; clear n0_ n1_ n2_ n3_; clear hb hbox hg) | ((with_reducible refine gate_dst (N := 3) rfl ?_); refine bx 3 #[.int .u64 a1_0, .int .u64 a1_1] 60 ?_; intro gb107 hg w16 hbox hb; have n0_ := bb BK106 hb; have n1_ := bs HB hb; have n2_ := Aside0.mk (hbox); have n3_ := sz HB hg; have n4_ := sz HB hg; have n5_ := nl BK106 hg; have n6_ := nr BK106 hg; clear BK106; clear HB; have BK106 := n0_; have HB := n1_; have BK107 := n2_; have GW107 := n3_; have GE107 := n4_; have NB106_107 := n5_; have NB107_106 := n6_; clear n0_ n1_ n2_ n3_ n4_ n5_ n6_; clear hb hbox hg) | ((with_reducible refine gate_dst (N := 4) rfl ?_); refine bx 4 #[.int .u64 0, .int .u64 0] 60 ?_; intro gb108 hg w17 hbox hb; have n0_ := bb BK106 hb; have n1_ := bb BK107 hb; have n2_ := bs HB hb; have n3_ := Aside0.mk (hbox); have n4_ := sz HB hg; have n5_ := sz HB hg; have n6_ := nl BK106 hg; have n7_ := nr BK106 hg; have n8_ := nl BK107 hg; have n9_ := nr BK107 hg; clear BK106; clear BK107; clear HB; have BK106 := n0_; have BK107 := n1_; have HB := n2_; have BK108 := n3_; have GW108 := n4_; have GE108 := n5_; have NB106_108 := n6_; have NB108_106 := n7_; have NB107_108 := n8_; have NB108_107 := n9_; clear n0_ n1_ n2_ n3_ n4_ n5_ n6_ n7_ n8_ n9_; clear hb hbox hg; have hnb18 := NB106_107.out; have hnc18 := NB107_106.out; have hnb19 := NB106_108.out; have hnc19 := NB108_106.out; obtain ⟨hcz20_0, hcz20_1, hfz20_0, hfz20_1⟩ := bc2 BK106; have hnb21 := NB107_108.out; have hnc21 := NB108_107.out; obtain ⟨hcz22_0, hcz22_1, hfz22_0, hfz22_1⟩ := bc2 BK107) | ((with_reducible refine gate_callee (f := 35) rfl ?_); refine gm (some 27) Try.func35 #[] (sat_greatest.calls  t109 t110 _ A14.out) ?_; intro w23 hb; have n0_ := bb BK106 hb; have n1_ := bb BK107 hb; have n2_ := bb BK108 hb; have n3_ := bs HB hb; clear BK106; clear BK107; clear BK108; clear HB; have BK106 := n0_; have BK107 := n1_; have BK108 := n2_; have HB := n3_; clear n0_ n1_ n2_ n3_; (try clear hb); (try clear hb2); (try clear hk); (try clear hi); obtain ⟨hcz24_0, hcz24_1, hfz24_0, hfz24_1⟩ := bc2 BK108))
      refine bodyPost_ret (results_cell_row rfl _ _ gb108 60 #[.int .u64 t109, .int .u64 t110] (0, 0) _ rfl (bk BK108) Try.underlying60 rfl (by kernel_rfl)) rfl ?_
      exact ⟨re, bw HB⟩
  · rw [if_neg c3] at H
    exact absurd H (by simp)

/-! ### bits_Mul64: function 36 -/
def bits_Mul64.f (a0 : Int) (a1 : Int) : Option (Int × Int) := some (IntKind.u64.wrap ((IntKind.u64.wrap ((IntKind.u64.wrap ((a0 / 4294967296) * (a1 / 4294967296))) + ((IntKind.u64.wrap ((IntKind.u64.wrap ((a0 / 4294967296) * (Go.bits .and .u64 a1 4294967295))) + ((IntKind.u64.wrap ((Go.bits .and .u64 a0 4294967295) * (Go.bits .and .u64 a1 4294967295))) / 4294967296))) / 4294967296))) + ((IntKind.u64.wrap ((Go.bits .and .u64 (IntKind.u64.wrap ((IntKind.u64.wrap ((a0 / 4294967296) * (Go.bits .and .u64 a1 4294967295))) + ((IntKind.u64.wrap ((Go.bits .and .u64 a0 4294967295) * (Go.bits .and .u64 a1 4294967295))) / 4294967296))) 4294967295) + (IntKind.u64.wrap ((Go.bits .and .u64 a0 4294967295) * (a1 / 4294967296))))) / 4294967296)), IntKind.u64.wrap (a0 * a1))
set_option maxHeartbeats 8000000 in
set_option maxRecDepth 100000 in
theorem bits_Mul64.calls (a0 : Int) (a1 : Int) (r1 : Int) (r2 : Int) (w : World) (h : bits_Mul64.f a0 a1 = some (r1, r2)) :
    Calls Try.prog 36 #[.int .u64 a0, .int .u64 a1] w fun e w' => e = .returned (.tuple #[.int .u64 r1, .int .u64 r2]) ∧ Drawn0 w w' := by
  have H : (some (IntKind.u64.wrap ((IntKind.u64.wrap ((IntKind.u64.wrap ((a0 / 4294967296) * (a1 / 4294967296))) + ((IntKind.u64.wrap ((IntKind.u64.wrap ((a0 / 4294967296) * (Go.bits .and .u64 a1 4294967295))) + ((IntKind.u64.wrap ((Go.bits .and .u64 a0 4294967295) * (Go.bits .and .u64 a1 4294967295))) / 4294967296))) / 4294967296))) + ((IntKind.u64.wrap ((Go.bits .and .u64 (IntKind.u64.wrap ((IntKind.u64.wrap ((a0 / 4294967296) * (Go.bits .and .u64 a1 4294967295))) + ((IntKind.u64.wrap ((Go.bits .and .u64 a0 4294967295) * (Go.bits .and .u64 a1 4294967295))) / 4294967296))) 4294967295) + (IntKind.u64.wrap ((Go.bits .and .u64 a0 4294967295) * (a1 / 4294967296))))) / 4294967296)), IntKind.u64.wrap (a0 * a1))) = some (r1, r2) := h
  clear h
  simp only [Option.some.injEq, Prod.mk.injEq] at H
  obtain ⟨rfl, rfl⟩ := H
  go_enter Try.func36, Try.ntmps36
  go_wp2
  go_ret2
  exact ⟨rs, by repeat (first | exact Drawn0.refl _ | apply Drawn0.step)⟩

/-! ### sat_Product: function 20 -/
def sat_Product.f (a0 : Int) (a1 : Int) : Option (Int × Int) := (bits_Mul64.f a0 a1).bind fun bt112 => (some (bt112.1, bt112.2))
set_option maxHeartbeats 8000000 in
set_option maxRecDepth 100000 in
theorem sat_Product.calls (a0 : Int) (a1 : Int) (r1 : Int) (r2 : Int) (w : World) (h : sat_Product.f a0 a1 = some (r1, r2)) :
    Calls Try.prog 20 #[.int .u64 a0, .int .u64 a1] w fun e w' => e = .returned (.agg #[.int .u64 r1, .int .u64 r2]) ∧ Below w.heap.size w w' := by
  have hu60 := Try.underlying60
  have HB := Aside0.mk (Below.refl w.heap.size w)
  have H : ((bits_Mul64.f a0 a1).bind fun bt112 => (some (bt112.1, bt112.2))) = some (r1, r2) := h
  clear h
  replace H := Option.bind_eq_some_iff.mp H
  obtain ⟨⟨t112, t113⟩, A30, H⟩ := H
  replace H : (some (t112, t113)) = some (r1, r2) := H
  have A3 := Aside0.mk A30
  clear A30
  simp only [Option.some.injEq, Prod.mk.injEq] at H
  obtain ⟨rfl, rfl⟩ := H
  go_enter Try.func20, Try.ntmps20
  go_wp2_with (first | ((with_reducible refine gate_dst (N := 4) rfl ?_); refine bx 4 #[.int .u64 0, .int .u64 0] 60 ?_; intro gb111 hg w4 hbox hb; have n0_ := bs HB hb; have n1_ := Aside0.mk (hbox); have n2_ := sz HB hg; have n3_ := sz HB hg; clear HB; have HB := n0_; have BK111 := n1_; have GW111 := n2_; have GE111 := n3_; clear n0_ n1_ n2_ n3_; clear hb hbox hg) | ((with_reducible refine gate_callee (f := 36) rfl ?_); refine gl (some 10) Try.func36 #[.int .u64 a0, .int .u64 a1] ?_; (with_reducible refine (bits_Mul64.calls a0 a1 t112 t113 _ A3.out).mono ?_); rintro e w' ⟨rfl, ⟨nd, rfl⟩⟩; refine ⟨_, rfl, ?_⟩; (try (rw [drewN_self w4]; generalize hq_ : World.drewN w4 _ = w4; have n0_ : Aside0 (w4.heap[gb111]? = some (.cells #[.int .u64 0, .int .u64 0] 60 (0, 0))) := ⟨by rw [← hq_]; exact (bk BK111)⟩; have n1_ : Aside0 (Below w.heap.size w w4) := ⟨by rw [← hq_]; exact (bw HB)⟩; clear BK111 HB hq_; have BK111 := n0_; have HB := n1_; clear n0_ n1_)); obtain ⟨hcz5_0, hcz5_1, hfz5_0, hfz5_1⟩ := bc2 BK111))
  refine bodyPost_ret (results_cell_row rfl _ _ gb111 60 #[.int .u64 t112, .int .u64 t113] (0, 0) _ rfl (bk BK111) Try.underlying60 rfl (by kernel_rfl)) rfl ?_
  exact ⟨re, bw HB⟩

/-! ### sat_Wide_Cmp: function 21 -/
def sat_Wide_Cmp.f (a0_0 : Int) (a0_1 : Int) (a1_0 : Int) (a1_1 : Int) : Option (Int) := if (a0_0 == a1_0 && (a0_1 == a1_1)) = true then (some 0) else (if a0_0 < a1_0 then (some (-1)) else (if a0_0 = a1_0 then (if a0_1 < a1_1 then (some (-1)) else (some 1)) else (some 1)))
set_option maxHeartbeats 8000000 in
set_option maxRecDepth 100000 in
theorem sat_Wide_Cmp.calls (a0_0 : Int) (a0_1 : Int) (a1_0 : Int) (a1_1 : Int) (r : Int) (w : World) (h : sat_Wide_Cmp.f a0_0 a0_1 a1_0 a1_1 = some r) :
    Calls Try.prog 21 #[.agg #[.int .u64 a0_0, .int .u64 a0_1], .agg #[.int .u64 a1_0, .int .u64 a1_1]] w fun e w' => e = .returned (.int .i64 r) ∧ Below w.heap.size w w' := by
  have hu60 := Try.underlying60
  have HB := Aside0.mk (Below.refl w.heap.size w)
  have H : (if (a0_0 == a1_0 && (a0_1 == a1_1)) = true then (some 0) else (if a0_0 < a1_0 then (some (-1)) else (if a0_0 = a1_0 then (if a0_1 < a1_1 then (some (-1)) else (some 1)) else (some 1)))) = some r := h
  clear h
  by_cases c3 : (a0_0 == a1_0 && (a0_1 == a1_1)) = true
  · rw [if_pos c3] at H
    have c3b0 : (a0_0 == a1_0 && (a0_1 == a1_1)) = true := c3
    (try (have c3b1 : decide (a0_0 = a1_0 && (a0_1 == a1_1)) = true := by simpa using c3))
    (try (have c3b2 : (a0_0 == a1_0 && (a0_1 == a1_1)) = true := by simpa using c3))
    clear c3
    obtain rfl := Option.some.inj H
    go_enter Try.func21, Try.ntmps21
    go_wp2_with (first | ((with_reducible refine gate_dst (N := 2) rfl ?_); refine bx 2 #[.int .u64 a0_0, .int .u64 a0_1] 60 ?_; intro gb114 hg w4 hbox hb; have n0_ := bs HB hb; have n1_ := Aside0.mk (hbox); have n2_ := sz HB hg; have n3_ := sz HB hg; clear HB; have HB := n0_; have BK114 := n1_; have GW114 := n2_; have GE114 := n3_; clear n0_ n1_ n2_ n3_; clear hb hbox hg) | ((with_reducible refine gate_dst (N := 3) rfl ?_); refine bx 3 #[.int .u64 a1_0, .int .u64 a1_1] 60 ?_; intro gb115 hg w5 hbox hb; have n0_ := bb BK114 hb; have n1_ := bs HB hb; have n2_ := Aside0.mk (hbox); have n3_ := sz HB hg; have n4_ := sz HB hg; have n5_ := nl BK114 hg; have n6_ := nr BK114 hg; clear BK114; clear HB; have BK114 := n0_; have HB := n1_; have BK115 := n2_; have GW115 := n3_; have GE115 := n4_; have NB114_115 := n5_; have NB115_114 := n6_; clear n0_ n1_ n2_ n3_ n4_ n5_ n6_; clear hb hbox hg; have hnb6 := NB114_115.out; have hnc6 := NB115_114.out; obtain ⟨hcz7_0, hcz7_1, hfz7_0, hfz7_1⟩ := bc2 BK114; obtain ⟨hcz8_0, hcz8_1, hfz8_0, hfz8_1⟩ := bc2 BK115))
    go_ret
    exact ⟨re, bw HB⟩
  · rw [if_neg c3] at H
    have c3b0 : (a0_0 == a1_0 && (a0_1 == a1_1)) = false := by simpa using c3
    (try (have c3b1 : decide (a0_0 = a1_0 && (a0_1 == a1_1)) = false := by simpa using c3))
    (try (have c3b2 : (a0_0 == a1_0 && (a0_1 == a1_1)) = false := by simpa using c3))
    (try (have c3b3 : ¬ (a0_0 = a1_0 && (a0_1 == a1_1)) := by simpa using c3))
    clear c3
    by_cases c9 : a0_0 < a1_0
    · rw [if_pos c9] at H
      have c9b0 : decide (a0_0 < a1_0) = true := decide_eq_true c9
      clear c9
      obtain rfl := Option.some.inj H
      go_enter Try.func21, Try.ntmps21
      go_wp2_with (first | ((with_reducible refine gate_dst (N := 2) rfl ?_); refine bx 2 #[.int .u64 a0_0, .int .u64 a0_1] 60 ?_; intro gb114 hg w10 hbox hb; have n0_ := bs HB hb; have n1_ := Aside0.mk (hbox); have n2_ := sz HB hg; have n3_ := sz HB hg; clear HB; have HB := n0_; have BK114 := n1_; have GW114 := n2_; have GE114 := n3_; clear n0_ n1_ n2_ n3_; clear hb hbox hg) | ((with_reducible refine gate_dst (N := 3) rfl ?_); refine bx 3 #[.int .u64 a1_0, .int .u64 a1_1] 60 ?_; intro gb115 hg w11 hbox hb; have n0_ := bb BK114 hb; have n1_ := bs HB hb; have n2_ := Aside0.mk (hbox); have n3_ := sz HB hg; have n4_ := sz HB hg; have n5_ := nl BK114 hg; have n6_ := nr BK114 hg; clear BK114; clear HB; have BK114 := n0_; have HB := n1_; have BK115 := n2_; have GW115 := n3_; have GE115 := n4_; have NB114_115 := n5_; have NB115_114 := n6_; clear n0_ n1_ n2_ n3_ n4_ n5_ n6_; clear hb hbox hg; have hnb12 := NB114_115.out; have hnc12 := NB115_114.out; obtain ⟨hcz13_0, hcz13_1, hfz13_0, hfz13_1⟩ := bc2 BK114; obtain ⟨hcz14_0, hcz14_1, hfz14_0, hfz14_1⟩ := bc2 BK115))
      go_ret
      exact ⟨re, bw HB⟩
    · rw [if_neg c9] at H
      have c9b0 : decide (a0_0 < a1_0) = false := decide_eq_false c9
      clear c9
      by_cases c15 : a0_0 = a1_0
      · rw [if_pos c15] at H
        have c15b0 : (a0_0 == a1_0) = true := beq_iff_eq.mpr c15
        have c15b1 : (a0_0 != a1_0) = false := bne_eq_false_iff_eq.mpr c15
        clear c15
        (try (have hd16 := c3b0; rw [c15b0] at hd16; (first | rw [Bool.true_and] at hd16 | rw [Bool.and_true] at hd16 | (rw [Bool.not_true] at hd16; rw [Bool.false_or] at hd16) | skip)))
        (try (have hd17 := c3b1; rw [c15b0] at hd17; (first | rw [Bool.true_and] at hd17 | rw [Bool.and_true] at hd17 | (rw [Bool.not_true] at hd17; rw [Bool.false_or] at hd17) | skip)))
        (try (have hd18 := c3b2; rw [c15b0] at hd18; (first | rw [Bool.true_and] at hd18 | rw [Bool.and_true] at hd18 | (rw [Bool.not_true] at hd18; rw [Bool.false_or] at hd18) | skip)))
        (try (have hd19 := c3b3; rw [c15b0] at hd19; (first | rw [Bool.true_and] at hd19 | rw [Bool.and_true] at hd19 | (rw [Bool.not_true] at hd19; rw [Bool.false_or] at hd19) | skip)))
        by_cases c20 : a0_1 < a1_1
        · rw [if_pos c20] at H
          have c20b0 : decide (a0_1 < a1_1) = true := decide_eq_true c20
          clear c20
          obtain rfl := Option.some.inj H
          go_enter Try.func21, Try.ntmps21
          go_wp2_with (first | ((with_reducible refine gate_dst (N := 2) rfl ?_); refine bx 2 #[.int .u64 a0_0, .int .u64 a0_1] 60 ?_; intro gb114 hg w21 hbox hb; have n0_ := bs HB hb; have n1_ := Aside0.mk (hbox); have n2_ := sz HB hg; have n3_ := sz HB hg; clear HB; have HB := n0_; have BK114 := n1_; have GW114 := n2_; have GE114 := n3_; clear n0_ n1_ n2_ n3_; clear hb hbox hg) | ((with_reducible refine gate_dst (N := 3) rfl ?_); refine bx 3 #[.int .u64 a1_0, .int .u64 a1_1] 60 ?_; intro gb115 hg w22 hbox hb; have n0_ := bb BK114 hb; have n1_ := bs HB hb; have n2_ := Aside0.mk (hbox); have n3_ := sz HB hg; have n4_ := sz HB hg; have n5_ := nl BK114 hg; have n6_ := nr BK114 hg; clear BK114; clear HB; have BK114 := n0_; have HB := n1_; have BK115 := n2_; have GW115 := n3_; have GE115 := n4_; have NB114_115 := n5_; have NB115_114 := n6_; clear n0_ n1_ n2_ n3_ n4_ n5_ n6_; clear hb hbox hg; have hnb23 := NB114_115.out; have hnc23 := NB115_114.out; obtain ⟨hcz24_0, hcz24_1, hfz24_0, hfz24_1⟩ := bc2 BK114; obtain ⟨hcz25_0, hcz25_1, hfz25_0, hfz25_1⟩ := bc2 BK115))
          go_ret
          exact ⟨re, bw HB⟩
        · rw [if_neg c20] at H
          have c20b0 : decide (a0_1 < a1_1) = false := decide_eq_false c20
          clear c20
          obtain rfl := Option.some.inj H
          go_enter Try.func21, Try.ntmps21
          go_wp2_with (first | ((with_reducible refine gate_dst (N := 2) rfl ?_); refine bx 2 #[.int .u64 a0_0, .int .u64 a0_1] 60 ?_; intro gb114 hg w26 hbox hb; have n0_ := bs HB hb; have n1_ := Aside0.mk (hbox); have n2_ := sz HB hg; have n3_ := sz HB hg; clear HB; have HB := n0_; have BK114 := n1_; have GW114 := n2_; have GE114 := n3_; clear n0_ n1_ n2_ n3_; clear hb hbox hg) | ((with_reducible refine gate_dst (N := 3) rfl ?_); refine bx 3 #[.int .u64 a1_0, .int .u64 a1_1] 60 ?_; intro gb115 hg w27 hbox hb; have n0_ := bb BK114 hb; have n1_ := bs HB hb; have n2_ := Aside0.mk (hbox); have n3_ := sz HB hg; have n4_ := sz HB hg; have n5_ := nl BK114 hg; have n6_ := nr BK114 hg; clear BK114; clear HB; have BK114 := n0_; have HB := n1_; have BK115 := n2_; have GW115 := n3_; have GE115 := n4_; have NB114_115 := n5_; have NB115_114 := n6_; clear n0_ n1_ n2_ n3_ n4_ n5_ n6_; clear hb hbox hg; have hnb28 := NB114_115.out; have hnc28 := NB115_114.out; obtain ⟨hcz29_0, hcz29_1, hfz29_0, hfz29_1⟩ := bc2 BK114; obtain ⟨hcz30_0, hcz30_1, hfz30_0, hfz30_1⟩ := bc2 BK115))
          go_ret
          exact ⟨re, bw HB⟩
      · rw [if_neg c15] at H
        have c15b0 : (a0_0 == a1_0) = false := beq_eq_false_iff_ne.mpr c15
        have c15b1 : (a0_0 != a1_0) = true := bne_iff_ne.mpr c15
        (try (have hd31 := c3b0; rw [c15b0] at hd31; (first | rw [Bool.true_and] at hd31 | rw [Bool.and_true] at hd31 | (rw [Bool.not_true] at hd31; rw [Bool.false_or] at hd31) | skip)))
        (try (have hd32 := c3b1; rw [c15b0] at hd32; (first | rw [Bool.true_and] at hd32 | rw [Bool.and_true] at hd32 | (rw [Bool.not_true] at hd32; rw [Bool.false_or] at hd32) | skip)))
        (try (have hd33 := c3b2; rw [c15b0] at hd33; (first | rw [Bool.true_and] at hd33 | rw [Bool.and_true] at hd33 | (rw [Bool.not_true] at hd33; rw [Bool.false_or] at hd33) | skip)))
        (try (have hd34 := c3b3; rw [c15b0] at hd34; (first | rw [Bool.true_and] at hd34 | rw [Bool.and_true] at hd34 | (rw [Bool.not_true] at hd34; rw [Bool.false_or] at hd34) | skip)))
        obtain rfl := Option.some.inj H
        go_enter Try.func21, Try.ntmps21
        go_wp2_with (first | ((with_reducible refine gate_dst (N := 2) rfl ?_); refine bx 2 #[.int .u64 a0_0, .int .u64 a0_1] 60 ?_; intro gb114 hg w35 hbox hb; have n0_ := bs HB hb; have n1_ := Aside0.mk (hbox); have n2_ := sz HB hg; have n3_ := sz HB hg; clear HB; have HB := n0_; have BK114 := n1_; have GW114 := n2_; have GE114 := n3_; clear n0_ n1_ n2_ n3_; clear hb hbox hg) | ((with_reducible refine gate_dst (N := 3) rfl ?_); refine bx 3 #[.int .u64 a1_0, .int .u64 a1_1] 60 ?_; intro gb115 hg w36 hbox hb; have n0_ := bb BK114 hb; have n1_ := bs HB hb; have n2_ := Aside0.mk (hbox); have n3_ := sz HB hg; have n4_ := sz HB hg; have n5_ := nl BK114 hg; have n6_ := nr BK114 hg; clear BK114; clear HB; have BK114 := n0_; have HB := n1_; have BK115 := n2_; have GW115 := n3_; have GE115 := n4_; have NB114_115 := n5_; have NB115_114 := n6_; clear n0_ n1_ n2_ n3_ n4_ n5_ n6_; clear hb hbox hg; have hnb37 := NB114_115.out; have hnc37 := NB115_114.out; obtain ⟨hcz38_0, hcz38_1, hfz38_0, hfz38_1⟩ := bc2 BK114; obtain ⟨hcz39_0, hcz39_1, hfz39_0, hfz39_1⟩ := bc2 BK115))
        go_ret
        exact ⟨re, bw HB⟩

end Go.Proofs.Ytdoifmefhofnnaa.D
