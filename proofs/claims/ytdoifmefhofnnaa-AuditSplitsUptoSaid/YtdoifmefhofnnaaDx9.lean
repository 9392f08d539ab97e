/- Written by the session's own program hyb.py: what functions of the program compute; Lean checks it. -/
import Derived.Test.YtdoifmefhofnnaaDx0
import Derived.Test.YtdoifmefhofnnaaDx8
namespace Go.Proofs.Ytdoifmefhofnnaa.D
open Go.RowKit Go.Proofs.YtdoifmefhofnnaaW.PrintWords Go.Proofs.YtdoifmefhofnnaaW.PrintLast Go.Proofs.YtdoifmefhofnnaaW.PrintMore Go.Proofs.YtdoifmefhofnnaaW.PrintShort
attribute [local go_sem] run_Add64 run_Sub64
attribute [local go_sem] max2_int min2_int max_two min_two max_three min_three max_four min_four   -- for this text's walks alone
set_option linter.unusedVariables false
set_option linter.unusedSimpArgs false

/-! ### sat_Wide_Minus: function 76 -/
def sat_Wide_Minus.f (a0_0 : Int) (a0_1 : Int) (a1_0 : Int) (a1_1 : Int) : Option (Int × Int) := if (sub64b a0_1 a1_1 0) ≤ 1 then (if (sub64b a0_0 a1_0 (sub64b a0_1 a1_1 0)) = 0 then (some (sub64s a0_0 a1_0 (sub64b a0_1 a1_1 0), sub64s a0_1 a1_1 0)) else (some (0, 0))) else (none)
set_option maxHeartbeats 8000000 in
set_option maxRecDepth 100000 in
theorem sat_Wide_Minus.calls (a0_0 : Int) (a0_1 : Int) (a1_0 : Int) (a1_1 : Int) (r1 : Int) (r2 : Int) (w : World) (h : sat_Wide_Minus.f a0_0 a0_1 a1_0 a1_1 = some (r1, r2)) :
    Calls Try.prog 76 #[.agg #[.int .u64 a0_0, .int .u64 a0_1], .agg #[.int .u64 a1_0, .int .u64 a1_1]] w fun e w' => e = .returned (.agg #[.int .u64 r1, .int .u64 r2]) ∧ Below w.heap.size w w' := by
  have hu60 := Try.underlying60
  have HB := Aside0.mk (Below.refl w.heap.size w)
  have H : (if (sub64b a0_1 a1_1 0) ≤ 1 then (if (sub64b a0_0 a1_0 (sub64b a0_1 a1_1 0)) = 0 then (some (sub64s a0_0 a1_0 (sub64b a0_1 a1_1 0), sub64s a0_1 a1_1 0)) else (some (0, 0))) else (none)) = some (r1, r2) := h
  clear h
  by_cases c3 : (sub64b a0_1 a1_1 0) ≤ 1
  · rw [if_pos c3] at H
    have c3b0 := eq_true c3
    have c3b1 : decide ((sub64b a0_1 a1_1 0) ≤ 1) = true := decide_eq_true c3
    clear c3
    by_cases c4 : (sub64b a0_0 a1_0 (sub64b a0_1 a1_1 0)) = 0
    · rw [if_pos c4] at H
      have c4b0 : ((sub64b a0_0 a1_0 (sub64b a0_1 a1_1 0)) == 0) = true := beq_iff_eq.mpr c4
      have c4b1 : ((sub64b a0_0 a1_0 (sub64b a0_1 a1_1 0)) != 0) = false := bne_eq_false_iff_eq.mpr c4
      clear c4
      simp only [Option.some.injEq, Prod.mk.injEq] at H
      obtain ⟨rfl, rfl⟩ := H
      go_enter Try.func76, Try.ntmps76
      go_wp2_with (first | ((with_reducible refine gate_dst (N := 2) rfl ?_); refine bx 2 #[.int .u64 a0_0, .int .u64 a0_1] 60 ?_; intro gb157 hg w5 hbox hb; have n0_ := bs HB hb; have n1_ := Aside0.mk (hbox); have n2_ := sz HB hg; have n3_ := sz HB hg; clear HB; have HB := n0_; have BK157 := n1_; have GW157 := n2_; have GE157 := n3_; clear n0_ n1_ n2_ n3_; clear hb hbox hg) | ((with_reducible refine gate_dst (N := 3) rfl ?_); refine bx 3 #[.int .u64 a1_0, .int .u64 a1_1] 60 ?_; intro gb158 hg w6 hbox hb; have n0_ := bb BK157 hb; have n1_ := bs HB hb; have n2_ := Aside0.mk (hbox); have n3_ := sz HB hg; have n4_ := sz HB hg; have n5_ := nl BK157 hg; have n6_ := nr BK157 hg; clear BK157; clear HB; have BK157 := n0_; have HB := n1_; have BK158 := n2_; have GW158 := n3_; have GE158 := n4_; have NB157_158 := n5_; have NB158_157 := n6_; clear n0_ n1_ n2_ n3_ n4_ n5_ n6_; clear hb hbox hg) | ((with_reducible refine gate_dst (N := 4) rfl ?_); refine bx 4 #[.int .u64 0, .int .u64 0] 60 ?_; intro gb159 hg w7 hbox hb; have n0_ := bb BK157 hb; have n1_ := bb BK158 hb; have n2_ := bs HB hb; have n3_ := Aside0.mk (hbox); have n4_ := sz HB hg; have n5_ := sz HB hg; have n6_ := nl BK157 hg; have n7_ := nr BK157 hg; have n8_ := nl BK158 hg; have n9_ := nr BK158 hg; clear BK157; clear BK158; clear HB; have BK157 := n0_; have BK158 := n1_; have HB := n2_; have BK159 := n3_; have GW159 := n4_; have GE159 := n5_; have NB157_159 := n6_; have NB159_157 := n7_; have NB158_159 := n8_; have NB159_158 := n9_; clear n0_ n1_ n2_ n3_ n4_ n5_ n6_ n7_ n8_ n9_; clear hb hbox hg; have hnb8 := NB157_158.out; have hnc8 := NB158_157.out; have hnb9 := NB157_159.out; have hnc9 := NB159_157.out; obtain ⟨hcz10_0, hcz10_1, hfz10_0, hfz10_1⟩ := bc2 BK157; have hnb11 := NB158_159.out; have hnc11 := NB159_158.out; obtain ⟨hcz12_0, hcz12_1, hfz12_0, hfz12_1⟩ := bc2 BK158; obtain ⟨hcz13_0, hcz13_1, hfz13_0, hfz13_1⟩ := bc2 BK159))
      refine bodyPost_ret (results_cell_row rfl _ _ gb159 60 #[.int .u64 (sub64s a0_0 a1_0 (sub64b a0_1 a1_1 0)), .int .u64 (sub64s a0_1 a1_1 0)] (0, 0) _ rfl (bk BK159) Try.underlying60 rfl (by kernel_rfl)) rfl ?_
      exact ⟨re, bw HB⟩
    · rw [if_neg c4] at H
      have c4b0 : ((sub64b a0_0 a1_0 (sub64b a0_1 a1_1 0)) == 0) = false := beq_eq_false_iff_ne.mpr c4
      have c4b1 : ((sub64b a0_0 a1_0 (sub64b a0_1 a1_1 0)) != 0) = true := bne_iff_ne.mpr c4
      simp only [Option.some.injEq, Prod.mk.injEq] at H
      obtain ⟨rfl, rfl⟩ := H
      go_enter Try.func76, Try.ntmps76
      go_wp2_with (first | ((with_reducible refine gate_dst (N := 2) rfl ?_); refine bx 2 #[.int .u64 a0_0, .int .u64 a0_1] 60 ?_; intro gb157 hg w14 hbox hb; have n0_ := bs HB hb; have n1_ := Aside0.mk (hbox); have n2_ := sz HB hg; have n3_ := sz HB hg; clear HB; have HB := n0_; have BK157 := n1_; have GW157 := n2_; have GE157 := n3_; clear n0_ n1_ n2_ n3_; clear hb hbox hg) | ((with_reducible refine gate_dst (N := 3) rfl ?_); refine bx 3 #[.int .u64 a1_0, .int .u64 a1_1] 60 ?_; intro gb158 hg w15 hbox hb; have n0_ := bb BK157 hb; have n1_ := bs HB hb; have n2_ := Aside0.mk (hbox); have n3_ := sz HB hg; have n4_ := sz HB hg; have n5_ := nl BK157 hg; have n6_ := nr BK157 hg; clear BK157; clear HB; have BK157 := n0_; have HB := n1_; have BK158 := n2_; have GW158 := n3_; have GE158 := n4_; have NB157_158 := n5_; have NB158_157 := n6_; clear n0_ n1_ n2_ n3_ n4_ n5_ n6_; clear hb hbox hg) | ((with_reducible refine gate_dst (N := 4) rfl ?_); refine bx 4 #[.int .u64 0, .int .u64 0] 60 ?_; intro gb159 hg w16 hbox hb; have n0_ := bb BK157 hb; have n1_ := bb BK158 hb; have n2_ := bs HB hb; have n3_ := Aside0.mk (hbox); have n4_ := sz HB hg; have n5_ := sz HB hg; have n6_ := nl BK157 hg; have n7_ := nr BK157 hg; have n8_ := nl BK158 hg; have n9_ := nr BK158 hg; clear BK157; clear BK158; clear HB; have BK157 := n0_; have BK158 := n1_; have HB := n2_; have BK159 := n3_; have GW159 := n4_; have GE159 := n5_; have NB157_159 := n6_; have NB159_157 := n7_; have NB158_159 := n8_; have NB159_158 := n9_; clear n0_ n1_ n2_ n3_ n4_ n5_ n6_ n7_ n8_ n9_; clear hb hbox hg; have hnb17 := NB157_158.out; have hnc17 := NB158_157.out; have hnb18 := NB157_159.out; have hnc18 := NB159_157.out; obtain ⟨hcz19_0, hcz19_1, hfz19_0, hfz19_1⟩ := bc2 BK157; have hnb20 := NB158_159.out; have hnc20 := NB159_158.out; obtain ⟨hcz21_0, hcz21_1, hfz21_0, hfz21_1⟩ := bc2 BK158; obtain ⟨hcz22_0, hcz22_1, hfz22_0, hfz22_1⟩ := bc2 BK159))
      refine bodyPost_ret (results_cell_row rfl _ _ gb159 60 #[.int .u64 0, .int .u64 0] (0, 0) _ rfl (bk BK159) Try.underlying60 rfl (by kernel_rfl)) rfl ?_
      exact ⟨re, bw HB⟩
  · rw [if_neg c3] at H
    exact absurd H (by simp)

end Go.Proofs.Ytdoifmefhofnnaa.D
