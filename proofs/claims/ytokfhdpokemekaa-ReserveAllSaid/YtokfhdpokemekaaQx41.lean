/- Written by the session's own program hyb.py: what functions of the program compute; Lean checks it. -/
import Derived.Test.YtokfhdpokemekaaQx0
import Derived.Test.YtokfhdpokemekaaQx22
import Derived.Test.YtokfhdpokemekaaQx30
import Derived.Test.YtokfhdpokemekaaQx40
namespace Go.Proofs.Ytokfhdpokemekaa.Q
open Go.RowKit Go.Proofs.YtokfhdpokemekaaW.PrintWords Go.Proofs.YtokfhdpokemekaaW.PrintLast Go.Proofs.YtokfhdpokemekaaW.PrintMore Go.Proofs.YtokfhdpokemekaaW.PrintShort
attribute [local go_sem] run_Add64 run_Sub64
attribute [local go_sem] max2_int min2_int max_two min_two max_three min_three max_four min_four   -- for this text's walks alone
set_option linter.unusedVariables false
set_option linter.unusedSimpArgs false

/-! ### turnstileref17_Ceiling: function 55 -/
def turnstileref17_Ceiling.f (a0_0 : Int) (a0_1 : Int) (a0_2 : Int) (a0_3 : Int) (a0_4 : Int) (a1_0 : Int) (a1_1 : Int) (a1_2 : Int) (a1_3 : Int) (a1_4 : Int) (a2_0 : Int) (a2_1 : Int) (a2_2 : Int) : Option (Int × Int × Int) := (turnstileref06_Valid.f a1_0 a1_1 a1_2 a1_3 a1_4).bind fun t608 => (if t608 = true then (if a1_0 = 1 then ((turnstileref17_plus.f a2_0 a0_0 18446744073709551615).bind fun t609 => (some (t609, 0, 0))) else (if a2_2 > a1_3 then ((turnstileref17_plus.f a2_2 a0_1 a2_2).bind fun t610 => (some (0, a2_1, t610))) else ((turnstileref17_plus.f a2_2 a0_1 a1_3).bind fun t611 => (some (0, a2_1, t611))))) else (some (0, 0, 0)))
def turnstileref17_Ceiling.T9 : Bool × List (List Nat × List Nat) := (true, [([], []), ([0], [0]), ([], []), ([2], [2]), ([], []), ([4], [4]), ([], []), ([3, 5, 6], [3, 5, 6]), ([1, 7], [1, 7]), ([8, 7, 0, 1, 2, 3, 4, 5, 6, 7, 8], [8])])
def turnstileref17_Ceiling.B9 : List Nat := [0, 1, 0, 4, 0, 16, 0, 124, 255, 511]
theorem turnstileref17_Ceiling.tab9 : rtab .any (opsOf Try.f55 9) = turnstileref17_Ceiling.T9 := by kernel_rfl
theorem turnstileref17_Ceiling.bits9 : waitsOk turnstileref17_Ceiling.T9.2 turnstileref17_Ceiling.B9 = true := by kernel_rfl
set_option maxHeartbeats 8000000 in
set_option maxRecDepth 100000 in
theorem turnstileref17_Ceiling.calls (a0_0 : Int) (a0_1 : Int) (a0_2 : Int) (a0_3 : Int) (a0_4 : Int) (a1_0 : Int) (a1_1 : Int) (a1_2 : Int) (a1_3 : Int) (a1_4 : Int) (a2_0 : Int) (a2_1 : Int) (a2_2 : Int) (r1 : Int) (r2 : Int) (r3 : Int) (w : World) (h : turnstileref17_Ceiling.f a0_0 a0_1 a0_2 a0_3 a0_4 a1_0 a1_1 a1_2 a1_3 a1_4 a2_0 a2_1 a2_2 = some (r1, r2, r3)) :
    Calls Try.prog 55 #[.agg #[.int .u64 a0_0, .int .u64 a0_1, .int .i64 a0_2, .int .i64 a0_3, .int .i64 a0_4], .agg #[.int .i64 a1_0, .int .u64 a1_1, .int .u64 a1_2, .int .u64 a1_3, .int .u64 a1_4], .agg #[.int .u64 a2_0, .int .u64 a2_1, .int .u64 a2_2]] w fun e w' => e = .returned (.agg #[.int .u64 r1, .int .u64 r2, .int .u64 r3]) ∧ Below w.heap.size w w' := by
  have hu53 := Try.underlying53
  have hu27 := Try.underlying27
  have hu29 := Try.underlying29
  have HB := Aside0.mk (Below.refl w.heap.size w)
  have H : ((turnstileref06_Valid.f a1_0 a1_1 a1_2 a1_3 a1_4).bind fun t608 => (if t608 = true then (if a1_0 = 1 then ((turnstileref17_plus.f a2_0 a0_0 18446744073709551615).bind fun t609 => (some (t609, 0, 0))) else (if a2_2 > a1_3 then ((turnstileref17_plus.f a2_2 a0_1 a2_2).bind fun t610 => (some (0, a2_1, t610))) else ((turnstileref17_plus.f a2_2 a0_1 a1_3).bind fun t611 => (some (0, a2_1, t611))))) else (some (0, 0, 0)))) = some (r1, r2, r3) := h
  clear h
  replace H := Option.bind_eq_some_iff.mp H
  obtain ⟨t608, A40, H⟩ := H
  replace H : (if t608 = true then (if a1_0 = 1 then ((turnstileref17_plus.f a2_0 a0_0 18446744073709551615).bind fun t609 => (some (t609, 0, 0))) else (if a2_2 > a1_3 then ((turnstileref17_plus.f a2_2 a0_1 a2_2).bind fun t610 => (some (0, a2_1, t610))) else ((turnstileref17_plus.f a2_2 a0_1 a1_3).bind fun t611 => (some (0, a2_1, t611))))) else (some (0, 0, 0))) = some (r1, r2, r3) := H
  have A4 := Aside0.mk A40
  clear A40
  by_cases c5 : t608 = true
  · subst c5
    have H1 : (if a1_0 = 1 then ((turnstileref17_plus.f a2_0 a0_0 18446744073709551615).bind fun t609 => (some (t609, 0, 0))) else (if a2_2 > a1_3 then ((turnstileref17_plus.f a2_2 a0_1 a2_2).bind fun t610 => (some (0, a2_1, t610))) else ((turnstileref17_plus.f a2_2 a0_1 a1_3).bind fun t611 => (some (0, a2_1, t611))))) = some (r1, r2, r3) := by rw [if_pos rfl] at H; exact H
    clear H
    have H := H1
    clear H1
    by_cases c6 : a1_0 = 1
    · rw [if_pos c6] at H
      have c6b0 : (a1_0 == 1) = true := beq_iff_eq.mpr c6
      have c6b1 : (a1_0 != 1) = false := bne_eq_false_iff_eq.mpr c6
      clear c6
      replace H := Option.bind_eq_some_iff.mp H
      obtain ⟨t609, A70, H⟩ := H
      replace H : (some (t609, 0, 0)) = some (r1, r2, r3) := H
      have A7 := Aside0.mk A70
      clear A70
      simp only [Option.some.injEq, Prod.mk.injEq] at H
      obtain ⟨rfl, rfl, rfl⟩ := H
      go_enter Try.func55, Try.ntmps55
      go_wp2_with (first | ((with_reducible refine gate_dst (N := 3) rfl ?_); refine bx 3 #[.int .u64 a0_0, .int .u64 a0_1, .int .i64 a0_2, .int .i64 a0_3, .int .i64 a0_4] 53 ?_; intro gb604 hg w8 hbox hb; have n0_ := bs HB hb; have n1_ := Aside0.mk (hbox); have n2_ := sz HB hg; have n3_ := sz HB hg; clear HB; have HB := n0_; have BK604 := n1_; have GW604 := n2_; have GE604 := n3_; clear n0_ n1_ n2_ n3_; clear hb hbox hg) | ((with_reducible refine gate_dst (N := 4) rfl ?_); refine bx 4 #[.int .i64 a1_0, .int .u64 a1_1, .int .u64 a1_2, .int .u64 a1_3, .int .u64 a1_4] 27 ?_; intro gb605 hg w9 hbox hb; have n0_ := bb BK604 hb; have n1_ := bs HB hb; have n2_ := Aside0.mk (hbox); have n3_ := sz HB hg; have n4_ := sz HB hg; have n5_ := nl BK604 hg; have n6_ := nr BK604 hg; clear BK604; clear HB; have BK604 := n0_; have HB := n1_; have BK605 := n2_; have GW605 := n3_; have GE605 := n4_; have NB604_605 := n5_; have NB605_604 := n6_; clear n0_ n1_ n2_ n3_ n4_ n5_ n6_; clear hb hbox hg) | ((with_reducible refine gate_dst (N := 5) rfl ?_); refine bx 5 #[.int .u64 a2_0, .int .u64 a2_1, .int .u64 a2_2] 29 ?_; intro gb606 hg w10 hbox hb; have n0_ := bb BK604 hb; have n1_ := bb BK605 hb; have n2_ := bs HB hb; have n3_ := Aside0.mk (hbox); have n4_ := sz HB hg; have n5_ := sz HB hg; have n6_ := nl BK604 hg; have n7_ := nr BK604 hg; have n8_ := nl BK605 hg; have n9_ := nr BK605 hg; clear BK604; clear BK605; clear HB; have BK604 := n0_; have BK605 := n1_; have HB := n2_; have BK606 := n3_; have GW606 := n4_; have GE606 := n5_; have NB604_606 := n6_; have NB606_604 := n7_; have NB605_606 := n8_; have NB606_605 := n9_; clear n0_ n1_ n2_ n3_ n4_ n5_ n6_ n7_ n8_ n9_; clear hb hbox hg) | ((with_reducible refine gate_dst (N := 6) rfl ?_); refine bx 6 #[.int .u64 0, .int .u64 0, .int .u64 0] 29 ?_; intro gb607 hg w11 hbox hb; have n0_ := bb BK604 hb; have n1_ := bb BK605 hb; have n2_ := bb BK606 hb; have n3_ := bs HB hb; have n4_ := Aside0.mk (hbox); have n5_ := sz HB hg; have n6_ := sz HB hg; have n7_ := nl BK604 hg; have n8_ := nr BK604 hg; have n9_ := nl BK605 hg; have n10_ := nr BK605 hg; have n11_ := nl BK606 hg; have n12_ := nr BK606 hg; clear BK604; clear BK605; clear BK606; clear HB; have BK604 := n0_; have BK605 := n1_; have BK606 := n2_; have HB := n3_; have BK607 := n4_; have GW607 := n5_; have GE607 := n6_; have NB604_607 := n7_; have NB607_604 := n8_; have NB605_607 := n9_; have NB607_605 := n10_; have NB606_607 := n11_; have NB607_606 := n12_; clear n0_ n1_ n2_ n3_ n4_ n5_ n6_ n7_ n8_ n9_ n10_ n11_ n12_; clear hb hbox hg; have hnb12 := NB605_604.out; have hnc12 := NB604_605.out; have hnb13 := NB605_606.out; have hnc13 := NB606_605.out; have hnb14 := NB605_607.out; have hnc14 := NB607_605.out; obtain ⟨hcz15_0, hcz15_1, hcz15_2, hcz15_3, hcz15_4, hfz15_0, hfz15_1, hfz15_2, hfz15_3, hfz15_4⟩ := bc5 BK605) | ((with_reducible refine gate_callee (f := 41) rfl ?_); refine gm (some 10) Try.func41 #[.agg #[.int .i64 a1_0, .int .u64 a1_1, .int .u64 a1_2, .int .u64 a1_3, .int .u64 a1_4]] (turnstileref06_Valid.calls a1_0 a1_1 a1_2 a1_3 a1_4 true _ A4.out) ?_; intro w16 hb; have n0_ := bb BK604 hb; have n1_ := bb BK605 hb; have n2_ := bb BK606 hb; have n3_ := bb BK607 hb; have n4_ := bs HB hb; clear BK604; clear BK605; clear BK606; clear BK607; clear HB; have BK604 := n0_; have BK605 := n1_; have BK606 := n2_; have BK607 := n3_; have HB := n4_; clear n0_ n1_ n2_ n3_ n4_; (try clear hb); (try clear hb2); (try clear hk); (try clear hi); obtain ⟨hcz17_0, hcz17_1, hcz17_2, hcz17_3, hcz17_4, hfz17_0, hfz17_1, hfz17_2, hfz17_3, hfz17_4⟩ := bc5 BK605; have hnb18 := NB606_604.out; have hnc18 := NB604_606.out; have hnb19 := NB606_607.out; have hnc19 := NB607_606.out; obtain ⟨hcz20_0, hcz20_1, hcz20_2, hfz20_0, hfz20_1, hfz20_2⟩ := bc3 BK606; have hnb21 := NB604_607.out; have hnc21 := NB607_604.out; obtain ⟨hcz22_0, hcz22_1, hcz22_2, hcz22_3, hcz22_4, hfz22_0, hfz22_1, hfz22_2, hfz22_3, hfz22_4⟩ := bc5 BK604) | ((with_reducible refine gate_callee (f := 71) rfl ?_); refine gl (some 21) Try.func71 #[.int .u64 a2_0, .int .u64 a0_0, .int .u64 18446744073709551615] ?_; (with_reducible refine (turnstileref17_plus.calls a2_0 a0_0 18446744073709551615 t609 _ A7.out).mono ?_); rintro e w' ⟨rfl, ⟨nd, rfl⟩⟩; refine ⟨_, rfl, ?_⟩; (try (rw [drewN_self w16]; generalize hq_ : World.drewN w16 _ = w16; have n0_ : Aside0 (w16.heap[gb604]? = some (.cells #[.int .u64 a0_0, .int .u64 a0_1, .int .i64 a0_2, .int .i64 a0_3, .int .i64 a0_4] 53 (0, 0))) := ⟨by rw [← hq_]; exact (bk BK604)⟩; have n1_ : Aside0 (w16.heap[gb605]? = some (.cells #[.int .i64 a1_0, .int .u64 a1_1, .int .u64 a1_2, .int .u64 a1_3, .int .u64 a1_4] 27 (0, 0))) := ⟨by rw [← hq_]; exact (bk BK605)⟩; have n2_ : Aside0 (w16.heap[gb606]? = some (.cells #[.int .u64 a2_0, .int .u64 a2_1, .int .u64 a2_2] 29 (0, 0))) := ⟨by rw [← hq_]; exact (bk BK606)⟩; have n3_ : Aside0 (w16.heap[gb607]? = some (.cells #[.int .u64 0, .int .u64 0, .int .u64 0] 29 (0, 0))) := ⟨by rw [← hq_]; exact (bk BK607)⟩; have n4_ : Aside0 (Below w.heap.size w w16) := ⟨by rw [← hq_]; exact (bw HB)⟩; clear BK604 BK605 BK606 BK607 HB hq_; have BK604 := n0_; have BK605 := n1_; have BK606 := n2_; have BK607 := n3_; have HB := n4_; clear n0_ n1_ n2_ n3_ n4_)); obtain ⟨hcz23_0, hcz23_1, hcz23_2, hfz23_0, hfz23_1, hfz23_2⟩ := bc3 BK607))
      refine bodyPost_ret (results_cell_row rfl _ _ gb607 29 #[.int .u64 t609, .int .u64 0, .int .u64 0] (0, 0) _ rfl (bk BK607) Try.underlying29 rfl (by kernel_rfl)) rfl ?_
      exact ⟨re, bw HB⟩
    · rw [if_neg c6] at H
      have c6b0 : (a1_0 == 1) = false := beq_eq_false_iff_ne.mpr c6
      have c6b1 : (a1_0 != 1) = true := bne_iff_ne.mpr c6
      by_cases c24 : a2_2 > a1_3
      · rw [if_pos c24] at H
        have c24b0 : decide (a1_3 < a2_2) = true := decide_eq_true c24
        clear c24
        replace H := Option.bind_eq_some_iff.mp H
        obtain ⟨t610, A250, H⟩ := H
        replace H : (some (0, a2_1, t610)) = some (r1, r2, r3) := H
        have A25 := Aside0.mk A250
        clear A250
        simp only [Option.some.injEq, Prod.mk.injEq] at H
        obtain ⟨rfl, rfl, rfl⟩ := H
        go_enter Try.func55, Try.ntmps55
        try go_wp2_with (first | ((with_reducible refine gate_dst (N := 3) rfl ?_); refine bx 3 #[.int .u64 a0_0, .int .u64 a0_1, .int .i64 a0_2, .int .i64 a0_3, .int .i64 a0_4] 53 ?_; intro gb604 hg w26 hbox hb; have n0_ := bs HB hb; have n1_ := Aside0.mk (hbox); have n2_ := sz HB hg; have n3_ := sz HB hg; clear HB; have HB := n0_; have BK604 := n1_; have GW604 := n2_; have GE604 := n3_; clear n0_ n1_ n2_ n3_; clear hb hbox hg) | ((with_reducible refine gate_dst (N := 4) rfl ?_); refine bx 4 #[.int .i64 a1_0, .int .u64 a1_1, .int .u64 a1_2, .int .u64 a1_3, .int .u64 a1_4] 27 ?_; intro gb605 hg w27 hbox hb; have n0_ := bb BK604 hb; have n1_ := bs HB hb; have n2_ := Aside0.mk (hbox); have n3_ := sz HB hg; have n4_ := sz HB hg; have n5_ := nl BK604 hg; have n6_ := nr BK604 hg; clear BK604; clear HB; have BK604 := n0_; have HB := n1_; have BK605 := n2_; have GW605 := n3_; have GE605 := n4_; have NB604_605 := n5_; have NB605_604 := n6_; clear n0_ n1_ n2_ n3_ n4_ n5_ n6_; clear hb hbox hg) | ((with_reducible refine gate_dst (N := 5) rfl ?_); refine bx 5 #[.int .u64 a2_0, .int .u64 a2_1, .int .u64 a2_2] 29 ?_; intro gb606 hg w28 hbox hb; have n0_ := bb BK604 hb; have n1_ := bb BK605 hb; have n2_ := bs HB hb; have n3_ := Aside0.mk (hbox); have n4_ := sz HB hg; have n5_ := sz HB hg; have n6_ := nl BK604 hg; have n7_ := nr BK604 hg; have n8_ := nl BK605 hg; have n9_ := nr BK605 hg; clear BK604; clear BK605; clear HB; have BK604 := n0_; have BK605 := n1_; have HB := n2_; have BK606 := n3_; have GW606 := n4_; have GE606 := n5_; have NB604_606 := n6_; have NB606_604 := n7_; have NB605_606 := n8_; have NB606_605 := n9_; clear n0_ n1_ n2_ n3_ n4_ n5_ n6_ n7_ n8_ n9_; clear hb hbox hg) | ((with_reducible refine gate_dst (N := 6) rfl ?_); refine bx 6 #[.int .u64 0, .int .u64 0, .int .u64 0] 29 ?_; intro gb607 hg w29 hbox hb; have n0_ := bb BK604 hb; have n1_ := bb BK605 hb; have n2_ := bb BK606 hb; have n3_ := bs HB hb; have n4_ := Aside0.mk (hbox); have n5_ := sz HB hg; have n6_ := sz HB hg; have n7_ := nl BK604 hg; have n8_ := nr BK604 hg; have n9_ := nl BK605 hg; have n10_ := nr BK605 hg; have n11_ := nl BK606 hg; have n12_ := nr BK606 hg; clear BK604; clear BK605; clear BK606; clear HB; have BK604 := n0_; have BK605 := n1_; have BK606 := n2_; have HB := n3_; have BK607 := n4_; have GW607 := n5_; have GE607 := n6_; have NB604_607 := n7_; have NB607_604 := n8_; have NB605_607 := n9_; have NB607_605 := n10_; have NB606_607 := n11_; have NB607_606 := n12_; clear n0_ n1_ n2_ n3_ n4_ n5_ n6_ n7_ n8_ n9_ n10_ n11_ n12_; clear hb hbox hg; have hnb30 := NB605_604.out; have hnc30 := NB604_605.out; have hnb31 := NB605_606.out; have hnc31 := NB606_605.out; have hnb32 := NB605_607.out; have hnc32 := NB607_605.out; obtain ⟨hcz33_0, hcz33_1, hcz33_2, hcz33_3, hcz33_4, hfz33_0, hfz33_1, hfz33_2, hfz33_3, hfz33_4⟩ := bc5 BK605) | ((with_reducible refine gate_callee (f := 41) rfl ?_); refine gm (some 10) Try.func41 #[.agg #[.int .i64 a1_0, .int .u64 a1_1, .int .u64 a1_2, .int .u64 a1_3, .int .u64 a1_4]] (turnstileref06_Valid.calls a1_0 a1_1 a1_2 a1_3 a1_4 true _ A4.out) ?_; intro w34 hb; have n0_ := bb BK604 hb; have n1_ := bb BK605 hb; have n2_ := bb BK606 hb; have n3_ := bb BK607 hb; have n4_ := bs HB hb; clear BK604; clear BK605; clear BK606; clear BK607; clear HB; have BK604 := n0_; have BK605 := n1_; have BK606 := n2_; have BK607 := n3_; have HB := n4_; clear n0_ n1_ n2_ n3_ n4_; (try clear hb); (try clear hb2); (try clear hk); (try clear hi); obtain ⟨hcz35_0, hcz35_1, hcz35_2, hcz35_3, hcz35_4, hfz35_0, hfz35_1, hfz35_2, hfz35_3, hfz35_4⟩ := bc5 BK605; have hnb36 := NB606_604.out; have hnc36 := NB604_606.out; have hnb37 := NB606_607.out; have hnc37 := NB607_606.out; obtain ⟨hcz38_0, hcz38_1, hcz38_2, hfz38_0, hfz38_1, hfz38_2⟩ := bc3 BK606))
        have n0_ := Aside0.mk (blk_drew BK604.out)
        have n1_ := Aside0.mk (blk_drew BK605.out)
        have n2_ := Aside0.mk (blk_drew BK606.out)
        have n3_ := Aside0.mk (blk_drew BK607.out)
        have n4_ := Aside0.mk (below_drew1 HB.out)
        clear BK604
        clear BK605
        clear BK606
        clear BK607
        clear HB
        have BK604 := n0_
        have BK605 := n1_
        have BK606 := n2_
        have BK607 := n3_
        have HB := n4_
        clear n0_ n1_ n2_ n3_ n4_
        refine start_ (n := 10) (S := fun w' => w'.cell? ⟨gb606, 0, none⟩ = some (.int .u64 a2_0) ∧ w'.cell? ⟨gb606, 1, none⟩ = some (.int .u64 a2_1) ∧ w'.cell? ⟨gb606, 2, none⟩ = some (.int .u64 a2_2) ∧ w'.cell? ⟨gb604, 0, none⟩ = some (.int .u64 a0_0) ∧ w'.cell? ⟨gb604, 1, none⟩ = some (.int .u64 a0_1) ∧ w'.cell? ⟨gb604, 2, none⟩ = some (.int .i64 a0_2) ∧ w'.cell? ⟨gb604, 3, none⟩ = some (.int .i64 a0_3) ∧ w'.cell? ⟨gb604, 4, none⟩ = some (.int .i64 a0_4)) (ds := []) #[false, false, false, false, false, false, false, false, false, false] (by kernel_rfl) rfl rfl ⟨(blk_cell BK606.out 0).trans rfl, (blk_cell BK606.out 1).trans rfl, (blk_cell BK606.out 2).trans rfl, (blk_cell BK604.out 0).trans rfl, (blk_cell BK604.out 1).trans rfl, (blk_cell BK604.out 2).trans rfl, (blk_cell BK604.out 3).trans rfl, (blk_cell BK604.out 4).trans rfl⟩ (fun hHeld => ?_); refine with_tabW turnstileref17_Ceiling.tab9 turnstileref17_Ceiling.bits9 (fun HT_ HW_ => ?_)
        generalize w34.drew = w39 at BK604 BK605 BK606 BK607 HB hHeld ⊢
        refine chain_ (fuel := 3) [(0, 0, some 31), (2, 0, some 33), (4, 0, some 35), (6, 0, some 37), (1, 1, some 32), (3, 1, some 34), (5, 1, some 36)] #[true, true, true, true, true, true, true, false, false, false] HT_.out HW_.out (by kernel_rfl) (fun _ _ _ _ _ h => h) (Or.inr hHeld) rfl ?_
        (iterate 4 refine lkP ?_); (iterate 3 refine lkT ?_); refine .nil ?_
        refine one_ (i := 7) (N := some 38) #[true, true, true, true, true, true, true, true, false, false] rfl rfl (one_of HT_.out (by kernel_rfl)) (by decide) (fun K hK => ?_)
        refine ge Try.func71 #[.int .u64 a2_2, .int .u64 a0_1, .int .u64 a2_2] ?_
        with_reducible refine (turnstileref17_plus.calls a2_2 a0_1 a2_2 t610 _ A25.out).mono ?_
        rintro e w' ⟨rfl, ⟨nd, rfl⟩⟩
        refine ⟨_, rfl, ?_⟩
        refine hK.out _ _ ⟨(blk_cell BK606.out 0).trans rfl, (blk_cell BK606.out 1).trans rfl, (blk_cell BK606.out 2).trans rfl, (blk_cell BK604.out 0).trans rfl, (blk_cell BK604.out 1).trans rfl, (blk_cell BK604.out 2).trans rfl, (blk_cell BK604.out 3).trans rfl, (blk_cell BK604.out 4).trans rfl⟩ (fun hHeld => ?_)
        clear hK K
        refine norm_ (a' := ?_) ?_ ?_
        rotate_left
        · show Act.put _ (some 38) _ = _
          simp only [Act.put, List.setIfInBounds_toArray, List.set_cons_zero, List.set_cons_succ, i64_w, i32_w]
          rfl
        refine chain_ (fuel := 1) [(8, 0, some 39)] #[true, true, true, true, true, true, true, true, true, false] HT_.out HW_.out (by kernel_rfl) (fun _ _ _ _ _ h => h) (Or.inl (by decide)) rfl ?_
        refine lkP ?_; refine .nil ?_
        refine one_ (i := 9) (N := none) #[true, true, true, true, true, true, true, true, true, true] rfl rfl (one_of HT_.out (by kernel_rfl)) (by decide) (fun K hK => ?_)
        have hs40 : w39.cell? ⟨gb607, 0, none⟩ = some (.int .u64 0) := (blk_cell BK607.out 0).trans rfl
        have hfs40 := blk_frozen BK607.out 0
        have hns40_0 := NB604_607.out
        have hns40_1 := NB605_607.out
        have hns40_2 := NB606_607.out
        have hms40_0 := NB607_604.out
        have hms40_1 := NB607_605.out
        have hms40_2 := NB607_606.out
        have hs41 : w39.cell? ⟨gb607, 1, none⟩ = some (.int .u64 0) := (blk_cell BK607.out 1).trans rfl
        have hfs41 := blk_frozen BK607.out 1
        have hns41_0 := NB604_607.out
        have hns41_1 := NB605_607.out
        have hns41_2 := NB606_607.out
        have hms41_0 := NB607_604.out
        have hms41_1 := NB607_605.out
        have hms41_2 := NB607_606.out
        have hs42 : w39.cell? ⟨gb607, 2, none⟩ = some (.int .u64 0) := (blk_cell BK607.out 2).trans rfl
        have hfs42 := blk_frozen BK607.out 2
        have hns42_0 := NB604_607.out
        have hns42_1 := NB605_607.out
        have hns42_2 := NB606_607.out
        have hms42_0 := NB607_604.out
        have hms42_1 := NB607_605.out
        have hms42_2 := NB607_606.out
        refine skip_ (w1 := ?_) (by rfl) rfl ?_ ?_
        rotate_left
        · go_simp
          rfl
        refine hK.out _ _ ⟨((cell_far (p := ⟨gb607, _, none⟩) NB606_607.out _).trans (((cell_far (p := ⟨gb607, _, none⟩) NB606_607.out _).trans (((cell_far (p := ⟨gb607, _, none⟩) NB606_607.out _).trans (hHeld.1)))))), ((cell_far (p := ⟨gb607, _, none⟩) NB606_607.out _).trans (((cell_far (p := ⟨gb607, _, none⟩) NB606_607.out _).trans (((cell_far (p := ⟨gb607, _, none⟩) NB606_607.out _).trans (hHeld.2.1)))))), ((cell_far (p := ⟨gb607, _, none⟩) NB606_607.out _).trans (((cell_far (p := ⟨gb607, _, none⟩) NB606_607.out _).trans (((cell_far (p := ⟨gb607, _, none⟩) NB606_607.out _).trans (hHeld.2.2.1)))))), ((cell_far (p := ⟨gb607, _, none⟩) NB604_607.out _).trans (((cell_far (p := ⟨gb607, _, none⟩) NB604_607.out _).trans (((cell_far (p := ⟨gb607, _, none⟩) NB604_607.out _).trans (hHeld.2.2.2.1)))))), ((cell_far (p := ⟨gb607, _, none⟩) NB604_607.out _).trans (((cell_far (p := ⟨gb607, _, none⟩) NB604_607.out _).trans (((cell_far (p := ⟨gb607, _, none⟩) NB604_607.out _).trans (hHeld.2.2.2.2.1)))))), ((cell_far (p := ⟨gb607, _, none⟩) NB604_607.out _).trans (((cell_far (p := ⟨gb607, _, none⟩) NB604_607.out _).trans (((cell_far (p := ⟨gb607, _, none⟩) NB604_607.out _).trans (hHeld.2.2.2.2.2.1)))))), ((cell_far (p := ⟨gb607, _, none⟩) NB604_607.out _).trans (((cell_far (p := ⟨gb607, _, none⟩) NB604_607.out _).trans (((cell_far (p := ⟨gb607, _, none⟩) NB604_607.out _).trans (hHeld.2.2.2.2.2.2.1)))))), ((cell_far (p := ⟨gb607, _, none⟩) NB604_607.out _).trans (((cell_far (p := ⟨gb607, _, none⟩) NB604_607.out _).trans (((cell_far (p := ⟨gb607, _, none⟩) NB604_607.out _).trans (hHeld.2.2.2.2.2.2.2))))))⟩ (fun hHeld => ?_)
        clear hK K
        refine done_ (done_of HT_.out (by kernel_rfl)) ?_
        try go_wp2
        refine bodyPost_ret (results_cell_row rfl _ _ gb607 29 #[.int .u64 0, .int .u64 a2_1, .int .u64 t610] (0, 0) _ rfl (bk BK607) Try.underlying29 rfl (by kernel_rfl)) rfl ?_
        exact ⟨re, bw HB⟩
      · rw [if_neg c24] at H
        have c24b0 : decide (a1_3 < a2_2) = false := decide_eq_false c24
        clear c24
        replace H := Option.bind_eq_some_iff.mp H
        obtain ⟨t611, A430, H⟩ := H
        replace H : (some (0, a2_1, t611)) = some (r1, r2, r3) := H
        have A43 := Aside0.mk A430
        clear A430
        simp only [Option.some.injEq, Prod.mk.injEq] at H
        obtain ⟨rfl, rfl, rfl⟩ := H
        go_enter Try.func55, Try.ntmps55
        try go_wp2_with (first | ((with_reducible refine gate_dst (N := 3) rfl ?_); refine bx 3 #[.int .u64 a0_0, .int .u64 a0_1, .int .i64 a0_2, .int .i64 a0_3, .int .i64 a0_4] 53 ?_; intro gb604 hg w44 hbox hb; have n0_ := bs HB hb; have n1_ := Aside0.mk (hbox); have n2_ := sz HB hg; have n3_ := sz HB hg; clear HB; have HB := n0_; have BK604 := n1_; have GW604 := n2_; have GE604 := n3_; clear n0_ n1_ n2_ n3_; clear hb hbox hg) | ((with_reducible refine gate_dst (N := 4) rfl ?_); refine bx 4 #[.int .i64 a1_0, .int .u64 a1_1, .int .u64 a1_2, .int .u64 a1_3, .int .u64 a1_4] 27 ?_; intro gb605 hg w45 hbox hb; have n0_ := bb BK604 hb; have n1_ := bs HB hb; have n2_ := Aside0.mk (hbox); have n3_ := sz HB hg; have n4_ := sz HB hg; have n5_ := nl BK604 hg; have n6_ := nr BK604 hg; clear BK604; clear HB; have BK604 := n0_; have HB := n1_; have BK605 := n2_; have GW605 := n3_; have GE605 := n4_; have NB604_605 := n5_; have NB605_604 := n6_; clear n0_ n1_ n2_ n3_ n4_ n5_ n6_; clear hb hbox hg) | ((with_reducible refine gate_dst (N := 5) rfl ?_); refine bx 5 #[.int .u64 a2_0, .int .u64 a2_1, .int .u64 a2_2] 29 ?_; intro gb606 hg w46 hbox hb; have n0_ := bb BK604 hb; have n1_ := bb BK605 hb; have n2_ := bs HB hb; have n3_ := Aside0.mk (hbox); have n4_ := sz HB hg; have n5_ := sz HB hg; have n6_ := nl BK604 hg; have n7_ := nr BK604 hg; have n8_ := nl BK605 hg; have n9_ := nr BK605 hg; clear BK604; clear BK605; clear HB; have BK604 := n0_; have BK605 := n1_; have HB := n2_; have BK606 := n3_; have GW606 := n4_; have GE606 := n5_; have NB604_606 := n6_; have NB606_604 := n7_; have NB605_606 := n8_; have NB606_605 := n9_; clear n0_ n1_ n2_ n3_ n4_ n5_ n6_ n7_ n8_ n9_; clear hb hbox hg) | ((with_reducible refine gate_dst (N := 6) rfl ?_); refine bx 6 #[.int .u64 0, .int .u64 0, .int .u64 0] 29 ?_; intro gb607 hg w47 hbox hb; have n0_ := bb BK604 hb; have n1_ := bb BK605 hb; have n2_ := bb BK606 hb; have n3_ := bs HB hb; have n4_ := Aside0.mk (hbox); have n5_ := sz HB hg; have n6_ := sz HB hg; have n7_ := nl BK604 hg; have n8_ := nr BK604 hg; have n9_ := nl BK605 hg; have n10_ := nr BK605 hg; have n11_ := nl BK606 hg; have n12_ := nr BK606 hg; clear BK604; clear BK605; clear BK606; clear HB; have BK604 := n0_; have BK605 := n1_; have BK606 := n2_; have HB := n3_; have BK607 := n4_; have GW607 := n5_; have GE607 := n6_; have NB604_607 := n7_; have NB607_604 := n8_; have NB605_607 := n9_; have NB607_605 := n10_; have NB606_607 := n11_; have NB607_606 := n12_; clear n0_ n1_ n2_ n3_ n4_ n5_ n6_ n7_ n8_ n9_ n10_ n11_ n12_; clear hb hbox hg; have hnb48 := NB605_604.out; have hnc48 := NB604_605.out; have hnb49 := NB605_606.out; have hnc49 := NB606_605.out; have hnb50 := NB605_607.out; have hnc50 := NB607_605.out; obtain ⟨hcz51_0, hcz51_1, hcz51_2, hcz51_3, hcz51_4, hfz51_0, hfz51_1, hfz51_2, hfz51_3, hfz51_4⟩ := bc5 BK605) | ((with_reducible refine gate_callee (f := 41) rfl ?_); refine gm (some 10) Try.func41 #[.agg #[.int .i64 a1_0, .int .u64 a1_1, .int .u64 a1_2, .int .u64 a1_3, .int .u64 a1_4]] (turnstileref06_Valid.calls a1_0 a1_1 a1_2 a1_3 a1_4 true _ A4.out) ?_; intro w52 hb; have n0_ := bb BK604 hb; have n1_ := bb BK605 hb; have n2_ := bb BK606 hb; have n3_ := bb BK607 hb; have n4_ := bs HB hb; clear BK604; clear BK605; clear BK606; clear BK607; clear HB; have BK604 := n0_; have BK605 := n1_; have BK606 := n2_; have BK607 := n3_; have HB := n4_; clear n0_ n1_ n2_ n3_ n4_; (try clear hb); (try clear hb2); (try clear hk); (try clear hi); obtain ⟨hcz53_0, hcz53_1, hcz53_2, hcz53_3, hcz53_4, hfz53_0, hfz53_1, hfz53_2, hfz53_3, hfz53_4⟩ := bc5 BK605; have hnb54 := NB606_604.out; have hnc54 := NB604_606.out; have hnb55 := NB606_607.out; have hnc55 := NB607_606.out; obtain ⟨hcz56_0, hcz56_1, hcz56_2, hfz56_0, hfz56_1, hfz56_2⟩ := bc3 BK606))
        have n0_ := Aside0.mk (blk_drew BK604.out)
        have n1_ := Aside0.mk (blk_drew BK605.out)
        have n2_ := Aside0.mk (blk_drew BK606.out)
        have n3_ := Aside0.mk (blk_drew BK607.out)
        have n4_ := Aside0.mk (below_drew1 HB.out)
        clear BK604
        clear BK605
        clear BK606
        clear BK607
        clear HB
        have BK604 := n0_
        have BK605 := n1_
        have BK606 := n2_
        have BK607 := n3_
        have HB := n4_
        clear n0_ n1_ n2_ n3_ n4_
        refine start_ (n := 10) (S := fun w' => w'.cell? ⟨gb606, 0, none⟩ = some (.int .u64 a2_0) ∧ w'.cell? ⟨gb606, 1, none⟩ = some (.int .u64 a2_1) ∧ w'.cell? ⟨gb606, 2, none⟩ = some (.int .u64 a2_2) ∧ w'.cell? ⟨gb604, 0, none⟩ = some (.int .u64 a0_0) ∧ w'.cell? ⟨gb604, 1, none⟩ = some (.int .u64 a0_1) ∧ w'.cell? ⟨gb604, 2, none⟩ = some (.int .i64 a0_2) ∧ w'.cell? ⟨gb604, 3, none⟩ = some (.int .i64 a0_3) ∧ w'.cell? ⟨gb604, 4, none⟩ = some (.int .i64 a0_4)) (ds := []) #[false, false, false, false, false, false, false, false, false, false] (by kernel_rfl) rfl rfl ⟨(blk_cell BK606.out 0).trans rfl, (blk_cell BK606.out 1).trans rfl, (blk_cell BK606.out 2).trans rfl, (blk_cell BK604.out 0).trans rfl, (blk_cell BK604.out 1).trans rfl, (blk_cell BK604.out 2).trans rfl, (blk_cell BK604.out 3).trans rfl, (blk_cell BK604.out 4).trans rfl⟩ (fun hHeld => ?_); refine with_tabW turnstileref17_Ceiling.tab9 turnstileref17_Ceiling.bits9 (fun HT_ HW_ => ?_)
        generalize w52.drew = w57 at BK604 BK605 BK606 BK607 HB hHeld ⊢
        refine chain_ (fuel := 3) [(0, 0, some 31), (2, 0, some 33), (4, 0, some 35), (6, 0, some 37), (1, 1, some 32), (3, 1, some 34), (5, 1, some 36)] #[true, true, true, true, true, true, true, false, false, false] HT_.out HW_.out (by kernel_rfl) (fun _ _ _ _ _ h => h) (Or.inr hHeld) rfl ?_
        (iterate 4 refine lkP ?_); (iterate 3 refine lkT ?_); refine .nil ?_
        refine one_ (i := 7) (N := some 38) #[true, true, true, true, true, true, true, true, false, false] rfl rfl (one_of HT_.out (by kernel_rfl)) (by decide) (fun K hK => ?_)
        refine ge Try.func71 #[.int .u64 a2_2, .int .u64 a0_1, .int .u64 a1_3] ?_
        with_reducible refine (turnstileref17_plus.calls a2_2 a0_1 a1_3 t611 _ A43.out).mono ?_
        rintro e w' ⟨rfl, ⟨nd, rfl⟩⟩
        refine ⟨_, rfl, ?_⟩
        refine hK.out _ _ ⟨(blk_cell BK606.out 0).trans rfl, (blk_cell BK606.out 1).trans rfl, (blk_cell BK606.out 2).trans rfl, (blk_cell BK604.out 0).trans rfl, (blk_cell BK604.out 1).trans rfl, (blk_cell BK604.out 2).trans rfl, (blk_cell BK604.out 3).trans rfl, (blk_cell BK604.out 4).trans rfl⟩ (fun hHeld => ?_)
        clear hK K
        refine norm_ (a' := ?_) ?_ ?_
        rotate_left
        · show Act.put _ (some 38) _ = _
          simp only [Act.put, List.setIfInBounds_toArray, List.set_cons_zero, List.set_cons_succ, i64_w, i32_w]
          rfl
        refine chain_ (fuel := 1) [(8, 0, some 39)] #[true, true, true, true, true, true, true, true, true, false] HT_.out HW_.out (by kernel_rfl) (fun _ _ _ _ _ h => h) (Or.inl (by decide)) rfl ?_
        refine lkP ?_; refine .nil ?_
        refine one_ (i := 9) (N := none) #[true, true, true, true, true, true, true, true, true, true] rfl rfl (one_of HT_.out (by kernel_rfl)) (by decide) (fun K hK => ?_)
        have hs58 : w57.cell? ⟨gb607, 0, none⟩ = some (.int .u64 0) := (blk_cell BK607.out 0).trans rfl
        have hfs58 := blk_frozen BK607.out 0
        have hns58_0 := NB604_607.out
        have hns58_1 := NB605_607.out
        have hns58_2 := NB606_607.out
        have hms58_0 := NB607_604.out
        have hms58_1 := NB607_605.out
        have hms58_2 := NB607_606.out
        have hs59 : w57.cell? ⟨gb607, 1, none⟩ = some (.int .u64 0) := (blk_cell BK607.out 1).trans rfl
        have hfs59 := blk_frozen BK607.out 1
        have hns59_0 := NB604_607.out
        have hns59_1 := NB605_607.out
        have hns59_2 := NB606_607.out
        have hms59_0 := NB607_604.out
        have hms59_1 := NB607_605.out
        have hms59_2 := NB607_606.out
        have hs60 : w57.cell? ⟨gb607, 2, none⟩ = some (.int .u64 0) := (blk_cell BK607.out 2).trans rfl
        have hfs60 := blk_frozen BK607.out 2
        have hns60_0 := NB604_607.out
        have hns60_1 := NB605_607.out
        have hns60_2 := NB606_607.out
        have hms60_0 := NB607_604.out
        have hms60_1 := NB607_605.out
        have hms60_2 := NB607_606.out
        refine skip_ (w1 := ?_) (by rfl) rfl ?_ ?_
        rotate_left
        · go_simp
          rfl
        refine hK.out _ _ ⟨((cell_far (p := ⟨gb607, _, none⟩) NB606_607.out _).trans (((cell_far (p := ⟨gb607, _, none⟩) NB606_607.out _).trans (((cell_far (p := ⟨gb607, _, none⟩) NB606_607.out _).trans (hHeld.1)))))), ((cell_far (p := ⟨gb607, _, none⟩) NB606_607.out _).trans (((cell_far (p := ⟨gb607, _, none⟩) NB606_607.out _).trans (((cell_far (p := ⟨gb607, _, none⟩) NB606_607.out _).trans (hHeld.2.1)))))), ((cell_far (p := ⟨gb607, _, none⟩) NB606_607.out _).trans (((cell_far (p := ⟨gb607, _, none⟩) NB606_607.out _).trans (((cell_far (p := ⟨gb607, _, none⟩) NB606_607.out _).trans (hHeld.2.2.1)))))), ((cell_far (p := ⟨gb607, _, none⟩) NB604_607.out _).trans (((cell_far (p := ⟨gb607, _, none⟩) NB604_607.out _).trans (((cell_far (p := ⟨gb607, _, none⟩) NB604_607.out _).trans (hHeld.2.2.2.1)))))), ((cell_far (p := ⟨gb607, _, none⟩) NB604_607.out _).trans (((cell_far (p := ⟨gb607, _, none⟩) NB604_607.out _).trans (((cell_far (p := ⟨gb607, _, none⟩) NB604_607.out _).trans (hHeld.2.2.2.2.1)))))), ((cell_far (p := ⟨gb607, _, none⟩) NB604_607.out _).trans (((cell_far (p := ⟨gb607, _, none⟩) NB604_607.out _).trans (((cell_far (p := ⟨gb607, _, none⟩) NB604_607.out _).trans (hHeld.2.2.2.2.2.1)))))), ((cell_far (p := ⟨gb607, _, none⟩) NB604_607.out _).trans (((cell_far (p := ⟨gb607, _, none⟩) NB604_607.out _).trans (((cell_far (p := ⟨gb607, _, none⟩) NB604_607.out _).trans (hHeld.2.2.2.2.2.2.1)))))), ((cell_far (p := ⟨gb607, _, none⟩) NB604_607.out _).trans (((cell_far (p := ⟨gb607, _, none⟩) NB604_607.out _).trans (((cell_far (p := ⟨gb607, _, none⟩) NB604_607.out _).trans (hHeld.2.2.2.2.2.2.2))))))⟩ (fun hHeld => ?_)
        clear hK K
        refine done_ (done_of HT_.out (by kernel_rfl)) ?_
        try go_wp2
        refine bodyPost_ret (results_cell_row rfl _ _ gb607 29 #[.int .u64 0, .int .u64 a2_1, .int .u64 t611] (0, 0) _ rfl (bk BK607) Try.underlying29 rfl (by kernel_rfl)) rfl ?_
        exact ⟨re, bw HB⟩
  · replace c5 := Bool.eq_false_iff.mpr c5
    subst c5
    have H1 : (some (0, 0, 0)) = some (r1, r2, r3) := by rw [if_neg (show ¬ (false = true) by decide)] at H; exact H
    clear H
    have H := H1
    clear H1
    simp only [Option.some.injEq, Prod.mk.injEq] at H
    obtain ⟨rfl, rfl, rfl⟩ := H
    go_enter Try.func55, Try.ntmps55
    go_wp2_with (first | ((with_reducible refine gate_dst (N := 3) rfl ?_); refine bx 3 #[.int .u64 a0_0, .int .u64 a0_1, .int .i64 a0_2, .int .i64 a0_3, .int .i64 a0_4] 53 ?_; intro gb604 hg w61 hbox hb; have n0_ := bs HB hb; have n1_ := Aside0.mk (hbox); have n2_ := sz HB hg; have n3_ := sz HB hg; clear HB; have HB := n0_; have BK604 := n1_; have GW604 := n2_; have GE604 := n3_; clear n0_ n1_ n2_ n3_; clear hb hbox hg) | ((with_reducible refine gate_dst (N := 4) rfl ?_); refine bx 4 #[.int .i64 a1_0, .int .u64 a1_1, .int .u64 a1_2, .int .u64 a1_3, .int .u64 a1_4] 27 ?_; intro gb605 hg w62 hbox hb; have n0_ := bb BK604 hb; have n1_ := bs HB hb; have n2_ := Aside0.mk (hbox); have n3_ := sz HB hg; have n4_ := sz HB hg; have n5_ := nl BK604 hg; have n6_ := nr BK604 hg; clear BK604; clear HB; have BK604 := n0_; have HB := n1_; have BK605 := n2_; have GW605 := n3_; have GE605 := n4_; have NB604_605 := n5_; have NB605_604 := n6_; clear n0_ n1_ n2_ n3_ n4_ n5_ n6_; clear hb hbox hg) | ((with_reducible refine gate_dst (N := 5) rfl ?_); refine bx 5 #[.int .u64 a2_0, .int .u64 a2_1, .int .u64 a2_2] 29 ?_; intro gb606 hg w63 hbox hb; have n0_ := bb BK604 hb; have n1_ := bb BK605 hb; have n2_ := bs HB hb; have n3_ := Aside0.mk (hbox); have n4_ := sz HB hg; have n5_ := sz HB hg; have n6_ := nl BK604 hg; have n7_ := nr BK604 hg; have n8_ := nl BK605 hg; have n9_ := nr BK605 hg; clear BK604; clear BK605; clear HB; have BK604 := n0_; have BK605 := n1_; have HB := n2_; have BK606 := n3_; have GW606 := n4_; have GE606 := n5_; have NB604_606 := n6_; have NB606_604 := n7_; have NB605_606 := n8_; have NB606_605 := n9_; clear n0_ n1_ n2_ n3_ n4_ n5_ n6_ n7_ n8_ n9_; clear hb hbox hg) | ((with_reducible refine gate_dst (N := 6) rfl ?_); refine bx 6 #[.int .u64 0, .int .u64 0, .int .u64 0] 29 ?_; intro gb607 hg w64 hbox hb; have n0_ := bb BK604 hb; have n1_ := bb BK605 hb; have n2_ := bb BK606 hb; have n3_ := bs HB hb; have n4_ := Aside0.mk (hbox); have n5_ := sz HB hg; have n6_ := sz HB hg; have n7_ := nl BK604 hg; have n8_ := nr BK604 hg; have n9_ := nl BK605 hg; have n10_ := nr BK605 hg; have n11_ := nl BK606 hg; have n12_ := nr BK606 hg; clear BK604; clear BK605; clear BK606; clear HB; have BK604 := n0_; have BK605 := n1_; have BK606 := n2_; have HB := n3_; have BK607 := n4_; have GW607 := n5_; have GE607 := n6_; have NB604_607 := n7_; have NB607_604 := n8_; have NB605_607 := n9_; have NB607_605 := n10_; have NB606_607 := n11_; have NB607_606 := n12_; clear n0_ n1_ n2_ n3_ n4_ n5_ n6_ n7_ n8_ n9_ n10_ n11_ n12_; clear hb hbox hg; have hnb65 := NB605_604.out; have hnc65 := NB604_605.out; have hnb66 := NB605_606.out; have hnc66 := NB606_605.out; have hnb67 := NB605_607.out; have hnc67 := NB607_605.out; obtain ⟨hcz68_0, hcz68_1, hcz68_2, hcz68_3, hcz68_4, hfz68_0, hfz68_1, hfz68_2, hfz68_3, hfz68_4⟩ := bc5 BK605) | ((with_reducible refine gate_callee (f := 41) rfl ?_); refine gm (some 10) Try.func41 #[.agg #[.int .i64 a1_0, .int .u64 a1_1, .int .u64 a1_2, .int .u64 a1_3, .int .u64 a1_4]] (turnstileref06_Valid.calls a1_0 a1_1 a1_2 a1_3 a1_4 false _ A4.out) ?_; intro w69 hb; have n0_ := bb BK604 hb; have n1_ := bb BK605 hb; have n2_ := bb BK606 hb; have n3_ := bb BK607 hb; have n4_ := bs HB hb; clear BK604; clear BK605; clear BK606; clear BK607; clear HB; have BK604 := n0_; have BK605 := n1_; have BK606 := n2_; have BK607 := n3_; have HB := n4_; clear n0_ n1_ n2_ n3_ n4_; (try clear hb); (try clear hb2); (try clear hk); (try clear hi); have hnb70 := NB607_604.out; have hnc70 := NB604_607.out; have hnb71 := NB607_606.out; have hnc71 := NB606_607.out; obtain ⟨hcz72_0, hcz72_1, hcz72_2, hfz72_0, hfz72_1, hfz72_2⟩ := bc3 BK607))
    refine bodyPost_ret (results_cell_row rfl _ _ gb607 29 #[.int .u64 0, .int .u64 0, .int .u64 0] (0, 0) _ rfl (bk BK607) Try.underlying29 rfl (by kernel_rfl)) rfl ?_
    exact ⟨re, bw HB⟩

/-! ### turnstileref17_Within: function 56 -/
def turnstileref17_Within.f (a0_0 : Int) (a0_1 : Int) (a0_2 : Int) (a0_3 : Int) (a0_4 : Int) (a1_0 : Int) (a1_1 : Int) (a1_2 : Int) (a1_3 : Int) (a1_4 : Int) (a2_0 : Int) (a2_1 : Int) (a2_2 : Int) (a3_0 : Int) (a3_1 : Int) (a3_2 : Int) : Option (Bool) := (turnstileref06_Covers.f a1_0 a1_1 a1_2 a1_3 a1_4 a3_0 a3_1 a3_2 a2_0 a2_1 a2_2).bind fun t616 => ((turnstileref17_Ceiling.f a0_0 a0_1 a0_2 a0_3 a0_4 a1_0 a1_1 a1_2 a1_3 a1_4 a2_0 a2_1 a2_2).bind fun bt617 => ((turnstileref06_Covers.f a1_0 a1_1 a1_2 a1_3 a1_4 bt617.1 bt617.2.1 bt617.2.2 a3_0 a3_1 a3_2).bind fun t621 => (if t616 = true then (some t621) else (some false))))
set_option maxHeartbeats 8000000 in
set_option maxRecDepth 100000 in
theorem turnstileref17_Within.calls (a0_0 : Int) (a0_1 : Int) (a0_2 : Int) (a0_3 : Int) (a0_4 : Int) (a1_0 : Int) (a1_1 : Int) (a1_2 : Int) (a1_3 : Int) (a1_4 : Int) (a2_0 : Int) (a2_1 : Int) (a2_2 : Int) (a3_0 : Int) (a3_1 : Int) (a3_2 : Int) (r : Bool) (w : World) (h : turnstileref17_Within.f a0_0 a0_1 a0_2 a0_3 a0_4 a1_0 a1_1 a1_2 a1_3 a1_4 a2_0 a2_1 a2_2 a3_0 a3_1 a3_2 = some r) :
    Calls Try.prog 56 #[.agg #[.int .u64 a0_0, .int .u64 a0_1, .int .i64 a0_2, .int .i64 a0_3, .int .i64 a0_4], .agg #[.int .i64 a1_0, .int .u64 a1_1, .int .u64 a1_2, .int .u64 a1_3, .int .u64 a1_4], .agg #[.int .u64 a2_0, .int .u64 a2_1, .int .u64 a2_2], .agg #[.int .u64 a3_0, .int .u64 a3_1, .int .u64 a3_2]] w fun e w' => e = .returned (.bool r) ∧ Below w.heap.size w w' := by
  have hu53 := Try.underlying53
  have hu27 := Try.underlying27
  have hu29 := Try.underlying29
  have HB := Aside0.mk (Below.refl w.heap.size w)
  have H : ((turnstileref06_Covers.f a1_0 a1_1 a1_2 a1_3 a1_4 a3_0 a3_1 a3_2 a2_0 a2_1 a2_2).bind fun t616 => ((turnstileref17_Ceiling.f a0_0 a0_1 a0_2 a0_3 a0_4 a1_0 a1_1 a1_2 a1_3 a1_4 a2_0 a2_1 a2_2).bind fun bt617 => ((turnstileref06_Covers.f a1_0 a1_1 a1_2 a1_3 a1_4 bt617.1 bt617.2.1 bt617.2.2 a3_0 a3_1 a3_2).bind fun t621 => (if t616 = true then (some t621) else (some false))))) = some r := h
  clear h
  replace H := Option.bind_eq_some_iff.mp H
  obtain ⟨t616, A50, H⟩ := H
  replace H : ((turnstileref17_Ceiling.f a0_0 a0_1 a0_2 a0_3 a0_4 a1_0 a1_1 a1_2 a1_3 a1_4 a2_0 a2_1 a2_2).bind fun bt617 => ((turnstileref06_Covers.f a1_0 a1_1 a1_2 a1_3 a1_4 bt617.1 bt617.2.1 bt617.2.2 a3_0 a3_1 a3_2).bind fun t621 => (if t616 = true then (some t621) else (some false)))) = some r := H
  have A5 := Aside0.mk A50
  clear A50
  replace H := Option.bind_eq_some_iff.mp H
  obtain ⟨⟨t617, t618, t619⟩, A60, H⟩ := H
  replace H : ((turnstileref06_Covers.f a1_0 a1_1 a1_2 a1_3 a1_4 t617 t618 t619 a3_0 a3_1 a3_2).bind fun t621 => (if t616 = true then (some t621) else (some false))) = some r := H
  have A6 := Aside0.mk A60
  clear A60
  replace H := Option.bind_eq_some_iff.mp H
  obtain ⟨t621, A70, H⟩ := H
  replace H : (if t616 = true then (some t621) else (some false)) = some r := H
  have A7 := Aside0.mk A70
  clear A70
  by_cases c8 : t616 = true
  · subst c8
    have H1 : (some t621) = some r := by rw [if_pos rfl] at H; exact H
    clear H
    have H := H1
    clear H1
    obtain rfl := Option.some.inj H
    go_enter Try.func56, Try.ntmps56
    go_wp2_with (first | ((with_reducible refine gate_dst (N := 4) rfl ?_); refine bx 4 #[.int .u64 a0_0, .int .u64 a0_1, .int .i64 a0_2, .int .i64 a0_3, .int .i64 a0_4] 53 ?_; intro gb612 hg w9 hbox hb; have n0_ := bs HB hb; have n1_ := Aside0.mk (hbox); have n2_ := sz HB hg; have n3_ := sz HB hg; clear HB; have HB := n0_; have BK612 := n1_; have GW612 := n2_; have GE612 := n3_; clear n0_ n1_ n2_ n3_; clear hb hbox hg) | ((with_reducible refine gate_dst (N := 5) rfl ?_); refine bx 5 #[.int .i64 a1_0, .int .u64 a1_1, .int .u64 a1_2, .int .u64 a1_3, .int .u64 a1_4] 27 ?_; intro gb613 hg w10 hbox hb; have n0_ := bb BK612 hb; have n1_ := bs HB hb; have n2_ := Aside0.mk (hbox); have n3_ := sz HB hg; have n4_ := sz HB hg; have n5_ := nl BK612 hg; have n6_ := nr BK612 hg; clear BK612; clear HB; have BK612 := n0_; have HB := n1_; have BK613 := n2_; have GW613 := n3_; have GE613 := n4_; have NB612_613 := n5_; have NB613_612 := n6_; clear n0_ n1_ n2_ n3_ n4_ n5_ n6_; clear hb hbox hg) | ((with_reducible refine gate_dst (N := 6) rfl ?_); refine bx 6 #[.int .u64 a2_0, .int .u64 a2_1, .int .u64 a2_2] 29 ?_; intro gb614 hg w11 hbox hb; have n0_ := bb BK612 hb; have n1_ := bb BK613 hb; have n2_ := bs HB hb; have n3_ := Aside0.mk (hbox); have n4_ := sz HB hg; have n5_ := sz HB hg; have n6_ := nl BK612 hg; have n7_ := nr BK612 hg; have n8_ := nl BK613 hg; have n9_ := nr BK613 hg; clear BK612; clear BK613; clear HB; have BK612 := n0_; have BK613 := n1_; have HB := n2_; have BK614 := n3_; have GW614 := n4_; have GE614 := n5_; have NB612_614 := n6_; have NB614_612 := n7_; have NB613_614 := n8_; have NB614_613 := n9_; clear n0_ n1_ n2_ n3_ n4_ n5_ n6_ n7_ n8_ n9_; clear hb hbox hg) | ((with_reducible refine gate_dst (N := 7) rfl ?_); refine bx 7 #[.int .u64 a3_0, .int .u64 a3_1, .int .u64 a3_2] 29 ?_; intro gb615 hg w12 hbox hb; have n0_ := bb BK612 hb; have n1_ := bb BK613 hb; have n2_ := bb BK614 hb; have n3_ := bs HB hb; have n4_ := Aside0.mk (hbox); have n5_ := sz HB hg; have n6_ := sz HB hg; have n7_ := nl BK612 hg; have n8_ := nr BK612 hg; have n9_ := nl BK613 hg; have n10_ := nr BK613 hg; have n11_ := nl BK614 hg; have n12_ := nr BK614 hg; clear BK612; clear BK613; clear BK614; clear HB; have BK612 := n0_; have BK613 := n1_; have BK614 := n2_; have HB := n3_; have BK615 := n4_; have GW615 := n5_; have GE615 := n6_; have NB612_615 := n7_; have NB615_612 := n8_; have NB613_615 := n9_; have NB615_613 := n10_; have NB614_615 := n11_; have NB615_614 := n12_; clear n0_ n1_ n2_ n3_ n4_ n5_ n6_ n7_ n8_ n9_ n10_ n11_ n12_; clear hb hbox hg; have hnb13 := NB613_612.out; have hnc13 := NB612_613.out; have hnb14 := NB613_614.out; have hnc14 := NB614_613.out; have hnb15 := NB613_615.out; have hnc15 := NB615_613.out; obtain ⟨hcz16_0, hcz16_1, hcz16_2, hcz16_3, hcz16_4, hfz16_0, hfz16_1, hfz16_2, hfz16_3, hfz16_4⟩ := bc5 BK613; have hnb17 := NB615_612.out; have hnc17 := NB612_615.out; have hnb18 := NB615_614.out; have hnc18 := NB614_615.out; obtain ⟨hcz19_0, hcz19_1, hcz19_2, hfz19_0, hfz19_1, hfz19_2⟩ := bc3 BK615; have hnb20 := NB614_612.out; have hnc20 := NB612_614.out; obtain ⟨hcz21_0, hcz21_1, hcz21_2, hfz21_0, hfz21_1, hfz21_2⟩ := bc3 BK614) | ((with_reducible refine gate_callee (f := 45) rfl ?_); refine gm (some 15) Try.func45 #[.agg #[.int .i64 a1_0, .int .u64 a1_1, .int .u64 a1_2, .int .u64 a1_3, .int .u64 a1_4], .agg #[.int .u64 a3_0, .int .u64 a3_1, .int .u64 a3_2], .agg #[.int .u64 a2_0, .int .u64 a2_1, .int .u64 a2_2]] (turnstileref06_Covers.calls a1_0 a1_1 a1_2 a1_3 a1_4 a3_0 a3_1 a3_2 a2_0 a2_1 a2_2 true _ A5.out) ?_; intro w22 hb; have n0_ := bb BK612 hb; have n1_ := bb BK613 hb; have n2_ := bb BK614 hb; have n3_ := bb BK615 hb; have n4_ := bs HB hb; clear BK612; clear BK613; clear BK614; clear BK615; clear HB; have BK612 := n0_; have BK613 := n1_; have BK614 := n2_; have BK615 := n3_; have HB := n4_; clear n0_ n1_ n2_ n3_ n4_; (try clear hb); (try clear hb2); (try clear hk); (try clear hi); obtain ⟨hcz23_0, hcz23_1, hcz23_2, hcz23_3, hcz23_4, hfz23_0, hfz23_1, hfz23_2, hfz23_3, hfz23_4⟩ := bc5 BK612; obtain ⟨hcz24_0, hcz24_1, hcz24_2, hcz24_3, hcz24_4, hfz24_0, hfz24_1, hfz24_2, hfz24_3, hfz24_4⟩ := bc5 BK613; obtain ⟨hcz25_0, hcz25_1, hcz25_2, hfz25_0, hfz25_1, hfz25_2⟩ := bc3 BK614) | ((with_reducible refine gate_callee (f := 55) rfl ?_); refine gm (some 19) Try.func55 #[.agg #[.int .u64 a0_0, .int .u64 a0_1, .int .i64 a0_2, .int .i64 a0_3, .int .i64 a0_4], .agg #[.int .i64 a1_0, .int .u64 a1_1, .int .u64 a1_2, .int .u64 a1_3, .int .u64 a1_4], .agg #[.int .u64 a2_0, .int .u64 a2_1, .int .u64 a2_2]] (turnstileref17_Ceiling.calls a0_0 a0_1 a0_2 a0_3 a0_4 a1_0 a1_1 a1_2 a1_3 a1_4 a2_0 a2_1 a2_2 t617 t618 t619 _ A6.out) ?_; intro w26 hb; have n0_ := bb BK612 hb; have n1_ := bb BK613 hb; have n2_ := bb BK614 hb; have n3_ := bb BK615 hb; have n4_ := bs HB hb; clear BK612; clear BK613; clear BK614; clear BK615; clear HB; have BK612 := n0_; have BK613 := n1_; have BK614 := n2_; have BK615 := n3_; have HB := n4_; clear n0_ n1_ n2_ n3_ n4_; (try clear hb); (try clear hb2); (try clear hk); (try clear hi)) | ((with_reducible refine gate_dst (N := 10) rfl ?_); refine bx 10 #[.int .u64 0, .int .u64 0, .int .u64 0] 29 ?_; intro gb620 hg w27 hbox hb; have n0_ := bb BK612 hb; have n1_ := bb BK613 hb; have n2_ := bb BK614 hb; have n3_ := bb BK615 hb; have n4_ := bs HB hb; have n5_ := Aside0.mk (hbox); have n6_ := sz HB hg; have n7_ := sz HB hg; have n8_ := nl BK612 hg; have n9_ := nr BK612 hg; have n10_ := nl BK613 hg; have n11_ := nr BK613 hg; have n12_ := nl BK614 hg; have n13_ := nr BK614 hg; have n14_ := nl BK615 hg; have n15_ := nr BK615 hg; clear BK612; clear BK613; clear BK614; clear BK615; clear HB; have BK612 := n0_; have BK613 := n1_; have BK614 := n2_; have BK615 := n3_; have HB := n4_; have BK620 := n5_; have GW620 := n6_; have GE620 := n7_; have NB612_620 := n8_; have NB620_612 := n9_; have NB613_620 := n10_; have NB620_613 := n11_; have NB614_620 := n12_; have NB620_614 := n13_; have NB615_620 := n14_; have NB620_615 := n15_; clear n0_ n1_ n2_ n3_ n4_ n5_ n6_ n7_ n8_ n9_ n10_ n11_ n12_ n13_ n14_ n15_; clear hb hbox hg; have hnb28 := NB620_612.out; have hnc28 := NB612_620.out; have hnb29 := NB620_613.out; have hnc29 := NB613_620.out; have hnb30 := NB620_614.out; have hnc30 := NB614_620.out; have hnb31 := NB620_615.out; have hnc31 := NB615_620.out; obtain ⟨hcz32_0, hcz32_1, hcz32_2, hfz32_0, hfz32_1, hfz32_2⟩ := bc3 BK620; obtain ⟨hcz33_0, hcz33_1, hcz33_2, hcz33_3, hcz33_4, hfz33_0, hfz33_1, hfz33_2, hfz33_3, hfz33_4⟩ := bc5 BK613; obtain ⟨hcz34_0, hcz34_1, hcz34_2, hfz34_0, hfz34_1, hfz34_2⟩ := bc3 BK615) | ((with_reducible refine gate_callee (f := 45) rfl ?_); refine gm (some 23) Try.func45 #[.agg #[.int .i64 a1_0, .int .u64 a1_1, .int .u64 a1_2, .int .u64 a1_3, .int .u64 a1_4], .agg #[.int .u64 t617, .int .u64 t618, .int .u64 t619], .agg #[.int .u64 a3_0, .int .u64 a3_1, .int .u64 a3_2]] (turnstileref06_Covers.calls a1_0 a1_1 a1_2 a1_3 a1_4 t617 t618 t619 a3_0 a3_1 a3_2 t621 _ A7.out) ?_; intro w35 hb; have n0_ := bb BK612 hb; have n1_ := bb BK613 hb; have n2_ := bb BK614 hb; have n3_ := bb BK615 hb; have n4_ := bbp (.cells #[.int .u64 t617, .int .u64 t618, .int .u64 t619] 29 (0, 0)) BK620 hb; have n5_ := bs HB hb; clear BK612; clear BK613; clear BK614; clear BK615; clear BK620; clear HB; have BK612 := n0_; have BK613 := n1_; have BK614 := n2_; have BK615 := n3_; have BK620 := n4_; have HB := n5_; clear n0_ n1_ n2_ n3_ n4_ n5_; (try clear hb); (try clear hb2); (try clear hk); (try clear hi)))
    go_ret
    exact ⟨re, bw HB⟩
  · replace c8 := Bool.eq_false_iff.mpr c8
    subst c8
    have H1 : (some false) = some r := by rw [if_neg (show ¬ (false = true) by decide)] at H; exact H
    clear H
    have H := H1
    clear H1
    obtain rfl := Option.some.inj H
    go_enter Try.func56, Try.ntmps56
    go_wp2_with (first | ((with_reducible refine gate_dst (N := 4) rfl ?_); refine bx 4 #[.int .u64 a0_0, .int .u64 a0_1, .int .i64 a0_2, .int .i64 a0_3, .int .i64 a0_4] 53 ?_; intro gb612 hg w36 hbox hb; have n0_ := bs HB hb; have n1_ := Aside0.mk (hbox); have n2_ := sz HB hg; have n3_ := sz HB hg; clear HB; have HB := n0_; have BK612 := n1_; have GW612 := n2_; have GE612 := n3_; clear n0_ n1_ n2_ n3_; clear hb hbox hg) | ((with_reducible refine gate_dst (N := 5) rfl ?_); refine bx 5 #[.int .i64 a1_0, .int .u64 a1_1, .int .u64 a1_2, .int .u64 a1_3, .int .u64 a1_4] 27 ?_; intro gb613 hg w37 hbox hb; have n0_ := bb BK612 hb; have n1_ := bs HB hb; have n2_ := Aside0.mk (hbox); have n3_ := sz HB hg; have n4_ := sz HB hg; have n5_ := nl BK612 hg; have n6_ := nr BK612 hg; clear BK612; clear HB; have BK612 := n0_; have HB := n1_; have BK613 := n2_; have GW613 := n3_; have GE613 := n4_; have NB612_613 := n5_; have NB613_612 := n6_; clear n0_ n1_ n2_ n3_ n4_ n5_ n6_; clear hb hbox hg) | ((with_reducible refine gate_dst (N := 6) rfl ?_); refine bx 6 #[.int .u64 a2_0, .int .u64 a2_1, .int .u64 a2_2] 29 ?_; intro gb614 hg w38 hbox hb; have n0_ := bb BK612 hb; have n1_ := bb BK613 hb; have n2_ := bs HB hb; have n3_ := Aside0.mk (hbox); have n4_ := sz HB hg; have n5_ := sz HB hg; have n6_ := nl BK612 hg; have n7_ := nr BK612 hg; have n8_ := nl BK613 hg; have n9_ := nr BK613 hg; clear BK612; clear BK613; clear HB; have BK612 := n0_; have BK613 := n1_; have HB := n2_; have BK614 := n3_; have GW614 := n4_; have GE614 := n5_; have NB612_614 := n6_; have NB614_612 := n7_; have NB613_614 := n8_; have NB614_613 := n9_; clear n0_ n1_ n2_ n3_ n4_ n5_ n6_ n7_ n8_ n9_; clear hb hbox hg) | ((with_reducible refine gate_dst (N := 7) rfl ?_); refine bx 7 #[.int .u64 a3_0, .int .u64 a3_1, .int .u64 a3_2] 29 ?_; intro gb615 hg w39 hbox hb; have n0_ := bb BK612 hb; have n1_ := bb BK613 hb; have n2_ := bb BK614 hb; have n3_ := bs HB hb; have n4_ := Aside0.mk (hbox); have n5_ := sz HB hg; have n6_ := sz HB hg; have n7_ := nl BK612 hg; have n8_ := nr BK612 hg; have n9_ := nl BK613 hg; have n10_ := nr BK613 hg; have n11_ := nl BK614 hg; have n12_ := nr BK614 hg; clear BK612; clear BK613; clear BK614; clear HB; have BK612 := n0_; have BK613 := n1_; have BK614 := n2_; have HB := n3_; have BK615 := n4_; have GW615 := n5_; have GE615 := n6_; have NB612_615 := n7_; have NB615_612 := n8_; have NB613_615 := n9_; have NB615_613 := n10_; have NB614_615 := n11_; have NB615_614 := n12_; clear n0_ n1_ n2_ n3_ n4_ n5_ n6_ n7_ n8_ n9_ n10_ n11_ n12_; clear hb hbox hg; have hnb40 := NB613_612.out; have hnc40 := NB612_613.out; have hnb41 := NB613_614.out; have hnc41 := NB614_613.out; have hnb42 := NB613_615.out; have hnc42 := NB615_613.out; obtain ⟨hcz43_0, hcz43_1, hcz43_2, hcz43_3, hcz43_4, hfz43_0, hfz43_1, hfz43_2, hfz43_3, hfz43_4⟩ := bc5 BK613; have hnb44 := NB615_612.out; have hnc44 := NB612_615.out; have hnb45 := NB615_614.out; have hnc45 := NB614_615.out; obtain ⟨hcz46_0, hcz46_1, hcz46_2, hfz46_0, hfz46_1, hfz46_2⟩ := bc3 BK615; have hnb47 := NB614_612.out; have hnc47 := NB612_614.out; obtain ⟨hcz48_0, hcz48_1, hcz48_2, hfz48_0, hfz48_1, hfz48_2⟩ := bc3 BK614) | ((with_reducible refine gate_callee (f := 45) rfl ?_); refine gm (some 15) Try.func45 #[.agg #[.int .i64 a1_0, .int .u64 a1_1, .int .u64 a1_2, .int .u64 a1_3, .int .u64 a1_4], .agg #[.int .u64 a3_0, .int .u64 a3_1, .int .u64 a3_2], .agg #[.int .u64 a2_0, .int .u64 a2_1, .int .u64 a2_2]] (turnstileref06_Covers.calls a1_0 a1_1 a1_2 a1_3 a1_4 a3_0 a3_1 a3_2 a2_0 a2_1 a2_2 false _ A5.out) ?_; intro w49 hb; have n0_ := bb BK612 hb; have n1_ := bb BK613 hb; have n2_ := bb BK614 hb; have n3_ := bb BK615 hb; have n4_ := bs HB hb; clear BK612; clear BK613; clear BK614; clear BK615; clear HB; have BK612 := n0_; have BK613 := n1_; have BK614 := n2_; have BK615 := n3_; have HB := n4_; clear n0_ n1_ n2_ n3_ n4_; (try clear hb); (try clear hb2); (try clear hk); (try clear hi); obtain ⟨hcz50_0, hcz50_1, hcz50_2, hcz50_3, hcz50_4, hfz50_0, hfz50_1, hfz50_2, hfz50_3, hfz50_4⟩ := bc5 BK612; obtain ⟨hcz51_0, hcz51_1, hcz51_2, hcz51_3, hcz51_4, hfz51_0, hfz51_1, hfz51_2, hfz51_3, hfz51_4⟩ := bc5 BK613; obtain ⟨hcz52_0, hcz52_1, hcz52_2, hfz52_0, hfz52_1, hfz52_2⟩ := bc3 BK614) | ((with_reducible refine gate_callee (f := 55) rfl ?_); refine gm (some 19) Try.func55 #[.agg #[.int .u64 a0_0, .int .u64 a0_1, .int .i64 a0_2, .int .i64 a0_3, .int .i64 a0_4], .agg #[.int .i64 a1_0, .int .u64 a1_1, .int .u64 a1_2, .int .u64 a1_3, .int .u64 a1_4], .agg #[.int .u64 a2_0, .int .u64 a2_1, .int .u64 a2_2]] (turnstileref17_Ceiling.calls a0_0 a0_1 a0_2 a0_3 a0_4 a1_0 a1_1 a1_2 a1_3 a1_4 a2_0 a2_1 a2_2 t617 t618 t619 _ A6.out) ?_; intro w53 hb; have n0_ := bb BK612 hb; have n1_ := bb BK613 hb; have n2_ := bb BK614 hb; have n3_ := bb BK615 hb; have n4_ := bs HB hb; clear BK612; clear BK613; clear BK614; clear BK615; clear HB; have BK612 := n0_; have BK613 := n1_; have BK614 := n2_; have BK615 := n3_; have HB := n4_; clear n0_ n1_ n2_ n3_ n4_; (try clear hb); (try clear hb2); (try clear hk); (try clear hi)) | ((with_reducible refine gate_dst (N := 10) rfl ?_); refine bx 10 #[.int .u64 0, .int .u64 0, .int .u64 0] 29 ?_; intro gb620 hg w54 hbox hb; have n0_ := bb BK612 hb; have n1_ := bb BK613 hb; have n2_ := bb BK614 hb; have n3_ := bb BK615 hb; have n4_ := bs HB hb; have n5_ := Aside0.mk (hbox); have n6_ := sz HB hg; have n7_ := sz HB hg; have n8_ := nl BK612 hg; have n9_ := nr BK612 hg; have n10_ := nl BK613 hg; have n11_ := nr BK613 hg; have n12_ := nl BK614 hg; have n13_ := nr BK614 hg; have n14_ := nl BK615 hg; have n15_ := nr BK615 hg; clear BK612; clear BK613; clear BK614; clear BK615; clear HB; have BK612 := n0_; have BK613 := n1_; have BK614 := n2_; have BK615 := n3_; have HB := n4_; have BK620 := n5_; have GW620 := n6_; have GE620 := n7_; have NB612_620 := n8_; have NB620_612 := n9_; have NB613_620 := n10_; have NB620_613 := n11_; have NB614_620 := n12_; have NB620_614 := n13_; have NB615_620 := n14_; have NB620_615 := n15_; clear n0_ n1_ n2_ n3_ n4_ n5_ n6_ n7_ n8_ n9_ n10_ n11_ n12_ n13_ n14_ n15_; clear hb hbox hg; have hnb55 := NB620_612.out; have hnc55 := NB612_620.out; have hnb56 := NB620_613.out; have hnc56 := NB613_620.out; have hnb57 := NB620_614.out; have hnc57 := NB614_620.out; have hnb58 := NB620_615.out; have hnc58 := NB615_620.out; obtain ⟨hcz59_0, hcz59_1, hcz59_2, hfz59_0, hfz59_1, hfz59_2⟩ := bc3 BK620; obtain ⟨hcz60_0, hcz60_1, hcz60_2, hcz60_3, hcz60_4, hfz60_0, hfz60_1, hfz60_2, hfz60_3, hfz60_4⟩ := bc5 BK613; obtain ⟨hcz61_0, hcz61_1, hcz61_2, hfz61_0, hfz61_1, hfz61_2⟩ := bc3 BK615) | ((with_reducible refine gate_callee (f := 45) rfl ?_); refine gm (some 23) Try.func45 #[.agg #[.int .i64 a1_0, .int .u64 a1_1, .int .u64 a1_2, .int .u64 a1_3, .int .u64 a1_4], .agg #[.int .u64 t617, .int .u64 t618, .int .u64 t619], .agg #[.int .u64 a3_0, .int .u64 a3_1, .int .u64 a3_2]] (turnstileref06_Covers.calls a1_0 a1_1 a1_2 a1_3 a1_4 t617 t618 t619 a3_0 a3_1 a3_2 t621 _ A7.out) ?_; intro w62 hb; have n0_ := bb BK612 hb; have n1_ := bb BK613 hb; have n2_ := bb BK614 hb; have n3_ := bb BK615 hb; have n4_ := bbp (.cells #[.int .u64 t617, .int .u64 t618, .int .u64 t619] 29 (0, 0)) BK620 hb; have n5_ := bs HB hb; clear BK612; clear BK613; clear BK614; clear BK615; clear BK620; clear HB; have BK612 := n0_; have BK613 := n1_; have BK614 := n2_; have BK615 := n3_; have BK620 := n4_; have HB := n5_; clear n0_ n1_ n2_ n3_ n4_ n5_; (try clear hb); (try clear hb2); (try clear hk); (try clear hi)))
    go_ret
    exact ⟨re, bw HB⟩

end Go.Proofs.Ytokfhdpokemekaa.Q
