/- Written by the session's own program hyb.py: what functions of the program compute; Lean checks it. -/
import Derived.Test.YtnhngjhodcikiaaDoorFx0
import Derived.Test.YtnhngjhodcikiaaDoorFx2
namespace Go.Proofs.YtnhngjhodcikiaaDoor.F
open Go.RowKit Go.Proofs.YtnhngjhodcikiaaDoorW.PrintWords Go.Proofs.YtnhngjhodcikiaaDoorW.PrintLast Go.Proofs.YtnhngjhodcikiaaDoorW.PrintMore Go.Proofs.YtnhngjhodcikiaaDoorW.PrintShort
attribute [local go_sem] run_Add64 run_Sub64
attribute [local go_sem] max2_int min2_int max_two min_two max_three min_three max_four min_four   -- for this text's walks alone
set_option linter.unusedVariables false
set_option linter.unusedSimpArgs false

attribute [local go_sem high] eqA37
/-! ### turnstileref06_Valid: function 39 -/
def turnstileref06_Valid.f (a0_0 : Int) (a0_1 : Int) (a0_2 : Int) (a0_3 : Int) (a0_4 : Int) : Option (Bool) := if a0_0 = 1 then (if a0_1 > 0 then (if a0_3 = 0 then (some (a0_4 == 0)) else (some false)) else (some false)) else (if a0_0 = 2 then (if a0_4 > 0 then (if a0_1 = 0 then (some (a0_2 == 0)) else (some false)) else (some false)) else (some false))
set_option maxHeartbeats 8000000 in
set_option maxRecDepth 100000 in
theorem turnstileref06_Valid.calls (a0_0 : Int) (a0_1 : Int) (a0_2 : Int) (a0_3 : Int) (a0_4 : Int) (r : Bool) (w : World) (h : turnstileref06_Valid.f a0_0 a0_1 a0_2 a0_3 a0_4 = some r) :
    Calls Tryd.prog 39 #[.agg #[.int .i64 a0_0, .int .u64 a0_1, .int .u64 a0_2, .int .u64 a0_3, .int .u64 a0_4]] w fun e w' => e = .returned (.bool r) ∧ Below w.heap.size w w' := by
  have hu35 := Tryd.underlying35
  have HB := Aside0.mk (Below.refl w.heap.size w)
  have H : (if a0_0 = 1 then (if a0_1 > 0 then (if a0_3 = 0 then (some (a0_4 == 0)) else (some false)) else (some false)) else (if a0_0 = 2 then (if a0_4 > 0 then (if a0_1 = 0 then (some (a0_2 == 0)) else (some false)) else (some false)) else (some false))) = some r := h
  clear h
  by_cases c2 : a0_0 = 1
  · rw [if_pos c2] at H
    have c2b0 : (a0_0 == 1) = true := beq_iff_eq.mpr c2
    have c2b1 : (a0_0 != 1) = false := bne_eq_false_iff_eq.mpr c2
    clear c2
    by_cases c3 : a0_1 > 0
    · rw [if_pos c3] at H
      have c3b0 : decide (0 < a0_1) = true := decide_eq_true c3
      clear c3
      by_cases c4 : a0_3 = 0
      · rw [if_pos c4] at H
        have c4b0 : (a0_3 == 0) = true := beq_iff_eq.mpr c4
        have c4b1 : (a0_3 != 0) = false := bne_eq_false_iff_eq.mpr c4
        clear c4
        obtain rfl := Option.some.inj H
        go_enter Tryd.func39, Tryd.ntmps39
        go_wp2_with (first | ((with_reducible refine gate_dst (N := 1) rfl ?_); refine bx 1 #[.int .i64 a0_0, .int .u64 a0_1, .int .u64 a0_2, .int .u64 a0_3, .int .u64 a0_4] 35 ?_; intro gb247 hg w5 hbox hb; have n0_ := bs HB hb; have n1_ := Aside0.mk (hbox); have n2_ := sz HB hg; have n3_ := sz HB hg; clear HB; have HB := n0_; have BK247 := n1_; have GW247 := n2_; have GE247 := n3_; clear n0_ n1_ n2_ n3_; clear hb hbox hg; obtain ⟨hcz6_0, hcz6_1, hcz6_2, hcz6_3, hcz6_4, hfz6_0, hfz6_1, hfz6_2, hfz6_3, hfz6_4⟩ := bc5 BK247))
        go_ret
        exact ⟨re, bw HB⟩
      · rw [if_neg c4] at H
        have c4b0 : (a0_3 == 0) = false := beq_eq_false_iff_ne.mpr c4
        have c4b1 : (a0_3 != 0) = true := bne_iff_ne.mpr c4
        obtain rfl := Option.some.inj H
        go_enter Tryd.func39, Tryd.ntmps39
        go_wp2_with (first | ((with_reducible refine gate_dst (N := 1) rfl ?_); refine bx 1 #[.int .i64 a0_0, .int .u64 a0_1, .int .u64 a0_2, .int .u64 a0_3, .int .u64 a0_4] 35 ?_; intro gb247 hg w7 hbox hb; have n0_ := bs HB hb; have n1_ := Aside0.mk (hbox); have n2_ := sz HB hg; have n3_ := sz HB hg; clear HB; have HB := n0_; have BK247 := n1_; have GW247 := n2_; have GE247 := n3_; clear n0_ n1_ n2_ n3_; clear hb hbox hg; obtain ⟨hcz8_0, hcz8_1, hcz8_2, hcz8_3, hcz8_4, hfz8_0, hfz8_1, hfz8_2, hfz8_3, hfz8_4⟩ := bc5 BK247))
        go_ret
        exact ⟨re, bw HB⟩
    · rw [if_neg c3] at H
      have c3b0 : decide (0 < a0_1) = false := decide_eq_false c3
      clear c3
      obtain rfl := Option.some.inj H
      go_enter Tryd.func39, Tryd.ntmps39
      go_wp2_with (first | ((with_reducible refine gate_dst (N := 1) rfl ?_); refine bx 1 #[.int .i64 a0_0, .int .u64 a0_1, .int .u64 a0_2, .int .u64 a0_3, .int .u64 a0_4] 35 ?_; intro gb247 hg w9 hbox hb; have n0_ := bs HB hb; have n1_ := Aside0.mk (hbox); have n2_ := sz HB hg; have n3_ := sz HB hg; clear HB; have HB := n0_; have BK247 := n1_; have GW247 := n2_; have GE247 := n3_; clear n0_ n1_ n2_ n3_; clear hb hbox hg; obtain ⟨hcz10_0, hcz10_1, hcz10_2, hcz10_3, hcz10_4, hfz10_0, hfz10_1, hfz10_2, hfz10_3, hfz10_4⟩ := bc5 BK247))
      go_ret
      exact ⟨re, bw HB⟩
  · rw [if_neg c2] at H
    have c2b0 : (a0_0 == 1) = false := beq_eq_false_iff_ne.mpr c2
    have c2b1 : (a0_0 != 1) = true := bne_iff_ne.mpr c2
    by_cases c11 : a0_0 = 2
    · rw [if_pos c11] at H
      have c11b0 : (a0_0 == 2) = true := beq_iff_eq.mpr c11
      have c11b1 : (a0_0 != 2) = false := bne_eq_false_iff_eq.mpr c11
      clear c11
      by_cases c12 : a0_4 > 0
      · rw [if_pos c12] at H
        have c12b0 : decide (0 < a0_4) = true := decide_eq_true c12
        clear c12
        by_cases c13 : a0_1 = 0
        · rw [if_pos c13] at H
          have c13b0 : (a0_1 == 0) = true := beq_iff_eq.mpr c13
          have c13b1 : (a0_1 != 0) = false := bne_eq_false_iff_eq.mpr c13
          clear c13
          obtain rfl := Option.some.inj H
          go_enter Tryd.func39, Tryd.ntmps39
          go_wp2_with (first | ((with_reducible refine gate_dst (N := 1) rfl ?_); refine bx 1 #[.int .i64 a0_0, .int .u64 a0_1, .int .u64 a0_2, .int .u64 a0_3, .int .u64 a0_4] 35 ?_; intro gb247 hg w14 hbox hb; have n0_ := bs HB hb; have n1_ := Aside0.mk (hbox); have n2_ := sz HB hg; have n3_ := sz HB hg; clear HB; have HB := n0_; have BK247 := n1_; have GW247 := n2_; have GE247 := n3_; clear n0_ n1_ n2_ n3_; clear hb hbox hg; obtain ⟨hcz15_0, hcz15_1, hcz15_2, hcz15_3, hcz15_4, hfz15_0, hfz15_1, hfz15_2, hfz15_3, hfz15_4⟩ := bc5 BK247))
          go_ret
          exact ⟨re, bw HB⟩
        · rw [if_neg c13] at H
          have c13b0 : (a0_1 == 0) = false := beq_eq_false_iff_ne.mpr c13
          have c13b1 : (a0_1 != 0) = true := bne_iff_ne.mpr c13
          obtain rfl := Option.some.inj H
          go_enter Tryd.func39, Tryd.ntmps39
          go_wp2_with (first | ((with_reducible refine gate_dst (N := 1) rfl ?_); refine bx 1 #[.int .i64 a0_0, .int .u64 a0_1, .int .u64 a0_2, .int .u64 a0_3, .int .u64 a0_4] 35 ?_; intro gb247 hg w16 hbox hb; have n0_ := bs HB hb; have n1_ := Aside0.mk (hbox); have n2_ := sz HB hg; have n3_ := sz HB hg; clear HB; have HB := n0_; have BK247 := n1_; have GW247 := n2_; have GE247 := n3_; clear n0_ n1_ n2_ n3_; clear hb hbox hg; obtain ⟨hcz17_0, hcz17_1, hcz17_2, hcz17_3, hcz17_4, hfz17_0, hfz17_1, hfz17_2, hfz17_3, hfz17_4⟩ := bc5 BK247))
          go_ret
          exact ⟨re, bw HB⟩
      · rw [if_neg c12] at H
        have c12b0 : decide (0 < a0_4) = false := decide_eq_false c12
        clear c12
        obtain rfl := Option.some.inj H
        go_enter Tryd.func39, Tryd.ntmps39
        go_wp2_with (first | ((with_reducible refine gate_dst (N := 1) rfl ?_); refine bx 1 #[.int .i64 a0_0, .int .u64 a0_1, .int .u64 a0_2, .int .u64 a0_3, .int .u64 a0_4] 35 ?_; intro gb247 hg w18 hbox hb; have n0_ := bs HB hb; have n1_ := Aside0.mk (hbox); have n2_ := sz HB hg; have n3_ := sz HB hg; clear HB; have HB := n0_; have BK247 := n1_; have GW247 := n2_; have GE247 := n3_; clear n0_ n1_ n2_ n3_; clear hb hbox hg; obtain ⟨hcz19_0, hcz19_1, hcz19_2, hcz19_3, hcz19_4, hfz19_0, hfz19_1, hfz19_2, hfz19_3, hfz19_4⟩ := bc5 BK247))
        go_ret
        exact ⟨re, bw HB⟩
    · rw [if_neg c11] at H
      have c11b0 : (a0_0 == 2) = false := beq_eq_false_iff_ne.mpr c11
      have c11b1 : (a0_0 != 2) = true := bne_iff_ne.mpr c11
      obtain rfl := Option.some.inj H
      go_enter Tryd.func39, Tryd.ntmps39
      go_wp2_with (first | ((with_reducible refine gate_dst (N := 1) rfl ?_); refine bx 1 #[.int .i64 a0_0, .int .u64 a0_1, .int .u64 a0_2, .int .u64 a0_3, .int .u64 a0_4] 35 ?_; intro gb247 hg w20 hbox hb; have n0_ := bs HB hb; have n1_ := Aside0.mk (hbox); have n2_ := sz HB hg; have n3_ := sz HB hg; clear HB; have HB := n0_; have BK247 := n1_; have GW247 := n2_; have GE247 := n3_; clear n0_ n1_ n2_ n3_; clear hb hbox hg; obtain ⟨hcz21_0, hcz21_1, hcz21_2, hcz21_3, hcz21_4, hfz21_0, hfz21_1, hfz21_2, hfz21_3, hfz21_4⟩ := bc5 BK247))
      go_ret
      exact ⟨re, bw HB⟩

/-! ### turnstileref06_Form: function 40 -/
def turnstileref06_Form.f (a0_0 : Int) (a0_1 : Int) (a0_2 : Int) (a0_3 : Int) (a0_4 : Int) (a1_0 : Int) (a1_1 : Int) (a1_2 : Int) : Option (Int × Int × Int) := (turnstileref06_Valid.f a0_0 a0_1 a0_2 a0_3 a0_4).bind fun t251 => (if t251 = true then (if a0_0 = 1 then (some (a1_0, 0, 0)) else (some (0, a1_1, a1_2))) else (some (0, 0, 0)))
set_option maxHeartbeats 8000000 in
set_option maxRecDepth 100000 in
theorem turnstileref06_Form.calls (a0_0 : Int) (a0_1 : Int) (a0_2 : Int) (a0_3 : Int) (a0_4 : Int) (a1_0 : Int) (a1_1 : Int) (a1_2 : Int) (r1 : Int) (r2 : Int) (r3 : Int) (w : World) (h : turnstileref06_Form.f a0_0 a0_1 a0_2 a0_3 a0_4 a1_0 a1_1 a1_2 = some (r1, r2, r3)) :
    Calls Tryd.prog 40 #[.agg #[.int .i64 a0_0, .int .u64 a0_1, .int .u64 a0_2, .int .u64 a0_3, .int .u64 a0_4], .agg #[.int .u64 a1_0, .int .u64 a1_1, .int .u64 a1_2]] w fun e w' => e = .returned (.agg #[.int .u64 r1, .int .u64 r2, .int .u64 r3]) ∧ Below w.heap.size w w' := by
  have hu35 := Tryd.underlying35
  have hu37 := Tryd.underlying37
  have HB := Aside0.mk (Below.refl w.heap.size w)
  have H : ((turnstileref06_Valid.f a0_0 a0_1 a0_2 a0_3 a0_4).bind fun t251 => (if t251 = true then (if a0_0 = 1 then (some (a1_0, 0, 0)) else (some (0, a1_1, a1_2))) else (some (0, 0, 0)))) = some (r1, r2, r3) := h
  clear h
  replace H := Option.bind_eq_some_iff.mp H
  obtain ⟨t251, A30, H⟩ := H
  replace H : (if t251 = true then (if a0_0 = 1 then (some (a1_0, 0, 0)) else (some (0, a1_1, a1_2))) else (some (0, 0, 0))) = some (r1, r2, r3) := H
  have A3 := Aside0.mk A30
  clear A30
  by_cases c4 : t251 = true
  · subst c4
    have H1 : (if a0_0 = 1 then (some (a1_0, 0, 0)) else (some (0, a1_1, a1_2))) = some (r1, r2, r3) := by rw [if_pos rfl] at H; exact H
    clear H
    have H := H1
    clear H1
    by_cases c5 : a0_0 = 1
    · rw [if_pos c5] at H
      have c5b0 : (a0_0 == 1) = true := beq_iff_eq.mpr c5
      have c5b1 : (a0_0 != 1) = false := bne_eq_false_iff_eq.mpr c5
      clear c5
      simp only [Option.some.injEq, Prod.mk.injEq] at H
      obtain ⟨rfl, rfl, rfl⟩ := H
      go_enter Tryd.func40, Tryd.ntmps40
      go_wp2_with (first | ((with_reducible refine gate_dst (N := 2) rfl ?_); refine bx 2 #[.int .i64 a0_0, .int .u64 a0_1, .int .u64 a0_2, .int .u64 a0_3, .int .u64 a0_4] 35 ?_; intro gb248 hg w6 hbox hb; have n0_ := bs HB hb; have n1_ := Aside0.mk (hbox); have n2_ := sz HB hg; have n3_ := sz HB hg; clear HB; have HB := n0_; have BK248 := n1_; have GW248 := n2_; have GE248 := n3_; clear n0_ n1_ n2_ n3_; clear hb hbox hg) | ((with_reducible refine gate_dst (N := 3) rfl ?_); refine bx 3 #[.int .u64 a1_0, .int .u64 a1_1, .int .u64 a1_2] 37 ?_; intro gb249 hg w7 hbox hb; have n0_ := bb BK248 hb; have n1_ := bs HB hb; have n2_ := Aside0.mk (hbox); have n3_ := sz HB hg; have n4_ := sz HB hg; have n5_ := nl BK248 hg; have n6_ := nr BK248 hg; clear BK248; clear HB; have BK248 := n0_; have HB := n1_; have BK249 := n2_; have GW249 := n3_; have GE249 := n4_; have NB248_249 := n5_; have NB249_248 := n6_; clear n0_ n1_ n2_ n3_ n4_ n5_ n6_; clear hb hbox hg) | ((with_reducible refine gate_dst (N := 4) rfl ?_); refine bx 4 #[.int .u64 0, .int .u64 0, .int .u64 0] 37 ?_; intro gb250 hg w8 hbox hb; have n0_ := bb BK248 hb; have n1_ := bb BK249 hb; have n2_ := bs HB hb; have n3_ := Aside0.mk (hbox); have n4_ := sz HB hg; have n5_ := sz HB hg; have n6_ := nl BK248 hg; have n7_ := nr BK248 hg; have n8_ := nl BK249 hg; have n9_ := nr BK249 hg; clear BK248; clear BK249; clear HB; have BK248 := n0_; have BK249 := n1_; have HB := n2_; have BK250 := n3_; have GW250 := n4_; have GE250 := n5_; have NB248_250 := n6_; have NB250_248 := n7_; have NB249_250 := n8_; have NB250_249 := n9_; clear n0_ n1_ n2_ n3_ n4_ n5_ n6_ n7_ n8_ n9_; clear hb hbox hg; have hnb9 := NB248_249.out; have hnc9 := NB249_248.out; have hnb10 := NB248_250.out; have hnc10 := NB250_248.out; obtain ⟨hcz11_0, hcz11_1, hcz11_2, hcz11_3, hcz11_4, hfz11_0, hfz11_1, hfz11_2, hfz11_3, hfz11_4⟩ := bc5 BK248) | ((with_reducible refine gate_callee (f := 39) rfl ?_); refine gm (some 6) Tryd.func39 #[.agg #[.int .i64 a0_0, .int .u64 a0_1, .int .u64 a0_2, .int .u64 a0_3, .int .u64 a0_4]] (turnstileref06_Valid.calls a0_0 a0_1 a0_2 a0_3 a0_4 true _ A3.out) ?_; intro w12 hb; have n0_ := bb BK248 hb; have n1_ := bb BK249 hb; have n2_ := bb BK250 hb; have n3_ := bs HB hb; clear BK248; clear BK249; clear BK250; clear HB; have BK248 := n0_; have BK249 := n1_; have BK250 := n2_; have HB := n3_; clear n0_ n1_ n2_ n3_; (try clear hb); (try clear hb2); (try clear hk); (try clear hi); obtain ⟨hcz13_0, hcz13_1, hcz13_2, hcz13_3, hcz13_4, hfz13_0, hfz13_1, hfz13_2, hfz13_3, hfz13_4⟩ := bc5 BK248; have hnb14 := NB249_250.out; have hnc14 := NB250_249.out; obtain ⟨hcz15_0, hcz15_1, hcz15_2, hfz15_0, hfz15_1, hfz15_2⟩ := bc3 BK249; obtain ⟨hcz16_0, hcz16_1, hcz16_2, hfz16_0, hfz16_1, hfz16_2⟩ := bc3 BK250))
      refine bodyPost_ret (results_cell_row rfl _ _ gb250 37 #[.int .u64 a1_0, .int .u64 0, .int .u64 0] (0, 0) _ rfl (bk BK250) Tryd.underlying37 rfl (by kernel_rfl)) rfl ?_
      exact ⟨re, bw HB⟩
    · rw [if_neg c5] at H
      have c5b0 : (a0_0 == 1) = false := beq_eq_false_iff_ne.mpr c5
      have c5b1 : (a0_0 != 1) = true := bne_iff_ne.mpr c5
      simp only [Option.some.injEq, Prod.mk.injEq] at H
      obtain ⟨rfl, rfl, rfl⟩ := H
      go_enter Tryd.func40, Tryd.ntmps40
      go_wp2_with (first | ((with_reducible refine gate_dst (N := 2) rfl ?_); refine bx 2 #[.int .i64 a0_0, .int .u64 a0_1, .int .u64 a0_2, .int .u64 a0_3, .int .u64 a0_4] 35 ?_; intro gb248 hg w17 hbox hb; have n0_ := bs HB hb; have n1_ := Aside0.mk (hbox); have n2_ := sz HB hg; have n3_ := sz HB hg; clear HB; have HB := n0_; have BK248 := n1_; have GW248 := n2_; have GE248 := n3_; clear n0_ n1_ n2_ n3_; clear hb hbox hg) | ((with_reducible refine gate_dst (N := 3) rfl ?_); refine bx 3 #[.int .u64 a1_0, .int .u64 a1_1, .int .u64 a1_2] 37 ?_; intro gb249 hg w18 hbox hb; have n0_ := bb BK248 hb; have n1_ := bs HB hb; have n2_ := Aside0.mk (hbox); have n3_ := sz HB hg; have n4_ := sz HB hg; have n5_ := nl BK248 hg; have n6_ := nr BK248 hg; clear BK248; clear HB; have BK248 := n0_; have HB := n1_; have BK249 := n2_; have GW249 := n3_; have GE249 := n4_; have NB248_249 := n5_; have NB249_248 := n6_; clear n0_ n1_ n2_ n3_ n4_ n5_ n6_; clear hb hbox hg) | ((with_reducible refine gate_dst (N := 4) rfl ?_); refine bx 4 #[.int .u64 0, .int .u64 0, .int .u64 0] 37 ?_; intro gb250 hg w19 hbox hb; have n0_ := bb BK248 hb; have n1_ := bb BK249 hb; have n2_ := bs HB hb; have n3_ := Aside0.mk (hbox); have n4_ := sz HB hg; have n5_ := sz HB hg; have n6_ := nl BK248 hg; have n7_ := nr BK248 hg; have n8_ := nl BK249 hg; have n9_ := nr BK249 hg; clear BK248; clear BK249; clear HB; have BK248 := n0_; have BK249 := n1_; have HB := n2_; have BK250 := n3_; have GW250 := n4_; have GE250 := n5_; have NB248_250 := n6_; have NB250_248 := n7_; have NB249_250 := n8_; have NB250_249 := n9_; clear n0_ n1_ n2_ n3_ n4_ n5_ n6_ n7_ n8_ n9_; clear hb hbox hg; have hnb20 := NB248_249.out; have hnc20 := NB249_248.out; have hnb21 := NB248_250.out; have hnc21 := NB250_248.out; obtain ⟨hcz22_0, hcz22_1, hcz22_2, hcz22_3, hcz22_4, hfz22_0, hfz22_1, hfz22_2, hfz22_3, hfz22_4⟩ := bc5 BK248) | ((with_reducible refine gate_callee (f := 39) rfl ?_); refine gm (some 6) Tryd.func39 #[.agg #[.int .i64 a0_0, .int .u64 a0_1, .int .u64 a0_2, .int .u64 a0_3, .int .u64 a0_4]] (turnstileref06_Valid.calls a0_0 a0_1 a0_2 a0_3 a0_4 true _ A3.out) ?_; intro w23 hb; have n0_ := bb BK248 hb; have n1_ := bb BK249 hb; have n2_ := bb BK250 hb; have n3_ := bs HB hb; clear BK248; clear BK249; clear BK250; clear HB; have BK248 := n0_; have BK249 := n1_; have BK250 := n2_; have HB := n3_; clear n0_ n1_ n2_ n3_; (try clear hb); (try clear hb2); (try clear hk); (try clear hi); obtain ⟨hcz24_0, hcz24_1, hcz24_2, hcz24_3, hcz24_4, hfz24_0, hfz24_1, hfz24_2, hfz24_3, hfz24_4⟩ := bc5 BK248; have hnb25 := NB249_250.out; have hnc25 := NB250_249.out; obtain ⟨hcz26_0, hcz26_1, hcz26_2, hfz26_0, hfz26_1, hfz26_2⟩ := bc3 BK249; obtain ⟨hcz27_0, hcz27_1, hcz27_2, hfz27_0, hfz27_1, hfz27_2⟩ := bc3 BK250))
      refine bodyPost_ret (results_cell_row rfl _ _ gb250 37 #[.int .u64 0, .int .u64 a1_1, .int .u64 a1_2] (0, 0) _ rfl (bk BK250) Tryd.underlying37 rfl (by kernel_rfl)) rfl ?_
      exact ⟨re, bw HB⟩
  · replace c4 := Bool.eq_false_iff.mpr c4
    subst c4
    have H1 : (some (0, 0, 0)) = some (r1, r2, r3) := by rw [if_neg (show ¬ (false = true) by decide)] at H; exact H
    clear H
    have H := H1
    clear H1
    simp only [Option.some.injEq, Prod.mk.injEq] at H
    obtain ⟨rfl, rfl, rfl⟩ := H
    go_enter Tryd.func40, Tryd.ntmps40
    go_wp2_with (first | ((with_reducible refine gate_dst (N := 2) rfl ?_); refine bx 2 #[.int .i64 a0_0, .int .u64 a0_1, .int .u64 a0_2, .int .u64 a0_3, .int .u64 a0_4] 35 ?_; intro gb248 hg w28 hbox hb; have n0_ := bs HB hb; have n1_ := Aside0.mk (hbox); have n2_ := sz HB hg; have n3_ := sz HB hg; clear HB; have HB := n0_; have BK248 := n1_; have GW248 := n2_; have GE248 := n3_; clear n0_ n1_ n2_ n3_; clear hb hbox hg) | ((with_reducible refine gate_dst (N := 3) rfl ?_); refine bx 3 #[.int .u64 a1_0, .int .u64 a1_1, .int .u64 a1_2] 37 ?_; intro gb249 hg w29 hbox hb; have n0_ := bb BK248 hb; have n1_ := bs HB hb; have n2_ := Aside0.mk (hbox); have n3_ := sz HB hg; have n4_ := sz HB hg; have n5_ := nl BK248 hg; have n6_ := nr BK248 hg; clear BK248; clear HB; have BK248 := n0_; have HB := n1_; have BK249 := n2_; have GW249 := n3_; have GE249 := n4_; have NB248_249 := n5_; have NB249_248 := n6_; clear n0_ n1_ n2_ n3_ n4_ n5_ n6_; clear hb hbox hg) | ((with_reducible refine gate_dst (N := 4) rfl ?_); refine bx 4 #[.int .u64 0, .int .u64 0, .int .u64 0] 37 ?_; intro gb250 hg w30 hbox hb; have n0_ := bb BK248 hb; have n1_ := bb BK249 hb; have n2_ := bs HB hb; have n3_ := Aside0.mk (hbox); have n4_ := sz HB hg; have n5_ := sz HB hg; have n6_ := nl BK248 hg; have n7_ := nr BK248 hg; have n8_ := nl BK249 hg; have n9_ := nr BK249 hg; clear BK248; clear BK249; clear HB; have BK248 := n0_; have BK249 := n1_; have HB := n2_; have BK250 := n3_; have GW250 := n4_; have GE250 := n5_; have NB248_250 := n6_; have NB250_248 := n7_; have NB249_250 := n8_; have NB250_249 := n9_; clear n0_ n1_ n2_ n3_ n4_ n5_ n6_ n7_ n8_ n9_; clear hb hbox hg; have hnb31 := NB248_249.out; have hnc31 := NB249_248.out; have hnb32 := NB248_250.out; have hnc32 := NB250_248.out; obtain ⟨hcz33_0, hcz33_1, hcz33_2, hcz33_3, hcz33_4, hfz33_0, hfz33_1, hfz33_2, hfz33_3, hfz33_4⟩ := bc5 BK248) | ((with_reducible refine gate_callee (f := 39) rfl ?_); refine gm (some 6) Tryd.func39 #[.agg #[.int .i64 a0_0, .int .u64 a0_1, .int .u64 a0_2, .int .u64 a0_3, .int .u64 a0_4]] (turnstileref06_Valid.calls a0_0 a0_1 a0_2 a0_3 a0_4 false _ A3.out) ?_; intro w34 hb; have n0_ := bb BK248 hb; have n1_ := bb BK249 hb; have n2_ := bb BK250 hb; have n3_ := bs HB hb; clear BK248; clear BK249; clear BK250; clear HB; have BK248 := n0_; have BK249 := n1_; have BK250 := n2_; have HB := n3_; clear n0_ n1_ n2_ n3_; (try clear hb); (try clear hb2); (try clear hk); (try clear hi); have hnb35 := NB250_249.out; have hnc35 := NB249_250.out; obtain ⟨hcz36_0, hcz36_1, hcz36_2, hfz36_0, hfz36_1, hfz36_2⟩ := bc3 BK250))
    refine bodyPost_ret (results_cell_row rfl _ _ gb250 37 #[.int .u64 0, .int .u64 0, .int .u64 0] (0, 0) _ rfl (bk BK250) Tryd.underlying37 rfl (by kernel_rfl)) rfl ?_
    exact ⟨re, bw HB⟩

/-! ### turnstileref06_Fits: function 26 -/
def turnstileref06_Fits.f (a0_0 : Int) (a0_1 : Int) (a0_2 : Int) (a0_3 : Int) (a0_4 : Int) (a1_0 : Int) (a1_1 : Int) (a1_2 : Int) : Option (Bool) := (turnstileref06_Valid.f a0_0 a0_1 a0_2 a0_3 a0_4).bind fun t254 => (if t254 = true then ((turnstileref06_Form.f a0_0 a0_1 a0_2 a0_3 a0_4 a1_0 a1_1 a1_2).bind fun bt255 => (some (bt255.1 == a1_0 && (bt255.2.1 == a1_1 && (bt255.2.2 == a1_2))))) else (some false))
def turnstileref06_Fits.T1 : Bool × List (List Nat × List Nat) := (true, [([], []), ([0], [0]), ([1, 1], [1]), ([2], [2]), ([2], [2]), ([3, 4, 2, 2], [2, 3, 4]), ([2], [2]), ([5, 6, 2], [2, 5, 6]), ([2, 7], [2, 7]), ([8, 5, 0, 1, 2, 3, 4, 5, 6, 7, 8], [8])])
def turnstileref06_Fits.B1 : List Nat := [0, 1, 3, 7, 7, 31, 7, 127, 255, 511]
theorem turnstileref06_Fits.tab1 : rtab .any (opsOf Tryd.f26 1) = turnstileref06_Fits.T1 := by kernel_rfl
theorem turnstileref06_Fits.bits1 : waitsOk turnstileref06_Fits.T1.2 turnstileref06_Fits.B1 = true := by kernel_rfl
set_option maxHeartbeats 8000000 in
set_option maxRecDepth 100000 in
theorem turnstileref06_Fits.calls (a0_0 : Int) (a0_1 : Int) (a0_2 : Int) (a0_3 : Int) (a0_4 : Int) (a1_0 : Int) (a1_1 : Int) (a1_2 : Int) (r : Bool) (w : World) (h : turnstileref06_Fits.f a0_0 a0_1 a0_2 a0_3 a0_4 a1_0 a1_1 a1_2 = some r) :
    Calls Tryd.prog 26 #[.agg #[.int .i64 a0_0, .int .u64 a0_1, .int .u64 a0_2, .int .u64 a0_3, .int .u64 a0_4], .agg #[.int .u64 a1_0, .int .u64 a1_1, .int .u64 a1_2]] w fun e w' => e = .returned (.bool r) ∧ Below w.heap.size w w' := by
  have hu35 := Tryd.underlying35
  have hu37 := Tryd.underlying37
  have HB := Aside0.mk (Below.refl w.heap.size w)
  have H : ((turnstileref06_Valid.f a0_0 a0_1 a0_2 a0_3 a0_4).bind fun t254 => (if t254 = true then ((turnstileref06_Form.f a0_0 a0_1 a0_2 a0_3 a0_4 a1_0 a1_1 a1_2).bind fun bt255 => (some (bt255.1 == a1_0 && (bt255.2.1 == a1_1 && (bt255.2.2 == a1_2))))) else (some false))) = some r := h
  clear h
  replace H := Option.bind_eq_some_iff.mp H
  obtain ⟨t254, A30, H⟩ := H
  replace H : (if t254 = true then ((turnstileref06_Form.f a0_0 a0_1 a0_2 a0_3 a0_4 a1_0 a1_1 a1_2).bind fun bt255 => (some (bt255.1 == a1_0 && (bt255.2.1 == a1_1 && (bt255.2.2 == a1_2))))) else (some false)) = some r := H
  have A3 := Aside0.mk A30
  clear A30
  by_cases c4 : t254 = true
  · subst c4
    have H1 : ((turnstileref06_Form.f a0_0 a0_1 a0_2 a0_3 a0_4 a1_0 a1_1 a1_2).bind fun bt255 => (some (bt255.1 == a1_0 && (bt255.2.1 == a1_1 && (bt255.2.2 == a1_2))))) = some r := by rw [if_pos rfl] at H; exact H
    clear H
    have H := H1
    clear H1
    replace H := Option.bind_eq_some_iff.mp H
    obtain ⟨⟨t255, t256, t257⟩, A50, H⟩ := H
    replace H : (some (t255 == a1_0 && (t256 == a1_1 && (t257 == a1_2)))) = some r := H
    have A5 := Aside0.mk A50
    clear A50
    obtain rfl := Option.some.inj H
    go_enter Tryd.func26, Tryd.ntmps26
    try go_wp2_with (first | ((with_reducible refine gate_dst (N := 2) rfl ?_); (try (refine gate_guard (by rfl) ?_; dsimp only)); refine bx 2 #[.int .i64 a0_0, .int .u64 a0_1, .int .u64 a0_2, .int .u64 a0_3, .int .u64 a0_4] 35 ?_; intro gb252 hg w6 hbox hb; have n0_ := bs HB hb; have n1_ := Aside0.mk (hbox); have n2_ := sz HB hg; have n3_ := sz HB hg; clear HB; have HB := n0_; have BK252 := n1_; have GW252 := n2_; have GE252 := n3_; clear n0_ n1_ n2_ n3_; clear hb hbox hg) | ((with_reducible refine gate_dst (N := 3) rfl ?_); (try (refine gate_guard (by rfl) ?_; dsimp only)); refine bx 3 #[.int .u64 a1_0, .int .u64 a1_1, .int .u64 a1_2] 37 ?_; intro gb253 hg w7 hbox hb; have n0_ := bb BK252 hb; have n1_ := bs HB hb; have n2_ := Aside0.mk (hbox); have n3_ := sz HB hg; have n4_ := sz HB hg; have n5_ := nl BK252 hg; have n6_ := nr BK252 hg; clear BK252; clear HB; have BK252 := n0_; have HB := n1_; have BK253 := n2_; have GW253 := n3_; have GE253 := n4_; have NB252_253 := n5_; have NB253_252 := n6_; clear n0_ n1_ n2_ n3_ n4_ n5_ n6_; clear hb hbox hg))
    have n0_ := Aside0.mk (blk_drew BK252.out)
    have n1_ := Aside0.mk (blk_drew BK253.out)
    have n2_ := Aside0.mk (below_drew1 HB.out)
    clear BK252
    clear BK253
    clear HB
    have BK252 := n0_
    have BK253 := n1_
    have HB := n2_
    clear n0_ n1_ n2_
    refine start_ (n := 10) (S := fun w' => w'.cell? ⟨gb252, 0, none⟩ = some (.int .i64 a0_0) ∧ w'.cell? ⟨gb252, 1, none⟩ = some (.int .u64 a0_1) ∧ w'.cell? ⟨gb252, 2, none⟩ = some (.int .u64 a0_2) ∧ w'.cell? ⟨gb252, 3, none⟩ = some (.int .u64 a0_3) ∧ w'.cell? ⟨gb252, 4, none⟩ = some (.int .u64 a0_4) ∧ w'.cell? ⟨gb253, 0, none⟩ = some (.int .u64 a1_0) ∧ w'.cell? ⟨gb253, 1, none⟩ = some (.int .u64 a1_1) ∧ w'.cell? ⟨gb253, 2, none⟩ = some (.int .u64 a1_2)) (ds := []) #[false, false, false, false, false, false, false, false, false, false] (by kernel_rfl) rfl rfl ⟨(blk_cell BK252.out 0).trans rfl, (blk_cell BK252.out 1).trans rfl, (blk_cell BK252.out 2).trans rfl, (blk_cell BK252.out 3).trans rfl, (blk_cell BK252.out 4).trans rfl, (blk_cell BK253.out 0).trans rfl, (blk_cell BK253.out 1).trans rfl, (blk_cell BK253.out 2).trans rfl⟩ (fun hHeld => ?_); refine with_tabW turnstileref06_Fits.tab1 turnstileref06_Fits.bits1 (fun HT_ HW_ => ?_)
    generalize w7.drew = w8 at BK252 BK253 HB hHeld ⊢
    refine chain_ (fuel := 9) [(0, 1, some 5)] #[true, false, false, false, false, false, false, false, false, false] HT_.out HW_.out (by kernel_rfl) (fun _ _ _ _ _ h => h) (Or.inr hHeld) rfl ?_
    refine lkT ?_; refine .nil ?_
    refine one_ (i := 1) (N := some 6) #[true, true, false, false, false, false, false, false, false, false] rfl rfl (one_of HT_.out (by kernel_rfl)) (by decide) (fun K hK => ?_)
    refine ge Tryd.func39 #[.agg #[.int .i64 a0_0, .int .u64 a0_1, .int .u64 a0_2, .int .u64 a0_3, .int .u64 a0_4]] ?_
    with_reducible refine (turnstileref06_Valid.calls a0_0 a0_1 a0_2 a0_3 a0_4 true _ A3.out).mono ?_
    rintro e w9 ⟨rfl, hb⟩
    refine ⟨_, rfl, ?_⟩
    have n0_ := bb BK252 hb
    have n1_ := bb BK253 hb
    have n2_ := bs HB hb
    clear BK252
    clear BK253
    clear HB
    have BK252 := n0_
    have BK253 := n1_
    have HB := n2_
    clear n0_ n1_ n2_
    (try clear hb)
    (try clear hb2)
    (try clear hk)
    (try clear hi)
    refine hK.out _ _ ⟨(blk_cell BK252.out 0).trans rfl, (blk_cell BK252.out 1).trans rfl, (blk_cell BK252.out 2).trans rfl, (blk_cell BK252.out 3).trans rfl, (blk_cell BK252.out 4).trans rfl, (blk_cell BK253.out 0).trans rfl, (blk_cell BK253.out 1).trans rfl, (blk_cell BK253.out 2).trans rfl⟩ (fun hHeld => ?_)
    clear hK K
    refine norm_ (a' := ?_) ?_ ?_
    rotate_left
    · show Act.put _ (some 6) _ = _
      simp only [Act.put, List.setIfInBounds_toArray, List.set_cons_zero, List.set_cons_succ, i64_w, i32_w]
      rfl
    refine chain_ (fuel := 4) [(2, 0, some 7), (3, 1, some 8), (4, 1, some 9), (6, 1, some 11)] #[true, true, true, true, true, false, true, false, false, false] HT_.out HW_.out (by kernel_rfl) (fun _ _ _ _ _ h => h) (Or.inr hHeld) rfl ?_
    refine lkP ?_; (iterate 3 refine lkT ?_); refine .nil ?_
    refine one_ (i := 5) (N := some 10) #[true, true, true, true, true, true, true, false, false, false] rfl rfl (one_of HT_.out (by kernel_rfl)) (by decide) (fun K hK => ?_)
    refine ge Tryd.func40 #[.agg #[.int .i64 a0_0, .int .u64 a0_1, .int .u64 a0_2, .int .u64 a0_3, .int .u64 a0_4], .agg #[.int .u64 a1_0, .int .u64 a1_1, .int .u64 a1_2]] ?_
    with_reducible refine (turnstileref06_Form.calls a0_0 a0_1 a0_2 a0_3 a0_4 a1_0 a1_1 a1_2 t255 t256 t257 _ A5.out).mono ?_
    rintro e w10 ⟨rfl, hb⟩
    refine ⟨_, rfl, ?_⟩
    have n0_ := bb BK252 hb
    have n1_ := bb BK253 hb
    have n2_ := bs HB hb
    clear BK252
    clear BK253
    clear HB
    have BK252 := n0_
    have BK253 := n1_
    have HB := n2_
    clear n0_ n1_ n2_
    (try clear hb)
    (try clear hb2)
    (try clear hk)
    (try clear hi)
    refine hK.out _ _ ⟨(blk_cell BK252.out 0).trans rfl, (blk_cell BK252.out 1).trans rfl, (blk_cell BK252.out 2).trans rfl, (blk_cell BK252.out 3).trans rfl, (blk_cell BK252.out 4).trans rfl, (blk_cell BK253.out 0).trans rfl, (blk_cell BK253.out 1).trans rfl, (blk_cell BK253.out 2).trans rfl⟩ (fun hHeld => ?_)
    clear hK K
    refine norm_ (a' := ?_) ?_ ?_
    rotate_left
    · show Act.put _ (some 10) _ = _
      simp only [Act.put, List.setIfInBounds_toArray, List.set_cons_zero, List.set_cons_succ, i64_w, i32_w]
      rfl
    refine chain_ (fuel := 0) [(7, 0, some 12), (8, 0, some 13), (9, 0, some 4)] #[true, true, true, true, true, true, true, true, true, true] HT_.out HW_.out (by kernel_rfl) (fun _ _ _ _ _ h => h) (Or.inl (by decide)) rfl ?_
    (iterate 3 refine lkP ?_); refine .nil ?_
    refine done_ (done_of HT_.out (by kernel_rfl)) ?_
    try go_wp2
    go_ret
    exact ⟨re, bw HB⟩
  · replace c4 := Bool.eq_false_iff.mpr c4
    subst c4
    have H1 : (some false) = some r := by rw [if_neg (show ¬ (false = true) by decide)] at H; exact H
    clear H
    have H := H1
    clear H1
    obtain rfl := Option.some.inj H
    go_enter Tryd.func26, Tryd.ntmps26
    try go_wp2_with (first | ((with_reducible refine gate_dst (N := 2) rfl ?_); (try (refine gate_guard (by rfl) ?_; dsimp only)); refine bx 2 #[.int .i64 a0_0, .int .u64 a0_1, .int .u64 a0_2, .int .u64 a0_3, .int .u64 a0_4] 35 ?_; intro gb252 hg w11 hbox hb; have n0_ := bs HB hb; have n1_ := Aside0.mk (hbox); have n2_ := sz HB hg; have n3_ := sz HB hg; clear HB; have HB := n0_; have BK252 := n1_; have GW252 := n2_; have GE252 := n3_; clear n0_ n1_ n2_ n3_; clear hb hbox hg) | ((with_reducible refine gate_dst (N := 3) rfl ?_); (try (refine gate_guard (by rfl) ?_; dsimp only)); refine bx 3 #[.int .u64 a1_0, .int .u64 a1_1, .int .u64 a1_2] 37 ?_; intro gb253 hg w12 hbox hb; have n0_ := bb BK252 hb; have n1_ := bs HB hb; have n2_ := Aside0.mk (hbox); have n3_ := sz HB hg; have n4_ := sz HB hg; have n5_ := nl BK252 hg; have n6_ := nr BK252 hg; clear BK252; clear HB; have BK252 := n0_; have HB := n1_; have BK253 := n2_; have GW253 := n3_; have GE253 := n4_; have NB252_253 := n5_; have NB253_252 := n6_; clear n0_ n1_ n2_ n3_ n4_ n5_ n6_; clear hb hbox hg))
    have n0_ := Aside0.mk (blk_drew BK252.out)
    have n1_ := Aside0.mk (blk_drew BK253.out)
    have n2_ := Aside0.mk (below_drew1 HB.out)
    clear BK252
    clear BK253
    clear HB
    have BK252 := n0_
    have BK253 := n1_
    have HB := n2_
    clear n0_ n1_ n2_
    refine start_ (n := 10) (S := fun w' => w'.cell? ⟨gb252, 0, none⟩ = some (.int .i64 a0_0) ∧ w'.cell? ⟨gb252, 1, none⟩ = some (.int .u64 a0_1) ∧ w'.cell? ⟨gb252, 2, none⟩ = some (.int .u64 a0_2) ∧ w'.cell? ⟨gb252, 3, none⟩ = some (.int .u64 a0_3) ∧ w'.cell? ⟨gb252, 4, none⟩ = some (.int .u64 a0_4)) (ds := []) #[false, false, false, false, false, false, false, false, false, false] (by kernel_rfl) rfl rfl ⟨(blk_cell BK252.out 0).trans rfl, (blk_cell BK252.out 1).trans rfl, (blk_cell BK252.out 2).trans rfl, (blk_cell BK252.out 3).trans rfl, (blk_cell BK252.out 4).trans rfl⟩ (fun hHeld => ?_); refine with_tabW turnstileref06_Fits.tab1 turnstileref06_Fits.bits1 (fun HT_ HW_ => ?_)
    generalize w12.drew = w13 at BK252 BK253 HB hHeld ⊢
    refine chain_ (fuel := 9) [(0, 1, some 5)] #[true, false, false, false, false, false, false, false, false, false] HT_.out HW_.out (by kernel_rfl) (fun _ _ _ _ _ h => h) (Or.inr hHeld) rfl ?_
    refine lkT ?_; refine .nil ?_
    refine one_ (i := 1) (N := some 6) #[true, true, false, false, false, false, false, false, false, false] rfl rfl (one_of HT_.out (by kernel_rfl)) (by decide) (fun K hK => ?_)
    refine ge Tryd.func39 #[.agg #[.int .i64 a0_0, .int .u64 a0_1, .int .u64 a0_2, .int .u64 a0_3, .int .u64 a0_4]] ?_
    with_reducible refine (turnstileref06_Valid.calls a0_0 a0_1 a0_2 a0_3 a0_4 false _ A3.out).mono ?_
    rintro e w14 ⟨rfl, hb⟩
    refine ⟨_, rfl, ?_⟩
    have n0_ := bb BK252 hb
    have n1_ := bb BK253 hb
    have n2_ := bs HB hb
    clear BK252
    clear BK253
    clear HB
    have BK252 := n0_
    have BK253 := n1_
    have HB := n2_
    clear n0_ n1_ n2_
    (try clear hb)
    (try clear hb2)
    (try clear hk)
    (try clear hi)
    refine hK.out _ _ ⟨(blk_cell BK252.out 0).trans rfl, (blk_cell BK252.out 1).trans rfl, (blk_cell BK252.out 2).trans rfl, (blk_cell BK252.out 3).trans rfl, (blk_cell BK252.out 4).trans rfl⟩ (fun hHeld => ?_)
    clear hK K
    refine norm_ (a' := ?_) ?_ ?_
    rotate_left
    · show Act.put _ (some 6) _ = _
      simp only [Act.put, List.setIfInBounds_toArray, List.set_cons_zero, List.set_cons_succ, i64_w, i32_w]
      rfl
    refine chain_ (fuel := 0) [(2, 0, some 7), (3, 2, some 8), (4, 2, some 9), (5, 2, some 10), (6, 2, some 11), (7, 2, some 12), (8, 0, some 13), (9, 0, some 4)] #[true, true, true, true, true, true, true, true, true, true] HT_.out HW_.out (by kernel_rfl) (fun _ _ _ _ _ h => h) (Or.inl (by decide)) rfl ?_
    refine lkP ?_; (iterate 5 refine lkO ?_); (iterate 2 refine lkP ?_); refine .nil ?_
    refine done_ (done_of HT_.out (by kernel_rfl)) ?_
    try go_wp2
    go_ret
    exact ⟨re, bw HB⟩

end Go.Proofs.YtnhngjhodcikiaaDoor.F
