/- Written by the session's own program hyb.py: what functions of the program compute; Lean checks it. -/
import Derived.Test.YtokfhdpokemekaaQx0
import Derived.Test.YtokfhdpokemekaaQx18
namespace Go.Proofs.Ytokfhdpokemekaa.Q
open Go.RowKit Go.Proofs.YtokfhdpokemekaaW.PrintWords Go.Proofs.YtokfhdpokemekaaW.PrintLast Go.Proofs.YtokfhdpokemekaaW.PrintMore Go.Proofs.YtokfhdpokemekaaW.PrintShort
attribute [local go_sem] run_Add64 run_Sub64
attribute [local go_sem] max2_int min2_int max_two min_two max_three min_three max_four min_four   -- for this text's walks alone
set_option linter.unusedVariables false
set_option linter.unusedSimpArgs false

/-! ### sat_Add: function 38 -/
def sat_Add.f (a0 : Int) (a1 : Int) : Option (Int) := if (add64c a0 a1 0) = 0 then (some (add64s a0 a1 0)) else (some 18446744073709551615)
set_option maxHeartbeats 8000000 in
set_option maxRecDepth 100000 in
theorem sat_Add.calls (a0 : Int) (a1 : Int) (r : Int) (w : World) (h : sat_Add.f a0 a1 = some r) :
    Calls Try.prog 38 #[.int .u64 a0, .int .u64 a1] w fun e w' => e = .returned (.int .u64 r) ∧ Drawn0 w w' := by
  have H : (if (add64c a0 a1 0) = 0 then (some (add64s a0 a1 0)) else (some 18446744073709551615)) = some r := h
  clear h
  by_cases c3 : (add64c a0 a1 0) = 0
  · rw [if_pos c3] at H
    have c3b0 : ((add64c a0 a1 0) == 0) = true := beq_iff_eq.mpr c3
    have c3b1 : ((add64c a0 a1 0) != 0) = false := bne_eq_false_iff_eq.mpr c3
    clear c3
    obtain rfl := Option.some.inj H
    go_enter Try.func38, Try.ntmps38
    go_wp2
    go_ret
    exact ⟨rs, by repeat (first | exact Drawn0.refl _ | apply Drawn0.step)⟩
  · rw [if_neg c3] at H
    have c3b0 : ((add64c a0 a1 0) == 0) = false := beq_eq_false_iff_ne.mpr c3
    have c3b1 : ((add64c a0 a1 0) != 0) = true := bne_iff_ne.mpr c3
    obtain rfl := Option.some.inj H
    go_enter Try.func38, Try.ntmps38
    go_wp2
    go_ret
    exact ⟨rs, by repeat (first | exact Drawn0.refl _ | apply Drawn0.step)⟩

/-! ### reserve_Ceiling: function 32 -/
def reserve_Ceiling.f (a0_0 : Int) (a0_1 : Int) (a0_2 : Int) (a0_3 : Int) (a0_4 : Int) (a1_0 : Int) (a1_1 : Int) (a1_2 : Int) (a1_3 : Int) (a1_4 : Int) (a2_0 : Int) (a2_1 : Int) (a2_2 : Int) : Option (Int × Int × Int) := (policy_Valid.f a1_0 a1_1 a1_2 a1_3 a1_4).bind fun t553 => (if t553 = true then (if a1_0 = 1 then ((sat_Add.f a2_0 a0_0).bind fun t554 => (some (t554, 0, 0))) else ((sat_Add.f a2_2 a0_1).bind fun t555 => (some (0, a2_1, mn t555 (mx a1_3 a2_2))))) else (some (0, 0, 0)))
def reserve_Ceiling.T5 : Bool × List (List Nat × List Nat) := (true, [([], []), ([0], [0]), ([], []), ([2], [2]), ([], []), ([4], [4]), ([3, 5], [3, 5]), ([], []), ([7], [7]), ([], []), ([9], [9]), ([8, 10], [8, 10]), ([6, 11], [6, 11]), ([1, 12], [1, 12]), ([13, 6, 0, 1, 2, 3, 4, 5, 6, 7, 8, 9, 10, 11, 12, 13], [13])])
def reserve_Ceiling.B5 : List Nat := [0, 1, 0, 4, 0, 16, 60, 0, 128, 0, 512, 1920, 4092, 8191, 16383]
theorem reserve_Ceiling.tab5 : rtab .any (opsOf Try.f32 5) = reserve_Ceiling.T5 := by kernel_rfl
theorem reserve_Ceiling.bits5 : waitsOk reserve_Ceiling.T5.2 reserve_Ceiling.B5 = true := by kernel_rfl
set_option maxHeartbeats 8000000 in
set_option maxRecDepth 100000 in
theorem reserve_Ceiling.calls (a0_0 : Int) (a0_1 : Int) (a0_2 : Int) (a0_3 : Int) (a0_4 : Int) (a1_0 : Int) (a1_1 : Int) (a1_2 : Int) (a1_3 : Int) (a1_4 : Int) (a2_0 : Int) (a2_1 : Int) (a2_2 : Int) (r1 : Int) (r2 : Int) (r3 : Int) (w : World) (h : reserve_Ceiling.f a0_0 a0_1 a0_2 a0_3 a0_4 a1_0 a1_1 a1_2 a1_3 a1_4 a2_0 a2_1 a2_2 = some (r1, r2, r3)) :
    Calls Try.prog 32 #[.agg #[.int .u64 a0_0, .int .u64 a0_1, .int .i64 a0_2, .int .i64 a0_3, .int .i64 a0_4], .agg #[.int .i64 a1_0, .int .u64 a1_1, .int .u64 a1_2, .int .u64 a1_3, .int .u64 a1_4], .agg #[.int .u64 a2_0, .int .u64 a2_1, .int .u64 a2_2]] w fun e w' => e = .returned (.agg #[.int .u64 r1, .int .u64 r2, .int .u64 r3]) ∧ Below w.heap.size w w' := by
  have hu53 := Try.underlying53
  have hu27 := Try.underlying27
  have hu29 := Try.underlying29
  have HB := Aside0.mk (Below.refl w.heap.size w)
  have H : ((policy_Valid.f a1_0 a1_1 a1_2 a1_3 a1_4).bind fun t553 => (if t553 = true then (if a1_0 = 1 then ((sat_Add.f a2_0 a0_0).bind fun t554 => (some (t554, 0, 0))) else ((sat_Add.f a2_2 a0_1).bind fun t555 => (some (0, a2_1, mn t555 (mx a1_3 a2_2))))) else (some (0, 0, 0)))) = some (r1, r2, r3) := h
  clear h
  replace H := Option.bind_eq_some_iff.mp H
  obtain ⟨t553, A40, H⟩ := H
  replace H : (if t553 = true then (if a1_0 = 1 then ((sat_Add.f a2_0 a0_0).bind fun t554 => (some (t554, 0, 0))) else ((sat_Add.f a2_2 a0_1).bind fun t555 => (some (0, a2_1, mn t555 (mx a1_3 a2_2))))) else (some (0, 0, 0))) = some (r1, r2, r3) := H
  have A4 := Aside0.mk A40
  clear A40
  by_cases c5 : t553 = true
  · subst c5
    have H1 : (if a1_0 = 1 then ((sat_Add.f a2_0 a0_0).bind fun t554 => (some (t554, 0, 0))) else ((sat_Add.f a2_2 a0_1).bind fun t555 => (some (0, a2_1, mn t555 (mx a1_3 a2_2))))) = some (r1, r2, r3) := by rw [if_pos rfl] at H; exact H
    clear H
    have H := H1
    clear H1
    by_cases c6 : a1_0 = 1
    · rw [if_pos c6] at H
      have c6b0 : (a1_0 == 1) = true := beq_iff_eq.mpr c6
      have c6b1 : (a1_0 != 1) = false := bne_eq_false_iff_eq.mpr c6
      clear c6
      replace H := Option.bind_eq_some_iff.mp H
      obtain ⟨t554, A70, H⟩ := H
      replace H : (some (t554, 0, 0)) = some (r1, r2, r3) := H
      have A7 := Aside0.mk A70
      clear A70
      simp only [Option.some.injEq, Prod.mk.injEq] at H
      obtain ⟨rfl, rfl, rfl⟩ := H
      go_enter Try.func32, Try.ntmps32
      go_wp2_with (first | ((with_reducible refine gate_dst (N := 3) rfl ?_); refine bx 3 #[.int .u64 a0_0, .int .u64 a0_1, .int .i64 a0_2, .int .i64 a0_3, .int .i64 a0_4] 53 ?_; intro gb549 hg w8 hbox hb; have n0_ := bs HB hb; have n1_ := Aside0.mk (hbox); have n2_ := sz HB hg; have n3_ := sz HB hg; clear HB; have HB := n0_; have BK549 := n1_; have GW549 := n2_; have GE549 := n3_; clear n0_ n1_ n2_ n3_; clear hb hbox hg) | ((with_reducible refine gate_dst (N := 4) rfl ?_); refine bx 4 #[.int .i64 a1_0, .int .u64 a1_1, .int .u64 a1_2, .int .u64 a1_3, .int .u64 a1_4] 27 ?_; intro gb550 hg w9 hbox hb; have n0_ := bb BK549 hb; have n1_ := bs HB hb; have n2_ := Aside0.mk (hbox); have n3_ := sz HB hg; have n4_ := sz HB hg; have n5_ := nl BK549 hg; have n6_ := nr BK549 hg; clear BK549; clear HB; have BK549 := n0_; have HB := n1_; have BK550 := n2_; have GW550 := n3_; have GE550 := n4_; have NB549_550 := n5_; have NB550_549 := n6_; clear n0_ n1_ n2_ n3_ n4_ n5_ n6_; clear hb hbox hg) | ((with_reducible refine gate_dst (N := 5) rfl ?_); refine bx 5 #[.int .u64 a2_0, .int .u64 a2_1, .int .u64 a2_2] 29 ?_; intro gb551 hg w10 hbox hb; have n0_ := bb BK549 hb; have n1_ := bb BK550 hb; have n2_ := bs HB hb; have n3_ := Aside0.mk (hbox); have n4_ := sz HB hg; have n5_ := sz HB hg; have n6_ := nl BK549 hg; have n7_ := nr BK549 hg; have n8_ := nl BK550 hg; have n9_ := nr BK550 hg; clear BK549; clear BK550; clear HB; have BK549 := n0_; have BK550 := n1_; have HB := n2_; have BK551 := n3_; have GW551 := n4_; have GE551 := n5_; have NB549_551 := n6_; have NB551_549 := n7_; have NB550_551 := n8_; have NB551_550 := n9_; clear n0_ n1_ n2_ n3_ n4_ n5_ n6_ n7_ n8_ n9_; clear hb hbox hg) | ((with_reducible refine gate_dst (N := 6) rfl ?_); refine bx 6 #[.int .u64 0, .int .u64 0, .int .u64 0] 29 ?_; intro gb552 hg w11 hbox hb; have n0_ := bb BK549 hb; have n1_ := bb BK550 hb; have n2_ := bb BK551 hb; have n3_ := bs HB hb; have n4_ := Aside0.mk (hbox); have n5_ := sz HB hg; have n6_ := sz HB hg; have n7_ := nl BK549 hg; have n8_ := nr BK549 hg; have n9_ := nl BK550 hg; have n10_ := nr BK550 hg; have n11_ := nl BK551 hg; have n12_ := nr BK551 hg; clear BK549; clear BK550; clear BK551; clear HB; have BK549 := n0_; have BK550 := n1_; have BK551 := n2_; have HB := n3_; have BK552 := n4_; have GW552 := n5_; have GE552 := n6_; have NB549_552 := n7_; have NB552_549 := n8_; have NB550_552 := n9_; have NB552_550 := n10_; have NB551_552 := n11_; have NB552_551 := n12_; clear n0_ n1_ n2_ n3_ n4_ n5_ n6_ n7_ n8_ n9_ n10_ n11_ n12_; clear hb hbox hg; have hnb12 := NB550_549.out; have hnc12 := NB549_550.out; have hnb13 := NB550_551.out; have hnc13 := NB551_550.out; have hnb14 := NB550_552.out; have hnc14 := NB552_550.out; obtain ⟨hcz15_0, hcz15_1, hcz15_2, hcz15_3, hcz15_4, hfz15_0, hfz15_1, hfz15_2, hfz15_3, hfz15_4⟩ := bc5 BK550) | ((with_reducible refine gate_callee (f := 18) rfl ?_); refine gm (some 8) Try.func18 #[.agg #[.int .i64 a1_0, .int .u64 a1_1, .int .u64 a1_2, .int .u64 a1_3, .int .u64 a1_4]] (policy_Valid.calls a1_0 a1_1 a1_2 a1_3 a1_4 true _ A4.out) ?_; intro w16 hb; have n0_ := bb BK549 hb; have n1_ := bb BK550 hb; have n2_ := bb BK551 hb; have n3_ := bb BK552 hb; have n4_ := bs HB hb; clear BK549; clear BK550; clear BK551; clear BK552; clear HB; have BK549 := n0_; have BK550 := n1_; have BK551 := n2_; have BK552 := n3_; have HB := n4_; clear n0_ n1_ n2_ n3_ n4_; (try clear hb); (try clear hb2); (try clear hk); (try clear hi); obtain ⟨hcz17_0, hcz17_1, hcz17_2, hcz17_3, hcz17_4, hfz17_0, hfz17_1, hfz17_2, hfz17_3, hfz17_4⟩ := bc5 BK550; have hnb18 := NB551_549.out; have hnc18 := NB549_551.out; have hnb19 := NB551_552.out; have hnc19 := NB552_551.out; obtain ⟨hcz20_0, hcz20_1, hcz20_2, hfz20_0, hfz20_1, hfz20_2⟩ := bc3 BK551; have hnb21 := NB549_552.out; have hnc21 := NB552_549.out; obtain ⟨hcz22_0, hcz22_1, hcz22_2, hcz22_3, hcz22_4, hfz22_0, hfz22_1, hfz22_2, hfz22_3, hfz22_4⟩ := bc5 BK549) | ((with_reducible refine gate_callee (f := 38) rfl ?_); refine gl (some 18) Try.func38 #[.int .u64 a2_0, .int .u64 a0_0] ?_; (with_reducible refine (sat_Add.calls a2_0 a0_0 t554 _ A7.out).mono ?_); rintro e w' ⟨rfl, ⟨nd, rfl⟩⟩; refine ⟨_, rfl, ?_⟩; (try (rw [drewN_self w16]; generalize hq_ : World.drewN w16 _ = w16; have n0_ : Aside0 (w16.heap[gb549]? = some (.cells #[.int .u64 a0_0, .int .u64 a0_1, .int .i64 a0_2, .int .i64 a0_3, .int .i64 a0_4] 53 (0, 0))) := ⟨by rw [← hq_]; exact (bk BK549)⟩; have n1_ : Aside0 (w16.heap[gb550]? = some (.cells #[.int .i64 a1_0, .int .u64 a1_1, .int .u64 a1_2, .int .u64 a1_3, .int .u64 a1_4] 27 (0, 0))) := ⟨by rw [← hq_]; exact (bk BK550)⟩; have n2_ : Aside0 (w16.heap[gb551]? = some (.cells #[.int .u64 a2_0, .int .u64 a2_1, .int .u64 a2_2] 29 (0, 0))) := ⟨by rw [← hq_]; exact (bk BK551)⟩; have n3_ : Aside0 (w16.heap[gb552]? = some (.cells #[.int .u64 0, .int .u64 0, .int .u64 0] 29 (0, 0))) := ⟨by rw [← hq_]; exact (bk BK552)⟩; have n4_ : Aside0 (Below w.heap.size w w16) := ⟨by rw [← hq_]; exact (bw HB)⟩; clear BK549 BK550 BK551 BK552 HB hq_; have BK549 := n0_; have BK550 := n1_; have BK551 := n2_; have BK552 := n3_; have HB := n4_; clear n0_ n1_ n2_ n3_ n4_)); obtain ⟨hcz23_0, hcz23_1, hcz23_2, hfz23_0, hfz23_1, hfz23_2⟩ := bc3 BK552))
      refine bodyPost_ret (results_cell_row rfl _ _ gb552 29 #[.int .u64 t554, .int .u64 0, .int .u64 0] (0, 0) _ rfl (bk BK552) Try.underlying29 rfl (by kernel_rfl)) rfl ?_
      exact ⟨re, bw HB⟩
    · rw [if_neg c6] at H
      have c6b0 : (a1_0 == 1) = false := beq_eq_false_iff_ne.mpr c6
      have c6b1 : (a1_0 != 1) = true := bne_iff_ne.mpr c6
      replace H := Option.bind_eq_some_iff.mp H
      obtain ⟨t555, A240, H⟩ := H
      replace H : (some (0, a2_1, mn t555 (mx a1_3 a2_2))) = some (r1, r2, r3) := H
      have A24 := Aside0.mk A240
      clear A240
      obtain ⟨ji25, hji25⟩ : ∃ j_ : Int, (mx a1_3 a2_2) = j_ := ⟨_, rfl⟩
      replace H : (some (0, a2_1, mn t555 (ji25))) = some (r1, r2, r3) := by first | (rw [hji25] at H; exact H) | (simp only [hji25] at H ⊢; exact H)
      (try rw [hji25] at A4)
      (try rw [hji25] at A24)
      have hji25_ : (if a1_3 < a2_2 then a2_2 else a1_3) = ji25 := hji25
      obtain ⟨ji26, hji26⟩ : ∃ j_ : Int, (mn t555 (ji25)) = j_ := ⟨_, rfl⟩
      replace H : (some (0, a2_1, ji26)) = some (r1, r2, r3) := by first | (rw [hji26] at H; exact H) | (simp only [hji26] at H ⊢; exact H)
      (try rw [hji26] at A4)
      (try rw [hji26] at A24)
      have hji26_ : (if (ji25) < t555 then (ji25) else t555) = ji26 := hji26
      simp only [Option.some.injEq, Prod.mk.injEq] at H
      obtain ⟨rfl, rfl, rfl⟩ := H
      go_enter Try.func32, Try.ntmps32
      try go_wp2_with (first | ((with_reducible refine gate_dst (N := 3) rfl ?_); refine bx 3 #[.int .u64 a0_0, .int .u64 a0_1, .int .i64 a0_2, .int .i64 a0_3, .int .i64 a0_4] 53 ?_; intro gb549 hg w27 hbox hb; have n0_ := bs HB hb; have n1_ := Aside0.mk (hbox); have n2_ := sz HB hg; have n3_ := sz HB hg; clear HB; have HB := n0_; have BK549 := n1_; have GW549 := n2_; have GE549 := n3_; clear n0_ n1_ n2_ n3_; clear hb hbox hg) | ((with_reducible refine gate_dst (N := 4) rfl ?_); refine bx 4 #[.int .i64 a1_0, .int .u64 a1_1, .int .u64 a1_2, .int .u64 a1_3, .int .u64 a1_4] 27 ?_; intro gb550 hg w28 hbox hb; have n0_ := bb BK549 hb; have n1_ := bs HB hb; have n2_ := Aside0.mk (hbox); have n3_ := sz HB hg; have n4_ := sz HB hg; have n5_ := nl BK549 hg; have n6_ := nr BK549 hg; clear BK549; clear HB; have BK549 := n0_; have HB := n1_; have BK550 := n2_; have GW550 := n3_; have GE550 := n4_; have NB549_550 := n5_; have NB550_549 := n6_; clear n0_ n1_ n2_ n3_ n4_ n5_ n6_; clear hb hbox hg) | ((with_reducible refine gate_dst (N := 5) rfl ?_); refine bx 5 #[.int .u64 a2_0, .int .u64 a2_1, .int .u64 a2_2] 29 ?_; intro gb551 hg w29 hbox hb; have n0_ := bb BK549 hb; have n1_ := bb BK550 hb; have n2_ := bs HB hb; have n3_ := Aside0.mk (hbox); have n4_ := sz HB hg; have n5_ := sz HB hg; have n6_ := nl BK549 hg; have n7_ := nr BK549 hg; have n8_ := nl BK550 hg; have n9_ := nr BK550 hg; clear BK549; clear BK550; clear HB; have BK549 := n0_; have BK550 := n1_; have HB := n2_; have BK551 := n3_; have GW551 := n4_; have GE551 := n5_; have NB549_551 := n6_; have NB551_549 := n7_; have NB550_551 := n8_; have NB551_550 := n9_; clear n0_ n1_ n2_ n3_ n4_ n5_ n6_ n7_ n8_ n9_; clear hb hbox hg) | ((with_reducible refine gate_dst (N := 6) rfl ?_); refine bx 6 #[.int .u64 0, .int .u64 0, .int .u64 0] 29 ?_; intro gb552 hg w30 hbox hb; have n0_ := bb BK549 hb; have n1_ := bb BK550 hb; have n2_ := bb BK551 hb; have n3_ := bs HB hb; have n4_ := Aside0.mk (hbox); have n5_ := sz HB hg; have n6_ := sz HB hg; have n7_ := nl BK549 hg; have n8_ := nr BK549 hg; have n9_ := nl BK550 hg; have n10_ := nr BK550 hg; have n11_ := nl BK551 hg; have n12_ := nr BK551 hg; clear BK549; clear BK550; clear BK551; clear HB; have BK549 := n0_; have BK550 := n1_; have BK551 := n2_; have HB := n3_; have BK552 := n4_; have GW552 := n5_; have GE552 := n6_; have NB549_552 := n7_; have NB552_549 := n8_; have NB550_552 := n9_; have NB552_550 := n10_; have NB551_552 := n11_; have NB552_551 := n12_; clear n0_ n1_ n2_ n3_ n4_ n5_ n6_ n7_ n8_ n9_ n10_ n11_ n12_; clear hb hbox hg; have hnb31 := NB550_549.out; have hnc31 := NB549_550.out; have hnb32 := NB550_551.out; have hnc32 := NB551_550.out; have hnb33 := NB550_552.out; have hnc33 := NB552_550.out; obtain ⟨hcz34_0, hcz34_1, hcz34_2, hcz34_3, hcz34_4, hfz34_0, hfz34_1, hfz34_2, hfz34_3, hfz34_4⟩ := bc5 BK550) | ((with_reducible refine gate_callee (f := 18) rfl ?_); refine gm (some 8) Try.func18 #[.agg #[.int .i64 a1_0, .int .u64 a1_1, .int .u64 a1_2, .int .u64 a1_3, .int .u64 a1_4]] (policy_Valid.calls a1_0 a1_1 a1_2 a1_3 a1_4 true _ A4.out) ?_; intro w35 hb; have n0_ := bb BK549 hb; have n1_ := bb BK550 hb; have n2_ := bb BK551 hb; have n3_ := bb BK552 hb; have n4_ := bs HB hb; clear BK549; clear BK550; clear BK551; clear BK552; clear HB; have BK549 := n0_; have BK550 := n1_; have BK551 := n2_; have BK552 := n3_; have HB := n4_; clear n0_ n1_ n2_ n3_ n4_; (try clear hb); (try clear hb2); (try clear hk); (try clear hi); obtain ⟨hcz36_0, hcz36_1, hcz36_2, hcz36_3, hcz36_4, hfz36_0, hfz36_1, hfz36_2, hfz36_3, hfz36_4⟩ := bc5 BK550))
      have n0_ := Aside0.mk (blk_drew BK549.out)
      have n1_ := Aside0.mk (blk_drew BK550.out)
      have n2_ := Aside0.mk (blk_drew BK551.out)
      have n3_ := Aside0.mk (blk_drew BK552.out)
      have n4_ := Aside0.mk (below_drew1 HB.out)
      clear BK549
      clear BK550
      clear BK551
      clear BK552
      clear HB
      have BK549 := n0_
      have BK550 := n1_
      have BK551 := n2_
      have BK552 := n3_
      have HB := n4_
      clear n0_ n1_ n2_ n3_ n4_
      refine start_ (n := 15) (S := fun w' => w'.cell? ⟨gb551, 0, none⟩ = some (.int .u64 a2_0) ∧ w'.cell? ⟨gb551, 1, none⟩ = some (.int .u64 a2_1) ∧ w'.cell? ⟨gb551, 2, none⟩ = some (.int .u64 a2_2) ∧ w'.cell? ⟨gb549, 0, none⟩ = some (.int .u64 a0_0) ∧ w'.cell? ⟨gb549, 1, none⟩ = some (.int .u64 a0_1) ∧ w'.cell? ⟨gb549, 2, none⟩ = some (.int .i64 a0_2) ∧ w'.cell? ⟨gb549, 3, none⟩ = some (.int .i64 a0_3) ∧ w'.cell? ⟨gb549, 4, none⟩ = some (.int .i64 a0_4) ∧ w'.cell? ⟨gb550, 0, none⟩ = some (.int .i64 a1_0) ∧ w'.cell? ⟨gb550, 1, none⟩ = some (.int .u64 a1_1) ∧ w'.cell? ⟨gb550, 2, none⟩ = some (.int .u64 a1_2) ∧ w'.cell? ⟨gb550, 3, none⟩ = some (.int .u64 a1_3) ∧ w'.cell? ⟨gb550, 4, none⟩ = some (.int .u64 a1_4)) (ds := []) #[false, false, false, false, false, false, false, false, false, false, false, false, false, false, false] (by kernel_rfl) rfl rfl ⟨(blk_cell BK551.out 0).trans rfl, (blk_cell BK551.out 1).trans rfl, (blk_cell BK551.out 2).trans rfl, (blk_cell BK549.out 0).trans rfl, (blk_cell BK549.out 1).trans rfl, (blk_cell BK549.out 2).trans rfl, (blk_cell BK549.out 3).trans rfl, (blk_cell BK549.out 4).trans rfl, (blk_cell BK550.out 0).trans rfl, (blk_cell BK550.out 1).trans rfl, (blk_cell BK550.out 2).trans rfl, (blk_cell BK550.out 3).trans rfl, (blk_cell BK550.out 4).trans rfl⟩ (fun hHeld => ?_); refine with_tabW reserve_Ceiling.tab5 reserve_Ceiling.bits5 (fun HT_ HW_ => ?_)
      generalize w35.drew = w37 at BK549 BK550 BK551 BK552 HB hHeld ⊢
      refine chain_ (fuel := 4) [(0, 0, some 20), (2, 0, some 22), (4, 0, some 24), (7, 0, some 27), (9, 0, some 29), (1, 1, some 21), (3, 1, some 23), (5, 1, some 25), (8, 1, some 28), (10, 1, some 30), (11, 0, some 31)] #[true, true, true, true, true, true, false, true, true, true, true, true, false, false, false] HT_.out HW_.out (by kernel_rfl) (fun _ _ _ _ _ h => h) (Or.inr hHeld) rfl ?_
      (iterate 5 refine lkP ?_); (iterate 5 refine lkT ?_); refine lkP ?_; refine .nil ?_
      refine one_ (i := 6) (N := some 26) #[true, true, true, true, true, true, true, true, true, true, true, true, false, false, false] rfl rfl (one_of HT_.out (by kernel_rfl)) (by decide) (fun K hK => ?_)
      refine ge Try.func38 #[.int .u64 a2_2, .int .u64 a0_1] ?_
      with_reducible refine (sat_Add.calls a2_2 a0_1 t555 _ A24.out).mono ?_
      rintro e w' ⟨rfl, ⟨nd, rfl⟩⟩
      refine ⟨_, rfl, ?_⟩
      refine hK.out _ _ ⟨(blk_cell BK551.out 0).trans rfl, (blk_cell BK551.out 1).trans rfl, (blk_cell BK551.out 2).trans rfl, (blk_cell BK549.out 0).trans rfl, (blk_cell BK549.out 1).trans rfl, (blk_cell BK549.out 2).trans rfl, (blk_cell BK549.out 3).trans rfl, (blk_cell BK549.out 4).trans rfl, (blk_cell BK550.out 0).trans rfl, (blk_cell BK550.out 1).trans rfl, (blk_cell BK550.out 2).trans rfl, (blk_cell BK550.out 3).trans rfl, (blk_cell BK550.out 4).trans rfl⟩ (fun hHeld => ?_)
      clear hK K
      refine norm_ (a' := ?_) ?_ ?_
      rotate_left
      · show Act.put _ (some 26) _ = _
        simp only [Act.put, List.setIfInBounds_toArray, List.set_cons_zero, List.set_cons_succ, i64_w, i32_w]
        rfl
      refine chain_ (fuel := 1) [(12, 0, some 32), (13, 0, some 33)] #[true, true, true, true, true, true, true, true, true, true, true, true, true, true, false] HT_.out HW_.out (by kernel_rfl) (fun _ _ _ _ _ h => h) (Or.inl (by decide)) rfl ?_
      (iterate 2 refine lkP ?_); refine .nil ?_
      refine one_ (i := 14) (N := none) #[true, true, true, true, true, true, true, true, true, true, true, true, true, true, true] rfl rfl (one_of HT_.out (by kernel_rfl)) (by decide) (fun K hK => ?_)
      have hs38 : w37.cell? ⟨gb552, 0, none⟩ = some (.int .u64 0) := (blk_cell BK552.out 0).trans rfl
      have hfs38 := blk_frozen BK552.out 0
      have hns38_0 := NB549_552.out
      have hns38_1 := NB550_552.out
      have hns38_2 := NB551_552.out
      have hms38_0 := NB552_549.out
      have hms38_1 := NB552_550.out
      have hms38_2 := NB552_551.out
      have hs39 : w37.cell? ⟨gb552, 1, none⟩ = some (.int .u64 0) := (blk_cell BK552.out 1).trans rfl
      have hfs39 := blk_frozen BK552.out 1
      have hns39_0 := NB549_552.out
      have hns39_1 := NB550_552.out
      have hns39_2 := NB551_552.out
      have hms39_0 := NB552_549.out
      have hms39_1 := NB552_550.out
      have hms39_2 := NB552_551.out
      have hs40 : w37.cell? ⟨gb552, 2, none⟩ = some (.int .u64 0) := (blk_cell BK552.out 2).trans rfl
      have hfs40 := blk_frozen BK552.out 2
      have hns40_0 := NB549_552.out
      have hns40_1 := NB550_552.out
      have hns40_2 := NB551_552.out
      have hms40_0 := NB552_549.out
      have hms40_1 := NB552_550.out
      have hms40_2 := NB552_551.out
      refine skip_ (w1 := ?_) (by rfl) rfl ?_ ?_
      rotate_left
      · go_simp
        rfl
      refine hK.out _ _ ⟨((cell_far (p := ⟨gb552, _, none⟩) NB551_552.out _).trans (((cell_far (p := ⟨gb552, _, none⟩) NB551_552.out _).trans (((cell_far (p := ⟨gb552, _, none⟩) NB551_552.out _).trans (hHeld.1)))))), ((cell_far (p := ⟨gb552, _, none⟩) NB551_552.out _).trans (((cell_far (p := ⟨gb552, _, none⟩) NB551_552.out _).trans (((cell_far (p := ⟨gb552, _, none⟩) NB551_552.out _).trans (hHeld.2.1)))))), ((cell_far (p := ⟨gb552, _, none⟩) NB551_552.out _).trans (((cell_far (p := ⟨gb552, _, none⟩) NB551_552.out _).trans (((cell_far (p := ⟨gb552, _, none⟩) NB551_552.out _).trans (hHeld.2.2.1)))))), ((cell_far (p := ⟨gb552, _, none⟩) NB549_552.out _).trans (((cell_far (p := ⟨gb552, _, none⟩) NB549_552.out _).trans (((cell_far (p := ⟨gb552, _, none⟩) NB549_552.out _).trans (hHeld.2.2.2.1)))))), ((cell_far (p := ⟨gb552, _, none⟩) NB549_552.out _).trans (((cell_far (p := ⟨gb552, _, none⟩) NB549_552.out _).trans (((cell_far (p := ⟨gb552, _, none⟩) NB549_552.out _).trans (hHeld.2.2.2.2.1)))))), ((cell_far (p := ⟨gb552, _, none⟩) NB549_552.out _).trans (((cell_far (p := ⟨gb552, _, none⟩) NB549_552.out _).trans (((cell_far (p := ⟨gb552, _, none⟩) NB549_552.out _).trans (hHeld.2.2.2.2.2.1)))))), ((cell_far (p := ⟨gb552, _, none⟩) NB549_552.out _).trans (((cell_far (p := ⟨gb552, _, none⟩) NB549_552.out _).trans (((cell_far (p := ⟨gb552, _, none⟩) NB549_552.out _).trans (hHeld.2.2.2.2.2.2.1)))))), ((cell_far (p := ⟨gb552, _, none⟩) NB549_552.out _).trans (((cell_far (p := ⟨gb552, _, none⟩) NB549_552.out _).trans (((cell_far (p := ⟨gb552, _, none⟩) NB549_552.out _).trans (hHeld.2.2.2.2.2.2.2.1)))))), ((cell_far (p := ⟨gb552, _, none⟩) NB550_552.out _).trans (((cell_far (p := ⟨gb552, _, none⟩) NB550_552.out _).trans (((cell_far (p := ⟨gb552, _, none⟩) NB550_552.out _).trans (hHeld.2.2.2.2.2.2.2.2.1)))))), ((cell_far (p := ⟨gb552, _, none⟩) NB550_552.out _).trans (((cell_far (p := ⟨gb552, _, none⟩) NB550_552.out _).trans (((cell_far (p := ⟨gb552, _, none⟩) NB550_552.out _).trans (hHeld.2.2.2.2.2.2.2.2.2.1)))))), ((cell_far (p := ⟨gb552, _, none⟩) NB550_552.out _).trans (((cell_far (p := ⟨gb552, _, none⟩) NB550_552.out _).trans (((cell_far (p := ⟨gb552, _, none⟩) NB550_552.out _).trans (hHeld.2.2.2.2.2.2.2.2.2.2.1)))))), ((cell_far (p := ⟨gb552, _, none⟩) NB550_552.out _).trans (((cell_far (p := ⟨gb552, _, none⟩) NB550_552.out _).trans (((cell_far (p := ⟨gb552, _, none⟩) NB550_552.out _).trans (hHeld.2.2.2.2.2.2.2.2.2.2.2.1)))))), ((cell_far (p := ⟨gb552, _, none⟩) NB550_552.out _).trans (((cell_far (p := ⟨gb552, _, none⟩) NB550_552.out _).trans (((cell_far (p := ⟨gb552, _, none⟩) NB550_552.out _).trans (hHeld.2.2.2.2.2.2.2.2.2.2.2.2))))))⟩ (fun hHeld => ?_)
      clear hK K
      refine done_ (done_of HT_.out (by kernel_rfl)) ?_
      try go_wp2
      refine bodyPost_ret (results_cell_row rfl _ _ gb552 29 #[.int .u64 0, .int .u64 a2_1, .int .u64 ji26] (0, 0) _ rfl (bk BK552) Try.underlying29 rfl (by kernel_rfl)) rfl ?_
      exact ⟨by first | rfl | (simp [errW_none, errW_some] <;> rfl) | (simp only [← hji25, ← hji26]; first | rfl | (simp [errW_none, errW_some] <;> rfl)) | (simp [*, errW_none, errW_some] <;> rfl), bw HB⟩
  · replace c5 := Bool.eq_false_iff.mpr c5
    subst c5
    have H1 : (some (0, 0, 0)) = some (r1, r2, r3) := by rw [if_neg (show ¬ (false = true) by decide)] at H; exact H
    clear H
    have H := H1
    clear H1
    simp only [Option.some.injEq, Prod.mk.injEq] at H
    obtain ⟨rfl, rfl, rfl⟩ := H
    go_enter Try.func32, Try.ntmps32
    go_wp2_with (first | ((with_reducible refine gate_dst (N := 3) rfl ?_); refine bx 3 #[.int .u64 a0_0, .int .u64 a0_1, .int .i64 a0_2, .int .i64 a0_3, .int .i64 a0_4] 53 ?_; intro gb549 hg w41 hbox hb; have n0_ := bs HB hb; have n1_ := Aside0.mk (hbox); have n2_ := sz HB hg; have n3_ := sz HB hg; clear HB; have HB := n0_; have BK549 := n1_; have GW549 := n2_; have GE549 := n3_; clear n0_ n1_ n2_ n3_; clear hb hbox hg) | ((with_reducible refine gate_dst (N := 4) rfl ?_); refine bx 4 #[.int .i64 a1_0, .int .u64 a1_1, .int .u64 a1_2, .int .u64 a1_3, .int .u64 a1_4] 27 ?_; intro gb550 hg w42 hbox hb; have n0_ := bb BK549 hb; have n1_ := bs HB hb; have n2_ := Aside0.mk (hbox); have n3_ := sz HB hg; have n4_ := sz HB hg; have n5_ := nl BK549 hg; have n6_ := nr BK549 hg; clear BK549; clear HB; have BK549 := n0_; have HB := n1_; have BK550 := n2_; have GW550 := n3_; have GE550 := n4_; have NB549_550 := n5_; have NB550_549 := n6_; clear n0_ n1_ n2_ n3_ n4_ n5_ n6_; clear hb hbox hg) | ((with_reducible refine gate_dst (N := 5) rfl ?_); refine bx 5 #[.int .u64 a2_0, .int .u64 a2_1, .int .u64 a2_2] 29 ?_; intro gb551 hg w43 hbox hb; have n0_ := bb BK549 hb; have n1_ := bb BK550 hb; have n2_ := bs HB hb; have n3_ := Aside0.mk (hbox); have n4_ := sz HB hg; have n5_ := sz HB hg; have n6_ := nl BK549 hg; have n7_ := nr BK549 hg; have n8_ := nl BK550 hg; have n9_ := nr BK550 hg; clear BK549; clear BK550; clear HB; have BK549 := n0_; have BK550 := n1_; have HB := n2_; have BK551 := n3_; have GW551 := n4_; have GE551 := n5_; have NB549_551 := n6_; have NB551_549 := n7_; have NB550_551 := n8_; have NB551_550 := n9_; clear n0_ n1_ n2_ n3_ n4_ n5_ n6_ n7_ n8_ n9_; clear hb hbox hg) | ((with_reducible refine gate_dst (N := 6) rfl ?_); refine bx 6 #[.int .u64 0, .int .u64 0, .int .u64 0] 29 ?_; intro gb552 hg w44 hbox hb; have n0_ := bb BK549 hb; have n1_ := bb BK550 hb; have n2_ := bb BK551 hb; have n3_ := bs HB hb; have n4_ := Aside0.mk (hbox); have n5_ := sz HB hg; have n6_ := sz HB hg; have n7_ := nl BK549 hg; have n8_ := nr BK549 hg; have n9_ := nl BK550 hg; have n10_ := nr BK550 hg; have n11_ := nl BK551 hg; have n12_ := nr BK551 hg; clear BK549; clear BK550; clear BK551; clear HB; have BK549 := n0_; have BK550 := n1_; have BK551 := n2_; have HB := n3_; have BK552 := n4_; have GW552 := n5_; have GE552 := n6_; have NB549_552 := n7_; have NB552_549 := n8_; have NB550_552 := n9_; have NB552_550 := n10_; have NB551_552 := n11_; have NB552_551 := n12_; clear n0_ n1_ n2_ n3_ n4_ n5_ n6_ n7_ n8_ n9_ n10_ n11_ n12_; clear hb hbox hg; have hnb45 := NB550_549.out; have hnc45 := NB549_550.out; have hnb46 := NB550_551.out; have hnc46 := NB551_550.out; have hnb47 := NB550_552.out; have hnc47 := NB552_550.out; obtain ⟨hcz48_0, hcz48_1, hcz48_2, hcz48_3, hcz48_4, hfz48_0, hfz48_1, hfz48_2, hfz48_3, hfz48_4⟩ := bc5 BK550) | ((with_reducible refine gate_callee (f := 18) rfl ?_); refine gm (some 8) Try.func18 #[.agg #[.int .i64 a1_0, .int .u64 a1_1, .int .u64 a1_2, .int .u64 a1_3, .int .u64 a1_4]] (policy_Valid.calls a1_0 a1_1 a1_2 a1_3 a1_4 false _ A4.out) ?_; intro w49 hb; have n0_ := bb BK549 hb; have n1_ := bb BK550 hb; have n2_ := bb BK551 hb; have n3_ := bb BK552 hb; have n4_ := bs HB hb; clear BK549; clear BK550; clear BK551; clear BK552; clear HB; have BK549 := n0_; have BK550 := n1_; have BK551 := n2_; have BK552 := n3_; have HB := n4_; clear n0_ n1_ n2_ n3_ n4_; (try clear hb); (try clear hb2); (try clear hk); (try clear hi); have hnb50 := NB552_549.out; have hnc50 := NB549_552.out; have hnb51 := NB552_551.out; have hnc51 := NB551_552.out; obtain ⟨hcz52_0, hcz52_1, hcz52_2, hfz52_0, hfz52_1, hfz52_2⟩ := bc3 BK552))
    refine bodyPost_ret (results_cell_row rfl _ _ gb552 29 #[.int .u64 0, .int .u64 0, .int .u64 0] (0, 0) _ rfl (bk BK552) Try.underlying29 rfl (by kernel_rfl)) rfl ?_
    exact ⟨re, bw HB⟩

end Go.Proofs.Ytokfhdpokemekaa.Q
