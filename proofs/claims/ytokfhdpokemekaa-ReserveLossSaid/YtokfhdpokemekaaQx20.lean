/- Written by the session's own program hyb.py: what functions of the program compute; Lean checks it. -/
import Derived.Test.YtokfhdpokemekaaQx0
import Derived.Test.YtokfhdpokemekaaQx17
import Derived.Test.YtokfhdpokemekaaQx19
namespace Go.Proofs.Ytokfhdpokemekaa.Q
open Go.RowKit Go.Proofs.YtokfhdpokemekaaW.PrintWords Go.Proofs.YtokfhdpokemekaaW.PrintLast Go.Proofs.YtokfhdpokemekaaW.PrintMore Go.Proofs.YtokfhdpokemekaaW.PrintShort
attribute [local go_sem] run_Add64 run_Sub64
attribute [local go_sem] max2_int min2_int max_two min_two max_three min_three max_four min_four   -- for this text's walks alone
set_option linter.unusedVariables false
set_option linter.unusedSimpArgs false

/-! ### reserve_Ceiling: function 32 -/
def reserve_Ceiling.f (a0_0 : Int) (a0_1 : Int) (a0_2 : Int) (a0_3 : Int) (a0_4 : Int) (a1_0 : Int) (a1_1 : Int) (a1_2 : Int) (a1_3 : Int) (a1_4 : Int) (a2_0 : Int) (a2_1 : Int) (a2_2 : Int) : Option (Int × Int × Int) := (policy_Valid.f a1_0 a1_1 a1_2 a1_3 a1_4).bind fun t220 => (if t220 = true then (if a1_0 = 1 then ((sat_Add.f a2_0 a0_0).bind fun t221 => (some (t221, 0, 0))) else ((sat_Add.f a2_2 a0_1).bind fun t222 => (some (0, a2_1, mn t222 (mx a1_3 a2_2))))) else (some (0, 0, 0)))
def reserve_Ceiling.T5 : Bool × List (List Nat × List Nat) := (true, [([], []), ([0], [0]), ([], []), ([2], [2]), ([], []), ([4], [4]), ([3, 5], [3, 5]), ([], []), ([7], [7]), ([], []), ([9], [9]), ([8, 10], [8, 10]), ([6, 11], [6, 11]), ([1, 12], [1, 12]), ([13, 6, 0, 1, 2, 3, 4, 5, 6, 7, 8, 9, 10, 11, 12, 13], [13])])
def reserve_Ceiling.B5 : List Nat := [0, 1, 0, 4, 0, 16, 60, 0, 128, 0, 512, 1920, 4092, 8191, 16383]
theorem reserve_Ceiling.tab5 : rtab .any (opsOf Try.f32 5) = reserve_Ceiling.T5 := by kernel_rfl
theorem reserve_Ceiling.bits5 : waitsOk reserve_Ceiling.T5.2 reserve_Ceiling.B5 = true := by kernel_rfl
set_option maxHeartbeats 8000000 in
set_option maxRecDepth 100000 in
theorem reserve_Ceiling.calls (a0_0 : Int) (a0_1 : Int) (a0_2 : Int) (a0_3 : Int) (a0_4 : Int) (a1_0 : Int) (a1_1 : Int) (a1_2 : Int) (a1_3 : Int) (a1_4 : Int) (a2_0 : Int) (a2_1 : Int) (a2_2 : Int) (r1 : Int) (r2 : Int) (r3 : Int) (w : World) (h : reserve_Ceiling.f a0_0 a0_1 a0_2 a0_3 a0_4 a1_0 a1_1 a1_2 a1_3 a1_4 a2_0 a2_1 a2_2 = some (r1, r2, r3)) :
    Calls Try.prog 32 #[.agg #[.int .u64 a0_0, .int .u64 a0_1, .int .i64 a0_2, .int .i64 a0_3, .int .i64 a0_4], .agg #[.int .i64 a1_0, .int .u64 a1_1, .int .u64 a1_2, .int .u64 a1_3, .int .u64 a1_4], .agg #[.int .u64 a2_0, .int .u64 a2_1, .int .u64 a2_2]] w fun e w' => e = .returned (.agg #[.int .u64 r1, .int .u64 r2, .int .u64 r3]) ∧ Below w.heap.size w w' := by
  have hu53 := Try.underlying53
  have hu27 := Try.underlying27
  have hu29 := Try.underlying29
  have HB := Aside0.mk (Below.refl w.heap.size w)
  have H : ((policy_Valid.f a1_0 a1_1 a1_2 a1_3 a1_4).bind fun t220 => (if t220 = true then (if a1_0 = 1 then ((sat_Add.f a2_0 a0_0).bind fun t221 => (some (t221, 0, 0))) else ((sat_Add.f a2_2 a0_1).bind fun t222 => (some (0, a2_1, mn t222 (mx a1_3 a2_2))))) else (some (0, 0, 0)))) = some (r1, r2, r3) := h
  clear h
  replace H := Option.bind_eq_some_iff.mp H
  obtain ⟨t220, A40, H⟩ := H
  replace H : (if t220 = true then (if a1_0 = 1 then ((sat_Add.f a2_0 a0_0).bind fun t221 => (some (t221, 0, 0))) else ((sat_Add.f a2_2 a0_1).bind fun t222 => (some (0, a2_1, mn t222 (mx a1_3 a2_2))))) else (some (0, 0, 0))) = some (r1, r2, r3) := H
  have A4 := Aside0.mk A40
  clear A40
  by_cases c5 : t220 = true
  · subst c5
    have H1 : (if a1_0 = 1 then ((sat_Add.f a2_0 a0_0).bind fun t221 => (some (t221, 0, 0))) else ((sat_Add.f a2_2 a0_1).bind fun t222 => (some (0, a2_1, mn t222 (mx a1_3 a2_2))))) = some (r1, r2, r3) := by rw [if_pos rfl] at H; exact H
    clear H
    have H := H1
    clear H1
    by_cases c6 : a1_0 = 1
    · rw [if_pos c6] at H
      have c6b0 : (a1_0 == 1) = true := beq_iff_eq.mpr c6
      have c6b1 : (a1_0 != 1) = false := bne_eq_false_iff_eq.mpr c6
      clear c6
      replace H := Option.bind_eq_some_iff.mp H
      obtain ⟨t221, A70, H⟩ := H
      replace H : (some (t221, 0, 0)) = some (r1, r2, r3) := H
      have A7 := Aside0.mk A70
      clear A70
      simp only [Option.some.injEq, Prod.mk.injEq] at H
      obtain ⟨rfl, rfl, rfl⟩ := H
      go_enter Try.func32, Try.ntmps32
      go_wp2_with (first | ((with_reducible refine gate_dst (N := 3) rfl ?_); refine bx 3 #[.int .u64 a0_0, .int .u64 a0_1, .int .i64 a0_2, .int .i64 a0_3, .int .i64 a0_4] 53 ?_; intro gb216 hg w8 hbox hb; have BK216 := Aside0.mk (hbox); have GW216 := sz HB hg; have GE216 := sz HB hg; replace HB := bs HB hb; clear hb hbox hg) | ((with_reducible refine gate_dst (N := 4) rfl ?_); refine bx 4 #[.int .i64 a1_0, .int .u64 a1_1, .int .u64 a1_2, .int .u64 a1_3, .int .u64 a1_4] 27 ?_; intro gb217 hg w9 hbox hb; have BK217 := Aside0.mk (hbox); have GW217 := sz HB hg; have GE217 := sz HB hg; have NB216_217 := nl BK216 hg; have NB217_216 := nr BK216 hg; replace BK216 := bb BK216 hb; replace HB := bs HB hb; clear hb hbox hg) | ((with_reducible refine gate_dst (N := 5) rfl ?_); refine bx 5 #[.int .u64 a2_0, .int .u64 a2_1, .int .u64 a2_2] 29 ?_; intro gb218 hg w10 hbox hb; have BK218 := Aside0.mk (hbox); have GW218 := sz HB hg; have GE218 := sz HB hg; have NB216_218 := nl BK216 hg; have NB218_216 := nr BK216 hg; have NB217_218 := nl BK217 hg; have NB218_217 := nr BK217 hg; replace BK216 := bb BK216 hb; replace BK217 := bb BK217 hb; replace HB := bs HB hb; clear hb hbox hg) | ((with_reducible refine gate_dst (N := 6) rfl ?_); refine bx 6 #[.int .u64 0, .int .u64 0, .int .u64 0] 29 ?_; intro gb219 hg w11 hbox hb; have BK219 := Aside0.mk (hbox); have GW219 := sz HB hg; have GE219 := sz HB hg; have NB216_219 := nl BK216 hg; have NB219_216 := nr BK216 hg; have NB217_219 := nl BK217 hg; have NB219_217 := nr BK217 hg; have NB218_219 := nl BK218 hg; have NB219_218 := nr BK218 hg; replace BK216 := bb BK216 hb; replace BK217 := bb BK217 hb; replace BK218 := bb BK218 hb; replace HB := bs HB hb; clear hb hbox hg; have hnb12 := NB217_216.out; have hnc12 := NB216_217.out; have hnb13 := NB217_218.out; have hnc13 := NB218_217.out; have hnb14 := NB217_219.out; have hnc14 := NB219_217.out; obtain ⟨hcz15_0, hcz15_1, hcz15_2, hcz15_3, hcz15_4, hfz15_0, hfz15_1, hfz15_2, hfz15_3, hfz15_4⟩ := bc5 BK217) | ((with_reducible refine gate_callee (f := 18) rfl ?_); refine gm (some 8) Try.func18 #[.agg #[.int .i64 a1_0, .int .u64 a1_1, .int .u64 a1_2, .int .u64 a1_3, .int .u64 a1_4]] (policy_Valid.calls a1_0 a1_1 a1_2 a1_3 a1_4 true _ A4.out) ?_; intro w16 hb; replace BK216 := bb BK216 hb; replace BK217 := bb BK217 hb; replace BK218 := bb BK218 hb; replace BK219 := bb BK219 hb; replace HB := bs HB hb; (try clear hb); (try clear hb2); (try clear hk); (try clear hi); obtain ⟨hcz17_0, hcz17_1, hcz17_2, hcz17_3, hcz17_4, hfz17_0, hfz17_1, hfz17_2, hfz17_3, hfz17_4⟩ := bc5 BK217; have hnb18 := NB218_216.out; have hnc18 := NB216_218.out; have hnb19 := NB218_219.out; have hnc19 := NB219_218.out; obtain ⟨hcz20_0, hcz20_1, hcz20_2, hfz20_0, hfz20_1, hfz20_2⟩ := bc3 BK218; have hnb21 := NB216_219.out; have hnc21 := NB219_216.out; obtain ⟨hcz22_0, hcz22_1, hcz22_2, hcz22_3, hcz22_4, hfz22_0, hfz22_1, hfz22_2, hfz22_3, hfz22_4⟩ := bc5 BK216) | ((with_reducible refine gate_callee (f := 38) rfl ?_); refine gl (some 18) Try.func38 #[.int .u64 a2_0, .int .u64 a0_0] ?_; (with_reducible refine (sat_Add.calls a2_0 a0_0 t221 _ A7.out).mono ?_); rintro e w' ⟨rfl, ⟨nd, rfl⟩⟩; refine ⟨_, rfl, ?_⟩; (try (rw [drewN_self w16]; generalize hq_ : World.drewN w16 _ = w16; have n0_ : Aside0 (w16.heap[gb216]? = some (.cells #[.int .u64 a0_0, .int .u64 a0_1, .int .i64 a0_2, .int .i64 a0_3, .int .i64 a0_4] 53 (0, 0))) := ⟨by rw [← hq_]; exact (bk BK216)⟩; have n1_ : Aside0 (w16.heap[gb217]? = some (.cells #[.int .i64 a1_0, .int .u64 a1_1, .int .u64 a1_2, .int .u64 a1_3, .int .u64 a1_4] 27 (0, 0))) := ⟨by rw [← hq_]; exact (bk BK217)⟩; have n2_ : Aside0 (w16.heap[gb218]? = some (.cells #[.int .u64 a2_0, .int .u64 a2_1, .int .u64 a2_2] 29 (0, 0))) := ⟨by rw [← hq_]; exact (bk BK218)⟩; have n3_ : Aside0 (w16.heap[gb219]? = some (.cells #[.int .u64 0, .int .u64 0, .int .u64 0] 29 (0, 0))) := ⟨by rw [← hq_]; exact (bk BK219)⟩; have n4_ : Aside0 (Below w.heap.size w w16) := ⟨by rw [← hq_]; exact (bw HB)⟩; clear BK216 BK217 BK218 BK219 HB hq_; have BK216 := n0_; have BK217 := n1_; have BK218 := n2_; have BK219 := n3_; have HB := n4_; clear n0_ n1_ n2_ n3_ n4_)); obtain ⟨hcz23_0, hcz23_1, hcz23_2, hfz23_0, hfz23_1, hfz23_2⟩ := bc3 BK219))
      refine bodyPost_ret (results_cell_row rfl _ _ gb219 29 #[.int .u64 t221, .int .u64 0, .int .u64 0] (0, 0) _ rfl (bk BK219) Try.underlying29 rfl (by kernel_rfl)) rfl ?_
      exact ⟨re, bw HB⟩
    · rw [if_neg c6] at H
      have c6b0 : (a1_0 == 1) = false := beq_eq_false_iff_ne.mpr c6
      have c6b1 : (a1_0 != 1) = true := bne_iff_ne.mpr c6
      replace H := Option.bind_eq_some_iff.mp H
      obtain ⟨t222, A240, H⟩ := H
      replace H : (some (0, a2_1, mn t222 (mx a1_3 a2_2))) = some (r1, r2, r3) := H
      have A24 := Aside0.mk A240
      clear A240
      obtain ⟨ji25, hji25⟩ : ∃ j_ : Int, (mx a1_3 a2_2) = j_ := ⟨_, rfl⟩
      replace H : (some (0, a2_1, mn t222 (ji25))) = some (r1, r2, r3) := by first | (rw [hji25] at H; exact H) | (simp only [hji25] at H ⊢; exact H)
      (try rw [hji25] at A4)
      (try rw [hji25] at A24)
      have hji25_ : (if a1_3 < a2_2 then a2_2 else a1_3) = ji25 := hji25
      obtain ⟨ji26, hji26⟩ : ∃ j_ : Int, (mn t222 (ji25)) = j_ := ⟨_, rfl⟩
      replace H : (some (0, a2_1, ji26)) = some (r1, r2, r3) := by first | (rw [hji26] at H; exact H) | (simp only [hji26] at H ⊢; exact H)
      (try rw [hji26] at A4)
      (try rw [hji26] at A24)
      have hji26_ : (if (ji25) < t222 then (ji25) else t222) = ji26 := hji26
      simp only [Option.some.injEq, Prod.mk.injEq] at H
      obtain ⟨rfl, rfl, rfl⟩ := H
      go_enter Try.func32, Try.ntmps32
      try go_wp2_with (first | ((with_reducible refine gate_dst (N := 3) rfl ?_); refine bx 3 #[.int .u64 a0_0, .int .u64 a0_1, .int .i64 a0_2, .int .i64 a0_3, .int .i64 a0_4] 53 ?_; intro gb216 hg w27 hbox hb; have BK216 := Aside0.mk (hbox); have GW216 := sz HB hg; have GE216 := sz HB hg; replace HB := bs HB hb; clear hb hbox hg) | ((with_reducible refine gate_dst (N := 4) rfl ?_); refine bx 4 #[.int .i64 a1_0, .int .u64 a1_1, .int .u64 a1_2, .int .u64 a1_3, .int .u64 a1_4] 27 ?_; intro gb217 hg w28 hbox hb; have BK217 := Aside0.mk (hbox); have GW217 := sz HB hg; have GE217 := sz HB hg; have NB216_217 := nl BK216 hg; have NB217_216 := nr BK216 hg; replace BK216 := bb BK216 hb; replace HB := bs HB hb; clear hb hbox hg) | ((with_reducible refine gate_dst (N := 5) rfl ?_); refine bx 5 #[.int .u64 a2_0, .int .u64 a2_1, .int .u64 a2_2] 29 ?_; intro gb218 hg w29 hbox hb; have BK218 := Aside0.mk (hbox); have GW218 := sz HB hg; have GE218 := sz HB hg; have NB216_218 := nl BK216 hg; have NB218_216 := nr BK216 hg; have NB217_218 := nl BK217 hg; have NB218_217 := nr BK217 hg; replace BK216 := bb BK216 hb; replace BK217 := bb BK217 hb; replace HB := bs HB hb; clear hb hbox hg) | ((with_reducible refine gate_dst (N := 6) rfl ?_); refine bx 6 #[.int .u64 0, .int .u64 0, .int .u64 0] 29 ?_; intro gb219 hg w30 hbox hb; have BK219 := Aside0.mk (hbox); have GW219 := sz HB hg; have GE219 := sz HB hg; have NB216_219 := nl BK216 hg; have NB219_216 := nr BK216 hg; have NB217_219 := nl BK217 hg; have NB219_217 := nr BK217 hg; have NB218_219 := nl BK218 hg; have NB219_218 := nr BK218 hg; replace BK216 := bb BK216 hb; replace BK217 := bb BK217 hb; replace BK218 := bb BK218 hb; replace HB := bs HB hb; clear hb hbox hg; have hnb31 := NB217_216.out; have hnc31 := NB216_217.out; have hnb32 := NB217_218.out; have hnc32 := NB218_217.out; have hnb33 := NB217_219.out; have hnc33 := NB219_217.out; obtain ⟨hcz34_0, hcz34_1, hcz34_2, hcz34_3, hcz34_4, hfz34_0, hfz34_1, hfz34_2, hfz34_3, hfz34_4⟩ := bc5 BK217) | ((with_reducible refine gate_callee (f := 18) rfl ?_); refine gm (some 8) Try.func18 #[.agg #[.int .i64 a1_0, .int .u64 a1_1, .int .u64 a1_2, .int .u64 a1_3, .int .u64 a1_4]] (policy_Valid.calls a1_0 a1_1 a1_2 a1_3 a1_4 true _ A4.out) ?_; intro w35 hb; replace BK216 := bb BK216 hb; replace BK217 := bb BK217 hb; replace BK218 := bb BK218 hb; replace BK219 := bb BK219 hb; replace HB := bs HB hb; (try clear hb); (try clear hb2); (try clear hk); (try clear hi); obtain ⟨hcz36_0, hcz36_1, hcz36_2, hcz36_3, hcz36_4, hfz36_0, hfz36_1, hfz36_2, hfz36_3, hfz36_4⟩ := bc5 BK217))
      replace BK216 := Aside0.mk (blk_drew BK216.out)
      replace BK217 := Aside0.mk (blk_drew BK217.out)
      replace BK218 := Aside0.mk (blk_drew BK218.out)
      replace BK219 := Aside0.mk (blk_drew BK219.out)
      replace HB := Aside0.mk (below_drew1 HB.out)
      refine start_ (n := 15) (S := fun w' => w'.cell? ⟨gb218, 0, none⟩ = some (.int .u64 a2_0) ∧ w'.cell? ⟨gb218, 1, none⟩ = some (.int .u64 a2_1) ∧ w'.cell? ⟨gb218, 2, none⟩ = some (.int .u64 a2_2) ∧ w'.cell? ⟨gb216, 0, none⟩ = some (.int .u64 a0_0) ∧ w'.cell? ⟨gb216, 1, none⟩ = some (.int .u64 a0_1) ∧ w'.cell? ⟨gb216, 2, none⟩ = some (.int .i64 a0_2) ∧ w'.cell? ⟨gb216, 3, none⟩ = some (.int .i64 a0_3) ∧ w'.cell? ⟨gb216, 4, none⟩ = some (.int .i64 a0_4) ∧ w'.cell? ⟨gb217, 0, none⟩ = some (.int .i64 a1_0) ∧ w'.cell? ⟨gb217, 1, none⟩ = some (.int .u64 a1_1) ∧ w'.cell? ⟨gb217, 2, none⟩ = some (.int .u64 a1_2) ∧ w'.cell? ⟨gb217, 3, none⟩ = some (.int .u64 a1_3) ∧ w'.cell? ⟨gb217, 4, none⟩ = some (.int .u64 a1_4)) (ds := []) #[false, false, false, false, false, false, false, false, false, false, false, false, false, false, false] (by kernel_rfl) rfl rfl ⟨(blk_cell BK218.out 0).trans rfl, (blk_cell BK218.out 1).trans rfl, (blk_cell BK218.out 2).trans rfl, (blk_cell BK216.out 0).trans rfl, (blk_cell BK216.out 1).trans rfl, (blk_cell BK216.out 2).trans rfl, (blk_cell BK216.out 3).trans rfl, (blk_cell BK216.out 4).trans rfl, (blk_cell BK217.out 0).trans rfl, (blk_cell BK217.out 1).trans rfl, (blk_cell BK217.out 2).trans rfl, (blk_cell BK217.out 3).trans rfl, (blk_cell BK217.out 4).trans rfl⟩ (fun hHeld => ?_); refine with_tabW reserve_Ceiling.tab5 reserve_Ceiling.bits5 (fun HT_ HW_ => ?_)
      generalize w35.drew = w37 at BK216 BK217 BK218 BK219 HB hHeld ⊢
      refine chain_ (fuel := 4) [(0, 0, some 20), (2, 0, some 22), (4, 0, some 24), (7, 0, some 27), (9, 0, some 29), (1, 1, some 21), (3, 1, some 23), (5, 1, some 25), (8, 1, some 28), (10, 1, some 30), (11, 0, some 31)] #[true, true, true, true, true, true, false, true, true, true, true, true, false, false, false] HT_.out HW_.out (by kernel_rfl) (fun _ _ _ _ _ h => h) (Or.inr hHeld) rfl ?_
      (iterate 5 refine lkP ?_); (iterate 5 refine lkT ?_); refine lkP ?_; refine .nil ?_
      refine one_ (i := 6) (N := some 26) #[true, true, true, true, true, true, true, true, true, true, true, true, false, false, false] rfl rfl (one_of HT_.out (by kernel_rfl)) (by decide) (fun K hK => ?_)
      refine ge Try.func38 #[.int .u64 a2_2, .int .u64 a0_1] ?_
      with_reducible refine (sat_Add.calls a2_2 a0_1 t222 _ A24.out).mono ?_
      rintro e w' ⟨rfl, ⟨nd, rfl⟩⟩
      refine ⟨_, rfl, ?_⟩
      refine hK.out _ _ ⟨(blk_cell BK218.out 0).trans rfl, (blk_cell BK218.out 1).trans rfl, (blk_cell BK218.out 2).trans rfl, (blk_cell BK216.out 0).trans rfl, (blk_cell BK216.out 1).trans rfl, (blk_cell BK216.out 2).trans rfl, (blk_cell BK216.out 3).trans rfl, (blk_cell BK216.out 4).trans rfl, (blk_cell BK217.out 0).trans rfl, (blk_cell BK217.out 1).trans rfl, (blk_cell BK217.out 2).trans rfl, (blk_cell BK217.out 3).trans rfl, (blk_cell BK217.out 4).trans rfl⟩ (fun hHeld => ?_)
      clear hK K
      refine norm_ (a' := ?_) ?_ ?_
      rotate_left
      · show Act.put _ (some 26) _ = _
        simp only [Act.put, List.setIfInBounds_toArray, List.set_cons_zero, List.set_cons_succ, i64_w, i32_w]
        rfl
      refine chain_ (fuel := 1) [(12, 0, some 32), (13, 0, some 33)] #[true, true, true, true, true, true, true, true, true, true, true, true, true, true, false] HT_.out HW_.out (by kernel_rfl) (fun _ _ _ _ _ h => h) (Or.inl (by decide)) rfl ?_
      (iterate 2 refine lkP ?_); refine .nil ?_
      refine one_ (i := 14) (N := none) #[true, true, true, true, true, true, true, true, true, true, true, true, true, true, true] rfl rfl (one_of HT_.out (by kernel_rfl)) (by decide) (fun K hK => ?_)
      have hs38 : w37.cell? ⟨gb219, 0, none⟩ = some (.int .u64 0) := (blk_cell BK219.out 0).trans rfl
      have hfs38 := blk_frozen BK219.out 0
      have hns38_0 := NB216_219.out
      have hns38_1 := NB217_219.out
      have hns38_2 := NB218_219.out
      have hms38_0 := NB219_216.out
      have hms38_1 := NB219_217.out
      have hms38_2 := NB219_218.out
      have hs39 : w37.cell? ⟨gb219, 1, none⟩ = some (.int .u64 0) := (blk_cell BK219.out 1).trans rfl
      have hfs39 := blk_frozen BK219.out 1
      have hns39_0 := NB216_219.out
      have hns39_1 := NB217_219.out
      have hns39_2 := NB218_219.out
      have hms39_0 := NB219_216.out
      have hms39_1 := NB219_217.out
      have hms39_2 := NB219_218.out
      have hs40 : w37.cell? ⟨gb219, 2, none⟩ = some (.int .u64 0) := (blk_cell BK219.out 2).trans rfl
      have hfs40 := blk_frozen BK219.out 2
      have hns40_0 := NB216_219.out
      have hns40_1 := NB217_219.out
      have hns40_2 := NB218_219.out
      have hms40_0 := NB219_216.out
      have hms40_1 := NB219_217.out
      have hms40_2 := NB219_218.out
      refine skip_ (w1 := ?_) (by rfl) rfl ?_ ?_
      rotate_left
      · go_simp
        rfl
      refine hK.out _ _ ⟨((cell_far (p := ⟨gb219, _, none⟩) NB218_219.out _).trans (((cell_far (p := ⟨gb219, _, none⟩) NB218_219.out _).trans (((cell_far (p := ⟨gb219, _, none⟩) NB218_219.out _).trans (hHeld.1)))))), ((cell_far (p := ⟨gb219, _, none⟩) NB218_219.out _).trans (((cell_far (p := ⟨gb219, _, none⟩) NB218_219.out _).trans (((cell_far (p := ⟨gb219, _, none⟩) NB218_219.out _).trans (hHeld.2.1)))))), ((cell_far (p := ⟨gb219, _, none⟩) NB218_219.out _).trans (((cell_far (p := ⟨gb219, _, none⟩) NB218_219.out _).trans (((cell_far (p := ⟨gb219, _, none⟩) NB218_219.out _).trans (hHeld.2.2.1)))))), ((cell_far (p := ⟨gb219, _, none⟩) NB216_219.out _).trans (((cell_far (p := ⟨gb219, _, none⟩) NB216_219.out _).trans (((cell_far (p := ⟨gb219, _, none⟩) NB216_219.out _).trans (hHeld.2.2.2.1)))))), ((cell_far (p := ⟨gb219, _, none⟩) NB216_219.out _).trans (((cell_far (p := ⟨gb219, _, none⟩) NB216_219.out _).trans (((cell_far (p := ⟨gb219, _, none⟩) NB216_219.out _).trans (hHeld.2.2.2.2.1)))))), ((cell_far (p := ⟨gb219, _, none⟩) NB216_219.out _).trans (((cell_far (p := ⟨gb219, _, none⟩) NB216_219.out _).trans (((cell_far (p := ⟨gb219, _, none⟩) NB216_219.out _).trans (hHeld.2.2.2.2.2.1)))))), ((cell_far (p := ⟨gb219, _, none⟩) NB216_219.out _).trans (((cell_far (p := ⟨gb219, _, none⟩) NB216_219.out _).trans (((cell_far (p := ⟨gb219, _, none⟩) NB216_219.out _).trans (hHeld.2.2.2.2.2.2.1)))))), ((cell_far (p := ⟨gb219, _, none⟩) NB216_219.out _).trans (((cell_far (p := ⟨gb219, _, none⟩) NB216_219.out _).trans (((cell_far (p := ⟨gb219, _, none⟩) NB216_219.out _).trans (hHeld.2.2.2.2.2.2.2.1)))))), ((cell_far (p := ⟨gb219, _, none⟩) NB217_219.out _).trans (((cell_far (p := ⟨gb219, _, none⟩) NB217_219.out _).trans (((cell_far (p := ⟨gb219, _, none⟩) NB217_219.out _).trans (hHeld.2.2.2.2.2.2.2.2.1)))))), ((cell_far (p := ⟨gb219, _, none⟩) NB217_219.out _).trans (((cell_far (p := ⟨gb219, _, none⟩) NB217_219.out _).trans (((cell_far (p := ⟨gb219, _, none⟩) NB217_219.out _).trans (hHeld.2.2.2.2.2.2.2.2.2.1)))))), ((cell_far (p := ⟨gb219, _, none⟩) NB217_219.out _).trans (((cell_far (p := ⟨gb219, _, none⟩) NB217_219.out _).trans (((cell_far (p := ⟨gb219, _, none⟩) NB217_219.out _).trans (hHeld.2.2.2.2.2.2.2.2.2.2.1)))))), ((cell_far (p := ⟨gb219, _, none⟩) NB217_219.out _).trans (((cell_far (p := ⟨gb219, _, none⟩) NB217_219.out _).trans (((cell_far (p := ⟨gb219, _, none⟩) NB217_219.out _).trans (hHeld.2.2.2.2.2.2.2.2.2.2.2.1)))))), ((cell_far (p := ⟨gb219, _, none⟩) NB217_219.out _).trans (((cell_far (p := ⟨gb219, _, none⟩) NB217_219.out _).trans (((cell_far (p := ⟨gb219, _, none⟩) NB217_219.out _).trans (hHeld.2.2.2.2.2.2.2.2.2.2.2.2))))))⟩ (fun hHeld => ?_)
      clear hK K
      refine done_ (done_of HT_.out (by kernel_rfl)) ?_
      try go_wp2
      refine bodyPost_ret (results_cell_row rfl _ _ gb219 29 #[.int .u64 0, .int .u64 a2_1, .int .u64 ji26] (0, 0) _ rfl (bk BK219) Try.underlying29 rfl (by kernel_rfl)) rfl ?_
      exact ⟨by first | rfl | (simp [errW_none, errW_some] <;> rfl) | (simp only [← hji25, ← hji26]; first | rfl | (simp [errW_none, errW_some] <;> rfl)) | (simp [*, errW_none, errW_some] <;> rfl), bw HB⟩
  · replace c5 := Bool.eq_false_iff.mpr c5
    subst c5
    have H1 : (some (0, 0, 0)) = some (r1, r2, r3) := by rw [if_neg (show ¬ (false = true) by decide)] at H; exact H
    clear H
    have H := H1
    clear H1
    simp only [Option.some.injEq, Prod.mk.injEq] at H
    obtain ⟨rfl, rfl, rfl⟩ := H
    go_enter Try.func32, Try.ntmps32
    go_wp2_with (first | ((with_reducible refine gate_dst (N := 3) rfl ?_); refine bx 3 #[.int .u64 a0_0, .int .u64 a0_1, .int .i64 a0_2, .int .i64 a0_3, .int .i64 a0_4] 53 ?_; intro gb216 hg w41 hbox hb; have BK216 := Aside0.mk (hbox); have GW216 := sz HB hg; have GE216 := sz HB hg; replace HB := bs HB hb; clear hb hbox hg) | ((with_reducible refine gate_dst (N := 4) rfl ?_); refine bx 4 #[.int .i64 a1_0, .int .u64 a1_1, .int .u64 a1_2, .int .u64 a1_3, .int .u64 a1_4] 27 ?_; intro gb217 hg w42 hbox hb; have BK217 := Aside0.mk (hbox); have GW217 := sz HB hg; have GE217 := sz HB hg; have NB216_217 := nl BK216 hg; have NB217_216 := nr BK216 hg; replace BK216 := bb BK216 hb; replace HB := bs HB hb; clear hb hbox hg) | ((with_reducible refine gate_dst (N := 5) rfl ?_); refine bx 5 #[.int .u64 a2_0, .int .u64 a2_1, .int .u64 a2_2] 29 ?_; intro gb218 hg w43 hbox hb; have BK218 := Aside0.mk (hbox); have GW218 := sz HB hg; have GE218 := sz HB hg; have NB216_218 := nl BK216 hg; have NB218_216 := nr BK216 hg; have NB217_218 := nl BK217 hg; have NB218_217 := nr BK217 hg; replace BK216 := bb BK216 hb; replace BK217 := bb BK217 hb; replace HB := bs HB hb; clear hb hbox hg) | ((with_reducible refine gate_dst (N := 6) rfl ?_); refine bx 6 #[.int .u64 0, .int .u64 0, .int .u64 0] 29 ?_; intro gb219 hg w44 hbox hb; have BK219 := Aside0.mk (hbox); have GW219 := sz HB hg; have GE219 := sz HB hg; have NB216_219 := nl BK216 hg; have NB219_216 := nr BK216 hg; have NB217_219 := nl BK217 hg; have NB219_217 := nr BK217 hg; have NB218_219 := nl BK218 hg; have NB219_218 := nr BK218 hg; replace BK216 := bb BK216 hb; replace BK217 := bb BK217 hb; replace BK218 := bb BK218 hb; replace HB := bs HB hb; clear hb hbox hg; have hnb45 := NB217_216.out; have hnc45 := NB216_217.out; have hnb46 := NB217_218.out; have hnc46 := NB218_217.out; have hnb47 := NB217_219.out; have hnc47 := NB219_217.out; obtain ⟨hcz48_0, hcz48_1, hcz48_2, hcz48_3, hcz48_4, hfz48_0, hfz48_1, hfz48_2, hfz48_3, hfz48_4⟩ := bc5 BK217) | ((with_reducible refine gate_callee (f := 18) rfl ?_); refine gm (some 8) Try.func18 #[.agg #[.int .i64 a1_0, .int .u64 a1_1, .int .u64 a1_2, .int .u64 a1_3, .int .u64 a1_4]] (policy_Valid.calls a1_0 a1_1 a1_2 a1_3 a1_4 false _ A4.out) ?_; intro w49 hb; replace BK216 := bb BK216 hb; replace BK217 := bb BK217 hb; replace BK218 := bb BK218 hb; replace BK219 := bb BK219 hb; replace HB := bs HB hb; (try clear hb); (try clear hb2); (try clear hk); (try clear hi); have hnb50 := NB219_216.out; have hnc50 := NB216_219.out; have hnb51 := NB219_218.out; have hnc51 := NB218_219.out; obtain ⟨hcz52_0, hcz52_1, hcz52_2, hfz52_0, hfz52_1, hfz52_2⟩ := bc3 BK219))
    refine bodyPost_ret (results_cell_row rfl _ _ gb219 29 #[.int .u64 0, .int .u64 0, .int .u64 0] (0, 0) _ rfl (bk BK219) Try.underlying29 rfl (by kernel_rfl)) rfl ?_
    exact ⟨re, bw HB⟩

end Go.Proofs.Ytokfhdpokemekaa.Q
