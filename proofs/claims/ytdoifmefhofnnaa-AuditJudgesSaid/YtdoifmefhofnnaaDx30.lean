/- Written by the session's own program hyb.py: what functions of the program compute; Lean checks it. -/
import Derived.Test.YtdoifmefhofnnaaDx0
import Derived.Test.YtdoifmefhofnnaaDx27
import Derived.Test.YtdoifmefhofnnaaDx28
import Derived.Test.YtdoifmefhofnnaaDx29
namespace Go.Proofs.Ytdoifmefhofnnaa.D
open Go.RowKit Go.Proofs.YtdoifmefhofnnaaW.PrintWords Go.Proofs.YtdoifmefhofnnaaW.PrintLast Go.Proofs.YtdoifmefhofnnaaW.PrintMore Go.Proofs.YtdoifmefhofnnaaW.PrintShort
attribute [local go_sem] run_Add64 run_Sub64
attribute [local go_sem] max2_int min2_int max_two min_two max_three min_three max_four min_four   -- for this text's walks alone
set_option linter.unusedVariables false
set_option linter.unusedSimpArgs false

/-! ### turnstileref24_weighs: function 42 -/
def turnstileref24_weighs.f (k : Nat) (a0_0 : Int) (l0_1 : List Int) (a1_0 : Int) (l1_1 : List Int) (l2 : List Int) : Option (Bool) := (turnstileref24_Of.f k a0_0).bind fun t365 => ((turnstileref24_Times.f k l1_1 l2).bind fun t368 => ((turnstileref24_Plus.f k t365 t368).bind fun t371 => ((turnstileref24_Of.f k a1_0).bind fun t374 => ((turnstileref24_Times.f k l0_1 l2).bind fun t377 => ((turnstileref24_Plus.f k t374 t377).bind fun t380 => ((turnstileref24_AtMost.f k t371 t380).bind fun t383 => (some t383)))))))
def turnstileref24_weighs.T1 : Bool × List (List Nat × List Nat) := (true, [([], []), ([0], [0]), ([1], [1]), ([], []), ([3], [3]), ([], []), ([4, 5, 2], [4, 5]), ([2, 6, 6], [2, 6]), ([], []), ([8], [8]), ([9, 7], [9]), ([], []), ([11], [11]), ([], []), ([12, 13, 10], [12, 13]), ([10, 14, 14], [10, 14]), ([7, 15, 15], [7, 15]), ([16, 16, 0, 1, 2, 3, 4, 5, 6, 7, 8, 9, 10, 11, 12, 13, 14, 15, 16], [16])])
def turnstileref24_weighs.B1 : List Nat := [0, 1, 3, 0, 8, 0, 63, 127, 0, 256, 1023, 0, 2048, 0, 16383, 32767, 65535, 131071]
theorem turnstileref24_weighs.tab1 : rtab .any (opsOf Try.f42 1) = turnstileref24_weighs.T1 := by kernel_rfl
theorem turnstileref24_weighs.bits1 : waitsOk turnstileref24_weighs.T1.2 turnstileref24_weighs.B1 = true := by kernel_rfl
set_option maxHeartbeats 8000000 in
set_option maxRecDepth 100000 in
theorem turnstileref24_weighs.calls (k : Nat) (a0_0 : Int) (A0_1 : Option Addr) (c0_1 : Nat) (l0_1 : List Int) (a1_0 : Int) (A1_1 : Option Addr) (c1_1 : Nat) (l1_1 : List Int) (A2 : Option Addr) (c2 : Nat) (l2 : List Int) (r : Bool) (w : World) (hr0_1 : Kd.C (Kd.int .u64) w A0_1 l0_1.length l0_1) (hc0_1 : l0_1.length ≤ c0_1) (hr1_1 : Kd.C (Kd.int .u64) w A1_1 l1_1.length l1_1) (hc1_1 : l1_1.length ≤ c1_1) (hr2 : Kd.C (Kd.int .u64) w A2 l2.length l2) (hc2 : l2.length ≤ c2) (h : turnstileref24_weighs.f k a0_0 l0_1 a1_0 l1_1 l2 = some r) :
    Calls Try.prog 42 #[.agg #[.int .u64 a0_0, .slice A0_1 l0_1.length c0_1], .agg #[.int .u64 a1_0, .slice A1_1 l1_1.length c1_1], .slice A2 l2.length c2] w fun e w' => e = .returned (.bool r) ∧ Below w.heap.size w w' := by
  have hu115 := Try.underlying115
  have HR0_1 := Aside0.mk hr0_1
  have HC0_1 := Aside0.mk hc0_1
  clear hr0_1 hc0_1
  have HR1_1 := Aside0.mk hr1_1
  have HC1_1 := Aside0.mk hc1_1
  clear hr1_1 hc1_1
  have HR2 := Aside0.mk hr2
  have HC2 := Aside0.mk hc2
  clear hr2 hc2
  have HB := Aside0.mk (Below.refl w.heap.size w)
  have H : ((turnstileref24_Of.f k a0_0).bind fun t365 => ((turnstileref24_Times.f k l1_1 l2).bind fun t368 => ((turnstileref24_Plus.f k t365 t368).bind fun t371 => ((turnstileref24_Of.f k a1_0).bind fun t374 => ((turnstileref24_Times.f k l0_1 l2).bind fun t377 => ((turnstileref24_Plus.f k t374 t377).bind fun t380 => ((turnstileref24_AtMost.f k t371 t380).bind fun t383 => (some t383)))))))) = some r := h
  clear h
  replace H := Option.bind_eq_some_iff.mp H
  obtain ⟨t365, A40, H⟩ := H
  replace H : ((turnstileref24_Times.f k l1_1 l2).bind fun t368 => ((turnstileref24_Plus.f k t365 t368).bind fun t371 => ((turnstileref24_Of.f k a1_0).bind fun t374 => ((turnstileref24_Times.f k l0_1 l2).bind fun t377 => ((turnstileref24_Plus.f k t374 t377).bind fun t380 => ((turnstileref24_AtMost.f k t371 t380).bind fun t383 => (some t383))))))) = some r := H
  have A4 := Aside0.mk A40
  clear A40
  replace H := Option.bind_eq_some_iff.mp H
  obtain ⟨t368, A50, H⟩ := H
  replace H : ((turnstileref24_Plus.f k t365 t368).bind fun t371 => ((turnstileref24_Of.f k a1_0).bind fun t374 => ((turnstileref24_Times.f k l0_1 l2).bind fun t377 => ((turnstileref24_Plus.f k t374 t377).bind fun t380 => ((turnstileref24_AtMost.f k t371 t380).bind fun t383 => (some t383)))))) = some r := H
  have A5 := Aside0.mk A50
  clear A50
  replace H := Option.bind_eq_some_iff.mp H
  obtain ⟨t371, A60, H⟩ := H
  replace H : ((turnstileref24_Of.f k a1_0).bind fun t374 => ((turnstileref24_Times.f k l0_1 l2).bind fun t377 => ((turnstileref24_Plus.f k t374 t377).bind fun t380 => ((turnstileref24_AtMost.f k t371 t380).bind fun t383 => (some t383))))) = some r := H
  have A6 := Aside0.mk A60
  clear A60
  replace H := Option.bind_eq_some_iff.mp H
  obtain ⟨t374, A70, H⟩ := H
  replace H : ((turnstileref24_Times.f k l0_1 l2).bind fun t377 => ((turnstileref24_Plus.f k t374 t377).bind fun t380 => ((turnstileref24_AtMost.f k t371 t380).bind fun t383 => (some t383)))) = some r := H
  have A7 := Aside0.mk A70
  clear A70
  replace H := Option.bind_eq_some_iff.mp H
  obtain ⟨t377, A80, H⟩ := H
  replace H : ((turnstileref24_Plus.f k t374 t377).bind fun t380 => ((turnstileref24_AtMost.f k t371 t380).bind fun t383 => (some t383))) = some r := H
  have A8 := Aside0.mk A80
  clear A80
  replace H := Option.bind_eq_some_iff.mp H
  obtain ⟨t380, A90, H⟩ := H
  replace H : ((turnstileref24_AtMost.f k t371 t380).bind fun t383 => (some t383)) = some r := H
  have A9 := Aside0.mk A90
  clear A90
  replace H := Option.bind_eq_some_iff.mp H
  obtain ⟨t383, A100, H⟩ := H
  replace H : (some t383) = some r := H
  have A10 := Aside0.mk A100
  clear A100
  obtain rfl := Option.some.inj H
  go_enter Try.func42, Try.ntmps42
  try go_wp2_with (first | ((with_reducible refine gate_dst (N := 3) rfl ?_); refine bx 3 #[.int .u64 a0_0, .slice A0_1 l0_1.length c0_1] 115 ?_; intro gb363 hg w11 hbox hb; have BK363 := Aside0.mk (hbox); have GW363 := sz HB hg; have GE363 := sz HB hg; replace HB := bs HB hb; clear hb hbox hg) | ((with_reducible refine gate_dst (N := 4) rfl ?_); refine bx 4 #[.int .u64 a1_0, .slice A1_1 l1_1.length c1_1] 115 ?_; intro gb364 hg w12 hbox hb; have BK364 := Aside0.mk (hbox); have GW364 := sz HB hg; have GE364 := sz HB hg; have NB363_364 := nl BK363 hg; have NB364_363 := nr BK363 hg; replace BK363 := bb BK363 hb; replace HB := bs HB hb; clear hb hbox hg))
  replace BK363 := Aside0.mk (blk_drew BK363.out)
  replace BK364 := Aside0.mk (blk_drew BK364.out)
  replace HB := Aside0.mk (below_drew1 HB.out)
  refine start_ (n := 18) (S := fun w' => w'.cell? ⟨gb363, 0, none⟩ = some (.int .u64 a0_0) ∧ w'.cell? ⟨gb363, 1, none⟩ = some (.slice A0_1 l0_1.length c0_1) ∧ w'.cell? ⟨gb364, 0, none⟩ = some (.int .u64 a1_0) ∧ w'.cell? ⟨gb364, 1, none⟩ = some (.slice A1_1 l1_1.length c1_1)) (ds := []) #[false, false, false, false, false, false, false, false, false, false, false, false, false, false, false, false, false, false] (by kernel_rfl) rfl rfl ⟨(blk_cell BK363.out 0).trans rfl, (blk_cell BK363.out 1).trans rfl, (blk_cell BK364.out 0).trans rfl, (blk_cell BK364.out 1).trans rfl⟩ (fun hHeld => ?_); refine with_tabW turnstileref24_weighs.tab1 turnstileref24_weighs.bits1 (fun HT_ HW_ => ?_)
  generalize w12.drew = w13 at BK363 BK364 HB hHeld ⊢
  refine chain_ (fuel := 8) [(0, 0, some 7), (3, 0, some 10), (5, 0, some 12), (8, 0, some 15), (11, 0, some 18), (13, 0, some 20), (1, 1, some 8), (4, 1, some 11), (9, 1, some 16), (12, 1, some 19)] #[true, true, false, true, true, true, false, false, true, true, false, true, true, true, false, false, false, false] HT_.out HW_.out (by kernel_rfl) (fun _ _ _ _ _ h => h) (Or.inr hHeld) rfl ?_
  (iterate 6 refine lkP ?_); (iterate 4 refine lkT ?_); refine .nil ?_
  refine one_ (i := 2) (N := some 9) #[true, true, true, true, true, true, false, false, true, true, false, true, true, true, false, false, false, false] rfl rfl (one_of HT_.out (by kernel_rfl)) (by decide) (fun K hK => ?_)
  refine ge Try.func41 #[.int .u64 a0_0] ?_
  with_reducible refine (turnstileref24_Of.calls k a0_0 t365 _ A4.out).mono ?_
  rintro e w14 ⟨v366, rfl, ho0, hb⟩
  refine ⟨_, rfl, ?_⟩
  have HO367 := Aside0.mk (Kd.V_lower (Kd.V_mono (ok' := fun k_ => k_ ≠ gb363 ∧ k_ ≠ gb364) ho0 (fun k_ hk_ => ⟨(Kd.freshB (g := gb363) (o := .cells #[.int .u64 a0_0, .slice A0_1 l0_1.length c0_1] 115 (0, 0)) (bk BK363) k_ hk_), (Kd.freshB (g := gb364) (o := .cells #[.int .u64 a1_0, .slice A1_1 l1_1.length c1_1] 115 (0, 0)) (bk BK364) k_ hk_)⟩)) (below_size (bw HB)))
  replace BK363 := bb BK363 hb
  replace BK364 := bb BK364 hb
  replace HB := bs HB hb
  (try clear hb)
  (try clear hb2)
  (try clear hk)
  (try clear hi)
  (try clear ho0)
  refine hK.out _ _ ⟨(blk_cell BK363.out 0).trans rfl, (blk_cell BK363.out 1).trans rfl, (blk_cell BK364.out 0).trans rfl, (blk_cell BK364.out 1).trans rfl⟩ (fun hHeld => ?_)
  clear hK K
  refine norm_ (a' := ?_) ?_ ?_
  rotate_left
  · show Act.put _ (some 9) _ = _
    simp only [Act.put, List.setIfInBounds_toArray, List.set_cons_zero, List.set_cons_succ, i64_w, i32_w]
    rfl
  refine one_ (i := 6) (N := some 13) #[true, true, true, true, true, true, true, false, true, true, false, true, true, true, false, false, false, false] rfl rfl (one_of HT_.out (by kernel_rfl)) (by decide) (fun K hK => ?_)
  refine ge Try.func45 #[.slice A1_1 l1_1.length c1_1, .slice A2 l2.length c2] ?_
  with_reducible refine (turnstileref24_Times.calls k _ _ l1_1 _ _ l2 t368 _ ?side1 ?side2 ?side3 ?side4 A5.out).mono ?_
  (case side1 => exact co (Kd.C_below HR1_1.out HB.out))
  (case side2 => exact HC1_1.out)
  (case side3 => exact co (Kd.C_below HR2.out HB.out))
  (case side4 => exact HC2.out)
  rintro e w15 ⟨v369, rfl, ho0, hb⟩
  refine ⟨_, rfl, ?_⟩
  have HO370 := Aside0.mk (Kd.V_lower (Kd.V_mono (ok' := fun k_ => k_ ≠ gb363 ∧ k_ ≠ gb364) ho0 (fun k_ hk_ => ⟨(Kd.freshB (g := gb363) (o := .cells #[.int .u64 a0_0, .slice A0_1 l0_1.length c0_1] 115 (0, 0)) (bk BK363) k_ hk_), (Kd.freshB (g := gb364) (o := .cells #[.int .u64 a1_0, .slice A1_1 l1_1.length c1_1] 115 (0, 0)) (bk BK364) k_ hk_)⟩)) (below_size (bw HB)))
  replace HO367 := Aside0.mk (Kd.V_below (vo HO367) hb)
  replace BK363 := bb BK363 hb
  replace BK364 := bb BK364 hb
  replace HB := bs HB hb
  (try clear hb)
  (try clear hb2)
  (try clear hk)
  (try clear hi)
  (try clear ho0)
  obtain ⟨Ao16, co16, eo16⟩ := Kd.V_slice HO367.out
  (first | subst eo16 | (injection eo16 with f1_ f2_ f3_; have f4_ := f1_.symm; have f5_ := f3_.symm; clear f1_ f2_ f3_; subst f4_; subst f5_))
  obtain ⟨Ao17, co17, eo17⟩ := Kd.V_slice HO370.out
  (first | subst eo17 | (injection eo17 with f1_ f2_ f3_; have f4_ := f1_.symm; have f5_ := f3_.symm; clear f1_ f2_ f3_; subst f4_; subst f5_))
  refine hK.out _ _ ⟨(blk_cell BK363.out 0).trans rfl, (blk_cell BK363.out 1).trans rfl, (blk_cell BK364.out 0).trans rfl, (blk_cell BK364.out 1).trans rfl⟩ (fun hHeld => ?_)
  clear hK K
  refine norm_ (a' := ?_) ?_ ?_
  rotate_left
  · show Act.put _ (some 13) _ = _
    simp only [Act.put, List.setIfInBounds_toArray, List.set_cons_zero, List.set_cons_succ, i64_w, i32_w]
    rfl
  refine one_ (i := 7) (N := some 14) #[true, true, true, true, true, true, true, true, true, true, false, true, true, true, false, false, false, false] rfl rfl (one_of HT_.out (by kernel_rfl)) (by decide) (fun K hK => ?_)
  refine ge Try.func43 #[.slice Ao16 t365.length co16, .slice Ao17 t368.length co17] ?_
  with_reducible refine (turnstileref24_Plus.calls k _ _ t365 _ _ t368 t371 _ ?side1 ?side2 ?side3 ?side4 A6.out).mono ?_
  (case side1 => exact co (Kd.V_reads' HO367.out).2.2)
  (case side2 => exact (Kd.V_reads' HO367.out).2.1)
  (case side3 => exact co (Kd.V_reads' HO370.out).2.2)
  (case side4 => exact (Kd.V_reads' HO370.out).2.1)
  rintro e w18 ⟨v372, rfl, ho0, hb⟩
  refine ⟨_, rfl, ?_⟩
  have HO373 := Aside0.mk (Kd.V_lower (Kd.V_mono (ok' := fun k_ => k_ ≠ gb363 ∧ k_ ≠ gb364) ho0 (fun k_ hk_ => ⟨(Kd.freshB (g := gb363) (o := .cells #[.int .u64 a0_0, .slice A0_1 l0_1.length c0_1] 115 (0, 0)) (bk BK363) k_ hk_), (Kd.freshB (g := gb364) (o := .cells #[.int .u64 a1_0, .slice A1_1 l1_1.length c1_1] 115 (0, 0)) (bk BK364) k_ hk_)⟩)) (below_size (bw HB)))
  replace HO367 := Aside0.mk (Kd.V_below (vo HO367) hb)
  replace HO370 := Aside0.mk (Kd.V_below (vo HO370) hb)
  replace BK363 := bb BK363 hb
  replace BK364 := bb BK364 hb
  replace HB := bs HB hb
  (try clear hb)
  (try clear hb2)
  (try clear hk)
  (try clear hi)
  (try clear ho0)
  refine hK.out _ _ ⟨(blk_cell BK363.out 0).trans rfl, (blk_cell BK363.out 1).trans rfl, (blk_cell BK364.out 0).trans rfl, (blk_cell BK364.out 1).trans rfl⟩ (fun hHeld => ?_)
  clear hK K
  refine norm_ (a' := ?_) ?_ ?_
  rotate_left
  · show Act.put _ (some 14) _ = _
    simp only [Act.put, List.setIfInBounds_toArray, List.set_cons_zero, List.set_cons_succ, i64_w, i32_w]
    rfl
  refine one_ (i := 10) (N := some 17) #[true, true, true, true, true, true, true, true, true, true, true, true, true, true, false, false, false, false] rfl rfl (one_of HT_.out (by kernel_rfl)) (by decide) (fun K hK => ?_)
  refine ge Try.func41 #[.int .u64 a1_0] ?_
  with_reducible refine (turnstileref24_Of.calls k a1_0 t374 _ A7.out).mono ?_
  rintro e w19 ⟨v375, rfl, ho0, hb⟩
  refine ⟨_, rfl, ?_⟩
  have HO376 := Aside0.mk (Kd.V_lower (Kd.V_mono (ok' := fun k_ => k_ ≠ gb363 ∧ k_ ≠ gb364) ho0 (fun k_ hk_ => ⟨(Kd.freshB (g := gb363) (o := .cells #[.int .u64 a0_0, .slice A0_1 l0_1.length c0_1] 115 (0, 0)) (bk BK363) k_ hk_), (Kd.freshB (g := gb364) (o := .cells #[.int .u64 a1_0, .slice A1_1 l1_1.length c1_1] 115 (0, 0)) (bk BK364) k_ hk_)⟩)) (below_size (bw HB)))
  replace HO367 := Aside0.mk (Kd.V_below (vo HO367) hb)
  replace HO370 := Aside0.mk (Kd.V_below (vo HO370) hb)
  replace HO373 := Aside0.mk (Kd.V_below (vo HO373) hb)
  replace BK363 := bb BK363 hb
  replace BK364 := bb BK364 hb
  replace HB := bs HB hb
  (try clear hb)
  (try clear hb2)
  (try clear hk)
  (try clear hi)
  (try clear ho0)
  refine hK.out _ _ ⟨(blk_cell BK363.out 0).trans rfl, (blk_cell BK363.out 1).trans rfl, (blk_cell BK364.out 0).trans rfl, (blk_cell BK364.out 1).trans rfl⟩ (fun hHeld => ?_)
  clear hK K
  refine norm_ (a' := ?_) ?_ ?_
  rotate_left
  · show Act.put _ (some 17) _ = _
    simp only [Act.put, List.setIfInBounds_toArray, List.set_cons_zero, List.set_cons_succ, i64_w, i32_w]
    rfl
  refine one_ (i := 14) (N := some 21) #[true, true, true, true, true, true, true, true, true, true, true, true, true, true, true, false, false, false] rfl rfl (one_of HT_.out (by kernel_rfl)) (by decide) (fun K hK => ?_)
  refine ge Try.func45 #[.slice A0_1 l0_1.length c0_1, .slice A2 l2.length c2] ?_
  with_reducible refine (turnstileref24_Times.calls k _ _ l0_1 _ _ l2 t377 _ ?side1 ?side2 ?side3 ?side4 A8.out).mono ?_
  (case side1 => exact co (Kd.C_below HR0_1.out HB.out))
  (case side2 => exact HC0_1.out)
  (case side3 => exact co (Kd.C_below HR2.out HB.out))
  (case side4 => exact HC2.out)
  rintro e w20 ⟨v378, rfl, ho0, hb⟩
  refine ⟨_, rfl, ?_⟩
  have HO379 := Aside0.mk (Kd.V_lower (Kd.V_mono (ok' := fun k_ => k_ ≠ gb363 ∧ k_ ≠ gb364) ho0 (fun k_ hk_ => ⟨(Kd.freshB (g := gb363) (o := .cells #[.int .u64 a0_0, .slice A0_1 l0_1.length c0_1] 115 (0, 0)) (bk BK363) k_ hk_), (Kd.freshB (g := gb364) (o := .cells #[.int .u64 a1_0, .slice A1_1 l1_1.length c1_1] 115 (0, 0)) (bk BK364) k_ hk_)⟩)) (below_size (bw HB)))
  replace HO367 := Aside0.mk (Kd.V_below (vo HO367) hb)
  replace HO370 := Aside0.mk (Kd.V_below (vo HO370) hb)
  replace HO373 := Aside0.mk (Kd.V_below (vo HO373) hb)
  replace HO376 := Aside0.mk (Kd.V_below (vo HO376) hb)
  replace BK363 := bb BK363 hb
  replace BK364 := bb BK364 hb
  replace HB := bs HB hb
  (try clear hb)
  (try clear hb2)
  (try clear hk)
  (try clear hi)
  (try clear ho0)
  obtain ⟨Ao21, co21, eo21⟩ := Kd.V_slice HO376.out
  (first | subst eo21 | (injection eo21 with f1_ f2_ f3_; have f4_ := f1_.symm; have f5_ := f3_.symm; clear f1_ f2_ f3_; subst f4_; subst f5_))
  obtain ⟨Ao22, co22, eo22⟩ := Kd.V_slice HO379.out
  (first | subst eo22 | (injection eo22 with f1_ f2_ f3_; have f4_ := f1_.symm; have f5_ := f3_.symm; clear f1_ f2_ f3_; subst f4_; subst f5_))
  refine hK.out _ _ ⟨(blk_cell BK363.out 0).trans rfl, (blk_cell BK363.out 1).trans rfl, (blk_cell BK364.out 0).trans rfl, (blk_cell BK364.out 1).trans rfl⟩ (fun hHeld => ?_)
  clear hK K
  refine norm_ (a' := ?_) ?_ ?_
  rotate_left
  · show Act.put _ (some 21) _ = _
    simp only [Act.put, List.setIfInBounds_toArray, List.set_cons_zero, List.set_cons_succ, i64_w, i32_w]
    rfl
  refine one_ (i := 15) (N := some 22) #[true, true, true, true, true, true, true, true, true, true, true, true, true, true, true, true, false, false] rfl rfl (one_of HT_.out (by kernel_rfl)) (by decide) (fun K hK => ?_)
  refine ge Try.func43 #[.slice Ao21 t374.length co21, .slice Ao22 t377.length co22] ?_
  with_reducible refine (turnstileref24_Plus.calls k _ _ t374 _ _ t377 t380 _ ?side1 ?side2 ?side3 ?side4 A9.out).mono ?_
  (case side1 => exact co (Kd.V_reads' HO376.out).2.2)
  (case side2 => exact (Kd.V_reads' HO376.out).2.1)
  (case side3 => exact co (Kd.V_reads' HO379.out).2.2)
  (case side4 => exact (Kd.V_reads' HO379.out).2.1)
  rintro e w23 ⟨v381, rfl, ho0, hb⟩
  refine ⟨_, rfl, ?_⟩
  have HO382 := Aside0.mk (Kd.V_lower (Kd.V_mono (ok' := fun k_ => k_ ≠ gb363 ∧ k_ ≠ gb364) ho0 (fun k_ hk_ => ⟨(Kd.freshB (g := gb363) (o := .cells #[.int .u64 a0_0, .slice A0_1 l0_1.length c0_1] 115 (0, 0)) (bk BK363) k_ hk_), (Kd.freshB (g := gb364) (o := .cells #[.int .u64 a1_0, .slice A1_1 l1_1.length c1_1] 115 (0, 0)) (bk BK364) k_ hk_)⟩)) (below_size (bw HB)))
  replace HO367 := Aside0.mk (Kd.V_below (vo HO367) hb)
  replace HO370 := Aside0.mk (Kd.V_below (vo HO370) hb)
  replace HO373 := Aside0.mk (Kd.V_below (vo HO373) hb)
  replace HO376 := Aside0.mk (Kd.V_below (vo HO376) hb)
  replace HO379 := Aside0.mk (Kd.V_below (vo HO379) hb)
  replace BK363 := bb BK363 hb
  replace BK364 := bb BK364 hb
  replace HB := bs HB hb
  (try clear hb)
  (try clear hb2)
  (try clear hk)
  (try clear hi)
  (try clear ho0)
  obtain ⟨Ao24, co24, eo24⟩ := Kd.V_slice HO373.out
  (first | subst eo24 | (injection eo24 with f1_ f2_ f3_; have f4_ := f1_.symm; have f5_ := f3_.symm; clear f1_ f2_ f3_; subst f4_; subst f5_))
  obtain ⟨Ao25, co25, eo25⟩ := Kd.V_slice HO382.out
  (first | subst eo25 | (injection eo25 with f1_ f2_ f3_; have f4_ := f1_.symm; have f5_ := f3_.symm; clear f1_ f2_ f3_; subst f4_; subst f5_))
  refine hK.out _ _ ⟨(blk_cell BK363.out 0).trans rfl, (blk_cell BK363.out 1).trans rfl, (blk_cell BK364.out 0).trans rfl, (blk_cell BK364.out 1).trans rfl⟩ (fun hHeld => ?_)
  clear hK K
  refine norm_ (a' := ?_) ?_ ?_
  rotate_left
  · show Act.put _ (some 22) _ = _
    simp only [Act.put, List.setIfInBounds_toArray, List.set_cons_zero, List.set_cons_succ, i64_w, i32_w]
    rfl
  refine one_ (i := 16) (N := some 23) #[true, true, true, true, true, true, true, true, true, true, true, true, true, true, true, true, true, false] rfl rfl (one_of HT_.out (by kernel_rfl)) (by decide) (fun K hK => ?_)
  refine ge Try.func44 #[.slice Ao24 t371.length co24, .slice Ao25 t380.length co25] ?_
  with_reducible refine (turnstileref24_AtMost.calls k _ _ t371 _ _ t380 t383 _ ?side1 ?side2 ?side3 ?side4 A10.out).mono ?_
  (case side1 => exact co (Kd.V_reads' HO373.out).2.2)
  (case side2 => exact (Kd.V_reads' HO373.out).2.1)
  (case side3 => exact co (Kd.V_reads' HO382.out).2.2)
  (case side4 => exact (Kd.V_reads' HO382.out).2.1)
  rintro e w' ⟨rfl, ⟨nd, rfl⟩⟩
  refine ⟨_, rfl, ?_⟩
  refine hK.out _ _ ⟨(blk_cell BK363.out 0).trans rfl, (blk_cell BK363.out 1).trans rfl, (blk_cell BK364.out 0).trans rfl, (blk_cell BK364.out 1).trans rfl⟩ (fun hHeld => ?_)
  clear hK K
  refine norm_ (a' := ?_) ?_ ?_
  rotate_left
  · show Act.put _ (some 23) _ = _
    simp only [Act.put, List.setIfInBounds_toArray, List.set_cons_zero, List.set_cons_succ, i64_w, i32_w]
    rfl
  refine chain_ (fuel := 0) [(17, 0, some 6)] #[true, true, true, true, true, true, true, true, true, true, true, true, true, true, true, true, true, true] HT_.out HW_.out (by kernel_rfl) (fun _ _ _ _ _ h => h) (Or.inl (by decide)) rfl ?_
  refine lkP ?_; refine .nil ?_
  refine done_ (done_of HT_.out (by kernel_rfl)) ?_
  try go_wp2
  go_ret
  exact ⟨re, bw HB⟩

end Go.Proofs.Ytdoifmefhofnnaa.D
