/- Written by the session's own program hyb.py: what functions of the program compute; Lean checks it. -/
import Derived.Test.YtokfhdpokemekaaQx0
import Derived.Test.YtokfhdpokemekaaQx20
import Derived.Test.YtokfhdpokemekaaQx37
namespace Go.Proofs.Ytokfhdpokemekaa.Q
open Go.RowKit Go.Proofs.YtokfhdpokemekaaW.PrintWords Go.Proofs.YtokfhdpokemekaaW.PrintLast Go.Proofs.YtokfhdpokemekaaW.PrintMore Go.Proofs.YtokfhdpokemekaaW.PrintShort
attribute [local go_sem] run_Add64 run_Sub64
attribute [local go_sem] max2_int min2_int max_two min_two max_three min_three max_four min_four   -- for this text's walks alone
set_option linter.unusedVariables false
set_option linter.unusedSimpArgs false

/-! ### reserve_Within: function 31 -/
def reserve_Within.f (a0_0 : Int) (a0_1 : Int) (a0_2 : Int) (a0_3 : Int) (a0_4 : Int) (a1_0 : Int) (a1_1 : Int) (a1_2 : Int) (a1_3 : Int) (a1_4 : Int) (a2_0 : Int) (a2_1 : Int) (a2_2 : Int) (a3_0 : Int) (a3_1 : Int) (a3_2 : Int) : Option (Bool) := (policy_Covers.f a1_0 a1_1 a1_2 a1_3 a1_4 a3_0 a3_1 a3_2 a2_0 a2_1 a2_2).bind fun t579 => (if t579 = true then ((reserve_Ceiling.f a0_0 a0_1 a0_2 a0_3 a0_4 a1_0 a1_1 a1_2 a1_3 a1_4 a2_0 a2_1 a2_2).bind fun bt580 => ((policy_Covers.f a1_0 a1_1 a1_2 a1_3 a1_4 bt580.1 bt580.2.1 bt580.2.2 a3_0 a3_1 a3_2).bind fun t583 => (some t583))) else (some false))
def reserve_Within.T1 : Bool × List (List Nat × List Nat) := (true, [([], []), ([], []), ([], []), ([0, 1, 2], [0, 1, 2]), ([3, 3], [3]), ([4], [4]), ([4], [4]), ([4], [4]), ([4], [4]), ([6, 7, 8, 4, 4], [4, 6, 7, 8]), ([4], [4]), ([5, 9, 10, 9, 4], [4, 5, 9, 10]), ([4, 11], [4, 11]), ([12, 11, 0, 1, 2, 3, 4, 5, 6, 7, 8, 9, 10, 11, 12], [12])])
def reserve_Within.B1 : List Nat := [0, 0, 0, 7, 15, 31, 31, 31, 31, 479, 31, 2047, 4095, 8191]
theorem reserve_Within.tab1 : rtab .any (opsOf Try.f31 1) = reserve_Within.T1 := by kernel_rfl
theorem reserve_Within.bits1 : waitsOk reserve_Within.T1.2 reserve_Within.B1 = true := by kernel_rfl
set_option maxHeartbeats 8000000 in
set_option maxRecDepth 100000 in
theorem reserve_Within.calls (a0_0 : Int) (a0_1 : Int) (a0_2 : Int) (a0_3 : Int) (a0_4 : Int) (a1_0 : Int) (a1_1 : Int) (a1_2 : Int) (a1_3 : Int) (a1_4 : Int) (a2_0 : Int) (a2_1 : Int) (a2_2 : Int) (a3_0 : Int) (a3_1 : Int) (a3_2 : Int) (r : Bool) (w : World) (h : reserve_Within.f a0_0 a0_1 a0_2 a0_3 a0_4 a1_0 a1_1 a1_2 a1_3 a1_4 a2_0 a2_1 a2_2 a3_0 a3_1 a3_2 = some r) :
    Calls Try.prog 31 #[.agg #[.int .u64 a0_0, .int .u64 a0_1, .int .i64 a0_2, .int .i64 a0_3, .int .i64 a0_4], .agg #[.int .i64 a1_0, .int .u64 a1_1, .int .u64 a1_2, .int .u64 a1_3, .int .u64 a1_4], .agg #[.int .u64 a2_0, .int .u64 a2_1, .int .u64 a2_2], .agg #[.int .u64 a3_0, .int .u64 a3_1, .int .u64 a3_2]] w fun e w' => e = .returned (.bool r) ∧ Below w.heap.size w w' := by
  have hu53 := Try.underlying53
  have hu27 := Try.underlying27
  have hu29 := Try.underlying29
  have HB := Aside0.mk (Below.refl w.heap.size w)
  have H : ((policy_Covers.f a1_0 a1_1 a1_2 a1_3 a1_4 a3_0 a3_1 a3_2 a2_0 a2_1 a2_2).bind fun t579 => (if t579 = true then ((reserve_Ceiling.f a0_0 a0_1 a0_2 a0_3 a0_4 a1_0 a1_1 a1_2 a1_3 a1_4 a2_0 a2_1 a2_2).bind fun bt580 => ((policy_Covers.f a1_0 a1_1 a1_2 a1_3 a1_4 bt580.1 bt580.2.1 bt580.2.2 a3_0 a3_1 a3_2).bind fun t583 => (some t583))) else (some false))) = some r := h
  clear h
  replace H := Option.bind_eq_some_iff.mp H
  obtain ⟨t579, A50, H⟩ := H
  replace H : (if t579 = true then ((reserve_Ceiling.f a0_0 a0_1 a0_2 a0_3 a0_4 a1_0 a1_1 a1_2 a1_3 a1_4 a2_0 a2_1 a2_2).bind fun bt580 => ((policy_Covers.f a1_0 a1_1 a1_2 a1_3 a1_4 bt580.1 bt580.2.1 bt580.2.2 a3_0 a3_1 a3_2).bind fun t583 => (some t583))) else (some false)) = some r := H
  have A5 := Aside0.mk A50
  clear A50
  by_cases c6 : t579 = true
  · subst c6
    have H1 : ((reserve_Ceiling.f a0_0 a0_1 a0_2 a0_3 a0_4 a1_0 a1_1 a1_2 a1_3 a1_4 a2_0 a2_1 a2_2).bind fun bt580 => ((policy_Covers.f a1_0 a1_1 a1_2 a1_3 a1_4 bt580.1 bt580.2.1 bt580.2.2 a3_0 a3_1 a3_2).bind fun t583 => (some t583))) = some r := by rw [if_pos rfl] at H; exact H
    clear H
    have H := H1
    clear H1
    replace H := Option.bind_eq_some_iff.mp H
    obtain ⟨⟨t580, t581, t582⟩, A70, H⟩ := H
    replace H : ((policy_Covers.f a1_0 a1_1 a1_2 a1_3 a1_4 t580 t581 t582 a3_0 a3_1 a3_2).bind fun t583 => (some t583)) = some r := H
    have A7 := Aside0.mk A70
    clear A70
    replace H := Option.bind_eq_some_iff.mp H
    obtain ⟨t583, A80, H⟩ := H
    replace H : (some t583) = some r := H
    have A8 := Aside0.mk A80
    clear A80
    obtain rfl := Option.some.inj H
    go_enter Try.func31, Try.ntmps31
    try go_wp2_with (first | ((with_reducible refine gate_dst (N := 4) rfl ?_); refine bx 4 #[.int .u64 a0_0, .int .u64 a0_1, .int .i64 a0_2, .int .i64 a0_3, .int .i64 a0_4] 53 ?_; intro gb575 hg w9 hbox hb; have n0_ := bs HB hb; have n1_ := Aside0.mk (hbox); have n2_ := sz HB hg; have n3_ := sz HB hg; clear HB; have HB := n0_; have BK575 := n1_; have GW575 := n2_; have GE575 := n3_; clear n0_ n1_ n2_ n3_; clear hb hbox hg) | ((with_reducible refine gate_dst (N := 5) rfl ?_); refine bx 5 #[.int .i64 a1_0, .int .u64 a1_1, .int .u64 a1_2, .int .u64 a1_3, .int .u64 a1_4] 27 ?_; intro gb576 hg w10 hbox hb; have n0_ := bb BK575 hb; have n1_ := bs HB hb; have n2_ := Aside0.mk (hbox); have n3_ := sz HB hg; have n4_ := sz HB hg; have n5_ := nl BK575 hg; have n6_ := nr BK575 hg; clear BK575; clear HB; have BK575 := n0_; have HB := n1_; have BK576 := n2_; have GW576 := n3_; have GE576 := n4_; have NB575_576 := n5_; have NB576_575 := n6_; clear n0_ n1_ n2_ n3_ n4_ n5_ n6_; clear hb hbox hg) | ((with_reducible refine gate_dst (N := 6) rfl ?_); refine bx 6 #[.int .u64 a2_0, .int .u64 a2_1, .int .u64 a2_2] 29 ?_; intro gb577 hg w11 hbox hb; have n0_ := bb BK575 hb; have n1_ := bb BK576 hb; have n2_ := bs HB hb; have n3_ := Aside0.mk (hbox); have n4_ := sz HB hg; have n5_ := sz HB hg; have n6_ := nl BK575 hg; have n7_ := nr BK575 hg; have n8_ := nl BK576 hg; have n9_ := nr BK576 hg; clear BK575; clear BK576; clear HB; have BK575 := n0_; have BK576 := n1_; have HB := n2_; have BK577 := n3_; have GW577 := n4_; have GE577 := n5_; have NB575_577 := n6_; have NB577_575 := n7_; have NB576_577 := n8_; have NB577_576 := n9_; clear n0_ n1_ n2_ n3_ n4_ n5_ n6_ n7_ n8_ n9_; clear hb hbox hg) | ((with_reducible refine gate_dst (N := 7) rfl ?_); refine bx 7 #[.int .u64 a3_0, .int .u64 a3_1, .int .u64 a3_2] 29 ?_; intro gb578 hg w12 hbox hb; have n0_ := bb BK575 hb; have n1_ := bb BK576 hb; have n2_ := bb BK577 hb; have n3_ := bs HB hb; have n4_ := Aside0.mk (hbox); have n5_ := sz HB hg; have n6_ := sz HB hg; have n7_ := nl BK575 hg; have n8_ := nr BK575 hg; have n9_ := nl BK576 hg; have n10_ := nr BK576 hg; have n11_ := nl BK577 hg; have n12_ := nr BK577 hg; clear BK575; clear BK576; clear BK577; clear HB; have BK575 := n0_; have BK576 := n1_; have BK577 := n2_; have HB := n3_; have BK578 := n4_; have GW578 := n5_; have GE578 := n6_; have NB575_578 := n7_; have NB578_575 := n8_; have NB576_578 := n9_; have NB578_576 := n10_; have NB577_578 := n11_; have NB578_577 := n12_; clear n0_ n1_ n2_ n3_ n4_ n5_ n6_ n7_ n8_ n9_ n10_ n11_ n12_; clear hb hbox hg))
    have n0_ := Aside0.mk (blk_drew BK575.out)
    have n1_ := Aside0.mk (blk_drew BK576.out)
    have n2_ := Aside0.mk (blk_drew BK577.out)
    have n3_ := Aside0.mk (blk_drew BK578.out)
    have n4_ := Aside0.mk (below_drew1 HB.out)
    clear BK575
    clear BK576
    clear BK577
    clear BK578
    clear HB
    have BK575 := n0_
    have BK576 := n1_
    have BK577 := n2_
    have BK578 := n3_
    have HB := n4_
    clear n0_ n1_ n2_ n3_ n4_
    refine start_ (n := 14) (S := fun w' => w'.cell? ⟨gb576, 0, none⟩ = some (.int .i64 a1_0) ∧ w'.cell? ⟨gb576, 1, none⟩ = some (.int .u64 a1_1) ∧ w'.cell? ⟨gb576, 2, none⟩ = some (.int .u64 a1_2) ∧ w'.cell? ⟨gb576, 3, none⟩ = some (.int .u64 a1_3) ∧ w'.cell? ⟨gb576, 4, none⟩ = some (.int .u64 a1_4) ∧ w'.cell? ⟨gb578, 0, none⟩ = some (.int .u64 a3_0) ∧ w'.cell? ⟨gb578, 1, none⟩ = some (.int .u64 a3_1) ∧ w'.cell? ⟨gb578, 2, none⟩ = some (.int .u64 a3_2) ∧ w'.cell? ⟨gb577, 0, none⟩ = some (.int .u64 a2_0) ∧ w'.cell? ⟨gb577, 1, none⟩ = some (.int .u64 a2_1) ∧ w'.cell? ⟨gb577, 2, none⟩ = some (.int .u64 a2_2) ∧ w'.cell? ⟨gb575, 0, none⟩ = some (.int .u64 a0_0) ∧ w'.cell? ⟨gb575, 1, none⟩ = some (.int .u64 a0_1) ∧ w'.cell? ⟨gb575, 2, none⟩ = some (.int .i64 a0_2) ∧ w'.cell? ⟨gb575, 3, none⟩ = some (.int .i64 a0_3) ∧ w'.cell? ⟨gb575, 4, none⟩ = some (.int .i64 a0_4)) (ds := []) #[false, false, false, false, false, false, false, false, false, false, false, false, false, false] (by kernel_rfl) rfl rfl ⟨(blk_cell BK576.out 0).trans rfl, (blk_cell BK576.out 1).trans rfl, (blk_cell BK576.out 2).trans rfl, (blk_cell BK576.out 3).trans rfl, (blk_cell BK576.out 4).trans rfl, (blk_cell BK578.out 0).trans rfl, (blk_cell BK578.out 1).trans rfl, (blk_cell BK578.out 2).trans rfl, (blk_cell BK577.out 0).trans rfl, (blk_cell BK577.out 1).trans rfl, (blk_cell BK577.out 2).trans rfl, (blk_cell BK575.out 0).trans rfl, (blk_cell BK575.out 1).trans rfl, (blk_cell BK575.out 2).trans rfl, (blk_cell BK575.out 3).trans rfl, (blk_cell BK575.out 4).trans rfl⟩ (fun hHeld => ?_); refine with_tabW reserve_Within.tab1 reserve_Within.bits1 (fun HT_ HW_ => ?_)
    generalize w12.drew = w13 at BK575 BK576 BK577 BK578 HB hHeld ⊢
    refine chain_ (fuel := 11) [(0, 1, some 9), (1, 1, some 10), (2, 1, some 11)] #[true, true, true, false, false, false, false, false, false, false, false, false, false, false] HT_.out HW_.out (by kernel_rfl) (fun _ _ _ _ _ h => h) (Or.inr hHeld) rfl ?_
    (iterate 3 refine lkT ?_); refine .nil ?_
    refine one_ (i := 3) (N := some 12) #[true, true, true, true, false, false, false, false, false, false, false, false, false, false] rfl rfl (one_of HT_.out (by kernel_rfl)) (by decide) (fun K hK => ?_)
    refine ge Try.func27 #[.agg #[.int .i64 a1_0, .int .u64 a1_1, .int .u64 a1_2, .int .u64 a1_3, .int .u64 a1_4], .agg #[.int .u64 a3_0, .int .u64 a3_1, .int .u64 a3_2], .agg #[.int .u64 a2_0, .int .u64 a2_1, .int .u64 a2_2]] ?_
    with_reducible refine (policy_Covers.calls a1_0 a1_1 a1_2 a1_3 a1_4 a3_0 a3_1 a3_2 a2_0 a2_1 a2_2 true _ A5.out).mono ?_
    rintro e w14 ⟨rfl, hb⟩
    refine ⟨_, rfl, ?_⟩
    have n0_ := bb BK575 hb
    have n1_ := bb BK576 hb
    have n2_ := bb BK577 hb
    have n3_ := bb BK578 hb
    have n4_ := bs HB hb
    clear BK575
    clear BK576
    clear BK577
    clear BK578
    clear HB
    have BK575 := n0_
    have BK576 := n1_
    have BK577 := n2_
    have BK578 := n3_
    have HB := n4_
    clear n0_ n1_ n2_ n3_ n4_
    (try clear hb)
    (try clear hb2)
    (try clear hk)
    (try clear hi)
    refine hK.out _ _ ⟨(blk_cell BK576.out 0).trans rfl, (blk_cell BK576.out 1).trans rfl, (blk_cell BK576.out 2).trans rfl, (blk_cell BK576.out 3).trans rfl, (blk_cell BK576.out 4).trans rfl, (blk_cell BK578.out 0).trans rfl, (blk_cell BK578.out 1).trans rfl, (blk_cell BK578.out 2).trans rfl, (blk_cell BK577.out 0).trans rfl, (blk_cell BK577.out 1).trans rfl, (blk_cell BK577.out 2).trans rfl, (blk_cell BK575.out 0).trans rfl, (blk_cell BK575.out 1).trans rfl, (blk_cell BK575.out 2).trans rfl, (blk_cell BK575.out 3).trans rfl, (blk_cell BK575.out 4).trans rfl⟩ (fun hHeld => ?_)
    clear hK K
    refine norm_ (a' := ?_) ?_ ?_
    rotate_left
    · show Act.put _ (some 12) _ = _
      simp only [Act.put, List.setIfInBounds_toArray, List.set_cons_zero, List.set_cons_succ, i64_w, i32_w]
      rfl
    refine chain_ (fuel := 4) [(4, 0, some 13), (5, 1, some 14), (6, 1, some 15), (7, 1, some 16), (8, 1, some 17), (10, 1, some 19)] #[true, true, true, true, true, true, true, true, true, false, true, false, false, false] HT_.out HW_.out (by kernel_rfl) (fun _ _ _ _ _ h => h) (Or.inr hHeld) rfl ?_
    refine lkP ?_; (iterate 5 refine lkT ?_); refine .nil ?_
    refine one_ (i := 9) (N := some 18) #[true, true, true, true, true, true, true, true, true, true, true, false, false, false] rfl rfl (one_of HT_.out (by kernel_rfl)) (by decide) (fun K hK => ?_)
    refine ge Try.func32 #[.agg #[.int .u64 a0_0, .int .u64 a0_1, .int .i64 a0_2, .int .i64 a0_3, .int .i64 a0_4], .agg #[.int .i64 a1_0, .int .u64 a1_1, .int .u64 a1_2, .int .u64 a1_3, .int .u64 a1_4], .agg #[.int .u64 a2_0, .int .u64 a2_1, .int .u64 a2_2]] ?_
    with_reducible refine (reserve_Ceiling.calls a0_0 a0_1 a0_2 a0_3 a0_4 a1_0 a1_1 a1_2 a1_3 a1_4 a2_0 a2_1 a2_2 t580 t581 t582 _ A7.out).mono ?_
    rintro e w15 ⟨rfl, hb⟩
    refine ⟨_, rfl, ?_⟩
    have n0_ := bb BK575 hb
    have n1_ := bb BK576 hb
    have n2_ := bb BK577 hb
    have n3_ := bb BK578 hb
    have n4_ := bs HB hb
    clear BK575
    clear BK576
    clear BK577
    clear BK578
    clear HB
    have BK575 := n0_
    have BK576 := n1_
    have BK577 := n2_
    have BK578 := n3_
    have HB := n4_
    clear n0_ n1_ n2_ n3_ n4_
    (try clear hb)
    (try clear hb2)
    (try clear hk)
    (try clear hi)
    refine hK.out _ _ ⟨(blk_cell BK576.out 0).trans rfl, (blk_cell BK576.out 1).trans rfl, (blk_cell BK576.out 2).trans rfl, (blk_cell BK576.out 3).trans rfl, (blk_cell BK576.out 4).trans rfl, (blk_cell BK578.out 0).trans rfl, (blk_cell BK578.out 1).trans rfl, (blk_cell BK578.out 2).trans rfl, (blk_cell BK577.out 0).trans rfl, (blk_cell BK577.out 1).trans rfl, (blk_cell BK577.out 2).trans rfl, (blk_cell BK575.out 0).trans rfl, (blk_cell BK575.out 1).trans rfl, (blk_cell BK575.out 2).trans rfl, (blk_cell BK575.out 3).trans rfl, (blk_cell BK575.out 4).trans rfl⟩ (fun hHeld => ?_)
    clear hK K
    refine norm_ (a' := ?_) ?_ ?_
    rotate_left
    · show Act.put _ (some 18) _ = _
      simp only [Act.put, List.setIfInBounds_toArray, List.set_cons_zero, List.set_cons_succ, i64_w, i32_w]
      rfl
    refine one_ (i := 11) (N := some 20) #[true, true, true, true, true, true, true, true, true, true, true, true, false, false] rfl rfl (one_of HT_.out (by kernel_rfl)) (by decide) (fun K hK => ?_)
    refine ge Try.func27 #[.agg #[.int .i64 a1_0, .int .u64 a1_1, .int .u64 a1_2, .int .u64 a1_3, .int .u64 a1_4], .agg #[.int .u64 t580, .int .u64 t581, .int .u64 t582], .agg #[.int .u64 a3_0, .int .u64 a3_1, .int .u64 a3_2]] ?_
    with_reducible refine (policy_Covers.calls a1_0 a1_1 a1_2 a1_3 a1_4 t580 t581 t582 a3_0 a3_1 a3_2 t583 _ A8.out).mono ?_
    rintro e w16 ⟨rfl, hb⟩
    refine ⟨_, rfl, ?_⟩
    have n0_ := bb BK575 hb
    have n1_ := bb BK576 hb
    have n2_ := bb BK577 hb
    have n3_ := bb BK578 hb
    have n4_ := bs HB hb
    clear BK575
    clear BK576
    clear BK577
    clear BK578
    clear HB
    have BK575 := n0_
    have BK576 := n1_
    have BK577 := n2_
    have BK578 := n3_
    have HB := n4_
    clear n0_ n1_ n2_ n3_ n4_
    (try clear hb)
    (try clear hb2)
    (try clear hk)
    (try clear hi)
    refine hK.out _ _ ⟨(blk_cell BK576.out 0).trans rfl, (blk_cell BK576.out 1).trans rfl, (blk_cell BK576.out 2).trans rfl, (blk_cell BK576.out 3).trans rfl, (blk_cell BK576.out 4).trans rfl, (blk_cell BK578.out 0).trans rfl, (blk_cell BK578.out 1).trans rfl, (blk_cell BK578.out 2).trans rfl, (blk_cell BK577.out 0).trans rfl, (blk_cell BK577.out 1).trans rfl, (blk_cell BK577.out 2).trans rfl, (blk_cell BK575.out 0).trans rfl, (blk_cell BK575.out 1).trans rfl, (blk_cell BK575.out 2).trans rfl, (blk_cell BK575.out 3).trans rfl, (blk_cell BK575.out 4).trans rfl⟩ (fun hHeld => ?_)
    clear hK K
    refine norm_ (a' := ?_) ?_ ?_
    rotate_left
    · show Act.put _ (some 20) _ = _
      simp only [Act.put, List.setIfInBounds_toArray, List.set_cons_zero, List.set_cons_succ, i64_w, i32_w]
      rfl
    refine chain_ (fuel := 0) [(12, 0, some 21), (13, 0, some 8)] #[true, true, true, true, true, true, true, true, true, true, true, true, true, true] HT_.out HW_.out (by kernel_rfl) (fun _ _ _ _ _ h => h) (Or.inl (by decide)) rfl ?_
    (iterate 2 refine lkP ?_); refine .nil ?_
    refine done_ (done_of HT_.out (by kernel_rfl)) ?_
    try go_wp2
    go_ret
    exact ⟨re, bw HB⟩
  · replace c6 := Bool.eq_false_iff.mpr c6
    subst c6
    have H1 : (some false) = some r := by rw [if_neg (show ¬ (false = true) by decide)] at H; exact H
    clear H
    have H := H1
    clear H1
    obtain rfl := Option.some.inj H
    go_enter Try.func31, Try.ntmps31
    try go_wp2_with (first | ((with_reducible refine gate_dst (N := 4) rfl ?_); refine bx 4 #[.int .u64 a0_0, .int .u64 a0_1, .int .i64 a0_2, .int .i64 a0_3, .int .i64 a0_4] 53 ?_; intro gb575 hg w17 hbox hb; have n0_ := bs HB hb; have n1_ := Aside0.mk (hbox); have n2_ := sz HB hg; have n3_ := sz HB hg; clear HB; have HB := n0_; have BK575 := n1_; have GW575 := n2_; have GE575 := n3_; clear n0_ n1_ n2_ n3_; clear hb hbox hg) | ((with_reducible refine gate_dst (N := 5) rfl ?_); refine bx 5 #[.int .i64 a1_0, .int .u64 a1_1, .int .u64 a1_2, .int .u64 a1_3, .int .u64 a1_4] 27 ?_; intro gb576 hg w18 hbox hb; have n0_ := bb BK575 hb; have n1_ := bs HB hb; have n2_ := Aside0.mk (hbox); have n3_ := sz HB hg; have n4_ := sz HB hg; have n5_ := nl BK575 hg; have n6_ := nr BK575 hg; clear BK575; clear HB; have BK575 := n0_; have HB := n1_; have BK576 := n2_; have GW576 := n3_; have GE576 := n4_; have NB575_576 := n5_; have NB576_575 := n6_; clear n0_ n1_ n2_ n3_ n4_ n5_ n6_; clear hb hbox hg) | ((with_reducible refine gate_dst (N := 6) rfl ?_); refine bx 6 #[.int .u64 a2_0, .int .u64 a2_1, .int .u64 a2_2] 29 ?_; intro gb577 hg w19 hbox hb; have n0_ := bb BK575 hb; have n1_ := bb BK576 hb; have n2_ := bs HB hb; have n3_ := Aside0.mk (hbox); have n4_ := sz HB hg; have n5_ := sz HB hg; have n6_ := nl BK575 hg; have n7_ := nr BK575 hg; have n8_ := nl BK576 hg; have n9_ := nr BK576 hg; clear BK575; clear BK576; clear HB; have BK575 := n0_; have BK576 := n1_; have HB := n2_; have BK577 := n3_; have GW577 := n4_; have GE577 := n5_; have NB575_577 := n6_; have NB577_575 := n7_; have NB576_577 := n8_; have NB577_576 := n9_; clear n0_ n1_ n2_ n3_ n4_ n5_ n6_ n7_ n8_ n9_; clear hb hbox hg) | ((with_reducible refine gate_dst (N := 7) rfl ?_); refine bx 7 #[.int .u64 a3_0, .int .u64 a3_1, .int .u64 a3_2] 29 ?_; intro gb578 hg w20 hbox hb; have n0_ := bb BK575 hb; have n1_ := bb BK576 hb; have n2_ := bb BK577 hb; have n3_ := bs HB hb; have n4_ := Aside0.mk (hbox); have n5_ := sz HB hg; have n6_ := sz HB hg; have n7_ := nl BK575 hg; have n8_ := nr BK575 hg; have n9_ := nl BK576 hg; have n10_ := nr BK576 hg; have n11_ := nl BK577 hg; have n12_ := nr BK577 hg; clear BK575; clear BK576; clear BK577; clear HB; have BK575 := n0_; have BK576 := n1_; have BK577 := n2_; have HB := n3_; have BK578 := n4_; have GW578 := n5_; have GE578 := n6_; have NB575_578 := n7_; have NB578_575 := n8_; have NB576_578 := n9_; have NB578_576 := n10_; have NB577_578 := n11_; have NB578_577 := n12_; clear n0_ n1_ n2_ n3_ n4_ n5_ n6_ n7_ n8_ n9_ n10_ n11_ n12_; clear hb hbox hg))
    have n0_ := Aside0.mk (blk_drew BK575.out)
    have n1_ := Aside0.mk (blk_drew BK576.out)
    have n2_ := Aside0.mk (blk_drew BK577.out)
    have n3_ := Aside0.mk (blk_drew BK578.out)
    have n4_ := Aside0.mk (below_drew1 HB.out)
    clear BK575
    clear BK576
    clear BK577
    clear BK578
    clear HB
    have BK575 := n0_
    have BK576 := n1_
    have BK577 := n2_
    have BK578 := n3_
    have HB := n4_
    clear n0_ n1_ n2_ n3_ n4_
    refine start_ (n := 14) (S := fun w' => w'.cell? ⟨gb576, 0, none⟩ = some (.int .i64 a1_0) ∧ w'.cell? ⟨gb576, 1, none⟩ = some (.int .u64 a1_1) ∧ w'.cell? ⟨gb576, 2, none⟩ = some (.int .u64 a1_2) ∧ w'.cell? ⟨gb576, 3, none⟩ = some (.int .u64 a1_3) ∧ w'.cell? ⟨gb576, 4, none⟩ = some (.int .u64 a1_4) ∧ w'.cell? ⟨gb578, 0, none⟩ = some (.int .u64 a3_0) ∧ w'.cell? ⟨gb578, 1, none⟩ = some (.int .u64 a3_1) ∧ w'.cell? ⟨gb578, 2, none⟩ = some (.int .u64 a3_2) ∧ w'.cell? ⟨gb577, 0, none⟩ = some (.int .u64 a2_0) ∧ w'.cell? ⟨gb577, 1, none⟩ = some (.int .u64 a2_1) ∧ w'.cell? ⟨gb577, 2, none⟩ = some (.int .u64 a2_2)) (ds := []) #[false, false, false, false, false, false, false, false, false, false, false, false, false, false] (by kernel_rfl) rfl rfl ⟨(blk_cell BK576.out 0).trans rfl, (blk_cell BK576.out 1).trans rfl, (blk_cell BK576.out 2).trans rfl, (blk_cell BK576.out 3).trans rfl, (blk_cell BK576.out 4).trans rfl, (blk_cell BK578.out 0).trans rfl, (blk_cell BK578.out 1).trans rfl, (blk_cell BK578.out 2).trans rfl, (blk_cell BK577.out 0).trans rfl, (blk_cell BK577.out 1).trans rfl, (blk_cell BK577.out 2).trans rfl⟩ (fun hHeld => ?_); refine with_tabW reserve_Within.tab1 reserve_Within.bits1 (fun HT_ HW_ => ?_)
    generalize w20.drew = w21 at BK575 BK576 BK577 BK578 HB hHeld ⊢
    refine chain_ (fuel := 11) [(0, 1, some 9), (1, 1, some 10), (2, 1, some 11)] #[true, true, true, false, false, false, false, false, false, false, false, false, false, false] HT_.out HW_.out (by kernel_rfl) (fun _ _ _ _ _ h => h) (Or.inr hHeld) rfl ?_
    (iterate 3 refine lkT ?_); refine .nil ?_
    refine one_ (i := 3) (N := some 12) #[true, true, true, true, false, false, false, false, false, false, false, false, false, false] rfl rfl (one_of HT_.out (by kernel_rfl)) (by decide) (fun K hK => ?_)
    refine ge Try.func27 #[.agg #[.int .i64 a1_0, .int .u64 a1_1, .int .u64 a1_2, .int .u64 a1_3, .int .u64 a1_4], .agg #[.int .u64 a3_0, .int .u64 a3_1, .int .u64 a3_2], .agg #[.int .u64 a2_0, .int .u64 a2_1, .int .u64 a2_2]] ?_
    with_reducible refine (policy_Covers.calls a1_0 a1_1 a1_2 a1_3 a1_4 a3_0 a3_1 a3_2 a2_0 a2_1 a2_2 false _ A5.out).mono ?_
    rintro e w22 ⟨rfl, hb⟩
    refine ⟨_, rfl, ?_⟩
    have n0_ := bb BK575 hb
    have n1_ := bb BK576 hb
    have n2_ := bb BK577 hb
    have n3_ := bb BK578 hb
    have n4_ := bs HB hb
    clear BK575
    clear BK576
    clear BK577
    clear BK578
    clear HB
    have BK575 := n0_
    have BK576 := n1_
    have BK577 := n2_
    have BK578 := n3_
    have HB := n4_
    clear n0_ n1_ n2_ n3_ n4_
    (try clear hb)
    (try clear hb2)
    (try clear hk)
    (try clear hi)
    refine hK.out _ _ ⟨(blk_cell BK576.out 0).trans rfl, (blk_cell BK576.out 1).trans rfl, (blk_cell BK576.out 2).trans rfl, (blk_cell BK576.out 3).trans rfl, (blk_cell BK576.out 4).trans rfl, (blk_cell BK578.out 0).trans rfl, (blk_cell BK578.out 1).trans rfl, (blk_cell BK578.out 2).trans rfl, (blk_cell BK577.out 0).trans rfl, (blk_cell BK577.out 1).trans rfl, (blk_cell BK577.out 2).trans rfl⟩ (fun hHeld => ?_)
    clear hK K
    refine norm_ (a' := ?_) ?_ ?_
    rotate_left
    · show Act.put _ (some 12) _ = _
      simp only [Act.put, List.setIfInBounds_toArray, List.set_cons_zero, List.set_cons_succ, i64_w, i32_w]
      rfl
    refine chain_ (fuel := 0) [(4, 0, some 13), (5, 2, some 14), (6, 2, some 15), (7, 2, some 16), (8, 2, some 17), (9, 2, some 18), (10, 2, some 19), (11, 2, some 20), (12, 0, some 21), (13, 0, some 8)] #[true, true, true, true, true, true, true, true, true, true, true, true, true, true] HT_.out HW_.out (by kernel_rfl) (fun _ _ _ _ _ h => h) (Or.inl (by decide)) rfl ?_
    refine lkP ?_; (iterate 7 refine lkO ?_); (iterate 2 refine lkP ?_); refine .nil ?_
    refine done_ (done_of HT_.out (by kernel_rfl)) ?_
    try go_wp2
    go_ret
    exact ⟨re, bw HB⟩

end Go.Proofs.Ytokfhdpokemekaa.Q
