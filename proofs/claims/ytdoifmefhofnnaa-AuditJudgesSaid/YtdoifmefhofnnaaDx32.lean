/- Written by the session's own program hyb.py: what functions of the program compute; Lean checks it. -/
import Derived.Test.YtdoifmefhofnnaaDx0
import Derived.Test.YtdoifmefhofnnaaDx27
import Derived.Test.YtdoifmefhofnnaaDx28
import Derived.Test.YtdoifmefhofnnaaDx29
import Derived.Test.YtdoifmefhofnnaaDx30
import Derived.Test.YtdoifmefhofnnaaDx31
namespace Go.Proofs.Ytdoifmefhofnnaa.D
open Go.RowKit Go.Proofs.YtdoifmefhofnnaaW.PrintWords Go.Proofs.YtdoifmefhofnnaaW.PrintLast Go.Proofs.YtdoifmefhofnnaaW.PrintMore Go.Proofs.YtdoifmefhofnnaaW.PrintShort
attribute [local go_sem] run_Add64 run_Sub64
attribute [local go_sem] max2_int min2_int max_two min_two max_three min_three max_four min_four   -- for this text's walks alone
set_option linter.unusedVariables false
set_option linter.unusedSimpArgs false

/-! ### turnstileref24_flow: function 31 -/
mutual
def turnstileref24_flow.l0 : Nat → List (S31) → List Int → List Int → Int → Int → Int → Int → Int → Int → Int → List Int → Option (List Int × Bool)
  | 0, _, _, _, _, _, _, _, _, _, _, _ => none
  | k + 1, x1, x6, x7, x9, x403000, x403001, x403002, x403003, x403004, x410000, x410001 => if x9 < (x1.length : Int) then (if 0 ≤ x9 then (if ((rd_T31 x1 x9).f1) = 0 then (some (([] : List Int), false)) else (if x9 = 0 then (turnstileref24_flow.j1 k x1 x6 x7 x9 true x403000 x403001 x403002 x403003 x403004 x410000 x410001 ((rd_T31 x1 x9).f0) ((rd_T31 x1 x9).f1) ((rd_T31 x1 x9).f0) x7) else ((turnstileref24_weighs.f k x410000 x410001 ((rd_T31 x1 x9).f0) x7 x6).bind fun t413 => (turnstileref24_flow.j1 k x1 x6 x7 x9 t413 x403000 x403001 x403002 x403003 x403004 x410000 x410001 ((rd_T31 x1 x9).f0) ((rd_T31 x1 x9).f1) ((rd_T31 x1 x9).f0) x7)))) else (none)) else (if (x1.length : Int) = 0 then (some ((([] : List Int)), true)) else ((turnstileref24_Of.f k x410000).bind fun t454 => ((turnstileref24_Times.f k x7 x6).bind fun t457 => ((turnstileref24_Plus.f k t454 t457).bind fun t460 => ((turnstileref24_Times.f k x410001 x6).bind fun t463 => ((turnstileref24_minus.f k t460 t463).bind fun t466 => (some (t466, true))))))))
def turnstileref24_flow.j1 : Nat → List (S31) → List Int → List Int → Int → Bool → Int → Int → Int → Int → Int → Int → List Int → Int → Int → Int → List Int → Option (List Int × Bool)
  | 0, _, _, _, _, _, _, _, _, _, _, _, _, _, _, _, _ => none
  | k + 1, x1, x6, x7, x9, x42, x403000, x403001, x403002, x403003, x403004, x410000, x410001, x412000, x412001, x413000, x413001 => if x42 = true then (turnstileref24_flow.j2 k x1 x6 x7 x9 x403000 x403001 x403002 x403003 x403004 x413000 x413001 x412000 x412001) else (turnstileref24_flow.j2 k x1 x6 x7 x9 x403000 x403001 x403002 x403003 x403004 x410000 x410001 x412000 x412001)
def turnstileref24_flow.j2 : Nat → List (S31) → List Int → List Int → Int → Int → Int → Int → Int → Int → Int → List Int → Int → Int → Option (List Int × Bool)
  | 0, _, _, _, _, _, _, _, _, _, _, _, _, _ => none
  | k + 1, x1, x6, x7, x9, x403000, x403001, x403002, x403003, x403004, x410000, x410001, x412000, x412001 => (turnstileref24_Of.f k (IntKind.u64.wrap (x412001 - 1))).bind fun t414 => ((turnstileref24_Plus.f k x7 t414).bind fun t417 => ((turnstileref24_Of.f k x412001).bind fun t420 => ((turnstileref24_Plus.f k x7 t420).bind fun t423 => ((turnstileref24_Of.f k x410000).bind fun t426 => ((turnstileref24_Times.f k t417 x6).bind fun t429 => ((turnstileref24_Plus.f k t426 t429).bind fun t432 => ((turnstileref24_Of.f k x412000).bind fun t435 => ((turnstileref24_Of.f k x403002).bind fun t438 => ((turnstileref24_Plus.f k t435 t438).bind fun t441 => ((turnstileref24_Times.f k x410001 x6).bind fun t444 => ((turnstileref24_Plus.f k t441 t444).bind fun t447 => ((turnstileref24_AtMost.f k t432 t447).bind fun t450 => (if t450 = true then (turnstileref24_flow.l0 k x1 x6 t423 (wrap64 (x9 + 1)) x403000 x403001 x403002 x403003 x403004 x410000 x410001) else (some (([] : List Int), false)))))))))))))))
end
def turnstileref24_flow.f (k : Nat) (a0_0 : Int) (a0_1 : Int) (a0_2 : Int) (a0_3 : Int) (a0_4 : Int) (l1 : List (S31)) : Option (List Int × Bool) := (turnstileref24_Of.f k a0_1).bind fun t403 => (turnstileref24_flow.l0 k l1 t403 (([] : List Int)) 0 a0_0 a0_1 a0_2 a0_3 a0_4 0 ([] : List Int))
def turnstileref24_flow.T15 : Bool × List (List Nat × List Nat) := (true, [([], []), ([0], [0]), ([1], [1]), ([], []), ([], []), ([3, 4, 2], [3, 4]), ([2, 5, 5], [2, 5]), ([], []), ([7], [7]), ([8, 6], [8]), ([], []), ([10], [10]), ([11, 9], [11]), ([9, 12, 12], [9, 12]), ([], []), ([14], [14]), ([], []), ([15, 16, 13], [15, 16]), ([13, 17, 17], [13, 17]), ([6, 18, 18], [6, 18]), ([19], [19])])
def turnstileref24_flow.B15 : List Nat := [0, 1, 3, 0, 0, 31, 63, 0, 128, 511, 0, 1024, 4095, 8191, 0, 16384, 0, 131071, 262143, 524287, 1048575]
theorem turnstileref24_flow.tab15 : rtab .any (opsOf Try.f31 15) = turnstileref24_flow.T15 := by kernel_rfl
theorem turnstileref24_flow.bits15 : waitsOk turnstileref24_flow.T15.2 turnstileref24_flow.B15 = true := by kernel_rfl
def turnstileref24_flow.T19 : Bool × List (List Nat × List Nat) := (true, [([], []), ([0], [0]), ([1], [1]), ([], []), ([], []), ([3, 4, 2], [3, 4]), ([2, 5, 5], [2, 5]), ([], []), ([7], [7]), ([], []), ([8, 9, 6], [8, 9]), ([6, 10, 10], [6, 10]), ([11, 11, 0, 1, 2, 3, 4, 5, 6, 7, 8, 9, 10, 11], [11]), ([12, 0, 1, 2, 3, 4, 5, 6, 7, 8, 9, 10, 11, 12], [])])
def turnstileref24_flow.B19 : List Nat := [0, 1, 3, 0, 0, 31, 63, 0, 128, 0, 1023, 2047, 4095, 8191]
theorem turnstileref24_flow.tab19 : rtab .any (opsOf Try.f31 19) = turnstileref24_flow.T19 := by kernel_rfl
theorem turnstileref24_flow.bits19 : waitsOk turnstileref24_flow.T19.2 turnstileref24_flow.B19 = true := by kernel_rfl
set_option maxHeartbeats 8000000 in
set_option maxRecDepth 100000 in
theorem turnstileref24_flow.calls (k : Nat) (a0_0 : Int) (a0_1 : Int) (a0_2 : Int) (a0_3 : Int) (a0_4 : Int) (A1 : Option Addr) (c1 : Nat) (l1 : List (S31)) (r1 : List Int) (r2 : Bool) (w : World) (hr1 : Kd.C k31 w A1 l1.length l1) (hc1 : l1.length ≤ c1) (h : turnstileref24_flow.f k a0_0 a0_1 a0_2 a0_3 a0_4 l1 = some (r1, r2)) :
 Calls Try.prog 31 #[.agg #[.int .i64 a0_0, .int .u64 a0_1, .int .u64 a0_2, .int .u64 a0_3, .int .u64 a0_4], .slice A1 l1.length c1] w fun e w' => ∃ v0_ : Value, e = .returned (.tuple #[v0_, .bool r2]) ∧ Kd.R (Kd.int .u64) 22 w' w.heap.size (fun _ => True) v0_ r1 ∧ Below w.heap.size w w' := by
 have hu24 := Try.underlying24; have hu115 := Try.underlying115; have hu31 := Try.underlying31; have HR1 := Aside0.mk hr1; have HC1 := Aside0.mk hc1; clear hr1 hc1; have HB := Aside0.mk (Below.refl w.heap.size w)
 have H : ((turnstileref24_Of.f k a0_1).bind fun t403 => (turnstileref24_flow.l0 k l1 t403 (([] : List Int)) 0 a0_0 a0_1 a0_2 a0_3 a0_4 0 ([] : List Int))) = some (r1, r2) := h
 clear h; replace H := Option.bind_eq_some_iff.mp H
 obtain ⟨t403, A30, H⟩ := H
 replace H : (turnstileref24_flow.l0 k l1 t403 (([] : List Int)) 0 a0_0 a0_1 a0_2 a0_3 a0_4 0 ([] : List Int)) = some (r1, r2) := H
 have A3 := Aside0.mk A30; clear A30
 obtain ⟨y406, hy406⟩ : ∃ y_ : List Int, y_ = (([] : List Int)) := ⟨_, rfl⟩
 replace H : (turnstileref24_flow.l0 k l1 t403 y406 0 a0_0 a0_1 a0_2 a0_3 a0_4 0 ([] : List Int)) = some (r1, r2) := by first | (rw [hy406]; with_reducible exact H) | (have H2_ := (Option.bind_some _ _).symm.trans H; rw [hy406]; with_reducible exact H2_) | (have H2_ := (Option.bind_some _ _).symm.trans H; with_reducible exact H2_) | with_reducible exact H | (rw [hy406]; exact H) | exact H
 have Ny406 := Aside0.mk hy406; clear hy406
 have H' := Aside0.mk H
 clear H
 go_enter Try.func31, Try.ntmps31
 go_wp2_with (first | ((with_reducible refine gate_dst (N := 2) rfl ?_); refine bx 2 #[.int .i64 a0_0, .int .u64 a0_1, .int .u64 a0_2, .int .u64 a0_3, .int .u64 a0_4] 24 ?_; intro gb402 hg w4 hbox hb; have BK402 := Aside0.mk (hbox); have GW402 := sz HB hg; have GE402 := sz HB hg; replace HB := bs HB hb; clear hb hbox hg; obtain ⟨hcz5_0, hcz5_1, hcz5_2, hcz5_3, hcz5_4, hfz5_0, hfz5_1, hfz5_2, hfz5_3, hfz5_4⟩ := bc5 BK402) | ((with_reducible refine gate_callee (f := 41) rfl ?_); refine gl (some 15) Try.func41 #[.int .u64 a0_1] ?_; (with_reducible refine (turnstileref24_Of.calls k a0_1 t403 _ A3.out).mono ?_); rintro e w6 ⟨v404, rfl, ho0, hb⟩; refine ⟨_, rfl, ?_⟩; have HO405 := Aside0.mk (Kd.V_lower (Kd.V_mono (ok' := fun k_ => k_ ≠ gb402) ho0 (fun k_ hk_ => (Kd.freshB (g := gb402) (o := .cells #[.int .i64 a0_0, .int .u64 a0_1, .int .u64 a0_2, .int .u64 a0_3, .int .u64 a0_4] 24 (0, 0)) (bk BK402) k_ hk_))) (below_size (bw HB))); replace BK402 := bb BK402 hb; replace HB := bs HB hb; (try clear hb); (try clear hb2); (try clear hk); (try clear hi); (try clear ho0)) | ((with_reducible refine gate_dst (N := 16) rfl ?_); refine Kd.R_lit (Kd.int .u64) _ 22 ?hg (N := 16) ?hd (xs := ([] : List Int)) (inner := []) (ok := fun _ => True) (okp := fun _ => True) ?hr ?hp (fun _ hk => hk) trivial (Below.refl _ _) (Nat.le_refl _) (by simp) ?_; (case hd => rfl); (case hg => rfl); (case hr => first | (go_simp; done) | (go_simp; rfl)); (case hp => exact (Reps.none _ _)); intro v407 w7 ho8 hb hg_ hnew_; clear hg_ hnew_; (first | rw [← Ny406.out] at ho8 | (simp only [Int.reduceToNat] at ho8; rw [← Ny406.out] at ho8)); have HO408 := Aside0.mk (Kd.R_lower ho8 (below_size (bw HB))); replace HO405 := Aside0.mk (Kd.V_elder' (vo HO405) (Kd.R_base ho8) hb); replace BK402 := bb BK402 hb; replace HB := bs HB hb; clear hb ho8) | ((with_reducible refine gate_dst (N := 8) rfl ?_); refine bx 8 #[.int .u64 0, .slice none 0 0] 115 ?_; intro gb409 hg w9 hbox hb; have BK409 := Aside0.mk (hbox); have GW409 := sz HB hg; have GE409 := sz HB hg; have NB402_409 := nl BK402 hg; have NB409_402 := nr BK402 hg; replace HO405 := Aside0.mk (Kd.V_below (Kd.V_elderB (vo HO405) gb409 (Nat.le_of_eq hg.symm)) hb); replace HO408 := Aside0.mk (Kd.R_below (ro HO408) hb); replace BK402 := bb BK402 hb; replace HB := bs HB hb; clear hb hbox hg; have hnb10 := NB409_402.out; have hnc10 := NB402_409.out; obtain ⟨hcz11_0, hcz11_1, hfz11_0, hfz11_1⟩ := bc2 BK409))
 go_loopg [7, 9] k (fun kq v7 v9 w' => ∃ (x7_1 : List Int) (x9_1 : Int) (x410000_1 : Int) (x410001_1 : List Int) (u410001 : Value), v9 = .int .i64 x9_1 ∧ Aside0 (turnstileref24_flow.l0 kq l1 t403 x7_1 x9_1 a0_0 a0_1 a0_2 a0_3 a0_4 x410000_1 x410001_1 = some (r1, r2)) ∧ Aside0 (kq ≤ k) ∧ Aside0 (Kd.V (Kd.int .u64) 22 w' w.heap.size (fun k_ => k_ ≠ gb402 ∧ k_ ≠ gb409) v404 t403) ∧ Aside0 (Kd.V (Kd.int .u64) 22 w' w.heap.size (fun k_ => k_ ≠ gb402 ∧ k_ ≠ gb409) v7 x7_1) ∧ Aside0 (Kd.V (Kd.int .u64) 22 w' w.heap.size (fun k_ => k_ ≠ gb402 ∧ k_ ≠ gb409) u410001 x410001_1) ∧ Aside0 (w'.heap[gb402]? = some (.cells #[.int .i64 a0_0, .int .u64 a0_1, .int .u64 a0_2, .int .u64 a0_3, .int .u64 a0_4] 24 (0, 0))) ∧ Aside0 (w'.heap[gb409]? = some (.cells #[.int .u64 x410000_1, u410001] 115 (0, 0))) ∧ Aside0 (Below w.heap.size w w'))
 case atStart => exact ⟨(y406), (0), (0), (([] : List Int)), (.slice none 0 0), rs, H', ⟨Nat.le_refl _⟩, ⟨by (with_reducible repeat (first | apply Kd.V_alloc | apply Kd.V_drewN | apply Kd.V_drew)); exact Kd.V_mono (Kd.V_far (p := ⟨gb409, 1, none⟩) (Kd.V_far (p := ⟨gb409, 0, none⟩) (Kd.V_mono HO405.out (fun k_ hk => (⟨hk, hk.2⟩ : _ ∧ k_ ≠ gb409))) (fun _ hk => hk.2) (.int .u64 0)) (fun _ hk => hk.2) (.slice none 0 0)) (fun _ hk => ⟨hk.1.1.1, hk.1.2⟩)⟩, ⟨Kd.R_V (by (with_reducible repeat (first | apply Kd.R_alloc | apply Kd.R_drewN | apply Kd.R_drew)); exact Kd.R_mono (Kd.R_far (p := ⟨gb409, 1, none⟩) (Kd.R_far (p := ⟨gb409, 0, none⟩) (Kd.R_types (Kd.R_types (Kd.R_types HO408.out BK402.out (by decide)) BK409.out (by decide)) BK409.out (by decide)) (fun _ hk => hk.2) (.int .u64 0)) (fun _ hk => hk.2) (.slice none 0 0)) (fun _ hk => ⟨hk.1.1.2, hk.1.2⟩))⟩, ⟨Kd.V_nil _ _ _ _ _⟩, ⟨bk BK402⟩, ⟨bk BK409⟩, ⟨bw HB⟩⟩
 case round =>
  clear H'; (try clear c1); (try clear p2); (try clear c3); (try clear c4); (try clear c10); (try clear hcz11_0); (try clear hcz11_1); (try clear hcz5_0); (try clear hcz5_1); (try clear hcz5_2); (try clear hcz5_3); (try clear hcz5_4); (try clear hfz11_0); (try clear hfz11_1); (try clear hfz5_0); (try clear hfz5_1); (try clear hfz5_2); (try clear hfz5_3); (try clear hfz5_4)
  obtain ⟨x7_1, x9_1, x410000_1, x410001_1, u410001, rfl, HA, HK1, HO_6, HO_7, HO_410001, BK402, BK409, HB⟩ := hrel
  cases gk with
  | zero => exact absurd HA.out (by simp [turnstileref24_flow.l0])
  | succ k1 =>
   have H := HA.out; clear HA
   simp only [turnstileref24_flow.l0] at H
   by_cases c12 : x9_1 < (l1.length : Int)
   · rw [if_pos c12] at H
     have c12b0 : decide (x9_1 < (l1.length : Int)) = true := decide_eq_true c12
     clear c12
     by_cases c13 : 0 ≤ x9_1
     · rw [if_pos c13] at H
       have c13b0 : decide (0 ≤ x9_1) = true := decide_eq_true c13
       clear c13
       by_cases c14 : ((rd_T31 l1 x9_1).f1) = 0
       · rw [if_pos c14] at H
         have c14b0 : (((rd_T31 l1 x9_1).f1) == 0) = true := beq_iff_eq.mpr c14
         have c14b1 : (((rd_T31 l1 x9_1).f1) != 0) = false := bne_eq_false_iff_eq.mpr c14
         clear c14
         simp only [Option.some.injEq, Prod.mk.injEq] at H
         obtain ⟨rfl, rfl⟩ := H
         have p410 : 0 ≤ (x9_1 : Int) := of_decide_eq_true (by first | (with_reducible assumption) | assumption)
         have q410 : x9_1 < (l1.length : Int) := of_decide_eq_true (by first | (with_reducible assumption) | assumption)
         obtain ⟨ad410, e410, hx410_0, hx410_1⟩ := at_T31 HR1.out x9_1 p410 q410
         cases e410
         replace hx410_0 := (HB.out.cell (World.block_lt_of_cell? w _ hx410_0)).trans hx410_0; replace hx410_1 := (HB.out.cell (World.block_lt_of_cell? w _ hx410_1)).trans hx410_1; replace p410 := eq_true p410; replace q410 := eq_true q410
         go_wp2_with (first | ((with_reducible refine gate_dst (N := 10) rfl ?_); refine bx 10 #[.int .u64 0, .int .u64 0] 31 ?_; intro gb411 hg w15 hbox hb; have BK411 := Aside0.mk (hbox); have GW411 := sz HB hg; have GE411 := sz HB hg; have NB402_411 := nl BK402 hg; have NB411_402 := nr BK402 hg; have NB409_411 := nl BK409 hg; have NB411_409 := nr BK409 hg; replace HO_6 := Aside0.mk (Kd.V_below (Kd.V_elderB (vo HO_6) gb411 (Nat.le_of_eq hg.symm)) hb); replace HO_7 := Aside0.mk (Kd.V_below (Kd.V_elderB (vo HO_7) gb411 (Nat.le_of_eq hg.symm)) hb); replace HO_410001 := Aside0.mk (Kd.V_below (Kd.V_elderB (vo HO_410001) gb411 (Nat.le_of_eq hg.symm)) hb); replace BK402 := bb BK402 hb; replace BK409 := bb BK409 hb; replace HB := bs HB hb; clear hb hbox hg; have hnb16 := NB411_402.out; have hnc16 := NB402_411.out; have hnb17 := NB411_409.out; have hnc17 := NB409_411.out; obtain ⟨hcz18_0, hcz18_1, hfz18_0, hfz18_1⟩ := bc2 BK411))
         go_ret2
         exact ⟨_, re, by first | exact Kd.R_nil _ _ _ _ _ | exact Kd.N_nil _ _ _ _ _ | exact Kd.V_nil _ _ _ _ _ | exact Kd.Q_nil _ _ _ _ _ | exact Kd.S_nil _ _ _ _ _, bw HB⟩
       · rw [if_neg c14] at H
         have c14b0 : (((rd_T31 l1 x9_1).f1) == 0) = false := beq_eq_false_iff_ne.mpr c14
         have c14b1 : (((rd_T31 l1 x9_1).f1) != 0) = true := bne_iff_ne.mpr c14
         have HC19 := Aside0.mk H; clear H
         have p410 : 0 ≤ (x9_1 : Int) := of_decide_eq_true (by first | (with_reducible assumption) | assumption)
         have q410 : x9_1 < (l1.length : Int) := of_decide_eq_true (by first | (with_reducible assumption) | assumption)
         obtain ⟨ad410, e410, hx410_0, hx410_1⟩ := at_T31 HR1.out x9_1 p410 q410
         cases e410
         replace hx410_0 := (HB.out.cell (World.block_lt_of_cell? w _ hx410_0)).trans hx410_0; replace hx410_1 := (HB.out.cell (World.block_lt_of_cell? w _ hx410_1)).trans hx410_1; replace p410 := eq_true p410; replace q410 := eq_true q410
         go_upto_region 11 with (first | ((with_reducible refine gate_dst (N := 10) rfl ?_); refine bx 10 #[.int .u64 0, .int .u64 0] 31 ?_; intro gb411 hg w20 hbox hb; have BK411 := Aside0.mk (hbox); have GW411 := sz HB hg; have GE411 := sz HB hg; have NB402_411 := nl BK402 hg; have NB411_402 := nr BK402 hg; have NB409_411 := nl BK409 hg; have NB411_409 := nr BK409 hg; replace HO_6 := Aside0.mk (Kd.V_below (Kd.V_elderB (vo HO_6) gb411 (Nat.le_of_eq hg.symm)) hb); replace HO_7 := Aside0.mk (Kd.V_below (Kd.V_elderB (vo HO_7) gb411 (Nat.le_of_eq hg.symm)) hb); replace HO_410001 := Aside0.mk (Kd.V_below (Kd.V_elderB (vo HO_410001) gb411 (Nat.le_of_eq hg.symm)) hb); replace BK402 := bb BK402 hb; replace BK409 := bb BK409 hb; replace HB := bs HB hb; clear hb hbox hg; have hnb21 := NB411_402.out; have hnc21 := NB402_411.out; have hnb22 := NB411_409.out; have hnc22 := NB409_411.out; obtain ⟨hcz23_0, hcz23_1, hfz23_0, hfz23_1⟩ := bc2 BK411; obtain ⟨Ao24, co24, eo24⟩ := Kd.V_slice HO_7.out; subst eo24) | ((with_reducible refine gate_dst (N := 11) rfl ?_); refine bx 11 #[.int .u64 0, .slice none 0 0] 115 ?_; intro gb412 hg w25 hbox hb; have n0_ := Aside0.mk (Kd.V_below (Kd.V_elderB (by (with_reducible repeat (first | apply Kd.V_alloc | apply Kd.V_drewN | apply Kd.V_drew)); exact (Kd.V_mono (Kd.V_far (p := ⟨gb411, 1, none⟩) (Kd.V_far (p := ⟨gb411, 0, none⟩) (Kd.V_mono HO_6.out (fun k_ hk => (⟨hk, hk.2⟩ : _ ∧ k_ ≠ gb411))) (fun _ hk => hk.2) (.int .u64 ((rd_T31 l1 x9_1).f0))) (fun _ hk => hk.2) (.int .u64 ((rd_T31 l1 x9_1).f1))) (fun _ h_ => h_.1))) gb412 (Nat.le_of_eq hg.symm)) hb); have n1_ := Aside0.mk (Kd.V_below (Kd.V_elderB (by (with_reducible repeat (first | apply Kd.V_alloc | apply Kd.V_drewN | apply Kd.V_drew)); exact (Kd.V_mono (Kd.V_far (p := ⟨gb411, 1, none⟩) (Kd.V_far (p := ⟨gb411, 0, none⟩) (Kd.V_mono HO_7.out (fun k_ hk => (⟨hk, hk.2⟩ : _ ∧ k_ ≠ gb411))) (fun _ hk => hk.2) (.int .u64 ((rd_T31 l1 x9_1).f0))) (fun _ hk => hk.2) (.int .u64 ((rd_T31 l1 x9_1).f1))) (fun _ h_ => h_.1))) gb412 (Nat.le_of_eq hg.symm)) hb); have n2_ := Aside0.mk (Kd.V_below (Kd.V_elderB (by (with_reducible repeat (first | apply Kd.V_alloc | apply Kd.V_drewN | apply Kd.V_drew)); exact (Kd.V_mono (Kd.V_far (p := ⟨gb411, 1, none⟩) (Kd.V_far (p := ⟨gb411, 0, none⟩) (Kd.V_mono HO_410001.out (fun k_ hk => (⟨hk, hk.2⟩ : _ ∧ k_ ≠ gb411))) (fun _ hk => hk.2) (.int .u64 ((rd_T31 l1 x9_1).f0))) (fun _ hk => hk.2) (.int .u64 ((rd_T31 l1 x9_1).f1))) (fun _ h_ => h_.1))) gb412 (Nat.le_of_eq hg.symm)) hb); have n3_ := bb BK402 hb; have n4_ := bb BK409 hb; have n5_ := bbp (.cells #[.int .u64 ((rd_T31 l1 x9_1).f0), .int .u64 ((rd_T31 l1 x9_1).f1)] 31 (0, 0)) BK411 hb; have n6_ := bs HB hb; have n7_ := Aside0.mk (hbox); have n8_ := sz HB hg; have n9_ := sz HB hg; have n10_ := nl BK402 hg; have n11_ := nr BK402 hg; have n12_ := nl BK409 hg; have n13_ := nr BK409 hg; have n14_ := nlp (.cells #[.int .u64 ((rd_T31 l1 x9_1).f0), .int .u64 ((rd_T31 l1 x9_1).f1)] 31 (0, 0)) BK411 hg; have n15_ := nrp (.cells #[.int .u64 ((rd_T31 l1 x9_1).f0), .int .u64 ((rd_T31 l1 x9_1).f1)] 31 (0, 0)) BK411 hg; clear HO_6; clear HO_7; clear HO_410001; clear BK402; clear BK409; clear BK411; clear HB; have HO_6 := n0_; have HO_7 := n1_; have HO_410001 := n2_; have BK402 := n3_; have BK409 := n4_; have BK411 := n5_; have HB := n6_; have BK412 := n7_; have GW412 := n8_; have GE412 := n9_; have NB402_412 := n10_; have NB412_402 := n11_; have NB409_412 := n12_; have NB412_409 := n13_; have NB411_412 := n14_; have NB412_411 := n15_; clear n0_ n1_ n2_ n3_ n4_ n5_ n6_ n7_ n8_ n9_ n10_ n11_ n12_ n13_ n14_ n15_; clear hb hbox hg; have hnb26 := NB412_402.out; have hnc26 := NB402_412.out; have hnb27 := NB412_409.out; have hnc27 := NB409_412.out; have hnb28 := NB412_411.out; have hnc28 := NB411_412.out; obtain ⟨hcz29_0, hcz29_1, hfz29_0, hfz29_1⟩ := bc2 BK412))
         (try simp only [Act.put, List.setIfInBounds_toArray, List.set_cons_zero, List.set_cons_succ])
         go_cut [42] (fun v42 wc => ∃ (kq : Nat) (x42_18 : Bool), v42 = .bool x42_18 ∧ Aside0 (turnstileref24_flow.j1 kq l1 t403 x7_1 x9_1 x42_18 a0_0 a0_1 a0_2 a0_3 a0_4 x410000_1 x410001_1 ((rd_T31 l1 x9_1).f0) ((rd_T31 l1 x9_1).f1) ((rd_T31 l1 x9_1).f0) x7_1 = some (r1, r2)) ∧ Aside0 (kq ≤ k1) ∧ Aside0 (Kd.V (Kd.int .u64) 22 wc w.heap.size (fun k_ => k_ ≠ gb402 ∧ k_ ≠ gb409 ∧ k_ ≠ gb411 ∧ k_ ≠ gb412) v404 t403) ∧ Aside0 (Kd.V (Kd.int .u64) 22 wc w.heap.size (fun k_ => k_ ≠ gb402 ∧ k_ ≠ gb409 ∧ k_ ≠ gb411 ∧ k_ ≠ gb412) (.slice Ao24 x7_1.length co24) x7_1) ∧ Aside0 (Kd.V (Kd.int .u64) 22 wc w.heap.size (fun k_ => k_ ≠ gb402 ∧ k_ ≠ gb409 ∧ k_ ≠ gb411 ∧ k_ ≠ gb412) u410001 x410001_1) ∧ Aside0 (Kd.V (Kd.int .u64) 22 wc w.heap.size (fun k_ => k_ ≠ gb402 ∧ k_ ≠ gb409 ∧ k_ ≠ gb411 ∧ k_ ≠ gb412) (.slice Ao24 x7_1.length co24) x7_1) ∧ Aside0 (wc.heap[gb402]? = some (.cells #[.int .i64 a0_0, .int .u64 a0_1, .int .u64 a0_2, .int .u64 a0_3, .int .u64 a0_4] 24 (0, 0))) ∧ Aside0 (wc.heap[gb409]? = some (.cells #[.int .u64 x410000_1, u410001] 115 (0, 0))) ∧ Aside0 (wc.heap[gb411]? = some (.cells #[.int .u64 ((rd_T31 l1 x9_1).f0), .int .u64 ((rd_T31 l1 x9_1).f1)] 31 (0, 0))) ∧ Aside0 (wc.heap[gb412]? = some (.cells #[.int .u64 ((rd_T31 l1 x9_1).f0), (.slice Ao24 x7_1.length co24)] 115 (0, 0))) ∧ Aside0 (Below w.heap.size w wc))
         case first =>
          have H := HC19.out; clear HC19
          by_cases c30 : x9_1 = 0
          · rw [if_pos c30] at H
            have c30b0 : (x9_1 == 0) = true := beq_iff_eq.mpr c30
            have c30b1 : (x9_1 != 0) = false := bne_eq_false_iff_eq.mpr c30
            clear c30
            (first | rw [c30b0] | (simp only [i64_w, i32_w]; rw [c30b0]) | skip)
            have H' := Aside0.mk H
            clear H
            go_wp2
            go_meet
            case rel => exact ⟨_, (true), rs, H', ⟨by have := HK1.out; first | omega | exact Nat.le_refl _⟩, ⟨by (with_reducible repeat (first | apply Kd.V_alloc | apply Kd.V_drewN | apply Kd.V_drew)); exact Kd.V_mono (Kd.V_far (p := ⟨gb412, 1, none⟩) (Kd.V_far (p := ⟨gb412, 0, none⟩) (Kd.V_mono HO_6.out (fun k_ hk => (⟨hk, hk.2⟩ : _ ∧ k_ ≠ gb412))) (fun _ hk => hk.2) (.int .u64 ((rd_T31 l1 x9_1).f0))) (fun _ hk => hk.2) (.slice Ao24 x7_1.length co24)) (fun _ hk => ⟨hk.1.1.1.1, ⟨hk.1.1.1.2, ⟨hk.1.1.2, hk.1.2⟩⟩⟩)⟩, ⟨by (with_reducible repeat (first | apply Kd.V_alloc | apply Kd.V_drewN | apply Kd.V_drew)); exact Kd.V_mono (Kd.V_far (p := ⟨gb412, 1, none⟩) (Kd.V_far (p := ⟨gb412, 0, none⟩) (Kd.V_mono HO_7.out (fun k_ hk => (⟨hk, hk.2⟩ : _ ∧ k_ ≠ gb412))) (fun _ hk => hk.2) (.int .u64 ((rd_T31 l1 x9_1).f0))) (fun _ hk => hk.2) (.slice Ao24 x7_1.length co24)) (fun _ hk => ⟨hk.1.1.1.1, ⟨hk.1.1.1.2, ⟨hk.1.1.2, hk.1.2⟩⟩⟩)⟩, ⟨by (with_reducible repeat (first | apply Kd.V_alloc | apply Kd.V_drewN | apply Kd.V_drew)); exact Kd.V_mono (Kd.V_far (p := ⟨gb412, 1, none⟩) (Kd.V_far (p := ⟨gb412, 0, none⟩) (Kd.V_mono HO_410001.out (fun k_ hk => (⟨hk, hk.2⟩ : _ ∧ k_ ≠ gb412))) (fun _ hk => hk.2) (.int .u64 ((rd_T31 l1 x9_1).f0))) (fun _ hk => hk.2) (.slice Ao24 x7_1.length co24)) (fun _ hk => ⟨hk.1.1.1.1, ⟨hk.1.1.1.2, ⟨hk.1.1.2, hk.1.2⟩⟩⟩)⟩, ⟨by (with_reducible repeat (first | apply Kd.V_alloc | apply Kd.V_drewN | apply Kd.V_drew)); exact Kd.V_mono (Kd.V_far (p := ⟨gb412, 1, none⟩) (Kd.V_far (p := ⟨gb412, 0, none⟩) (Kd.V_mono HO_7.out (fun k_ hk => (⟨hk, hk.2⟩ : _ ∧ k_ ≠ gb412))) (fun _ hk => hk.2) (.int .u64 ((rd_T31 l1 x9_1).f0))) (fun _ hk => hk.2) (.slice Ao24 x7_1.length co24)) (fun _ hk => ⟨hk.1.1.1.1, ⟨hk.1.1.1.2, ⟨hk.1.1.2, hk.1.2⟩⟩⟩)⟩, ⟨bk BK402⟩, ⟨bk BK409⟩, ⟨bk BK411⟩, ⟨bk BK412⟩, ⟨bw HB⟩⟩
          · rw [if_neg c30] at H
            have c30b0 : (x9_1 == 0) = false := beq_eq_false_iff_ne.mpr c30
            have c30b1 : (x9_1 != 0) = true := bne_iff_ne.mpr c30
            (first | rw [c30b0] | (simp only [i64_w, i32_w]; rw [c30b0]) | skip)
            replace H := Option.bind_eq_some_iff.mp H
            obtain ⟨t413, A310, H⟩ := H
            replace H : (turnstileref24_flow.j1 k1 l1 t403 x7_1 x9_1 t413 a0_0 a0_1 a0_2 a0_3 a0_4 x410000_1 x410001_1 ((rd_T31 l1 x9_1).f0) ((rd_T31 l1 x9_1).f1) ((rd_T31 l1 x9_1).f0) x7_1) = some (r1, r2) := H
            have A31 := Aside0.mk A310; clear A310
            have H' := Aside0.mk H
            clear H; have hnb32 := NB409_402.out; have hnc32 := NB402_409.out; have hnb33 := NB409_411.out; have hnc33 := NB411_409.out; have hnb34 := NB409_412.out; have hnc34 := NB412_409.out
            obtain ⟨hcz35_0, hcz35_1, hfz35_0, hfz35_1⟩ := bc2 BK409
            have hnb36 := NB412_402.out; have hnc36 := NB402_412.out; have hnb37 := NB412_411.out; have hnc37 := NB411_412.out
            obtain ⟨hcz38_0, hcz38_1, hfz38_0, hfz38_1⟩ := bc2 BK412
            obtain ⟨Ao39, co39, eo39⟩ := Kd.V_slice HO_410001.out
            subst eo39
            obtain ⟨Ao40, co40, eo40⟩ := Kd.V_slice HO_6.out
            subst eo40
            go_wp2_with (first | (go_at_call 42; (with_reducible refine (turnstileref24_weighs.calls k1 x410000_1 _ _ x410001_1 ((rd_T31 l1 x9_1).f0) _ _ x7_1 _ _ t403 t413 _ ?side1 ?side2 ?side3 ?side4 ?side5 ?side6 A31.out).mono ?_); (case side1 => refine (Kd.V_reads' (e := 22) (base := w.heap.size) (ok := fun k_ => (((k_ ≠ gb402 ∧ k_ ≠ gb409) ∧ k_ ≠ gb411) ∧ k_ ≠ gb412)) (n := x410001_1.length) (c := co39) ?_).2.2; exact (by (with_reducible repeat (first | apply Kd.V_alloc | apply Kd.V_drewN | apply Kd.V_drew)); exact (Kd.V_mono (Kd.V_far (p := ⟨gb412, 1, none⟩) (Kd.V_far (p := ⟨gb412, 0, none⟩) (Kd.V_mono HO_410001.out (fun k_ hk => (⟨hk, hk.2⟩ : _ ∧ k_ ≠ gb412))) (fun _ hk => hk.2) (.int .u64 ((rd_T31 l1 x9_1).f0))) (fun _ hk => hk.2) (.slice Ao24 x7_1.length co24)) (fun _ h_ => h_.1)))); (case side2 => exact (Kd.V_reads' HO_410001.out).2.1); (case side3 => refine (Kd.V_reads' (e := 22) (base := w.heap.size) (ok := fun k_ => (((k_ ≠ gb402 ∧ k_ ≠ gb409) ∧ k_ ≠ gb411) ∧ k_ ≠ gb412)) (n := x7_1.length) (c := co24) ?_).2.2; exact (by (with_reducible repeat (first | apply Kd.V_alloc | apply Kd.V_drewN | apply Kd.V_drew)); exact (Kd.V_mono (Kd.V_far (p := ⟨gb412, 1, none⟩) (Kd.V_far (p := ⟨gb412, 0, none⟩) (Kd.V_mono HO_7.out (fun k_ hk => (⟨hk, hk.2⟩ : _ ∧ k_ ≠ gb412))) (fun _ hk => hk.2) (.int .u64 ((rd_T31 l1 x9_1).f0))) (fun _ hk => hk.2) (.slice Ao24 x7_1.length co24)) (fun _ h_ => h_.1)))); (case side4 => exact (Kd.V_reads' HO_7.out).2.1); (case side5 => refine (Kd.V_reads' (e := 22) (base := w.heap.size) (ok := fun k_ => (((k_ ≠ gb402 ∧ k_ ≠ gb409) ∧ k_ ≠ gb411) ∧ k_ ≠ gb412)) (n := t403.length) (c := co40) ?_).2.2; exact (by (with_reducible repeat (first | apply Kd.V_alloc | apply Kd.V_drewN | apply Kd.V_drew)); exact (Kd.V_mono (Kd.V_far (p := ⟨gb412, 1, none⟩) (Kd.V_far (p := ⟨gb412, 0, none⟩) (Kd.V_mono HO_6.out (fun k_ hk => (⟨hk, hk.2⟩ : _ ∧ k_ ≠ gb412))) (fun _ hk => hk.2) (.int .u64 ((rd_T31 l1 x9_1).f0))) (fun _ hk => hk.2) (.slice Ao24 x7_1.length co24)) (fun _ h_ => h_.1)))); (case side6 => exact (Kd.V_reads' HO_6.out).2.1); rintro e w41 ⟨rfl, hb⟩; have n0_ := Aside0.mk (Kd.V_below (by (with_reducible repeat (first | apply Kd.V_alloc | apply Kd.V_drewN | apply Kd.V_drew)); exact (Kd.V_mono (Kd.V_far (p := ⟨gb412, 1, none⟩) (Kd.V_far (p := ⟨gb412, 0, none⟩) (Kd.V_mono HO_6.out (fun k_ hk => (⟨hk, hk.2⟩ : _ ∧ k_ ≠ gb412))) (fun _ hk => hk.2) (.int .u64 ((rd_T31 l1 x9_1).f0))) (fun _ hk => hk.2) (.slice Ao24 x7_1.length co24)) (fun _ h_ => h_.1))) hb); have n1_ := Aside0.mk (Kd.V_below (by (with_reducible repeat (first | apply Kd.V_alloc | apply Kd.V_drewN | apply Kd.V_drew)); exact (Kd.V_mono (Kd.V_far (p := ⟨gb412, 1, none⟩) (Kd.V_far (p := ⟨gb412, 0, none⟩) (Kd.V_mono HO_7.out (fun k_ hk => (⟨hk, hk.2⟩ : _ ∧ k_ ≠ gb412))) (fun _ hk => hk.2) (.int .u64 ((rd_T31 l1 x9_1).f0))) (fun _ hk => hk.2) (.slice Ao24 x7_1.length co24)) (fun _ h_ => h_.1))) hb); have n2_ := Aside0.mk (Kd.V_below (by (with_reducible repeat (first | apply Kd.V_alloc | apply Kd.V_drewN | apply Kd.V_drew)); exact (Kd.V_mono (Kd.V_far (p := ⟨gb412, 1, none⟩) (Kd.V_far (p := ⟨gb412, 0, none⟩) (Kd.V_mono HO_410001.out (fun k_ hk => (⟨hk, hk.2⟩ : _ ∧ k_ ≠ gb412))) (fun _ hk => hk.2) (.int .u64 ((rd_T31 l1 x9_1).f0))) (fun _ hk => hk.2) (.slice Ao24 x7_1.length co24)) (fun _ h_ => h_.1))) hb); have n3_ := bb BK402 hb; have n4_ := bb BK409 hb; have n5_ := bb BK411 hb; have n6_ := bbp (.cells #[.int .u64 ((rd_T31 l1 x9_1).f0), .slice Ao24 x7_1.length co24] 115 (0, 0)) BK412 hb; have n7_ := bs HB hb; clear HO_6; clear HO_7; clear HO_410001; clear BK402; clear BK409; clear BK411; clear BK412; clear HB; have HO_6 := n0_; have HO_7 := n1_; have HO_410001 := n2_; have BK402 := n3_; have BK409 := n4_; have BK411 := n5_; have BK412 := n6_; have HB := n7_; clear n0_ n1_ n2_ n3_ n4_ n5_ n6_ n7_; (try clear hb); (try clear hb2); (try clear hk); (try clear hi)))
            go_meet
            case rel => exact ⟨_, (t413), rs, H', ⟨by have := HK1.out; first | omega | exact Nat.le_refl _⟩, ⟨by (with_reducible repeat (first | apply Kd.V_alloc | apply Kd.V_drewN | apply Kd.V_drew)); exact Kd.V_mono HO_6.out (fun _ hk => ⟨hk.1.1.1, ⟨hk.1.1.2, ⟨hk.1.2, hk.2⟩⟩⟩)⟩, ⟨by (with_reducible repeat (first | apply Kd.V_alloc | apply Kd.V_drewN | apply Kd.V_drew)); exact Kd.V_mono HO_7.out (fun _ hk => ⟨hk.1.1.1, ⟨hk.1.1.2, ⟨hk.1.2, hk.2⟩⟩⟩)⟩, ⟨by (with_reducible repeat (first | apply Kd.V_alloc | apply Kd.V_drewN | apply Kd.V_drew)); exact Kd.V_mono HO_410001.out (fun _ hk => ⟨hk.1.1.1, ⟨hk.1.1.2, ⟨hk.1.2, hk.2⟩⟩⟩)⟩, ⟨by (with_reducible repeat (first | apply Kd.V_alloc | apply Kd.V_drewN | apply Kd.V_drew)); exact Kd.V_mono HO_7.out (fun _ hk => ⟨hk.1.1.1, ⟨hk.1.1.2, ⟨hk.1.2, hk.2⟩⟩⟩)⟩, ⟨bk BK402⟩, ⟨bk BK409⟩, ⟨bk BK411⟩, ⟨bk BK412⟩, ⟨bw HB⟩⟩
         case rest =>
          clear HC19; (try clear c1); (try clear c2); (try clear p2); (try clear c3); (try clear c4); (try clear p4); (try clear q4); (try clear hx4); (try clear c10); (try clear c12); (try clear c12b0); (try clear c13); (try clear c13b0); (try clear c14); (try clear c14b0); (try clear c14b1); (try clear c16); (try clear c17); (try clear c21); (try clear c22); (try clear c26); (try clear c27); (try clear c28); (try clear c30); (try clear c30b0); (try clear c30b1); (try clear c31); (try clear c32); (try clear c33); (try clear c34); (try clear c36); (try clear c37); (try clear c41); (try clear p41); (try clear q41); (try clear hx41); (try clear hcz11_0); (try clear hcz11_1); (try clear hcz18_0); (try clear hcz18_1); (try clear hcz23_0); (try clear hcz23_1); (try clear hcz29_0); (try clear hcz29_1); (try clear hcz35_0); (try clear hcz35_1); (try clear hcz38_0); (try clear hcz38_1); (try clear hcz5_0); (try clear hcz5_1); (try clear hcz5_2); (try clear hcz5_3); (try clear hcz5_4); (try clear hfz11_0); (try clear hfz11_1); (try clear hfz18_0); (try clear hfz18_1); (try clear hfz23_0); (try clear hfz23_1); (try clear hfz29_0); (try clear hfz29_1); (try clear hfz35_0); (try clear hfz35_1); (try clear hfz38_0); (try clear hfz38_1); (try clear hfz5_0); (try clear hfz5_1); (try clear hfz5_2); (try clear hfz5_3); (try clear hfz5_4); (try clear hx410_0); (try clear hx410_1); (try clear p2); (try clear p410); (try clear q410)
          obtain ⟨kq, x42_18, rfl, HA, HJ18, HO_6, HO_7, HO_410001, HO_413001, BK402, BK409, BK411, BK412, HB⟩ := hcut
          cases kq with
          | zero => exact absurd HA.out (by simp [turnstileref24_flow.j1])
          | succ kj18 =>
           have H := HA.out; clear HA
           simp only [turnstileref24_flow.j1] at H
           have HC42 := Aside0.mk H; clear H
           go_upto_if 42 with (fail)
           go_cut [] (fun wc => ∃ (kq : Nat) (x410000_41 : Int) (x410001_41 : List Int) (u410001 : Value), Aside0 (turnstileref24_flow.j2 kq l1 t403 x7_1 x9_1 a0_0 a0_1 a0_2 a0_3 a0_4 x410000_41 x410001_41 ((rd_T31 l1 x9_1).f0) ((rd_T31 l1 x9_1).f1) = some (r1, r2)) ∧ Aside0 (kq ≤ kj18) ∧ Aside0 (Kd.V (Kd.int .u64) 22 wc w.heap.size (fun k_ => k_ ≠ gb402 ∧ k_ ≠ gb409 ∧ k_ ≠ gb411 ∧ k_ ≠ gb412) v404 t403) ∧ Aside0 (Kd.V (Kd.int .u64) 22 wc w.heap.size (fun k_ => k_ ≠ gb402 ∧ k_ ≠ gb409 ∧ k_ ≠ gb411 ∧ k_ ≠ gb412) (.slice Ao24 x7_1.length co24) x7_1) ∧ Aside0 (Kd.V (Kd.int .u64) 22 wc w.heap.size (fun k_ => k_ ≠ gb402 ∧ k_ ≠ gb409 ∧ k_ ≠ gb411 ∧ k_ ≠ gb412) u410001 x410001_41) ∧ Aside0 (Kd.V (Kd.int .u64) 22 wc w.heap.size (fun k_ => k_ ≠ gb402 ∧ k_ ≠ gb409 ∧ k_ ≠ gb411 ∧ k_ ≠ gb412) (.slice Ao24 x7_1.length co24) x7_1) ∧ Aside0 (wc.heap[gb402]? = some (.cells #[.int .i64 a0_0, .int .u64 a0_1, .int .u64 a0_2, .int .u64 a0_3, .int .u64 a0_4] 24 (0, 0))) ∧ Aside0 (wc.heap[gb409]? = some (.cells #[.int .u64 x410000_41, u410001] 115 (0, 0))) ∧ Aside0 (wc.heap[gb411]? = some (.cells #[.int .u64 ((rd_T31 l1 x9_1).f0), .int .u64 ((rd_T31 l1 x9_1).f1)] 31 (0, 0))) ∧ Aside0 (wc.heap[gb412]? = some (.cells #[.int .u64 ((rd_T31 l1 x9_1).f0), (.slice Ao24 x7_1.length co24)] 115 (0, 0))) ∧ Aside0 (Below w.heap.size w wc))
           case first =>
            have H := HC42.out; clear HC42
            by_cases c43 : x42_18 = true
            · subst c43
              have H1 : (turnstileref24_flow.j2 kj18 l1 t403 x7_1 x9_1 a0_0 a0_1 a0_2 a0_3 a0_4 ((rd_T31 l1 x9_1).f0) x7_1 ((rd_T31 l1 x9_1).f0) ((rd_T31 l1 x9_1).f1)) = some (r1, r2) := by rw [if_pos rfl] at H; exact H
              clear H; have H := H1; clear H1
              have H' := Aside0.mk H
              clear H; have hnb44 := NB412_402.out; have hnc44 := NB402_412.out; have hnb45 := NB412_409.out; have hnc45 := NB409_412.out; have hnb46 := NB412_411.out; have hnc46 := NB411_412.out
              obtain ⟨hcz47_0, hcz47_1, hfz47_0, hfz47_1⟩ := bc2 BK412
              have hnb48 := NB409_402.out; have hnc48 := NB402_409.out; have hnb49 := NB409_411.out; have hnc49 := NB411_409.out
              obtain ⟨hcz50_0, hcz50_1, hfz50_0, hfz50_1⟩ := bc2 BK409
              go_wp2
              go_meet
              case rel => exact ⟨_, (((rd_T31 l1 x9_1).f0)), (x7_1), (.slice Ao24 x7_1.length co24), H', ⟨by have := HK1.out; have := HJ18.out; first | omega | exact Nat.le_refl _⟩, ⟨by (with_reducible repeat (first | apply Kd.V_alloc | apply Kd.V_drewN | apply Kd.V_drew)); exact Kd.V_mono (Kd.V_far (p := ⟨gb409, 1, none⟩) (Kd.V_far (p := ⟨gb409, 0, none⟩) (Kd.V_mono HO_6.out (fun k_ hk => (⟨hk, hk.2.1⟩ : _ ∧ k_ ≠ gb409))) (fun _ hk => hk.2) (.int .u64 ((rd_T31 l1 x9_1).f0))) (fun _ hk => hk.2) (.slice Ao24 x7_1.length co24)) (fun _ hk => ⟨hk.1.1, ⟨hk.1.2.1, ⟨hk.1.2.2.1, hk.1.2.2.2⟩⟩⟩)⟩, ⟨by (with_reducible repeat (first | apply Kd.V_alloc | apply Kd.V_drewN | apply Kd.V_drew)); exact Kd.V_mono (Kd.V_far (p := ⟨gb409, 1, none⟩) (Kd.V_far (p := ⟨gb409, 0, none⟩) (Kd.V_mono HO_7.out (fun k_ hk => (⟨hk, hk.2.1⟩ : _ ∧ k_ ≠ gb409))) (fun _ hk => hk.2) (.int .u64 ((rd_T31 l1 x9_1).f0))) (fun _ hk => hk.2) (.slice Ao24 x7_1.length co24)) (fun _ hk => ⟨hk.1.1, ⟨hk.1.2.1, ⟨hk.1.2.2.1, hk.1.2.2.2⟩⟩⟩)⟩, ⟨by (with_reducible repeat (first | apply Kd.V_alloc | apply Kd.V_drewN | apply Kd.V_drew)); exact Kd.V_mono (Kd.V_far (p := ⟨gb409, 1, none⟩) (Kd.V_far (p := ⟨gb409, 0, none⟩) (Kd.V_mono HO_413001.out (fun k_ hk => (⟨hk, hk.2.1⟩ : _ ∧ k_ ≠ gb409))) (fun _ hk => hk.2) (.int .u64 ((rd_T31 l1 x9_1).f0))) (fun _ hk => hk.2) (.slice Ao24 x7_1.length co24)) (fun _ hk => ⟨hk.1.1, ⟨hk.1.2.1, ⟨hk.1.2.2.1, hk.1.2.2.2⟩⟩⟩)⟩, ⟨by (with_reducible repeat (first | apply Kd.V_alloc | apply Kd.V_drewN | apply Kd.V_drew)); exact Kd.V_mono (Kd.V_far (p := ⟨gb409, 1, none⟩) (Kd.V_far (p := ⟨gb409, 0, none⟩) (Kd.V_mono HO_413001.out (fun k_ hk => (⟨hk, hk.2.1⟩ : _ ∧ k_ ≠ gb409))) (fun _ hk => hk.2) (.int .u64 ((rd_T31 l1 x9_1).f0))) (fun _ hk => hk.2) (.slice Ao24 x7_1.length co24)) (fun _ hk => ⟨hk.1.1, ⟨hk.1.2.1, ⟨hk.1.2.2.1, hk.1.2.2.2⟩⟩⟩)⟩, ⟨bk BK402⟩, ⟨bk BK409⟩, ⟨bk BK411⟩, ⟨bk BK412⟩, ⟨bw HB⟩⟩
            · replace c43 := Bool.eq_false_iff.mpr c43
              subst c43
              have H1 : (turnstileref24_flow.j2 kj18 l1 t403 x7_1 x9_1 a0_0 a0_1 a0_2 a0_3 a0_4 x410000_1 x410001_1 ((rd_T31 l1 x9_1).f0) ((rd_T31 l1 x9_1).f1)) = some (r1, r2) := by rw [if_neg (show ¬ (false = true) by decide)] at H; exact H
              clear H; have H := H1; clear H1
              have H' := Aside0.mk H
              clear H
              go_wp2
              go_meet
              case rel => exact ⟨_, (x410000_1), (x410001_1), (u410001), H', ⟨by have := HK1.out; have := HJ18.out; first | omega | exact Nat.le_refl _⟩, ⟨vo HO_6⟩, ⟨vo HO_7⟩, ⟨vo HO_410001⟩, ⟨vo HO_413001⟩, ⟨bk BK402⟩, ⟨bk BK409⟩, ⟨bk BK411⟩, ⟨bk BK412⟩, ⟨bw HB⟩⟩
           case rest =>
            clear HC42; (try clear c1); (try clear c2); (try clear p2); (try clear c3); (try clear c4); (try clear p4); (try clear q4); (try clear hx4); (try clear c10); (try clear c12); (try clear c12b0); (try clear c13); (try clear c13b0); (try clear c14); (try clear c14b0); (try clear c14b1); (try clear c16); (try clear c17); (try clear c21); (try clear c22); (try clear c26); (try clear c27); (try clear c28); (try clear c30); (try clear c30b0); (try clear c30b1); (try clear c31); (try clear c32); (try clear c33); (try clear c34); (try clear c36); (try clear c37); (try clear c41); (try clear p41); (try clear q41); (try clear hx41); (try clear c43); (try clear c44); (try clear c45); (try clear c46); (try clear c48); (try clear c49); (try clear hcz11_0); (try clear hcz11_1); (try clear hcz18_0); (try clear hcz18_1); (try clear hcz23_0); (try clear hcz23_1); (try clear hcz29_0); (try clear hcz29_1); (try clear hcz35_0); (try clear hcz35_1); (try clear hcz38_0); (try clear hcz38_1); (try clear hcz47_0); (try clear hcz47_1); (try clear hcz50_0); (try clear hcz50_1); (try clear hcz5_0); (try clear hcz5_1); (try clear hcz5_2); (try clear hcz5_3); (try clear hcz5_4); (try clear hfz11_0); (try clear hfz11_1); (try clear hfz18_0); (try clear hfz18_1); (try clear hfz23_0); (try clear hfz23_1); (try clear hfz29_0); (try clear hfz29_1); (try clear hfz35_0); (try clear hfz35_1); (try clear hfz38_0); (try clear hfz38_1); (try clear hfz47_0); (try clear hfz47_1); (try clear hfz50_0)
            (try clear hfz50_1); (try clear hfz5_0); (try clear hfz5_1); (try clear hfz5_2); (try clear hfz5_3); (try clear hfz5_4); (try clear hx410_0); (try clear hx410_1); (try clear p2); (try clear p4); (try clear p41); (try clear p410); (try clear q4); (try clear q41); (try clear q410)
            obtain ⟨kq, x410000_41, x410001_41, u410001, HA, HJ41, HO_6, HO_7, HO_410001, HO_413001, BK402, BK409, BK411, BK412, HB⟩ := hcut
            cases kq with
            | zero => exact absurd HA.out (by simp [turnstileref24_flow.j2])
            | succ kj41 =>
             have H := HA.out; clear HA
             simp only [turnstileref24_flow.j2] at H
             replace H := Option.bind_eq_some_iff.mp H
             obtain ⟨t414, A510, H⟩ := H
             replace H : ((turnstileref24_Plus.f kj41 x7_1 t414).bind fun t417 => ((turnstileref24_Of.f kj41 ((rd_T31 l1 x9_1).f1)).bind fun t420 => ((turnstileref24_Plus.f kj41 x7_1 t420).bind fun t423 => ((turnstileref24_Of.f kj41 x410000_41).bind fun t426 => ((turnstileref24_Times.f kj41 t417 t403).bind fun t429 => ((turnstileref24_Plus.f kj41 t426 t429).bind fun t432 => ((turnstileref24_Of.f kj41 ((rd_T31 l1 x9_1).f0)).bind fun t435 => ((turnstileref24_Of.f kj41 a0_2).bind fun t438 => ((turnstileref24_Plus.f kj41 t435 t438).bind fun t441 => ((turnstileref24_Times.f kj41 x410001_41 t403).bind fun t444 => ((turnstileref24_Plus.f kj41 t441 t444).bind fun t447 => ((turnstileref24_AtMost.f kj41 t432 t447).bind fun t450 => (if t450 = true then (turnstileref24_flow.l0 kj41 l1 t403 t423 (wrap64 (x9_1 + 1)) a0_0 a0_1 a0_2 a0_3 a0_4 x410000_41 x410001_41) else (some (([] : List Int), false))))))))))))))) = some (r1, r2) := H
             have A51 := Aside0.mk A510; clear A510; replace H := Option.bind_eq_some_iff.mp H
             obtain ⟨t417, A520, H⟩ := H
             replace H : ((turnstileref24_Of.f kj41 ((rd_T31 l1 x9_1).f1)).bind fun t420 => ((turnstileref24_Plus.f kj41 x7_1 t420).bind fun t423 => ((turnstileref24_Of.f kj41 x410000_41).bind fun t426 => ((turnstileref24_Times.f kj41 t417 t403).bind fun t429 => ((turnstileref24_Plus.f kj41 t426 t429).bind fun t432 => ((turnstileref24_Of.f kj41 ((rd_T31 l1 x9_1).f0)).bind fun t435 => ((turnstileref24_Of.f kj41 a0_2).bind fun t438 => ((turnstileref24_Plus.f kj41 t435 t438).bind fun t441 => ((turnstileref24_Times.f kj41 x410001_41 t403).bind fun t444 => ((turnstileref24_Plus.f kj41 t441 t444).bind fun t447 => ((turnstileref24_AtMost.f kj41 t432 t447).bind fun t450 => (if t450 = true then (turnstileref24_flow.l0 kj41 l1 t403 t423 (wrap64 (x9_1 + 1)) a0_0 a0_1 a0_2 a0_3 a0_4 x410000_41 x410001_41) else (some (([] : List Int), false)))))))))))))) = some (r1, r2) := H
             have A52 := Aside0.mk A520; clear A520; replace H := Option.bind_eq_some_iff.mp H
             obtain ⟨t420, A530, H⟩ := H
             replace H : ((turnstileref24_Plus.f kj41 x7_1 t420).bind fun t423 => ((turnstileref24_Of.f kj41 x410000_41).bind fun t426 => ((turnstileref24_Times.f kj41 t417 t403).bind fun t429 => ((turnstileref24_Plus.f kj41 t426 t429).bind fun t432 => ((turnstileref24_Of.f kj41 ((rd_T31 l1 x9_1).f0)).bind fun t435 => ((turnstileref24_Of.f kj41 a0_2).bind fun t438 => ((turnstileref24_Plus.f kj41 t435 t438).bind fun t441 => ((turnstileref24_Times.f kj41 x410001_41 t403).bind fun t444 => ((turnstileref24_Plus.f kj41 t441 t444).bind fun t447 => ((turnstileref24_AtMost.f kj41 t432 t447).bind fun t450 => (if t450 = true then (turnstileref24_flow.l0 kj41 l1 t403 t423 (wrap64 (x9_1 + 1)) a0_0 a0_1 a0_2 a0_3 a0_4 x410000_41 x410001_41) else (some (([] : List Int), false))))))))))))) = some (r1, r2) := H
             have A53 := Aside0.mk A530; clear A530; replace H := Option.bind_eq_some_iff.mp H
             obtain ⟨t423, A540, H⟩ := H
             replace H : ((turnstileref24_Of.f kj41 x410000_41).bind fun t426 => ((turnstileref24_Times.f kj41 t417 t403).bind fun t429 => ((turnstileref24_Plus.f kj41 t426 t429).bind fun t432 => ((turnstileref24_Of.f kj41 ((rd_T31 l1 x9_1).f0)).bind fun t435 => ((turnstileref24_Of.f kj41 a0_2).bind fun t438 => ((turnstileref24_Plus.f kj41 t435 t438).bind fun t441 => ((turnstileref24_Times.f kj41 x410001_41 t403).bind fun t444 => ((turnstileref24_Plus.f kj41 t441 t444).bind fun t447 => ((turnstileref24_AtMost.f kj41 t432 t447).bind fun t450 => (if t450 = true then (turnstileref24_flow.l0 kj41 l1 t403 t423 (wrap64 (x9_1 + 1)) a0_0 a0_1 a0_2 a0_3 a0_4 x410000_41 x410001_41) else (some (([] : List Int), false)))))))))))) = some (r1, r2) := H
             have A54 := Aside0.mk A540; clear A540; replace H := Option.bind_eq_some_iff.mp H
             obtain ⟨t426, A550, H⟩ := H
             replace H : ((turnstileref24_Times.f kj41 t417 t403).bind fun t429 => ((turnstileref24_Plus.f kj41 t426 t429).bind fun t432 => ((turnstileref24_Of.f kj41 ((rd_T31 l1 x9_1).f0)).bind fun t435 => ((turnstileref24_Of.f kj41 a0_2).bind fun t438 => ((turnstileref24_Plus.f kj41 t435 t438).bind fun t441 => ((turnstileref24_Times.f kj41 x410001_41 t403).bind fun t444 => ((turnstileref24_Plus.f kj41 t441 t444).bind fun t447 => ((turnstileref24_AtMost.f kj41 t432 t447).bind fun t450 => (if t450 = true then (turnstileref24_flow.l0 kj41 l1 t403 t423 (wrap64 (x9_1 + 1)) a0_0 a0_1 a0_2 a0_3 a0_4 x410000_41 x410001_41) else (some (([] : List Int), false))))))))))) = some (r1, r2) := H
             have A55 := Aside0.mk A550; clear A550; replace H := Option.bind_eq_some_iff.mp H
             obtain ⟨t429, A560, H⟩ := H
             replace H : ((turnstileref24_Plus.f kj41 t426 t429).bind fun t432 => ((turnstileref24_Of.f kj41 ((rd_T31 l1 x9_1).f0)).bind fun t435 => ((turnstileref24_Of.f kj41 a0_2).bind fun t438 => ((turnstileref24_Plus.f kj41 t435 t438).bind fun t441 => ((turnstileref24_Times.f kj41 x410001_41 t403).bind fun t444 => ((turnstileref24_Plus.f kj41 t441 t444).bind fun t447 => ((turnstileref24_AtMost.f kj41 t432 t447).bind fun t450 => (if t450 = true then (turnstileref24_flow.l0 kj41 l1 t403 t423 (wrap64 (x9_1 + 1)) a0_0 a0_1 a0_2 a0_3 a0_4 x410000_41 x410001_41) else (some (([] : List Int), false)))))))))) = some (r1, r2) := H
             have A56 := Aside0.mk A560; clear A560; replace H := Option.bind_eq_some_iff.mp H
             obtain ⟨t432, A570, H⟩ := H
             replace H : ((turnstileref24_Of.f kj41 ((rd_T31 l1 x9_1).f0)).bind fun t435 => ((turnstileref24_Of.f kj41 a0_2).bind fun t438 => ((turnstileref24_Plus.f kj41 t435 t438).bind fun t441 => ((turnstileref24_Times.f kj41 x410001_41 t403).bind fun t444 => ((turnstileref24_Plus.f kj41 t441 t444).bind fun t447 => ((turnstileref24_AtMost.f kj41 t432 t447).bind fun t450 => (if t450 = true then (turnstileref24_flow.l0 kj41 l1 t403 t423 (wrap64 (x9_1 + 1)) a0_0 a0_1 a0_2 a0_3 a0_4 x410000_41 x410001_41) else (some (([] : List Int), false))))))))) = some (r1, r2) := H
             have A57 := Aside0.mk A570; clear A570; replace H := Option.bind_eq_some_iff.mp H
             obtain ⟨t435, A580, H⟩ := H
             replace H : ((turnstileref24_Of.f kj41 a0_2).bind fun t438 => ((turnstileref24_Plus.f kj41 t435 t438).bind fun t441 => ((turnstileref24_Times.f kj41 x410001_41 t403).bind fun t444 => ((turnstileref24_Plus.f kj41 t441 t444).bind fun t447 => ((turnstileref24_AtMost.f kj41 t432 t447).bind fun t450 => (if t450 = true then (turnstileref24_flow.l0 kj41 l1 t403 t423 (wrap64 (x9_1 + 1)) a0_0 a0_1 a0_2 a0_3 a0_4 x410000_41 x410001_41) else (some (([] : List Int), false)))))))) = some (r1, r2) := H
             have A58 := Aside0.mk A580; clear A580; replace H := Option.bind_eq_some_iff.mp H
             obtain ⟨t438, A590, H⟩ := H
             replace H : ((turnstileref24_Plus.f kj41 t435 t438).bind fun t441 => ((turnstileref24_Times.f kj41 x410001_41 t403).bind fun t444 => ((turnstileref24_Plus.f kj41 t441 t444).bind fun t447 => ((turnstileref24_AtMost.f kj41 t432 t447).bind fun t450 => (if t450 = true then (turnstileref24_flow.l0 kj41 l1 t403 t423 (wrap64 (x9_1 + 1)) a0_0 a0_1 a0_2 a0_3 a0_4 x410000_41 x410001_41) else (some (([] : List Int), false))))))) = some (r1, r2) := H
             have A59 := Aside0.mk A590; clear A590; replace H := Option.bind_eq_some_iff.mp H
             obtain ⟨t441, A600, H⟩ := H
             replace H : ((turnstileref24_Times.f kj41 x410001_41 t403).bind fun t444 => ((turnstileref24_Plus.f kj41 t441 t444).bind fun t447 => ((turnstileref24_AtMost.f kj41 t432 t447).bind fun t450 => (if t450 = true then (turnstileref24_flow.l0 kj41 l1 t403 t423 (wrap64 (x9_1 + 1)) a0_0 a0_1 a0_2 a0_3 a0_4 x410000_41 x410001_41) else (some (([] : List Int), false)))))) = some (r1, r2) := H
             have A60 := Aside0.mk A600; clear A600; replace H := Option.bind_eq_some_iff.mp H
             obtain ⟨t444, A610, H⟩ := H
             replace H : ((turnstileref24_Plus.f kj41 t441 t444).bind fun t447 => ((turnstileref24_AtMost.f kj41 t432 t447).bind fun t450 => (if t450 = true then (turnstileref24_flow.l0 kj41 l1 t403 t423 (wrap64 (x9_1 + 1)) a0_0 a0_1 a0_2 a0_3 a0_4 x410000_41 x410001_41) else (some (([] : List Int), false))))) = some (r1, r2) := H
             have A61 := Aside0.mk A610; clear A610; replace H := Option.bind_eq_some_iff.mp H
             obtain ⟨t447, A620, H⟩ := H
             replace H : ((turnstileref24_AtMost.f kj41 t432 t447).bind fun t450 => (if t450 = true then (turnstileref24_flow.l0 kj41 l1 t403 t423 (wrap64 (x9_1 + 1)) a0_0 a0_1 a0_2 a0_3 a0_4 x410000_41 x410001_41) else (some (([] : List Int), false)))) = some (r1, r2) := H
             have A62 := Aside0.mk A620; clear A620; replace H := Option.bind_eq_some_iff.mp H
             obtain ⟨t450, A630, H⟩ := H
             replace H : (if t450 = true then (turnstileref24_flow.l0 kj41 l1 t403 t423 (wrap64 (x9_1 + 1)) a0_0 a0_1 a0_2 a0_3 a0_4 x410000_41 x410001_41) else (some (([] : List Int), false))) = some (r1, r2) := H
             have A63 := Aside0.mk A630; clear A630
             by_cases c64 : t450 = true
             · subst c64
               have H1 : (turnstileref24_flow.l0 kj41 l1 t403 t423 (wrap64 (x9_1 + 1)) a0_0 a0_1 a0_2 a0_3 a0_4 x410000_41 x410001_41) = some (r1, r2) := by rw [if_pos rfl] at H; exact H
               clear H; have H := H1; clear H1
               have H' := Aside0.mk H
               clear H; have hnb65 := NB411_402.out; have hnc65 := NB402_411.out; have hnb66 := NB411_409.out; have hnc66 := NB409_411.out; have hnb67 := NB411_412.out; have hnc67 := NB412_411.out
               obtain ⟨hcz68_0, hcz68_1, hfz68_0, hfz68_1⟩ := bc2 BK411
               try go_wp2_with (first | ((with_reducible refine gate_callee (f := 41) rfl ?_); refine gl (some 48) Try.func41 #[.int .u64 (IntKind.u64.wrap (((rd_T31 l1 x9_1).f1) - 1))] ?_; (with_reducible refine (turnstileref24_Of.calls kj41 (IntKind.u64.wrap (((rd_T31 l1 x9_1).f1) - 1)) t414 _ A51.out).mono ?_); rintro e w69 ⟨v415, rfl, ho0, hb⟩; refine ⟨_, rfl, ?_⟩; have HO416 := Aside0.mk (Kd.V_lower (Kd.V_mono (ok' := fun k_ => k_ ≠ gb402 ∧ k_ ≠ gb409 ∧ k_ ≠ gb411 ∧ k_ ≠ gb412) ho0 (fun k_ hk_ => ⟨(Kd.freshB (g := gb402) (o := .cells #[.int .i64 a0_0, .int .u64 a0_1, .int .u64 a0_2, .int .u64 a0_3, .int .u64 a0_4] 24 (0, 0)) (bk BK402) k_ hk_), (Kd.freshB (g := gb409) (o := .cells #[.int .u64 x410000_41, u410001] 115 (0, 0)) (bk BK409) k_ hk_), (Kd.freshB (g := gb411) (o := .cells #[.int .u64 ((rd_T31 l1 x9_1).f0), .int .u64 ((rd_T31 l1 x9_1).f1)] 31 (0, 0)) (bk BK411) k_ hk_), (Kd.freshB (g := gb412) (o := .cells #[.int .u64 ((rd_T31 l1 x9_1).f0), .slice Ao24 x7_1.length co24] 115 (0, 0)) (bk BK412) k_ hk_)⟩)) (below_size (bw HB))); replace HO_6 := Aside0.mk (Kd.V_below (vo HO_6) hb); replace HO_7 := Aside0.mk (Kd.V_below (vo HO_7) hb); replace HO_410001 := Aside0.mk (Kd.V_below (vo HO_410001) hb); replace HO_413001 := Aside0.mk (Kd.V_below (vo HO_413001) hb); replace BK402 := bb BK402 hb; replace BK409 := bb BK409 hb; replace BK411 := bb BK411 hb; replace BK412 := bb BK412 hb; replace HB := bs HB hb; (try clear hb); (try clear hb2); (try clear hk); (try clear hi); (try clear ho0); obtain ⟨Ao70, co70, eo70⟩ := Kd.V_slice HO416.out; subst eo70) | ((with_reducible refine gate_callee (f := 43) rfl ?_); refine gl (some 49) Try.func43 #[.slice Ao24 x7_1.length co24, .slice Ao70 t414.length co70] ?_; (with_reducible refine (turnstileref24_Plus.calls kj41 _ _ x7_1 _ _ t414 t417 _ ?side1 ?side2 ?side3 ?side4 A52.out).mono ?_); (case side1 => exact co (Kd.V_reads' HO_7.out).2.2); (case side2 => exact (Kd.V_reads' HO_7.out).2.1); (case side3 => exact co (Kd.V_reads' HO416.out).2.2); (case side4 => exact (Kd.V_reads' HO416.out).2.1); rintro e w71 ⟨v418, rfl, ho0, hb⟩; refine ⟨_, rfl, ?_⟩; have HO419 := Aside0.mk (Kd.V_lower (Kd.V_mono (ok' := fun k_ => k_ ≠ gb402 ∧ k_ ≠ gb409 ∧ k_ ≠ gb411 ∧ k_ ≠ gb412) ho0 (fun k_ hk_ => ⟨(Kd.freshB (g := gb402) (o := .cells #[.int .i64 a0_0, .int .u64 a0_1, .int .u64 a0_2, .int .u64 a0_3, .int .u64 a0_4] 24 (0, 0)) (bk BK402) k_ hk_), (Kd.freshB (g := gb409) (o := .cells #[.int .u64 x410000_41, u410001] 115 (0, 0)) (bk BK409) k_ hk_), (Kd.freshB (g := gb411) (o := .cells #[.int .u64 ((rd_T31 l1 x9_1).f0), .int .u64 ((rd_T31 l1 x9_1).f1)] 31 (0, 0)) (bk BK411) k_ hk_), (Kd.freshB (g := gb412) (o := .cells #[.int .u64 ((rd_T31 l1 x9_1).f0), .slice Ao24 x7_1.length co24] 115 (0, 0)) (bk BK412) k_ hk_)⟩)) (below_size (bw HB))); replace HO_6 := Aside0.mk (Kd.V_below (vo HO_6) hb); replace HO_7 := Aside0.mk (Kd.V_below (vo HO_7) hb); replace HO_410001 := Aside0.mk (Kd.V_below (vo HO_410001) hb); replace HO_413001 := Aside0.mk (Kd.V_below (vo HO_413001) hb); replace HO416 := Aside0.mk (Kd.V_below (vo HO416) hb); replace BK402 := bb BK402 hb; replace BK409 := bb BK409 hb; replace BK411 := bb BK411 hb; replace BK412 := bb BK412 hb; replace HB := bs HB hb; (try clear hb); (try clear hb2); (try clear hk); (try clear hi); (try clear ho0); obtain ⟨hcz72_0, hcz72_1, hfz72_0, hfz72_1⟩ := bc2 BK411) | ((with_reducible refine gate_callee (f := 41) rfl ?_); refine gl (some 53) Try.func41 #[.int .u64 ((rd_T31 l1 x9_1).f1)] ?_; (with_reducible refine (turnstileref24_Of.calls kj41 ((rd_T31 l1 x9_1).f1) t420 _ A53.out).mono ?_); rintro e w73 ⟨v421, rfl, ho0, hb⟩; refine ⟨_, rfl, ?_⟩; have HO422 := Aside0.mk (Kd.V_lower (Kd.V_mono (ok' := fun k_ => k_ ≠ gb402 ∧ k_ ≠ gb409 ∧ k_ ≠ gb411 ∧ k_ ≠ gb412) ho0 (fun k_ hk_ => ⟨(Kd.freshB (g := gb402) (o := .cells #[.int .i64 a0_0, .int .u64 a0_1, .int .u64 a0_2, .int .u64 a0_3, .int .u64 a0_4] 24 (0, 0)) (bk BK402) k_ hk_), (Kd.freshB (g := gb409) (o := .cells #[.int .u64 x410000_41, u410001] 115 (0, 0)) (bk BK409) k_ hk_), (Kd.freshB (g := gb411) (o := .cells #[.int .u64 ((rd_T31 l1 x9_1).f0), .int .u64 ((rd_T31 l1 x9_1).f1)] 31 (0, 0)) (bk BK411) k_ hk_), (Kd.freshB (g := gb412) (o := .cells #[.int .u64 ((rd_T31 l1 x9_1).f0), .slice Ao24 x7_1.length co24] 115 (0, 0)) (bk BK412) k_ hk_)⟩)) (below_size (bw HB))); replace HO_6 := Aside0.mk (Kd.V_below (vo HO_6) hb); replace HO_7 := Aside0.mk (Kd.V_below (vo HO_7) hb); replace HO_410001 := Aside0.mk (Kd.V_below (vo HO_410001) hb); replace HO_413001 := Aside0.mk (Kd.V_below (vo HO_413001) hb); replace HO416 := Aside0.mk (Kd.V_below (vo HO416) hb); replace HO419 := Aside0.mk (Kd.V_below (vo HO419) hb); replace BK402 := bb BK402 hb; replace BK409 := bb BK409 hb; replace BK411 := bb BK411 hb; replace BK412 := bb BK412 hb; replace HB := bs HB hb; (try clear hb); (try clear hb2); (try clear hk); (try clear hi); (try clear ho0); obtain ⟨Ao74, co74, eo74⟩ := Kd.V_slice HO422.out; subst eo74) | ((with_reducible refine gate_callee (f := 43) rfl ?_); refine gl (some 54) Try.func43 #[.slice Ao24 x7_1.length co24, .slice Ao74 t420.length co74] ?_; (with_reducible refine (turnstileref24_Plus.calls kj41 _ _ x7_1 _ _ t420 t423 _ ?side1 ?side2 ?side3 ?side4 A54.out).mono ?_); (case side1 => exact co (Kd.V_reads' HO_7.out).2.2); (case side2 => exact (Kd.V_reads' HO_7.out).2.1); (case side3 => exact co (Kd.V_reads' HO422.out).2.2); (case side4 => exact (Kd.V_reads' HO422.out).2.1); rintro e w75 ⟨v424, rfl, ho0, hb⟩; refine ⟨_, rfl, ?_⟩; have HO425 := Aside0.mk (Kd.V_lower (Kd.V_mono (ok' := fun k_ => k_ ≠ gb402 ∧ k_ ≠ gb409 ∧ k_ ≠ gb411 ∧ k_ ≠ gb412) ho0 (fun k_ hk_ => ⟨(Kd.freshB (g := gb402) (o := .cells #[.int .i64 a0_0, .int .u64 a0_1, .int .u64 a0_2, .int .u64 a0_3, .int .u64 a0_4] 24 (0, 0)) (bk BK402) k_ hk_), (Kd.freshB (g := gb409) (o := .cells #[.int .u64 x410000_41, u410001] 115 (0, 0)) (bk BK409) k_ hk_), (Kd.freshB (g := gb411) (o := .cells #[.int .u64 ((rd_T31 l1 x9_1).f0), .int .u64 ((rd_T31 l1 x9_1).f1)] 31 (0, 0)) (bk BK411) k_ hk_), (Kd.freshB (g := gb412) (o := .cells #[.int .u64 ((rd_T31 l1 x9_1).f0), .slice Ao24 x7_1.length co24] 115 (0, 0)) (bk BK412) k_ hk_)⟩)) (below_size (bw HB))); replace HO_6 := Aside0.mk (Kd.V_below (vo HO_6) hb); replace HO_7 := Aside0.mk (Kd.V_below (vo HO_7) hb); replace HO_410001 := Aside0.mk (Kd.V_below (vo HO_410001) hb); replace HO_413001 := Aside0.mk (Kd.V_below (vo HO_413001) hb); replace HO416 := Aside0.mk (Kd.V_below (vo HO416) hb); replace HO419 := Aside0.mk (Kd.V_below (vo HO419) hb); replace HO422 := Aside0.mk (Kd.V_below (vo HO422) hb); replace BK402 := bb BK402 hb; replace BK409 := bb BK409 hb; replace BK411 := bb BK411 hb; replace BK412 := bb BK412 hb; replace HB := bs HB hb; (try clear hb); (try clear hb2); (try clear hk); (try clear hi); (try clear ho0)))
               replace HO_6 := Aside0.mk (Kd.V_drew HO_6.out); replace HO_7 := Aside0.mk (Kd.V_drew HO_7.out); replace HO_410001 := Aside0.mk (Kd.V_drew HO_410001.out); replace HO_413001 := Aside0.mk (Kd.V_drew HO_413001.out); replace HO416 := Aside0.mk (Kd.V_drew HO416.out); replace HO419 := Aside0.mk (Kd.V_drew HO419.out); replace HO422 := Aside0.mk (Kd.V_drew HO422.out); replace HO425 := Aside0.mk (Kd.V_drew HO425.out); replace BK402 := Aside0.mk (blk_drew BK402.out); replace BK409 := Aside0.mk (blk_drew BK409.out); replace BK411 := Aside0.mk (blk_drew BK411.out); replace BK412 := Aside0.mk (blk_drew BK412.out); replace HB := Aside0.mk (below_drew1 HB.out)
               refine start_ (n := 21) (S := fun w' => w'.cell? ⟨gb409, 0, none⟩ = some (.int .u64 x410000_41) ∧ w'.cell? ⟨gb409, 1, none⟩ = some (u410001) ∧ w'.cell? ⟨gb411, 0, none⟩ = some (.int .u64 ((rd_T31 l1 x9_1).f0)) ∧ w'.cell? ⟨gb411, 1, none⟩ = some (.int .u64 ((rd_T31 l1 x9_1).f1)) ∧ w'.cell? ⟨gb402, 0, none⟩ = some (.int .i64 a0_0) ∧ w'.cell? ⟨gb402, 1, none⟩ = some (.int .u64 a0_1) ∧ w'.cell? ⟨gb402, 2, none⟩ = some (.int .u64 a0_2) ∧ w'.cell? ⟨gb402, 3, none⟩ = some (.int .u64 a0_3) ∧ w'.cell? ⟨gb402, 4, none⟩ = some (.int .u64 a0_4)) (ds := []) #[false, false, false, false, false, false, false, false, false, false, false, false, false, false, false, false, false, false, false, false, false] (by kernel_rfl) rfl rfl ⟨(blk_cell BK409.out 0).trans rfl, (blk_cell BK409.out 1).trans rfl, (blk_cell BK411.out 0).trans rfl, (blk_cell BK411.out 1).trans rfl, (blk_cell BK402.out 0).trans rfl, (blk_cell BK402.out 1).trans rfl, (blk_cell BK402.out 2).trans rfl, (blk_cell BK402.out 3).trans rfl, (blk_cell BK402.out 4).trans rfl⟩ (fun hHeld => ?_); refine with_tabW turnstileref24_flow.tab15 turnstileref24_flow.bits15 (fun HT_ HW_ => ?_)
               generalize w75.drew = w76 at HO_6 HO_7 HO_410001 HO_413001 HO416 HO419 HO422 HO425 BK402 BK409 BK411 BK412 HB hHeld ⊢
               refine chain_ (fuel := 10) [(0, 0, some 55), (3, 0, some 58), (4, 0, some 59), (7, 0, some 62), (10, 0, some 65), (14, 0, some 69), (16, 0, some 71), (1, 1, some 56), (8, 1, some 63), (11, 1, some 66), (15, 1, some 70)] #[true, true, false, true, true, false, false, true, true, false, true, true, false, false, true, true, true, false, false, false, false] HT_.out HW_.out (by kernel_rfl) (fun _ _ _ _ _ h => h) (Or.inr hHeld) rfl ?_
               (iterate 7 refine lkP ?_); (iterate 4 refine lkT ?_); refine .nil ?_
               refine one_ (i := 2) (N := some 57) #[true, true, true, true, true, false, false, true, true, false, true, true, false, false, true, true, true, false, false, false, false] rfl rfl (one_of HT_.out (by kernel_rfl)) (by decide) (fun K hK => ?_)
               refine ge Try.func41 #[.int .u64 x410000_41] ?_
               with_reducible refine (turnstileref24_Of.calls kj41 x410000_41 t426 _ A55.out).mono ?_
               rintro e w77 ⟨v427, rfl, ho0, hb⟩
               refine ⟨_, rfl, ?_⟩
               have HO428 := Aside0.mk (Kd.V_lower (Kd.V_mono (ok' := fun k_ => k_ ≠ gb402 ∧ k_ ≠ gb409 ∧ k_ ≠ gb411 ∧ k_ ≠ gb412) ho0 (fun k_ hk_ => ⟨(Kd.freshB (g := gb402) (o := .cells #[.int .i64 a0_0, .int .u64 a0_1, .int .u64 a0_2, .int .u64 a0_3, .int .u64 a0_4] 24 (0, 0)) (bk BK402) k_ hk_), (Kd.freshB (g := gb409) (o := .cells #[.int .u64 x410000_41, u410001] 115 (0, 0)) (bk BK409) k_ hk_), (Kd.freshB (g := gb411) (o := .cells #[.int .u64 ((rd_T31 l1 x9_1).f0), .int .u64 ((rd_T31 l1 x9_1).f1)] 31 (0, 0)) (bk BK411) k_ hk_), (Kd.freshB (g := gb412) (o := .cells #[.int .u64 ((rd_T31 l1 x9_1).f0), .slice Ao24 x7_1.length co24] 115 (0, 0)) (bk BK412) k_ hk_)⟩)) (below_size (bw HB)))
               replace HO_6 := Aside0.mk (Kd.V_below (vo HO_6) hb); replace HO_7 := Aside0.mk (Kd.V_below (vo HO_7) hb); replace HO_410001 := Aside0.mk (Kd.V_below (vo HO_410001) hb); replace HO_413001 := Aside0.mk (Kd.V_below (vo HO_413001) hb); replace HO416 := Aside0.mk (Kd.V_below (vo HO416) hb); replace HO419 := Aside0.mk (Kd.V_below (vo HO419) hb); replace HO422 := Aside0.mk (Kd.V_below (vo HO422) hb); replace HO425 := Aside0.mk (Kd.V_below (vo HO425) hb); replace BK402 := bb BK402 hb; replace BK409 := bb BK409 hb; replace BK411 := bb BK411 hb; replace BK412 := bb BK412 hb; replace HB := bs HB hb; (try clear hb); (try clear hb2); (try clear hk); (try clear hi); (try clear ho0)
               obtain ⟨Ao78, co78, eo78⟩ := Kd.V_slice HO419.out
               (first | subst eo78 | (injection eo78 with f1_ f2_ f3_; have f4_ := f1_.symm; have f5_ := f3_.symm; clear f1_ f2_ f3_; subst f4_; subst f5_))
               obtain ⟨Ao79, co79, eo79⟩ := Kd.V_slice HO_6.out
               (first | subst eo79 | (injection eo79 with f1_ f2_ f3_; have f4_ := f1_.symm; have f5_ := f3_.symm; clear f1_ f2_ f3_; subst f4_; subst f5_))
               refine hK.out _ _ ⟨(blk_cell BK409.out 0).trans rfl, (blk_cell BK409.out 1).trans rfl, (blk_cell BK411.out 0).trans rfl, (blk_cell BK411.out 1).trans rfl, (blk_cell BK402.out 0).trans rfl, (blk_cell BK402.out 1).trans rfl, (blk_cell BK402.out 2).trans rfl, (blk_cell BK402.out 3).trans rfl, (blk_cell BK402.out 4).trans rfl⟩ (fun hHeld => ?_)
               clear hK K
               refine norm_ (a' := ?_) ?_ ?_
               rotate_left
               · show Act.put _ (some 57) _ = _
                 simp only [Act.put, List.setIfInBounds_toArray, List.set_cons_zero, List.set_cons_succ, i64_w, i32_w]
                 rfl
               refine one_ (i := 5) (N := some 60) #[true, true, true, true, true, true, false, true, true, false, true, true, false, false, true, true, true, false, false, false, false] rfl rfl (one_of HT_.out (by kernel_rfl)) (by decide) (fun K hK => ?_)
               refine ge Try.func45 #[.slice Ao78 t417.length co78, .slice Ao79 t403.length co79] ?_
               with_reducible refine (turnstileref24_Times.calls kj41 _ _ t417 _ _ t403 t429 _ ?side1 ?side2 ?side3 ?side4 A56.out).mono ?_
               (case side1 => exact co (Kd.V_reads' HO419.out).2.2)
               (case side2 => exact (Kd.V_reads' HO419.out).2.1)
               (case side3 => exact co (Kd.V_reads' HO_6.out).2.2)
               (case side4 => exact (Kd.V_reads' HO_6.out).2.1)
               rintro e w80 ⟨v430, rfl, ho0, hb⟩
               refine ⟨_, rfl, ?_⟩
               have HO431 := Aside0.mk (Kd.V_lower (Kd.V_mono (ok' := fun k_ => k_ ≠ gb402 ∧ k_ ≠ gb409 ∧ k_ ≠ gb411 ∧ k_ ≠ gb412) ho0 (fun k_ hk_ => ⟨(Kd.freshB (g := gb402) (o := .cells #[.int .i64 a0_0, .int .u64 a0_1, .int .u64 a0_2, .int .u64 a0_3, .int .u64 a0_4] 24 (0, 0)) (bk BK402) k_ hk_), (Kd.freshB (g := gb409) (o := .cells #[.int .u64 x410000_41, u410001] 115 (0, 0)) (bk BK409) k_ hk_), (Kd.freshB (g := gb411) (o := .cells #[.int .u64 ((rd_T31 l1 x9_1).f0), .int .u64 ((rd_T31 l1 x9_1).f1)] 31 (0, 0)) (bk BK411) k_ hk_), (Kd.freshB (g := gb412) (o := .cells #[.int .u64 ((rd_T31 l1 x9_1).f0), .slice Ao24 x7_1.length co24] 115 (0, 0)) (bk BK412) k_ hk_)⟩)) (below_size (bw HB)))
               replace HO_6 := Aside0.mk (Kd.V_below (vo HO_6) hb); replace HO_7 := Aside0.mk (Kd.V_below (vo HO_7) hb); replace HO_410001 := Aside0.mk (Kd.V_below (vo HO_410001) hb); replace HO_413001 := Aside0.mk (Kd.V_below (vo HO_413001) hb); replace HO416 := Aside0.mk (Kd.V_below (vo HO416) hb); replace HO419 := Aside0.mk (Kd.V_below (vo HO419) hb); replace HO422 := Aside0.mk (Kd.V_below (vo HO422) hb); replace HO425 := Aside0.mk (Kd.V_below (vo HO425) hb); replace HO428 := Aside0.mk (Kd.V_below (vo HO428) hb); replace BK402 := bb BK402 hb; replace BK409 := bb BK409 hb; replace BK411 := bb BK411 hb; replace BK412 := bb BK412 hb; replace HB := bs HB hb; (try clear hb); (try clear hb2); (try clear hk); (try clear hi); (try clear ho0)
               obtain ⟨Ao81, co81, eo81⟩ := Kd.V_slice HO428.out
               (first | subst eo81 | (injection eo81 with f1_ f2_ f3_; have f4_ := f1_.symm; have f5_ := f3_.symm; clear f1_ f2_ f3_; subst f4_; subst f5_))
               obtain ⟨Ao82, co82, eo82⟩ := Kd.V_slice HO431.out
               (first | subst eo82 | (injection eo82 with f1_ f2_ f3_; have f4_ := f1_.symm; have f5_ := f3_.symm; clear f1_ f2_ f3_; subst f4_; subst f5_))
               refine hK.out _ _ ⟨(blk_cell BK409.out 0).trans rfl, (blk_cell BK409.out 1).trans rfl, (blk_cell BK411.out 0).trans rfl, (blk_cell BK411.out 1).trans rfl, (blk_cell BK402.out 0).trans rfl, (blk_cell BK402.out 1).trans rfl, (blk_cell BK402.out 2).trans rfl, (blk_cell BK402.out 3).trans rfl, (blk_cell BK402.out 4).trans rfl⟩ (fun hHeld => ?_)
               clear hK K
               refine norm_ (a' := ?_) ?_ ?_
               rotate_left
               · show Act.put _ (some 60) _ = _
                 simp only [Act.put, List.setIfInBounds_toArray, List.set_cons_zero, List.set_cons_succ, i64_w, i32_w]
                 rfl
               refine one_ (i := 6) (N := some 61) #[true, true, true, true, true, true, true, true, true, false, true, true, false, false, true, true, true, false, false, false, false] rfl rfl (one_of HT_.out (by kernel_rfl)) (by decide) (fun K hK => ?_)
               refine ge Try.func43 #[.slice Ao81 t426.length co81, .slice Ao82 t429.length co82] ?_
               with_reducible refine (turnstileref24_Plus.calls kj41 _ _ t426 _ _ t429 t432 _ ?side1 ?side2 ?side3 ?side4 A57.out).mono ?_
               (case side1 => exact co (Kd.V_reads' HO428.out).2.2)
               (case side2 => exact (Kd.V_reads' HO428.out).2.1)
               (case side3 => exact co (Kd.V_reads' HO431.out).2.2)
               (case side4 => exact (Kd.V_reads' HO431.out).2.1)
               rintro e w83 ⟨v433, rfl, ho0, hb⟩
               refine ⟨_, rfl, ?_⟩
               have HO434 := Aside0.mk (Kd.V_lower (Kd.V_mono (ok' := fun k_ => k_ ≠ gb402 ∧ k_ ≠ gb409 ∧ k_ ≠ gb411 ∧ k_ ≠ gb412) ho0 (fun k_ hk_ => ⟨(Kd.freshB (g := gb402) (o := .cells #[.int .i64 a0_0, .int .u64 a0_1, .int .u64 a0_2, .int .u64 a0_3, .int .u64 a0_4] 24 (0, 0)) (bk BK402) k_ hk_), (Kd.freshB (g := gb409) (o := .cells #[.int .u64 x410000_41, u410001] 115 (0, 0)) (bk BK409) k_ hk_), (Kd.freshB (g := gb411) (o := .cells #[.int .u64 ((rd_T31 l1 x9_1).f0), .int .u64 ((rd_T31 l1 x9_1).f1)] 31 (0, 0)) (bk BK411) k_ hk_), (Kd.freshB (g := gb412) (o := .cells #[.int .u64 ((rd_T31 l1 x9_1).f0), .slice Ao24 x7_1.length co24] 115 (0, 0)) (bk BK412) k_ hk_)⟩)) (below_size (bw HB)))
               replace HO_6 := Aside0.mk (Kd.V_below (vo HO_6) hb); replace HO_7 := Aside0.mk (Kd.V_below (vo HO_7) hb); replace HO_410001 := Aside0.mk (Kd.V_below (vo HO_410001) hb); replace HO_413001 := Aside0.mk (Kd.V_below (vo HO_413001) hb); replace HO416 := Aside0.mk (Kd.V_below (vo HO416) hb); replace HO419 := Aside0.mk (Kd.V_below (vo HO419) hb); replace HO422 := Aside0.mk (Kd.V_below (vo HO422) hb); replace HO425 := Aside0.mk (Kd.V_below (vo HO425) hb); replace HO428 := Aside0.mk (Kd.V_below (vo HO428) hb); replace HO431 := Aside0.mk (Kd.V_below (vo HO431) hb); replace BK402 := bb BK402 hb; replace BK409 := bb BK409 hb; replace BK411 := bb BK411 hb; replace BK412 := bb BK412 hb; replace HB := bs HB hb; (try clear hb); (try clear hb2); (try clear hk); (try clear hi); (try clear ho0)
               refine hK.out _ _ ⟨(blk_cell BK409.out 0).trans rfl, (blk_cell BK409.out 1).trans rfl, (blk_cell BK411.out 0).trans rfl, (blk_cell BK411.out 1).trans rfl, (blk_cell BK402.out 0).trans rfl, (blk_cell BK402.out 1).trans rfl, (blk_cell BK402.out 2).trans rfl, (blk_cell BK402.out 3).trans rfl, (blk_cell BK402.out 4).trans rfl⟩ (fun hHeld => ?_)
               clear hK K
               refine norm_ (a' := ?_) ?_ ?_
               rotate_left
               · show Act.put _ (some 61) _ = _
                 simp only [Act.put, List.setIfInBounds_toArray, List.set_cons_zero, List.set_cons_succ, i64_w, i32_w]
                 rfl
               refine one_ (i := 9) (N := some 64) #[true, true, true, true, true, true, true, true, true, true, true, true, false, false, true, true, true, false, false, false, false] rfl rfl (one_of HT_.out (by kernel_rfl)) (by decide) (fun K hK => ?_)
               refine ge Try.func41 #[.int .u64 ((rd_T31 l1 x9_1).f0)] ?_
               with_reducible refine (turnstileref24_Of.calls kj41 ((rd_T31 l1 x9_1).f0) t435 _ A58.out).mono ?_
               rintro e w84 ⟨v436, rfl, ho0, hb⟩
               refine ⟨_, rfl, ?_⟩
               have HO437 := Aside0.mk (Kd.V_lower (Kd.V_mono (ok' := fun k_ => k_ ≠ gb402 ∧ k_ ≠ gb409 ∧ k_ ≠ gb411 ∧ k_ ≠ gb412) ho0 (fun k_ hk_ => ⟨(Kd.freshB (g := gb402) (o := .cells #[.int .i64 a0_0, .int .u64 a0_1, .int .u64 a0_2, .int .u64 a0_3, .int .u64 a0_4] 24 (0, 0)) (bk BK402) k_ hk_), (Kd.freshB (g := gb409) (o := .cells #[.int .u64 x410000_41, u410001] 115 (0, 0)) (bk BK409) k_ hk_), (Kd.freshB (g := gb411) (o := .cells #[.int .u64 ((rd_T31 l1 x9_1).f0), .int .u64 ((rd_T31 l1 x9_1).f1)] 31 (0, 0)) (bk BK411) k_ hk_), (Kd.freshB (g := gb412) (o := .cells #[.int .u64 ((rd_T31 l1 x9_1).f0), .slice Ao24 x7_1.length co24] 115 (0, 0)) (bk BK412) k_ hk_)⟩)) (below_size (bw HB)))
               replace HO_6 := Aside0.mk (Kd.V_below (vo HO_6) hb); replace HO_7 := Aside0.mk (Kd.V_below (vo HO_7) hb); replace HO_410001 := Aside0.mk (Kd.V_below (vo HO_410001) hb); replace HO_413001 := Aside0.mk (Kd.V_below (vo HO_413001) hb); replace HO416 := Aside0.mk (Kd.V_below (vo HO416) hb); replace HO419 := Aside0.mk (Kd.V_below (vo HO419) hb); replace HO422 := Aside0.mk (Kd.V_below (vo HO422) hb); replace HO425 := Aside0.mk (Kd.V_below (vo HO425) hb); replace HO428 := Aside0.mk (Kd.V_below (vo HO428) hb); replace HO431 := Aside0.mk (Kd.V_below (vo HO431) hb); replace HO434 := Aside0.mk (Kd.V_below (vo HO434) hb); replace BK402 := bb BK402 hb; replace BK409 := bb BK409 hb; replace BK411 := bb BK411 hb; replace BK412 := bb BK412 hb; replace HB := bs HB hb; (try clear hb); (try clear hb2); (try clear hk); (try clear hi); (try clear ho0)
               refine hK.out _ _ ⟨(blk_cell BK409.out 0).trans rfl, (blk_cell BK409.out 1).trans rfl, (blk_cell BK411.out 0).trans rfl, (blk_cell BK411.out 1).trans rfl, (blk_cell BK402.out 0).trans rfl, (blk_cell BK402.out 1).trans rfl, (blk_cell BK402.out 2).trans rfl, (blk_cell BK402.out 3).trans rfl, (blk_cell BK402.out 4).trans rfl⟩ (fun hHeld => ?_)
               clear hK K
               refine norm_ (a' := ?_) ?_ ?_
               rotate_left
               · show Act.put _ (some 64) _ = _
                 simp only [Act.put, List.setIfInBounds_toArray, List.set_cons_zero, List.set_cons_succ, i64_w, i32_w]
                 rfl
               refine one_ (i := 12) (N := some 67) #[true, true, true, true, true, true, true, true, true, true, true, true, true, false, true, true, true, false, false, false, false] rfl rfl (one_of HT_.out (by kernel_rfl)) (by decide) (fun K hK => ?_)
               refine ge Try.func41 #[.int .u64 a0_2] ?_
               with_reducible refine (turnstileref24_Of.calls kj41 a0_2 t438 _ A59.out).mono ?_
               rintro e w85 ⟨v439, rfl, ho0, hb⟩
               refine ⟨_, rfl, ?_⟩
               have HO440 := Aside0.mk (Kd.V_lower (Kd.V_mono (ok' := fun k_ => k_ ≠ gb402 ∧ k_ ≠ gb409 ∧ k_ ≠ gb411 ∧ k_ ≠ gb412) ho0 (fun k_ hk_ => ⟨(Kd.freshB (g := gb402) (o := .cells #[.int .i64 a0_0, .int .u64 a0_1, .int .u64 a0_2, .int .u64 a0_3, .int .u64 a0_4] 24 (0, 0)) (bk BK402) k_ hk_), (Kd.freshB (g := gb409) (o := .cells #[.int .u64 x410000_41, u410001] 115 (0, 0)) (bk BK409) k_ hk_), (Kd.freshB (g := gb411) (o := .cells #[.int .u64 ((rd_T31 l1 x9_1).f0), .int .u64 ((rd_T31 l1 x9_1).f1)] 31 (0, 0)) (bk BK411) k_ hk_), (Kd.freshB (g := gb412) (o := .cells #[.int .u64 ((rd_T31 l1 x9_1).f0), .slice Ao24 x7_1.length co24] 115 (0, 0)) (bk BK412) k_ hk_)⟩)) (below_size (bw HB)))
               replace HO_6 := Aside0.mk (Kd.V_below (vo HO_6) hb); replace HO_7 := Aside0.mk (Kd.V_below (vo HO_7) hb); replace HO_410001 := Aside0.mk (Kd.V_below (vo HO_410001) hb); replace HO_413001 := Aside0.mk (Kd.V_below (vo HO_413001) hb); replace HO416 := Aside0.mk (Kd.V_below (vo HO416) hb); replace HO419 := Aside0.mk (Kd.V_below (vo HO419) hb); replace HO422 := Aside0.mk (Kd.V_below (vo HO422) hb); replace HO425 := Aside0.mk (Kd.V_below (vo HO425) hb); replace HO428 := Aside0.mk (Kd.V_below (vo HO428) hb); replace HO431 := Aside0.mk (Kd.V_below (vo HO431) hb); replace HO434 := Aside0.mk (Kd.V_below (vo HO434) hb); replace HO437 := Aside0.mk (Kd.V_below (vo HO437) hb); replace BK402 := bb BK402 hb; replace BK409 := bb BK409 hb; replace BK411 := bb BK411 hb; replace BK412 := bb BK412 hb; replace HB := bs HB hb; (try clear hb); (try clear hb2); (try clear hk); (try clear hi); (try clear ho0)
               obtain ⟨Ao86, co86, eo86⟩ := Kd.V_slice HO437.out
               (first | subst eo86 | (injection eo86 with f1_ f2_ f3_; have f4_ := f1_.symm; have f5_ := f3_.symm; clear f1_ f2_ f3_; subst f4_; subst f5_))
               obtain ⟨Ao87, co87, eo87⟩ := Kd.V_slice HO440.out
               (first | subst eo87 | (injection eo87 with f1_ f2_ f3_; have f4_ := f1_.symm; have f5_ := f3_.symm; clear f1_ f2_ f3_; subst f4_; subst f5_))
               refine hK.out _ _ ⟨(blk_cell BK409.out 0).trans rfl, (blk_cell BK409.out 1).trans rfl, (blk_cell BK411.out 0).trans rfl, (blk_cell BK411.out 1).trans rfl, (blk_cell BK402.out 0).trans rfl, (blk_cell BK402.out 1).trans rfl, (blk_cell BK402.out 2).trans rfl, (blk_cell BK402.out 3).trans rfl, (blk_cell BK402.out 4).trans rfl⟩ (fun hHeld => ?_)
               clear hK K
               refine norm_ (a' := ?_) ?_ ?_
               rotate_left
               · show Act.put _ (some 67) _ = _
                 simp only [Act.put, List.setIfInBounds_toArray, List.set_cons_zero, List.set_cons_succ, i64_w, i32_w]
                 rfl
               refine one_ (i := 13) (N := some 68) #[true, true, true, true, true, true, true, true, true, true, true, true, true, true, true, true, true, false, false, false, false] rfl rfl (one_of HT_.out (by kernel_rfl)) (by decide) (fun K hK => ?_)
               refine ge Try.func43 #[.slice Ao86 t435.length co86, .slice Ao87 t438.length co87] ?_
               with_reducible refine (turnstileref24_Plus.calls kj41 _ _ t435 _ _ t438 t441 _ ?side1 ?side2 ?side3 ?side4 A60.out).mono ?_
               (case side1 => exact co (Kd.V_reads' HO437.out).2.2)
               (case side2 => exact (Kd.V_reads' HO437.out).2.1)
               (case side3 => exact co (Kd.V_reads' HO440.out).2.2)
               (case side4 => exact (Kd.V_reads' HO440.out).2.1)
               rintro e w88 ⟨v442, rfl, ho0, hb⟩
               refine ⟨_, rfl, ?_⟩
               have HO443 := Aside0.mk (Kd.V_lower (Kd.V_mono (ok' := fun k_ => k_ ≠ gb402 ∧ k_ ≠ gb409 ∧ k_ ≠ gb411 ∧ k_ ≠ gb412) ho0 (fun k_ hk_ => ⟨(Kd.freshB (g := gb402) (o := .cells #[.int .i64 a0_0, .int .u64 a0_1, .int .u64 a0_2, .int .u64 a0_3, .int .u64 a0_4] 24 (0, 0)) (bk BK402) k_ hk_), (Kd.freshB (g := gb409) (o := .cells #[.int .u64 x410000_41, u410001] 115 (0, 0)) (bk BK409) k_ hk_), (Kd.freshB (g := gb411) (o := .cells #[.int .u64 ((rd_T31 l1 x9_1).f0), .int .u64 ((rd_T31 l1 x9_1).f1)] 31 (0, 0)) (bk BK411) k_ hk_), (Kd.freshB (g := gb412) (o := .cells #[.int .u64 ((rd_T31 l1 x9_1).f0), .slice Ao24 x7_1.length co24] 115 (0, 0)) (bk BK412) k_ hk_)⟩)) (below_size (bw HB)))
               replace HO_6 := Aside0.mk (Kd.V_below (vo HO_6) hb); replace HO_7 := Aside0.mk (Kd.V_below (vo HO_7) hb); replace HO_410001 := Aside0.mk (Kd.V_below (vo HO_410001) hb); replace HO_413001 := Aside0.mk (Kd.V_below (vo HO_413001) hb); replace HO416 := Aside0.mk (Kd.V_below (vo HO416) hb); replace HO419 := Aside0.mk (Kd.V_below (vo HO419) hb); replace HO422 := Aside0.mk (Kd.V_below (vo HO422) hb); replace HO425 := Aside0.mk (Kd.V_below (vo HO425) hb); replace HO428 := Aside0.mk (Kd.V_below (vo HO428) hb); replace HO431 := Aside0.mk (Kd.V_below (vo HO431) hb); replace HO434 := Aside0.mk (Kd.V_below (vo HO434) hb); replace HO437 := Aside0.mk (Kd.V_below (vo HO437) hb); replace HO440 := Aside0.mk (Kd.V_below (vo HO440) hb); replace BK402 := bb BK402 hb; replace BK409 := bb BK409 hb; replace BK411 := bb BK411 hb; replace BK412 := bb BK412 hb; replace HB := bs HB hb; (try clear hb); (try clear hb2); (try clear hk); (try clear hi); (try clear ho0)
               obtain ⟨Ao89, co89, eo89⟩ := Kd.V_slice HO_410001.out
               (first | subst eo89 | (injection eo89 with f1_ f2_ f3_; have f4_ := f1_.symm; have f5_ := f3_.symm; clear f1_ f2_ f3_; subst f4_; subst f5_))
               refine hK.out _ _ ⟨(blk_cell BK409.out 0).trans rfl, (blk_cell BK409.out 1).trans rfl, (blk_cell BK411.out 0).trans rfl, (blk_cell BK411.out 1).trans rfl, (blk_cell BK402.out 0).trans rfl, (blk_cell BK402.out 1).trans rfl, (blk_cell BK402.out 2).trans rfl, (blk_cell BK402.out 3).trans rfl, (blk_cell BK402.out 4).trans rfl⟩ (fun hHeld => ?_)
               clear hK K
               refine norm_ (a' := ?_) ?_ ?_
               rotate_left
               · show Act.put _ (some 68) _ = _
                 simp only [Act.put, List.setIfInBounds_toArray, List.set_cons_zero, List.set_cons_succ, i64_w, i32_w]
                 rfl
               refine one_ (i := 17) (N := some 72) #[true, true, true, true, true, true, true, true, true, true, true, true, true, true, true, true, true, true, false, false, false] rfl rfl (one_of HT_.out (by kernel_rfl)) (by decide) (fun K hK => ?_)
               refine ge Try.func45 #[.slice Ao89 x410001_41.length co89, .slice Ao79 t403.length co79] ?_
               with_reducible refine (turnstileref24_Times.calls kj41 _ _ x410001_41 _ _ t403 t444 _ ?side1 ?side2 ?side3 ?side4 A61.out).mono ?_
               (case side1 => exact co (Kd.V_reads' HO_410001.out).2.2)
               (case side2 => exact (Kd.V_reads' HO_410001.out).2.1)
               (case side3 => exact co (Kd.V_reads' HO_6.out).2.2)
               (case side4 => exact (Kd.V_reads' HO_6.out).2.1)
               rintro e w90 ⟨v445, rfl, ho0, hb⟩
               refine ⟨_, rfl, ?_⟩
               have HO446 := Aside0.mk (Kd.V_lower (Kd.V_mono (ok' := fun k_ => k_ ≠ gb402 ∧ k_ ≠ gb409 ∧ k_ ≠ gb411 ∧ k_ ≠ gb412) ho0 (fun k_ hk_ => ⟨(Kd.freshB (g := gb402) (o := .cells #[.int .i64 a0_0, .int .u64 a0_1, .int .u64 a0_2, .int .u64 a0_3, .int .u64 a0_4] 24 (0, 0)) (bk BK402) k_ hk_), (Kd.freshB (g := gb409) (o := .cells #[.int .u64 x410000_41, .slice Ao89 x410001_41.length co89] 115 (0, 0)) (bk BK409) k_ hk_), (Kd.freshB (g := gb411) (o := .cells #[.int .u64 ((rd_T31 l1 x9_1).f0), .int .u64 ((rd_T31 l1 x9_1).f1)] 31 (0, 0)) (bk BK411) k_ hk_), (Kd.freshB (g := gb412) (o := .cells #[.int .u64 ((rd_T31 l1 x9_1).f0), .slice Ao24 x7_1.length co24] 115 (0, 0)) (bk BK412) k_ hk_)⟩)) (below_size (bw HB)))
               replace HO_6 := Aside0.mk (Kd.V_below (vo HO_6) hb); replace HO_7 := Aside0.mk (Kd.V_below (vo HO_7) hb); replace HO_410001 := Aside0.mk (Kd.V_below (vo HO_410001) hb); replace HO_413001 := Aside0.mk (Kd.V_below (vo HO_413001) hb); replace HO416 := Aside0.mk (Kd.V_below (vo HO416) hb); replace HO419 := Aside0.mk (Kd.V_below (vo HO419) hb); replace HO422 := Aside0.mk (Kd.V_below (vo HO422) hb); replace HO425 := Aside0.mk (Kd.V_below (vo HO425) hb); replace HO428 := Aside0.mk (Kd.V_below (vo HO428) hb); replace HO431 := Aside0.mk (Kd.V_below (vo HO431) hb); replace HO434 := Aside0.mk (Kd.V_below (vo HO434) hb); replace HO437 := Aside0.mk (Kd.V_below (vo HO437) hb); replace HO440 := Aside0.mk (Kd.V_below (vo HO440) hb); replace HO443 := Aside0.mk (Kd.V_below (vo HO443) hb); replace BK402 := bb BK402 hb; replace BK409 := bb BK409 hb; replace BK411 := bb BK411 hb; replace BK412 := bb BK412 hb; replace HB := bs HB hb; (try clear hb); (try clear hb2); (try clear hk); (try clear hi); (try clear ho0)
               obtain ⟨Ao91, co91, eo91⟩ := Kd.V_slice HO443.out
               (first | subst eo91 | (injection eo91 with f1_ f2_ f3_; have f4_ := f1_.symm; have f5_ := f3_.symm; clear f1_ f2_ f3_; subst f4_; subst f5_))
               obtain ⟨Ao92, co92, eo92⟩ := Kd.V_slice HO446.out
               (first | subst eo92 | (injection eo92 with f1_ f2_ f3_; have f4_ := f1_.symm; have f5_ := f3_.symm; clear f1_ f2_ f3_; subst f4_; subst f5_))
               refine hK.out _ _ ⟨(blk_cell BK409.out 0).trans rfl, (blk_cell BK409.out 1).trans rfl, (blk_cell BK411.out 0).trans rfl, (blk_cell BK411.out 1).trans rfl, (blk_cell BK402.out 0).trans rfl, (blk_cell BK402.out 1).trans rfl, (blk_cell BK402.out 2).trans rfl, (blk_cell BK402.out 3).trans rfl, (blk_cell BK402.out 4).trans rfl⟩ (fun hHeld => ?_)
               clear hK K
               refine norm_ (a' := ?_) ?_ ?_
               rotate_left
               · show Act.put _ (some 72) _ = _
                 simp only [Act.put, List.setIfInBounds_toArray, List.set_cons_zero, List.set_cons_succ, i64_w, i32_w]
                 rfl
               refine one_ (i := 18) (N := some 73) #[true, true, true, true, true, true, true, true, true, true, true, true, true, true, true, true, true, true, true, false, false] rfl rfl (one_of HT_.out (by kernel_rfl)) (by decide) (fun K hK => ?_)
               refine ge Try.func43 #[.slice Ao91 t441.length co91, .slice Ao92 t444.length co92] ?_
               with_reducible refine (turnstileref24_Plus.calls kj41 _ _ t441 _ _ t444 t447 _ ?side1 ?side2 ?side3 ?side4 A62.out).mono ?_
               (case side1 => exact co (Kd.V_reads' HO443.out).2.2)
               (case side2 => exact (Kd.V_reads' HO443.out).2.1)
               (case side3 => exact co (Kd.V_reads' HO446.out).2.2)
               (case side4 => exact (Kd.V_reads' HO446.out).2.1)
               rintro e w93 ⟨v448, rfl, ho0, hb⟩
               refine ⟨_, rfl, ?_⟩
               have HO449 := Aside0.mk (Kd.V_lower (Kd.V_mono (ok' := fun k_ => k_ ≠ gb402 ∧ k_ ≠ gb409 ∧ k_ ≠ gb411 ∧ k_ ≠ gb412) ho0 (fun k_ hk_ => ⟨(Kd.freshB (g := gb402) (o := .cells #[.int .i64 a0_0, .int .u64 a0_1, .int .u64 a0_2, .int .u64 a0_3, .int .u64 a0_4] 24 (0, 0)) (bk BK402) k_ hk_), (Kd.freshB (g := gb409) (o := .cells #[.int .u64 x410000_41, .slice Ao89 x410001_41.length co89] 115 (0, 0)) (bk BK409) k_ hk_), (Kd.freshB (g := gb411) (o := .cells #[.int .u64 ((rd_T31 l1 x9_1).f0), .int .u64 ((rd_T31 l1 x9_1).f1)] 31 (0, 0)) (bk BK411) k_ hk_), (Kd.freshB (g := gb412) (o := .cells #[.int .u64 ((rd_T31 l1 x9_1).f0), .slice Ao24 x7_1.length co24] 115 (0, 0)) (bk BK412) k_ hk_)⟩)) (below_size (bw HB)))
               replace HO_6 := Aside0.mk (Kd.V_below (vo HO_6) hb); replace HO_7 := Aside0.mk (Kd.V_below (vo HO_7) hb); replace HO_410001 := Aside0.mk (Kd.V_below (vo HO_410001) hb); replace HO_413001 := Aside0.mk (Kd.V_below (vo HO_413001) hb); replace HO416 := Aside0.mk (Kd.V_below (vo HO416) hb); replace HO419 := Aside0.mk (Kd.V_below (vo HO419) hb); replace HO422 := Aside0.mk (Kd.V_below (vo HO422) hb); replace HO425 := Aside0.mk (Kd.V_below (vo HO425) hb); replace HO428 := Aside0.mk (Kd.V_below (vo HO428) hb); replace HO431 := Aside0.mk (Kd.V_below (vo HO431) hb); replace HO434 := Aside0.mk (Kd.V_below (vo HO434) hb); replace HO437 := Aside0.mk (Kd.V_below (vo HO437) hb); replace HO440 := Aside0.mk (Kd.V_below (vo HO440) hb); replace HO443 := Aside0.mk (Kd.V_below (vo HO443) hb); replace HO446 := Aside0.mk (Kd.V_below (vo HO446) hb); replace BK402 := bb BK402 hb; replace BK409 := bb BK409 hb; replace BK411 := bb BK411 hb; replace BK412 := bb BK412 hb; replace HB := bs HB hb; (try clear hb); (try clear hb2); (try clear hk); (try clear hi); (try clear ho0)
               obtain ⟨Ao94, co94, eo94⟩ := Kd.V_slice HO434.out
               (first | subst eo94 | (injection eo94 with f1_ f2_ f3_; have f4_ := f1_.symm; have f5_ := f3_.symm; clear f1_ f2_ f3_; subst f4_; subst f5_))
               obtain ⟨Ao95, co95, eo95⟩ := Kd.V_slice HO449.out
               (first | subst eo95 | (injection eo95 with f1_ f2_ f3_; have f4_ := f1_.symm; have f5_ := f3_.symm; clear f1_ f2_ f3_; subst f4_; subst f5_))
               refine hK.out _ _ ⟨(blk_cell BK409.out 0).trans rfl, (blk_cell BK409.out 1).trans rfl, (blk_cell BK411.out 0).trans rfl, (blk_cell BK411.out 1).trans rfl, (blk_cell BK402.out 0).trans rfl, (blk_cell BK402.out 1).trans rfl, (blk_cell BK402.out 2).trans rfl, (blk_cell BK402.out 3).trans rfl, (blk_cell BK402.out 4).trans rfl⟩ (fun hHeld => ?_)
               clear hK K
               refine norm_ (a' := ?_) ?_ ?_
               rotate_left
               · show Act.put _ (some 73) _ = _
                 simp only [Act.put, List.setIfInBounds_toArray, List.set_cons_zero, List.set_cons_succ, i64_w, i32_w]
                 rfl
               refine one_ (i := 19) (N := some 74) #[true, true, true, true, true, true, true, true, true, true, true, true, true, true, true, true, true, true, true, true, false] rfl rfl (one_of HT_.out (by kernel_rfl)) (by decide) (fun K hK => ?_)
               refine ge Try.func44 #[.slice Ao94 t432.length co94, .slice Ao95 t447.length co95] ?_
               with_reducible refine (turnstileref24_AtMost.calls kj41 _ _ t432 _ _ t447 true _ ?side1 ?side2 ?side3 ?side4 A63.out).mono ?_
               (case side1 => exact co (Kd.V_reads' HO434.out).2.2)
               (case side2 => exact (Kd.V_reads' HO434.out).2.1)
               (case side3 => exact co (Kd.V_reads' HO449.out).2.2)
               (case side4 => exact (Kd.V_reads' HO449.out).2.1)
               rintro e w' ⟨rfl, ⟨nd, rfl⟩⟩
               refine ⟨_, rfl, ?_⟩
               refine hK.out _ _ ⟨(blk_cell BK409.out 0).trans rfl, (blk_cell BK409.out 1).trans rfl, (blk_cell BK411.out 0).trans rfl, (blk_cell BK411.out 1).trans rfl, (blk_cell BK402.out 0).trans rfl, (blk_cell BK402.out 1).trans rfl, (blk_cell BK402.out 2).trans rfl, (blk_cell BK402.out 3).trans rfl, (blk_cell BK402.out 4).trans rfl⟩ (fun hHeld => ?_)
               clear hK K
               refine norm_ (a' := ?_) ?_ ?_
               rotate_left
               · show Act.put _ (some 74) _ = _
                 simp only [Act.put, List.setIfInBounds_toArray, List.set_cons_zero, List.set_cons_succ, i64_w, i32_w]
                 rfl
               refine chain_ (fuel := 0) [(20, 0, some 75)] #[true, true, true, true, true, true, true, true, true, true, true, true, true, true, true, true, true, true, true, true, true] HT_.out HW_.out (by kernel_rfl) (fun _ _ _ _ _ h => h) (Or.inl (by decide)) rfl ?_
               refine lkP ?_; refine .nil ?_
               refine done_ (done_of HT_.out (by kernel_rfl)) ?_
               try go_wp2
               go_roundg kj41
               case measure => have := HK1.out; have := HJ18.out; have := HJ41.out; omega
               case rel => exact ⟨(t423), (wrap64 (x9_1 + 1)), (x410000_41), (x410001_41), (.slice Ao89 x410001_41.length co89), rs, H', ⟨by have := HK1.out; have := HJ18.out; have := HJ41.out; omega⟩, ⟨by (with_reducible repeat (first | apply Kd.V_alloc | apply Kd.V_drewN | apply Kd.V_drew)); exact Kd.V_mono HO_6.out (fun _ hk => ⟨hk.1, hk.2.1⟩)⟩, ⟨by (with_reducible repeat (first | apply Kd.V_alloc | apply Kd.V_drewN | apply Kd.V_drew)); exact Kd.V_mono HO425.out (fun _ hk => ⟨hk.1, hk.2.1⟩)⟩, ⟨by (with_reducible repeat (first | apply Kd.V_alloc | apply Kd.V_drewN | apply Kd.V_drew)); exact Kd.V_mono HO_410001.out (fun _ hk => ⟨hk.1, hk.2.1⟩)⟩, ⟨bk BK402⟩, ⟨bk BK409⟩, ⟨bw HB⟩⟩
             · replace c64 := Bool.eq_false_iff.mpr c64
               subst c64
               have H1 : (some (([] : List Int), false)) = some (r1, r2) := by rw [if_neg (show ¬ (false = true) by decide)] at H; exact H
               clear H; have H := H1; clear H1
               simp only [Option.some.injEq, Prod.mk.injEq] at H
               obtain ⟨rfl, rfl⟩ := H
               have hnb96 := NB411_402.out; have hnc96 := NB402_411.out; have hnb97 := NB411_409.out; have hnc97 := NB409_411.out; have hnb98 := NB411_412.out; have hnc98 := NB412_411.out
               obtain ⟨hcz99_0, hcz99_1, hfz99_0, hfz99_1⟩ := bc2 BK411
               try go_wp2_with (first | ((with_reducible refine gate_callee (f := 41) rfl ?_); refine gl (some 48) Try.func41 #[.int .u64 (IntKind.u64.wrap (((rd_T31 l1 x9_1).f1) - 1))] ?_; (with_reducible refine (turnstileref24_Of.calls kj41 (IntKind.u64.wrap (((rd_T31 l1 x9_1).f1) - 1)) t414 _ A51.out).mono ?_); rintro e w100 ⟨v415, rfl, ho0, hb⟩; refine ⟨_, rfl, ?_⟩; have HO416 := Aside0.mk (Kd.V_lower (Kd.V_mono (ok' := fun k_ => k_ ≠ gb402 ∧ k_ ≠ gb409 ∧ k_ ≠ gb411 ∧ k_ ≠ gb412) ho0 (fun k_ hk_ => ⟨(Kd.freshB (g := gb402) (o := .cells #[.int .i64 a0_0, .int .u64 a0_1, .int .u64 a0_2, .int .u64 a0_3, .int .u64 a0_4] 24 (0, 0)) (bk BK402) k_ hk_), (Kd.freshB (g := gb409) (o := .cells #[.int .u64 x410000_41, u410001] 115 (0, 0)) (bk BK409) k_ hk_), (Kd.freshB (g := gb411) (o := .cells #[.int .u64 ((rd_T31 l1 x9_1).f0), .int .u64 ((rd_T31 l1 x9_1).f1)] 31 (0, 0)) (bk BK411) k_ hk_), (Kd.freshB (g := gb412) (o := .cells #[.int .u64 ((rd_T31 l1 x9_1).f0), .slice Ao24 x7_1.length co24] 115 (0, 0)) (bk BK412) k_ hk_)⟩)) (below_size (bw HB))); replace HO_6 := Aside0.mk (Kd.V_below (vo HO_6) hb); replace HO_7 := Aside0.mk (Kd.V_below (vo HO_7) hb); replace HO_410001 := Aside0.mk (Kd.V_below (vo HO_410001) hb); replace HO_413001 := Aside0.mk (Kd.V_below (vo HO_413001) hb); replace BK402 := bb BK402 hb; replace BK409 := bb BK409 hb; replace BK411 := bb BK411 hb; replace BK412 := bb BK412 hb; replace HB := bs HB hb; (try clear hb); (try clear hb2); (try clear hk); (try clear hi); (try clear ho0); obtain ⟨Ao101, co101, eo101⟩ := Kd.V_slice HO416.out; subst eo101) | ((with_reducible refine gate_callee (f := 43) rfl ?_); refine gl (some 49) Try.func43 #[.slice Ao24 x7_1.length co24, .slice Ao101 t414.length co101] ?_; (with_reducible refine (turnstileref24_Plus.calls kj41 _ _ x7_1 _ _ t414 t417 _ ?side1 ?side2 ?side3 ?side4 A52.out).mono ?_); (case side1 => exact co (Kd.V_reads' HO_7.out).2.2); (case side2 => exact (Kd.V_reads' HO_7.out).2.1); (case side3 => exact co (Kd.V_reads' HO416.out).2.2); (case side4 => exact (Kd.V_reads' HO416.out).2.1); rintro e w102 ⟨v418, rfl, ho0, hb⟩; refine ⟨_, rfl, ?_⟩; have HO419 := Aside0.mk (Kd.V_lower (Kd.V_mono (ok' := fun k_ => k_ ≠ gb402 ∧ k_ ≠ gb409 ∧ k_ ≠ gb411 ∧ k_ ≠ gb412) ho0 (fun k_ hk_ => ⟨(Kd.freshB (g := gb402) (o := .cells #[.int .i64 a0_0, .int .u64 a0_1, .int .u64 a0_2, .int .u64 a0_3, .int .u64 a0_4] 24 (0, 0)) (bk BK402) k_ hk_), (Kd.freshB (g := gb409) (o := .cells #[.int .u64 x410000_41, u410001] 115 (0, 0)) (bk BK409) k_ hk_), (Kd.freshB (g := gb411) (o := .cells #[.int .u64 ((rd_T31 l1 x9_1).f0), .int .u64 ((rd_T31 l1 x9_1).f1)] 31 (0, 0)) (bk BK411) k_ hk_), (Kd.freshB (g := gb412) (o := .cells #[.int .u64 ((rd_T31 l1 x9_1).f0), .slice Ao24 x7_1.length co24] 115 (0, 0)) (bk BK412) k_ hk_)⟩)) (below_size (bw HB))); replace HO_6 := Aside0.mk (Kd.V_below (vo HO_6) hb); replace HO_7 := Aside0.mk (Kd.V_below (vo HO_7) hb); replace HO_410001 := Aside0.mk (Kd.V_below (vo HO_410001) hb); replace HO_413001 := Aside0.mk (Kd.V_below (vo HO_413001) hb); replace HO416 := Aside0.mk (Kd.V_below (vo HO416) hb); replace BK402 := bb BK402 hb; replace BK409 := bb BK409 hb; replace BK411 := bb BK411 hb; replace BK412 := bb BK412 hb; replace HB := bs HB hb; (try clear hb); (try clear hb2); (try clear hk); (try clear hi); (try clear ho0); obtain ⟨hcz103_0, hcz103_1, hfz103_0, hfz103_1⟩ := bc2 BK411) | ((with_reducible refine gate_callee (f := 41) rfl ?_); refine gl (some 53) Try.func41 #[.int .u64 ((rd_T31 l1 x9_1).f1)] ?_; (with_reducible refine (turnstileref24_Of.calls kj41 ((rd_T31 l1 x9_1).f1) t420 _ A53.out).mono ?_); rintro e w104 ⟨v421, rfl, ho0, hb⟩; refine ⟨_, rfl, ?_⟩; have HO422 := Aside0.mk (Kd.V_lower (Kd.V_mono (ok' := fun k_ => k_ ≠ gb402 ∧ k_ ≠ gb409 ∧ k_ ≠ gb411 ∧ k_ ≠ gb412) ho0 (fun k_ hk_ => ⟨(Kd.freshB (g := gb402) (o := .cells #[.int .i64 a0_0, .int .u64 a0_1, .int .u64 a0_2, .int .u64 a0_3, .int .u64 a0_4] 24 (0, 0)) (bk BK402) k_ hk_), (Kd.freshB (g := gb409) (o := .cells #[.int .u64 x410000_41, u410001] 115 (0, 0)) (bk BK409) k_ hk_), (Kd.freshB (g := gb411) (o := .cells #[.int .u64 ((rd_T31 l1 x9_1).f0), .int .u64 ((rd_T31 l1 x9_1).f1)] 31 (0, 0)) (bk BK411) k_ hk_), (Kd.freshB (g := gb412) (o := .cells #[.int .u64 ((rd_T31 l1 x9_1).f0), .slice Ao24 x7_1.length co24] 115 (0, 0)) (bk BK412) k_ hk_)⟩)) (below_size (bw HB))); replace HO_6 := Aside0.mk (Kd.V_below (vo HO_6) hb); replace HO_7 := Aside0.mk (Kd.V_below (vo HO_7) hb); replace HO_410001 := Aside0.mk (Kd.V_below (vo HO_410001) hb); replace HO_413001 := Aside0.mk (Kd.V_below (vo HO_413001) hb); replace HO416 := Aside0.mk (Kd.V_below (vo HO416) hb); replace HO419 := Aside0.mk (Kd.V_below (vo HO419) hb); replace BK402 := bb BK402 hb; replace BK409 := bb BK409 hb; replace BK411 := bb BK411 hb; replace BK412 := bb BK412 hb; replace HB := bs HB hb; (try clear hb); (try clear hb2); (try clear hk); (try clear hi); (try clear ho0); obtain ⟨Ao105, co105, eo105⟩ := Kd.V_slice HO422.out; subst eo105) | ((with_reducible refine gate_callee (f := 43) rfl ?_); refine gl (some 54) Try.func43 #[.slice Ao24 x7_1.length co24, .slice Ao105 t420.length co105] ?_; (with_reducible refine (turnstileref24_Plus.calls kj41 _ _ x7_1 _ _ t420 t423 _ ?side1 ?side2 ?side3 ?side4 A54.out).mono ?_); (case side1 => exact co (Kd.V_reads' HO_7.out).2.2); (case side2 => exact (Kd.V_reads' HO_7.out).2.1); (case side3 => exact co (Kd.V_reads' HO422.out).2.2); (case side4 => exact (Kd.V_reads' HO422.out).2.1); rintro e w106 ⟨v424, rfl, ho0, hb⟩; refine ⟨_, rfl, ?_⟩; have HO425 := Aside0.mk (Kd.V_lower (Kd.V_mono (ok' := fun k_ => k_ ≠ gb402 ∧ k_ ≠ gb409 ∧ k_ ≠ gb411 ∧ k_ ≠ gb412) ho0 (fun k_ hk_ => ⟨(Kd.freshB (g := gb402) (o := .cells #[.int .i64 a0_0, .int .u64 a0_1, .int .u64 a0_2, .int .u64 a0_3, .int .u64 a0_4] 24 (0, 0)) (bk BK402) k_ hk_), (Kd.freshB (g := gb409) (o := .cells #[.int .u64 x410000_41, u410001] 115 (0, 0)) (bk BK409) k_ hk_), (Kd.freshB (g := gb411) (o := .cells #[.int .u64 ((rd_T31 l1 x9_1).f0), .int .u64 ((rd_T31 l1 x9_1).f1)] 31 (0, 0)) (bk BK411) k_ hk_), (Kd.freshB (g := gb412) (o := .cells #[.int .u64 ((rd_T31 l1 x9_1).f0), .slice Ao24 x7_1.length co24] 115 (0, 0)) (bk BK412) k_ hk_)⟩)) (below_size (bw HB))); replace HO_6 := Aside0.mk (Kd.V_below (vo HO_6) hb); replace HO_7 := Aside0.mk (Kd.V_below (vo HO_7) hb); replace HO_410001 := Aside0.mk (Kd.V_below (vo HO_410001) hb); replace HO_413001 := Aside0.mk (Kd.V_below (vo HO_413001) hb); replace HO416 := Aside0.mk (Kd.V_below (vo HO416) hb); replace HO419 := Aside0.mk (Kd.V_below (vo HO419) hb); replace HO422 := Aside0.mk (Kd.V_below (vo HO422) hb); replace BK402 := bb BK402 hb; replace BK409 := bb BK409 hb; replace BK411 := bb BK411 hb; replace BK412 := bb BK412 hb; replace HB := bs HB hb; (try clear hb); (try clear hb2); (try clear hk); (try clear hi); (try clear ho0)))
               replace HO_6 := Aside0.mk (Kd.V_drew HO_6.out); replace HO_7 := Aside0.mk (Kd.V_drew HO_7.out); replace HO_410001 := Aside0.mk (Kd.V_drew HO_410001.out); replace HO_413001 := Aside0.mk (Kd.V_drew HO_413001.out); replace HO416 := Aside0.mk (Kd.V_drew HO416.out); replace HO419 := Aside0.mk (Kd.V_drew HO419.out); replace HO422 := Aside0.mk (Kd.V_drew HO422.out); replace HO425 := Aside0.mk (Kd.V_drew HO425.out); replace BK402 := Aside0.mk (blk_drew BK402.out); replace BK409 := Aside0.mk (blk_drew BK409.out); replace BK411 := Aside0.mk (blk_drew BK411.out); replace BK412 := Aside0.mk (blk_drew BK412.out); replace HB := Aside0.mk (below_drew1 HB.out)
               refine start_ (n := 21) (S := fun w' => w'.cell? ⟨gb409, 0, none⟩ = some (.int .u64 x410000_41) ∧ w'.cell? ⟨gb409, 1, none⟩ = some (u410001) ∧ w'.cell? ⟨gb411, 0, none⟩ = some (.int .u64 ((rd_T31 l1 x9_1).f0)) ∧ w'.cell? ⟨gb411, 1, none⟩ = some (.int .u64 ((rd_T31 l1 x9_1).f1)) ∧ w'.cell? ⟨gb402, 0, none⟩ = some (.int .i64 a0_0) ∧ w'.cell? ⟨gb402, 1, none⟩ = some (.int .u64 a0_1) ∧ w'.cell? ⟨gb402, 2, none⟩ = some (.int .u64 a0_2) ∧ w'.cell? ⟨gb402, 3, none⟩ = some (.int .u64 a0_3) ∧ w'.cell? ⟨gb402, 4, none⟩ = some (.int .u64 a0_4)) (ds := []) #[false, false, false, false, false, false, false, false, false, false, false, false, false, false, false, false, false, false, false, false, false] (by kernel_rfl) rfl rfl ⟨(blk_cell BK409.out 0).trans rfl, (blk_cell BK409.out 1).trans rfl, (blk_cell BK411.out 0).trans rfl, (blk_cell BK411.out 1).trans rfl, (blk_cell BK402.out 0).trans rfl, (blk_cell BK402.out 1).trans rfl, (blk_cell BK402.out 2).trans rfl, (blk_cell BK402.out 3).trans rfl, (blk_cell BK402.out 4).trans rfl⟩ (fun hHeld => ?_); refine with_tabW turnstileref24_flow.tab15 turnstileref24_flow.bits15 (fun HT_ HW_ => ?_)
               generalize w106.drew = w107 at HO_6 HO_7 HO_410001 HO_413001 HO416 HO419 HO422 HO425 BK402 BK409 BK411 BK412 HB hHeld ⊢
               refine chain_ (fuel := 10) [(0, 0, some 55), (3, 0, some 58), (4, 0, some 59), (7, 0, some 62), (10, 0, some 65), (14, 0, some 69), (16, 0, some 71), (1, 1, some 56), (8, 1, some 63), (11, 1, some 66), (15, 1, some 70)] #[true, true, false, true, true, false, false, true, true, false, true, true, false, false, true, true, true, false, false, false, false] HT_.out HW_.out (by kernel_rfl) (fun _ _ _ _ _ h => h) (Or.inr hHeld) rfl ?_
               (iterate 7 refine lkP ?_); (iterate 4 refine lkT ?_); refine .nil ?_
               refine one_ (i := 2) (N := some 57) #[true, true, true, true, true, false, false, true, true, false, true, true, false, false, true, true, true, false, false, false, false] rfl rfl (one_of HT_.out (by kernel_rfl)) (by decide) (fun K hK => ?_)
               refine ge Try.func41 #[.int .u64 x410000_41] ?_
               with_reducible refine (turnstileref24_Of.calls kj41 x410000_41 t426 _ A55.out).mono ?_
               rintro e w108 ⟨v427, rfl, ho0, hb⟩
               refine ⟨_, rfl, ?_⟩
               have HO428 := Aside0.mk (Kd.V_lower (Kd.V_mono (ok' := fun k_ => k_ ≠ gb402 ∧ k_ ≠ gb409 ∧ k_ ≠ gb411 ∧ k_ ≠ gb412) ho0 (fun k_ hk_ => ⟨(Kd.freshB (g := gb402) (o := .cells #[.int .i64 a0_0, .int .u64 a0_1, .int .u64 a0_2, .int .u64 a0_3, .int .u64 a0_4] 24 (0, 0)) (bk BK402) k_ hk_), (Kd.freshB (g := gb409) (o := .cells #[.int .u64 x410000_41, u410001] 115 (0, 0)) (bk BK409) k_ hk_), (Kd.freshB (g := gb411) (o := .cells #[.int .u64 ((rd_T31 l1 x9_1).f0), .int .u64 ((rd_T31 l1 x9_1).f1)] 31 (0, 0)) (bk BK411) k_ hk_), (Kd.freshB (g := gb412) (o := .cells #[.int .u64 ((rd_T31 l1 x9_1).f0), .slice Ao24 x7_1.length co24] 115 (0, 0)) (bk BK412) k_ hk_)⟩)) (below_size (bw HB)))
               replace HO_6 := Aside0.mk (Kd.V_below (vo HO_6) hb); replace HO_7 := Aside0.mk (Kd.V_below (vo HO_7) hb); replace HO_410001 := Aside0.mk (Kd.V_below (vo HO_410001) hb); replace HO_413001 := Aside0.mk (Kd.V_below (vo HO_413001) hb); replace HO416 := Aside0.mk (Kd.V_below (vo HO416) hb); replace HO419 := Aside0.mk (Kd.V_below (vo HO419) hb); replace HO422 := Aside0.mk (Kd.V_below (vo HO422) hb); replace HO425 := Aside0.mk (Kd.V_below (vo HO425) hb); replace BK402 := bb BK402 hb; replace BK409 := bb BK409 hb; replace BK411 := bb BK411 hb; replace BK412 := bb BK412 hb; replace HB := bs HB hb; (try clear hb); (try clear hb2); (try clear hk); (try clear hi); (try clear ho0)
               obtain ⟨Ao109, co109, eo109⟩ := Kd.V_slice HO419.out
               (first | subst eo109 | (injection eo109 with f1_ f2_ f3_; have f4_ := f1_.symm; have f5_ := f3_.symm; clear f1_ f2_ f3_; subst f4_; subst f5_))
               obtain ⟨Ao110, co110, eo110⟩ := Kd.V_slice HO_6.out
               (first | subst eo110 | (injection eo110 with f1_ f2_ f3_; have f4_ := f1_.symm; have f5_ := f3_.symm; clear f1_ f2_ f3_; subst f4_; subst f5_))
               refine hK.out _ _ ⟨(blk_cell BK409.out 0).trans rfl, (blk_cell BK409.out 1).trans rfl, (blk_cell BK411.out 0).trans rfl, (blk_cell BK411.out 1).trans rfl, (blk_cell BK402.out 0).trans rfl, (blk_cell BK402.out 1).trans rfl, (blk_cell BK402.out 2).trans rfl, (blk_cell BK402.out 3).trans rfl, (blk_cell BK402.out 4).trans rfl⟩ (fun hHeld => ?_)
               clear hK K
               refine norm_ (a' := ?_) ?_ ?_
               rotate_left
               · show Act.put _ (some 57) _ = _
                 simp only [Act.put, List.setIfInBounds_toArray, List.set_cons_zero, List.set_cons_succ, i64_w, i32_w]
                 rfl
               refine one_ (i := 5) (N := some 60) #[true, true, true, true, true, true, false, true, true, false, true, true, false, false, true, true, true, false, false, false, false] rfl rfl (one_of HT_.out (by kernel_rfl)) (by decide) (fun K hK => ?_)
               refine ge Try.func45 #[.slice Ao109 t417.length co109, .slice Ao110 t403.length co110] ?_
               with_reducible refine (turnstileref24_Times.calls kj41 _ _ t417 _ _ t403 t429 _ ?side1 ?side2 ?side3 ?side4 A56.out).mono ?_
               (case side1 => exact co (Kd.V_reads' HO419.out).2.2)
               (case side2 => exact (Kd.V_reads' HO419.out).2.1)
               (case side3 => exact co (Kd.V_reads' HO_6.out).2.2)
               (case side4 => exact (Kd.V_reads' HO_6.out).2.1)
               rintro e w111 ⟨v430, rfl, ho0, hb⟩
               refine ⟨_, rfl, ?_⟩
               have HO431 := Aside0.mk (Kd.V_lower (Kd.V_mono (ok' := fun k_ => k_ ≠ gb402 ∧ k_ ≠ gb409 ∧ k_ ≠ gb411 ∧ k_ ≠ gb412) ho0 (fun k_ hk_ => ⟨(Kd.freshB (g := gb402) (o := .cells #[.int .i64 a0_0, .int .u64 a0_1, .int .u64 a0_2, .int .u64 a0_3, .int .u64 a0_4] 24 (0, 0)) (bk BK402) k_ hk_), (Kd.freshB (g := gb409) (o := .cells #[.int .u64 x410000_41, u410001] 115 (0, 0)) (bk BK409) k_ hk_), (Kd.freshB (g := gb411) (o := .cells #[.int .u64 ((rd_T31 l1 x9_1).f0), .int .u64 ((rd_T31 l1 x9_1).f1)] 31 (0, 0)) (bk BK411) k_ hk_), (Kd.freshB (g := gb412) (o := .cells #[.int .u64 ((rd_T31 l1 x9_1).f0), .slice Ao24 x7_1.length co24] 115 (0, 0)) (bk BK412) k_ hk_)⟩)) (below_size (bw HB)))
               replace HO_6 := Aside0.mk (Kd.V_below (vo HO_6) hb); replace HO_7 := Aside0.mk (Kd.V_below (vo HO_7) hb); replace HO_410001 := Aside0.mk (Kd.V_below (vo HO_410001) hb); replace HO_413001 := Aside0.mk (Kd.V_below (vo HO_413001) hb); replace HO416 := Aside0.mk (Kd.V_below (vo HO416) hb); replace HO419 := Aside0.mk (Kd.V_below (vo HO419) hb); replace HO422 := Aside0.mk (Kd.V_below (vo HO422) hb); replace HO425 := Aside0.mk (Kd.V_below (vo HO425) hb); replace HO428 := Aside0.mk (Kd.V_below (vo HO428) hb); replace BK402 := bb BK402 hb; replace BK409 := bb BK409 hb; replace BK411 := bb BK411 hb; replace BK412 := bb BK412 hb; replace HB := bs HB hb; (try clear hb); (try clear hb2); (try clear hk); (try clear hi); (try clear ho0)
               obtain ⟨Ao112, co112, eo112⟩ := Kd.V_slice HO428.out
               (first | subst eo112 | (injection eo112 with f1_ f2_ f3_; have f4_ := f1_.symm; have f5_ := f3_.symm; clear f1_ f2_ f3_; subst f4_; subst f5_))
               obtain ⟨Ao113, co113, eo113⟩ := Kd.V_slice HO431.out
               (first | subst eo113 | (injection eo113 with f1_ f2_ f3_; have f4_ := f1_.symm; have f5_ := f3_.symm; clear f1_ f2_ f3_; subst f4_; subst f5_))
               refine hK.out _ _ ⟨(blk_cell BK409.out 0).trans rfl, (blk_cell BK409.out 1).trans rfl, (blk_cell BK411.out 0).trans rfl, (blk_cell BK411.out 1).trans rfl, (blk_cell BK402.out 0).trans rfl, (blk_cell BK402.out 1).trans rfl, (blk_cell BK402.out 2).trans rfl, (blk_cell BK402.out 3).trans rfl, (blk_cell BK402.out 4).trans rfl⟩ (fun hHeld => ?_)
               clear hK K
               refine norm_ (a' := ?_) ?_ ?_
               rotate_left
               · show Act.put _ (some 60) _ = _
                 simp only [Act.put, List.setIfInBounds_toArray, List.set_cons_zero, List.set_cons_succ, i64_w, i32_w]
                 rfl
               refine one_ (i := 6) (N := some 61) #[true, true, true, true, true, true, true, true, true, false, true, true, false, false, true, true, true, false, false, false, false] rfl rfl (one_of HT_.out (by kernel_rfl)) (by decide) (fun K hK => ?_)
               refine ge Try.func43 #[.slice Ao112 t426.length co112, .slice Ao113 t429.length co113] ?_
               with_reducible refine (turnstileref24_Plus.calls kj41 _ _ t426 _ _ t429 t432 _ ?side1 ?side2 ?side3 ?side4 A57.out).mono ?_
               (case side1 => exact co (Kd.V_reads' HO428.out).2.2)
               (case side2 => exact (Kd.V_reads' HO428.out).2.1)
               (case side3 => exact co (Kd.V_reads' HO431.out).2.2)
               (case side4 => exact (Kd.V_reads' HO431.out).2.1)
               rintro e w114 ⟨v433, rfl, ho0, hb⟩
               refine ⟨_, rfl, ?_⟩
               have HO434 := Aside0.mk (Kd.V_lower (Kd.V_mono (ok' := fun k_ => k_ ≠ gb402 ∧ k_ ≠ gb409 ∧ k_ ≠ gb411 ∧ k_ ≠ gb412) ho0 (fun k_ hk_ => ⟨(Kd.freshB (g := gb402) (o := .cells #[.int .i64 a0_0, .int .u64 a0_1, .int .u64 a0_2, .int .u64 a0_3, .int .u64 a0_4] 24 (0, 0)) (bk BK402) k_ hk_), (Kd.freshB (g := gb409) (o := .cells #[.int .u64 x410000_41, u410001] 115 (0, 0)) (bk BK409) k_ hk_), (Kd.freshB (g := gb411) (o := .cells #[.int .u64 ((rd_T31 l1 x9_1).f0), .int .u64 ((rd_T31 l1 x9_1).f1)] 31 (0, 0)) (bk BK411) k_ hk_), (Kd.freshB (g := gb412) (o := .cells #[.int .u64 ((rd_T31 l1 x9_1).f0), .slice Ao24 x7_1.length co24] 115 (0, 0)) (bk BK412) k_ hk_)⟩)) (below_size (bw HB)))
               replace HO_6 := Aside0.mk (Kd.V_below (vo HO_6) hb); replace HO_7 := Aside0.mk (Kd.V_below (vo HO_7) hb); replace HO_410001 := Aside0.mk (Kd.V_below (vo HO_410001) hb); replace HO_413001 := Aside0.mk (Kd.V_below (vo HO_413001) hb); replace HO416 := Aside0.mk (Kd.V_below (vo HO416) hb); replace HO419 := Aside0.mk (Kd.V_below (vo HO419) hb); replace HO422 := Aside0.mk (Kd.V_below (vo HO422) hb); replace HO425 := Aside0.mk (Kd.V_below (vo HO425) hb); replace HO428 := Aside0.mk (Kd.V_below (vo HO428) hb); replace HO431 := Aside0.mk (Kd.V_below (vo HO431) hb); replace BK402 := bb BK402 hb; replace BK409 := bb BK409 hb; replace BK411 := bb BK411 hb; replace BK412 := bb BK412 hb; replace HB := bs HB hb; (try clear hb); (try clear hb2); (try clear hk); (try clear hi); (try clear ho0)
               refine hK.out _ _ ⟨(blk_cell BK409.out 0).trans rfl, (blk_cell BK409.out 1).trans rfl, (blk_cell BK411.out 0).trans rfl, (blk_cell BK411.out 1).trans rfl, (blk_cell BK402.out 0).trans rfl, (blk_cell BK402.out 1).trans rfl, (blk_cell BK402.out 2).trans rfl, (blk_cell BK402.out 3).trans rfl, (blk_cell BK402.out 4).trans rfl⟩ (fun hHeld => ?_)
               clear hK K
               refine norm_ (a' := ?_) ?_ ?_
               rotate_left
               · show Act.put _ (some 61) _ = _
                 simp only [Act.put, List.setIfInBounds_toArray, List.set_cons_zero, List.set_cons_succ, i64_w, i32_w]
                 rfl
               refine one_ (i := 9) (N := some 64) #[true, true, true, true, true, true, true, true, true, true, true, true, false, false, true, true, true, false, false, false, false] rfl rfl (one_of HT_.out (by kernel_rfl)) (by decide) (fun K hK => ?_)
               refine ge Try.func41 #[.int .u64 ((rd_T31 l1 x9_1).f0)] ?_
               with_reducible refine (turnstileref24_Of.calls kj41 ((rd_T31 l1 x9_1).f0) t435 _ A58.out).mono ?_
               rintro e w115 ⟨v436, rfl, ho0, hb⟩
               refine ⟨_, rfl, ?_⟩
               have HO437 := Aside0.mk (Kd.V_lower (Kd.V_mono (ok' := fun k_ => k_ ≠ gb402 ∧ k_ ≠ gb409 ∧ k_ ≠ gb411 ∧ k_ ≠ gb412) ho0 (fun k_ hk_ => ⟨(Kd.freshB (g := gb402) (o := .cells #[.int .i64 a0_0, .int .u64 a0_1, .int .u64 a0_2, .int .u64 a0_3, .int .u64 a0_4] 24 (0, 0)) (bk BK402) k_ hk_), (Kd.freshB (g := gb409) (o := .cells #[.int .u64 x410000_41, u410001] 115 (0, 0)) (bk BK409) k_ hk_), (Kd.freshB (g := gb411) (o := .cells #[.int .u64 ((rd_T31 l1 x9_1).f0), .int .u64 ((rd_T31 l1 x9_1).f1)] 31 (0, 0)) (bk BK411) k_ hk_), (Kd.freshB (g := gb412) (o := .cells #[.int .u64 ((rd_T31 l1 x9_1).f0), .slice Ao24 x7_1.length co24] 115 (0, 0)) (bk BK412) k_ hk_)⟩)) (below_size (bw HB)))
               replace HO_6 := Aside0.mk (Kd.V_below (vo HO_6) hb); replace HO_7 := Aside0.mk (Kd.V_below (vo HO_7) hb); replace HO_410001 := Aside0.mk (Kd.V_below (vo HO_410001) hb); replace HO_413001 := Aside0.mk (Kd.V_below (vo HO_413001) hb); replace HO416 := Aside0.mk (Kd.V_below (vo HO416) hb); replace HO419 := Aside0.mk (Kd.V_below (vo HO419) hb); replace HO422 := Aside0.mk (Kd.V_below (vo HO422) hb); replace HO425 := Aside0.mk (Kd.V_below (vo HO425) hb); replace HO428 := Aside0.mk (Kd.V_below (vo HO428) hb); replace HO431 := Aside0.mk (Kd.V_below (vo HO431) hb); replace HO434 := Aside0.mk (Kd.V_below (vo HO434) hb); replace BK402 := bb BK402 hb; replace BK409 := bb BK409 hb; replace BK411 := bb BK411 hb; replace BK412 := bb BK412 hb; replace HB := bs HB hb; (try clear hb); (try clear hb2); (try clear hk); (try clear hi); (try clear ho0)
               refine hK.out _ _ ⟨(blk_cell BK409.out 0).trans rfl, (blk_cell BK409.out 1).trans rfl, (blk_cell BK411.out 0).trans rfl, (blk_cell BK411.out 1).trans rfl, (blk_cell BK402.out 0).trans rfl, (blk_cell BK402.out 1).trans rfl, (blk_cell BK402.out 2).trans rfl, (blk_cell BK402.out 3).trans rfl, (blk_cell BK402.out 4).trans rfl⟩ (fun hHeld => ?_)
               clear hK K
               refine norm_ (a' := ?_) ?_ ?_
               rotate_left
               · show Act.put _ (some 64) _ = _
                 simp only [Act.put, List.setIfInBounds_toArray, List.set_cons_zero, List.set_cons_succ, i64_w, i32_w]
                 rfl
               refine one_ (i := 12) (N := some 67) #[true, true, true, true, true, true, true, true, true, true, true, true, true, false, true, true, true, false, false, false, false] rfl rfl (one_of HT_.out (by kernel_rfl)) (by decide) (fun K hK => ?_)
               refine ge Try.func41 #[.int .u64 a0_2] ?_
               with_reducible refine (turnstileref24_Of.calls kj41 a0_2 t438 _ A59.out).mono ?_
               rintro e w116 ⟨v439, rfl, ho0, hb⟩
               refine ⟨_, rfl, ?_⟩
               have HO440 := Aside0.mk (Kd.V_lower (Kd.V_mono (ok' := fun k_ => k_ ≠ gb402 ∧ k_ ≠ gb409 ∧ k_ ≠ gb411 ∧ k_ ≠ gb412) ho0 (fun k_ hk_ => ⟨(Kd.freshB (g := gb402) (o := .cells #[.int .i64 a0_0, .int .u64 a0_1, .int .u64 a0_2, .int .u64 a0_3, .int .u64 a0_4] 24 (0, 0)) (bk BK402) k_ hk_), (Kd.freshB (g := gb409) (o := .cells #[.int .u64 x410000_41, u410001] 115 (0, 0)) (bk BK409) k_ hk_), (Kd.freshB (g := gb411) (o := .cells #[.int .u64 ((rd_T31 l1 x9_1).f0), .int .u64 ((rd_T31 l1 x9_1).f1)] 31 (0, 0)) (bk BK411) k_ hk_), (Kd.freshB (g := gb412) (o := .cells #[.int .u64 ((rd_T31 l1 x9_1).f0), .slice Ao24 x7_1.length co24] 115 (0, 0)) (bk BK412) k_ hk_)⟩)) (below_size (bw HB)))
               replace HO_6 := Aside0.mk (Kd.V_below (vo HO_6) hb); replace HO_7 := Aside0.mk (Kd.V_below (vo HO_7) hb); replace HO_410001 := Aside0.mk (Kd.V_below (vo HO_410001) hb); replace HO_413001 := Aside0.mk (Kd.V_below (vo HO_413001) hb); replace HO416 := Aside0.mk (Kd.V_below (vo HO416) hb); replace HO419 := Aside0.mk (Kd.V_below (vo HO419) hb); replace HO422 := Aside0.mk (Kd.V_below (vo HO422) hb); replace HO425 := Aside0.mk (Kd.V_below (vo HO425) hb); replace HO428 := Aside0.mk (Kd.V_below (vo HO428) hb); replace HO431 := Aside0.mk (Kd.V_below (vo HO431) hb); replace HO434 := Aside0.mk (Kd.V_below (vo HO434) hb); replace HO437 := Aside0.mk (Kd.V_below (vo HO437) hb); replace BK402 := bb BK402 hb; replace BK409 := bb BK409 hb; replace BK411 := bb BK411 hb; replace BK412 := bb BK412 hb; replace HB := bs HB hb; (try clear hb); (try clear hb2); (try clear hk); (try clear hi); (try clear ho0)
               obtain ⟨Ao117, co117, eo117⟩ := Kd.V_slice HO437.out
               (first | subst eo117 | (injection eo117 with f1_ f2_ f3_; have f4_ := f1_.symm; have f5_ := f3_.symm; clear f1_ f2_ f3_; subst f4_; subst f5_))
               obtain ⟨Ao118, co118, eo118⟩ := Kd.V_slice HO440.out
               (first | subst eo118 | (injection eo118 with f1_ f2_ f3_; have f4_ := f1_.symm; have f5_ := f3_.symm; clear f1_ f2_ f3_; subst f4_; subst f5_))
               refine hK.out _ _ ⟨(blk_cell BK409.out 0).trans rfl, (blk_cell BK409.out 1).trans rfl, (blk_cell BK411.out 0).trans rfl, (blk_cell BK411.out 1).trans rfl, (blk_cell BK402.out 0).trans rfl, (blk_cell BK402.out 1).trans rfl, (blk_cell BK402.out 2).trans rfl, (blk_cell BK402.out 3).trans rfl, (blk_cell BK402.out 4).trans rfl⟩ (fun hHeld => ?_)
               clear hK K
               refine norm_ (a' := ?_) ?_ ?_
               rotate_left
               · show Act.put _ (some 67) _ = _
                 simp only [Act.put, List.setIfInBounds_toArray, List.set_cons_zero, List.set_cons_succ, i64_w, i32_w]
                 rfl
               refine one_ (i := 13) (N := some 68) #[true, true, true, true, true, true, true, true, true, true, true, true, true, true, true, true, true, false, false, false, false] rfl rfl (one_of HT_.out (by kernel_rfl)) (by decide) (fun K hK => ?_)
               refine ge Try.func43 #[.slice Ao117 t435.length co117, .slice Ao118 t438.length co118] ?_
               with_reducible refine (turnstileref24_Plus.calls kj41 _ _ t435 _ _ t438 t441 _ ?side1 ?side2 ?side3 ?side4 A60.out).mono ?_
               (case side1 => exact co (Kd.V_reads' HO437.out).2.2)
               (case side2 => exact (Kd.V_reads' HO437.out).2.1)
               (case side3 => exact co (Kd.V_reads' HO440.out).2.2)
               (case side4 => exact (Kd.V_reads' HO440.out).2.1)
               rintro e w119 ⟨v442, rfl, ho0, hb⟩
               refine ⟨_, rfl, ?_⟩
               have HO443 := Aside0.mk (Kd.V_lower (Kd.V_mono (ok' := fun k_ => k_ ≠ gb402 ∧ k_ ≠ gb409 ∧ k_ ≠ gb411 ∧ k_ ≠ gb412) ho0 (fun k_ hk_ => ⟨(Kd.freshB (g := gb402) (o := .cells #[.int .i64 a0_0, .int .u64 a0_1, .int .u64 a0_2, .int .u64 a0_3, .int .u64 a0_4] 24 (0, 0)) (bk BK402) k_ hk_), (Kd.freshB (g := gb409) (o := .cells #[.int .u64 x410000_41, u410001] 115 (0, 0)) (bk BK409) k_ hk_), (Kd.freshB (g := gb411) (o := .cells #[.int .u64 ((rd_T31 l1 x9_1).f0), .int .u64 ((rd_T31 l1 x9_1).f1)] 31 (0, 0)) (bk BK411) k_ hk_), (Kd.freshB (g := gb412) (o := .cells #[.int .u64 ((rd_T31 l1 x9_1).f0), .slice Ao24 x7_1.length co24] 115 (0, 0)) (bk BK412) k_ hk_)⟩)) (below_size (bw HB)))
               replace HO_6 := Aside0.mk (Kd.V_below (vo HO_6) hb); replace HO_7 := Aside0.mk (Kd.V_below (vo HO_7) hb); replace HO_410001 := Aside0.mk (Kd.V_below (vo HO_410001) hb); replace HO_413001 := Aside0.mk (Kd.V_below (vo HO_413001) hb); replace HO416 := Aside0.mk (Kd.V_below (vo HO416) hb); replace HO419 := Aside0.mk (Kd.V_below (vo HO419) hb); replace HO422 := Aside0.mk (Kd.V_below (vo HO422) hb); replace HO425 := Aside0.mk (Kd.V_below (vo HO425) hb); replace HO428 := Aside0.mk (Kd.V_below (vo HO428) hb); replace HO431 := Aside0.mk (Kd.V_below (vo HO431) hb); replace HO434 := Aside0.mk (Kd.V_below (vo HO434) hb); replace HO437 := Aside0.mk (Kd.V_below (vo HO437) hb); replace HO440 := Aside0.mk (Kd.V_below (vo HO440) hb); replace BK402 := bb BK402 hb; replace BK409 := bb BK409 hb; replace BK411 := bb BK411 hb; replace BK412 := bb BK412 hb; replace HB := bs HB hb; (try clear hb); (try clear hb2); (try clear hk); (try clear hi); (try clear ho0)
               obtain ⟨Ao120, co120, eo120⟩ := Kd.V_slice HO_410001.out
               (first | subst eo120 | (injection eo120 with f1_ f2_ f3_; have f4_ := f1_.symm; have f5_ := f3_.symm; clear f1_ f2_ f3_; subst f4_; subst f5_))
               refine hK.out _ _ ⟨(blk_cell BK409.out 0).trans rfl, (blk_cell BK409.out 1).trans rfl, (blk_cell BK411.out 0).trans rfl, (blk_cell BK411.out 1).trans rfl, (blk_cell BK402.out 0).trans rfl, (blk_cell BK402.out 1).trans rfl, (blk_cell BK402.out 2).trans rfl, (blk_cell BK402.out 3).trans rfl, (blk_cell BK402.out 4).trans rfl⟩ (fun hHeld => ?_)
               clear hK K
               refine norm_ (a' := ?_) ?_ ?_
               rotate_left
               · show Act.put _ (some 68) _ = _
                 simp only [Act.put, List.setIfInBounds_toArray, List.set_cons_zero, List.set_cons_succ, i64_w, i32_w]
                 rfl
               refine one_ (i := 17) (N := some 72) #[true, true, true, true, true, true, true, true, true, true, true, true, true, true, true, true, true, true, false, false, false] rfl rfl (one_of HT_.out (by kernel_rfl)) (by decide) (fun K hK => ?_)
               refine ge Try.func45 #[.slice Ao120 x410001_41.length co120, .slice Ao110 t403.length co110] ?_
               with_reducible refine (turnstileref24_Times.calls kj41 _ _ x410001_41 _ _ t403 t444 _ ?side1 ?side2 ?side3 ?side4 A61.out).mono ?_
               (case side1 => exact co (Kd.V_reads' HO_410001.out).2.2)
               (case side2 => exact (Kd.V_reads' HO_410001.out).2.1)
               (case side3 => exact co (Kd.V_reads' HO_6.out).2.2)
               (case side4 => exact (Kd.V_reads' HO_6.out).2.1)
               rintro e w121 ⟨v445, rfl, ho0, hb⟩
               refine ⟨_, rfl, ?_⟩
               have HO446 := Aside0.mk (Kd.V_lower (Kd.V_mono (ok' := fun k_ => k_ ≠ gb402 ∧ k_ ≠ gb409 ∧ k_ ≠ gb411 ∧ k_ ≠ gb412) ho0 (fun k_ hk_ => ⟨(Kd.freshB (g := gb402) (o := .cells #[.int .i64 a0_0, .int .u64 a0_1, .int .u64 a0_2, .int .u64 a0_3, .int .u64 a0_4] 24 (0, 0)) (bk BK402) k_ hk_), (Kd.freshB (g := gb409) (o := .cells #[.int .u64 x410000_41, .slice Ao120 x410001_41.length co120] 115 (0, 0)) (bk BK409) k_ hk_), (Kd.freshB (g := gb411) (o := .cells #[.int .u64 ((rd_T31 l1 x9_1).f0), .int .u64 ((rd_T31 l1 x9_1).f1)] 31 (0, 0)) (bk BK411) k_ hk_), (Kd.freshB (g := gb412) (o := .cells #[.int .u64 ((rd_T31 l1 x9_1).f0), .slice Ao24 x7_1.length co24] 115 (0, 0)) (bk BK412) k_ hk_)⟩)) (below_size (bw HB)))
               replace HO_6 := Aside0.mk (Kd.V_below (vo HO_6) hb); replace HO_7 := Aside0.mk (Kd.V_below (vo HO_7) hb); replace HO_410001 := Aside0.mk (Kd.V_below (vo HO_410001) hb); replace HO_413001 := Aside0.mk (Kd.V_below (vo HO_413001) hb); replace HO416 := Aside0.mk (Kd.V_below (vo HO416) hb); replace HO419 := Aside0.mk (Kd.V_below (vo HO419) hb); replace HO422 := Aside0.mk (Kd.V_below (vo HO422) hb); replace HO425 := Aside0.mk (Kd.V_below (vo HO425) hb); replace HO428 := Aside0.mk (Kd.V_below (vo HO428) hb); replace HO431 := Aside0.mk (Kd.V_below (vo HO431) hb); replace HO434 := Aside0.mk (Kd.V_below (vo HO434) hb); replace HO437 := Aside0.mk (Kd.V_below (vo HO437) hb); replace HO440 := Aside0.mk (Kd.V_below (vo HO440) hb); replace HO443 := Aside0.mk (Kd.V_below (vo HO443) hb); replace BK402 := bb BK402 hb; replace BK409 := bb BK409 hb; replace BK411 := bb BK411 hb; replace BK412 := bb BK412 hb; replace HB := bs HB hb; (try clear hb); (try clear hb2); (try clear hk); (try clear hi); (try clear ho0)
               obtain ⟨Ao122, co122, eo122⟩ := Kd.V_slice HO443.out
               (first | subst eo122 | (injection eo122 with f1_ f2_ f3_; have f4_ := f1_.symm; have f5_ := f3_.symm; clear f1_ f2_ f3_; subst f4_; subst f5_))
               obtain ⟨Ao123, co123, eo123⟩ := Kd.V_slice HO446.out
               (first | subst eo123 | (injection eo123 with f1_ f2_ f3_; have f4_ := f1_.symm; have f5_ := f3_.symm; clear f1_ f2_ f3_; subst f4_; subst f5_))
               refine hK.out _ _ ⟨(blk_cell BK409.out 0).trans rfl, (blk_cell BK409.out 1).trans rfl, (blk_cell BK411.out 0).trans rfl, (blk_cell BK411.out 1).trans rfl, (blk_cell BK402.out 0).trans rfl, (blk_cell BK402.out 1).trans rfl, (blk_cell BK402.out 2).trans rfl, (blk_cell BK402.out 3).trans rfl, (blk_cell BK402.out 4).trans rfl⟩ (fun hHeld => ?_)
               clear hK K
               refine norm_ (a' := ?_) ?_ ?_
               rotate_left
               · show Act.put _ (some 72) _ = _
                 simp only [Act.put, List.setIfInBounds_toArray, List.set_cons_zero, List.set_cons_succ, i64_w, i32_w]
                 rfl
               refine one_ (i := 18) (N := some 73) #[true, true, true, true, true, true, true, true, true, true, true, true, true, true, true, true, true, true, true, false, false] rfl rfl (one_of HT_.out (by kernel_rfl)) (by decide) (fun K hK => ?_)
               refine ge Try.func43 #[.slice Ao122 t441.length co122, .slice Ao123 t444.length co123] ?_
               with_reducible refine (turnstileref24_Plus.calls kj41 _ _ t441 _ _ t444 t447 _ ?side1 ?side2 ?side3 ?side4 A62.out).mono ?_
               (case side1 => exact co (Kd.V_reads' HO443.out).2.2)
               (case side2 => exact (Kd.V_reads' HO443.out).2.1)
               (case side3 => exact co (Kd.V_reads' HO446.out).2.2)
               (case side4 => exact (Kd.V_reads' HO446.out).2.1)
               rintro e w124 ⟨v448, rfl, ho0, hb⟩
               refine ⟨_, rfl, ?_⟩
               have HO449 := Aside0.mk (Kd.V_lower (Kd.V_mono (ok' := fun k_ => k_ ≠ gb402 ∧ k_ ≠ gb409 ∧ k_ ≠ gb411 ∧ k_ ≠ gb412) ho0 (fun k_ hk_ => ⟨(Kd.freshB (g := gb402) (o := .cells #[.int .i64 a0_0, .int .u64 a0_1, .int .u64 a0_2, .int .u64 a0_3, .int .u64 a0_4] 24 (0, 0)) (bk BK402) k_ hk_), (Kd.freshB (g := gb409) (o := .cells #[.int .u64 x410000_41, .slice Ao120 x410001_41.length co120] 115 (0, 0)) (bk BK409) k_ hk_), (Kd.freshB (g := gb411) (o := .cells #[.int .u64 ((rd_T31 l1 x9_1).f0), .int .u64 ((rd_T31 l1 x9_1).f1)] 31 (0, 0)) (bk BK411) k_ hk_), (Kd.freshB (g := gb412) (o := .cells #[.int .u64 ((rd_T31 l1 x9_1).f0), .slice Ao24 x7_1.length co24] 115 (0, 0)) (bk BK412) k_ hk_)⟩)) (below_size (bw HB)))
               replace HO_6 := Aside0.mk (Kd.V_below (vo HO_6) hb); replace HO_7 := Aside0.mk (Kd.V_below (vo HO_7) hb); replace HO_410001 := Aside0.mk (Kd.V_below (vo HO_410001) hb); replace HO_413001 := Aside0.mk (Kd.V_below (vo HO_413001) hb); replace HO416 := Aside0.mk (Kd.V_below (vo HO416) hb); replace HO419 := Aside0.mk (Kd.V_below (vo HO419) hb); replace HO422 := Aside0.mk (Kd.V_below (vo HO422) hb); replace HO425 := Aside0.mk (Kd.V_below (vo HO425) hb); replace HO428 := Aside0.mk (Kd.V_below (vo HO428) hb); replace HO431 := Aside0.mk (Kd.V_below (vo HO431) hb); replace HO434 := Aside0.mk (Kd.V_below (vo HO434) hb); replace HO437 := Aside0.mk (Kd.V_below (vo HO437) hb); replace HO440 := Aside0.mk (Kd.V_below (vo HO440) hb); replace HO443 := Aside0.mk (Kd.V_below (vo HO443) hb); replace HO446 := Aside0.mk (Kd.V_below (vo HO446) hb); replace BK402 := bb BK402 hb; replace BK409 := bb BK409 hb; replace BK411 := bb BK411 hb; replace BK412 := bb BK412 hb; replace HB := bs HB hb; (try clear hb); (try clear hb2); (try clear hk); (try clear hi); (try clear ho0)
               obtain ⟨Ao125, co125, eo125⟩ := Kd.V_slice HO434.out
               (first | subst eo125 | (injection eo125 with f1_ f2_ f3_; have f4_ := f1_.symm; have f5_ := f3_.symm; clear f1_ f2_ f3_; subst f4_; subst f5_))
               obtain ⟨Ao126, co126, eo126⟩ := Kd.V_slice HO449.out
               (first | subst eo126 | (injection eo126 with f1_ f2_ f3_; have f4_ := f1_.symm; have f5_ := f3_.symm; clear f1_ f2_ f3_; subst f4_; subst f5_))
               refine hK.out _ _ ⟨(blk_cell BK409.out 0).trans rfl, (blk_cell BK409.out 1).trans rfl, (blk_cell BK411.out 0).trans rfl, (blk_cell BK411.out 1).trans rfl, (blk_cell BK402.out 0).trans rfl, (blk_cell BK402.out 1).trans rfl, (blk_cell BK402.out 2).trans rfl, (blk_cell BK402.out 3).trans rfl, (blk_cell BK402.out 4).trans rfl⟩ (fun hHeld => ?_)
               clear hK K
               refine norm_ (a' := ?_) ?_ ?_
               rotate_left
               · show Act.put _ (some 73) _ = _
                 simp only [Act.put, List.setIfInBounds_toArray, List.set_cons_zero, List.set_cons_succ, i64_w, i32_w]
                 rfl
               refine one_ (i := 19) (N := some 74) #[true, true, true, true, true, true, true, true, true, true, true, true, true, true, true, true, true, true, true, true, false] rfl rfl (one_of HT_.out (by kernel_rfl)) (by decide) (fun K hK => ?_)
               refine ge Try.func44 #[.slice Ao125 t432.length co125, .slice Ao126 t447.length co126] ?_
               with_reducible refine (turnstileref24_AtMost.calls kj41 _ _ t432 _ _ t447 false _ ?side1 ?side2 ?side3 ?side4 A63.out).mono ?_
               (case side1 => exact co (Kd.V_reads' HO434.out).2.2)
               (case side2 => exact (Kd.V_reads' HO434.out).2.1)
               (case side3 => exact co (Kd.V_reads' HO449.out).2.2)
               (case side4 => exact (Kd.V_reads' HO449.out).2.1)
               rintro e w' ⟨rfl, ⟨nd, rfl⟩⟩
               refine ⟨_, rfl, ?_⟩
               refine hK.out _ _ ⟨(blk_cell BK409.out 0).trans rfl, (blk_cell BK409.out 1).trans rfl, (blk_cell BK411.out 0).trans rfl, (blk_cell BK411.out 1).trans rfl, (blk_cell BK402.out 0).trans rfl, (blk_cell BK402.out 1).trans rfl, (blk_cell BK402.out 2).trans rfl, (blk_cell BK402.out 3).trans rfl, (blk_cell BK402.out 4).trans rfl⟩ (fun hHeld => ?_)
               clear hK K
               refine norm_ (a' := ?_) ?_ ?_
               rotate_left
               · show Act.put _ (some 74) _ = _
                 simp only [Act.put, List.setIfInBounds_toArray, List.set_cons_zero, List.set_cons_succ, i64_w, i32_w]
                 rfl
               refine chain_ (fuel := 0) [(20, 0, some 75)] #[true, true, true, true, true, true, true, true, true, true, true, true, true, true, true, true, true, true, true, true, true] HT_.out HW_.out (by kernel_rfl) (fun _ _ _ _ _ h => h) (Or.inl (by decide)) rfl ?_
               refine lkP ?_; refine .nil ?_
               refine done_ (done_of HT_.out (by kernel_rfl)) ?_
               try go_wp2
               go_ret2
               exact ⟨_, re, by first | exact Kd.R_nil _ _ _ _ _ | exact Kd.N_nil _ _ _ _ _ | exact Kd.V_nil _ _ _ _ _ | exact Kd.Q_nil _ _ _ _ _ | exact Kd.S_nil _ _ _ _ _, bw HB⟩
     · rw [if_neg c13] at H
       exact absurd H (by simp)
   · rw [if_neg c12] at H
     have c12b0 : decide (x9_1 < (l1.length : Int)) = false := decide_eq_false c12
     clear c12
     by_cases c127 : (l1.length : Int) = 0
     · rw [if_pos c127] at H
       have c127b0 : ((l1.length : Int) == 0) = true := beq_iff_eq.mpr c127
       have c127b1 : ((l1.length : Int) != 0) = false := bne_eq_false_iff_eq.mpr c127
       clear c127
       obtain ⟨y451, hy451⟩ : ∃ y_ : List Int, y_ = (([] : List Int)) := ⟨_, rfl⟩
       replace H : (some (y451, true)) = some (r1, r2) := by first | (rw [hy451]; with_reducible exact H) | (have H2_ := (Option.bind_some _ _).symm.trans H; rw [hy451]; with_reducible exact H2_) | (have H2_ := (Option.bind_some _ _).symm.trans H; with_reducible exact H2_) | with_reducible exact H | (rw [hy451]; exact H) | exact H
       have Ny451 := Aside0.mk hy451; clear hy451
       simp only [Option.some.injEq, Prod.mk.injEq] at H
       obtain ⟨rfl, rfl⟩ := H
       go_wp2_with (first | ((with_reducible refine gate_dst (N := 79) rfl ?_); refine Kd.R_lit (Kd.int .u64) _ 22 ?hg (N := 79) ?hd (xs := ([] : List Int)) (inner := []) (ok := fun _ => True) (okp := fun _ => True) ?hr ?hp (fun _ hk => hk) trivial (Below.refl _ _) (Nat.le_refl _) (by simp) ?_; (case hd => rfl); (case hg => rfl); (case hr => first | (go_simp; done) | (go_simp; rfl)); (case hp => exact (Reps.none _ _)); intro v452 w128 ho129 hb hg_ hnew_; clear hg_ hnew_; (first | rw [← Ny451.out] at ho129 | (simp only [Int.reduceToNat] at ho129; rw [← Ny451.out] at ho129)); have HO453 := Aside0.mk (Kd.R_lower ho129 (below_size (bw HB))); replace HO_6 := Aside0.mk (Kd.V_elder' (vo HO_6) (Kd.R_base ho129) hb); replace HO_7 := Aside0.mk (Kd.V_elder' (vo HO_7) (Kd.R_base ho129) hb); replace HO_410001 := Aside0.mk (Kd.V_elder' (vo HO_410001) (Kd.R_base ho129) hb); replace BK402 := bb BK402 hb; replace BK409 := bb BK409 hb; replace HB := bs HB hb; clear hb ho129))
       go_ret2
       exact ⟨_, re, by (with_reducible repeat (first | apply Kd.R_alloc | apply Kd.R_drewN | apply Kd.R_drew)); exact HO453.out, bw HB⟩
     · rw [if_neg c127] at H
       have c127b0 : ((l1.length : Int) == 0) = false := beq_eq_false_iff_ne.mpr c127
       have c127b1 : ((l1.length : Int) != 0) = true := bne_iff_ne.mpr c127
       have c127b2 : ¬ (l1 = []) := fun h_ => c127 (by rw [h_]; rfl)
       replace H := Option.bind_eq_some_iff.mp H
       obtain ⟨t454, A1300, H⟩ := H
       replace H : ((turnstileref24_Times.f k1 x7_1 t403).bind fun t457 => ((turnstileref24_Plus.f k1 t454 t457).bind fun t460 => ((turnstileref24_Times.f k1 x410001_1 t403).bind fun t463 => ((turnstileref24_minus.f k1 t460 t463).bind fun t466 => (some (t466, true)))))) = some (r1, r2) := H
       have A130 := Aside0.mk A1300; clear A1300; replace H := Option.bind_eq_some_iff.mp H
       obtain ⟨t457, A1310, H⟩ := H
       replace H : ((turnstileref24_Plus.f k1 t454 t457).bind fun t460 => ((turnstileref24_Times.f k1 x410001_1 t403).bind fun t463 => ((turnstileref24_minus.f k1 t460 t463).bind fun t466 => (some (t466, true))))) = some (r1, r2) := H
       have A131 := Aside0.mk A1310; clear A1310; replace H := Option.bind_eq_some_iff.mp H
       obtain ⟨t460, A1320, H⟩ := H
       replace H : ((turnstileref24_Times.f k1 x410001_1 t403).bind fun t463 => ((turnstileref24_minus.f k1 t460 t463).bind fun t466 => (some (t466, true)))) = some (r1, r2) := H
       have A132 := Aside0.mk A1320; clear A1320; replace H := Option.bind_eq_some_iff.mp H
       obtain ⟨t463, A1330, H⟩ := H
       replace H : ((turnstileref24_minus.f k1 t460 t463).bind fun t466 => (some (t466, true))) = some (r1, r2) := H
       have A133 := Aside0.mk A1330; clear A1330; replace H := Option.bind_eq_some_iff.mp H
       obtain ⟨t466, A1340, H⟩ := H
       replace H : (some (t466, true)) = some (r1, r2) := H
       have A134 := Aside0.mk A1340; clear A1340
       simp only [Option.some.injEq, Prod.mk.injEq] at H
       obtain ⟨rfl, rfl⟩ := H
       try go_wp2
       replace HO_6 := Aside0.mk (Kd.V_drew HO_6.out); replace HO_7 := Aside0.mk (Kd.V_drew HO_7.out); replace HO_410001 := Aside0.mk (Kd.V_drew HO_410001.out); replace BK402 := Aside0.mk (blk_drew BK402.out); replace BK409 := Aside0.mk (blk_drew BK409.out); replace HB := Aside0.mk (below_drew1 HB.out)
       refine start_ (n := 14) (S := fun w' => w'.cell? ⟨gb409, 0, none⟩ = some (.int .u64 x410000_1) ∧ w'.cell? ⟨gb409, 1, none⟩ = some (u410001)) (ds := []) #[false, false, false, false, false, false, false, false, false, false, false, false, false, false] (by kernel_rfl) rfl rfl ⟨(blk_cell BK409.out 0).trans rfl, (blk_cell BK409.out 1).trans rfl⟩ (fun hHeld => ?_); refine with_tabW turnstileref24_flow.tab19 turnstileref24_flow.bits19 (fun HT_ HW_ => ?_)
       generalize wr.drew = w135 at HO_6 HO_7 HO_410001 BK402 BK409 HB hHeld ⊢
       refine chain_ (fuel := 7) [(0, 0, some 80), (3, 0, some 83), (4, 0, some 84), (7, 0, some 87), (9, 0, some 89), (1, 1, some 81), (8, 1, some 88)] #[true, true, false, true, true, false, false, true, true, true, false, false, false, false] HT_.out HW_.out (by kernel_rfl) (fun _ _ _ _ _ h => h) (Or.inr hHeld) rfl ?_
       (iterate 5 refine lkP ?_); (iterate 2 refine lkT ?_); refine .nil ?_
       refine one_ (i := 2) (N := some 82) #[true, true, true, true, true, false, false, true, true, true, false, false, false, false] rfl rfl (one_of HT_.out (by kernel_rfl)) (by decide) (fun K hK => ?_)
       refine ge Try.func41 #[.int .u64 x410000_1] ?_
       with_reducible refine (turnstileref24_Of.calls k1 x410000_1 t454 _ A130.out).mono ?_
       rintro e w136 ⟨v455, rfl, ho0, hb⟩
       refine ⟨_, rfl, ?_⟩
       have HO456 := Aside0.mk (Kd.V_lower (Kd.V_mono (ok' := fun k_ => k_ ≠ gb402 ∧ k_ ≠ gb409) ho0 (fun k_ hk_ => ⟨(Kd.freshB (g := gb402) (o := .cells #[.int .i64 a0_0, .int .u64 a0_1, .int .u64 a0_2, .int .u64 a0_3, .int .u64 a0_4] 24 (0, 0)) (bk BK402) k_ hk_), (Kd.freshB (g := gb409) (o := .cells #[.int .u64 x410000_1, u410001] 115 (0, 0)) (bk BK409) k_ hk_)⟩)) (below_size (bw HB)))
       replace HO_6 := Aside0.mk (Kd.V_below (vo HO_6) hb); replace HO_7 := Aside0.mk (Kd.V_below (vo HO_7) hb); replace HO_410001 := Aside0.mk (Kd.V_below (vo HO_410001) hb); replace BK402 := bb BK402 hb; replace BK409 := bb BK409 hb; replace HB := bs HB hb; (try clear hb); (try clear hb2); (try clear hk); (try clear hi); (try clear ho0)
       obtain ⟨Ao137, co137, eo137⟩ := Kd.V_slice HO_7.out
       (first | subst eo137 | (injection eo137 with f1_ f2_ f3_; have f4_ := f1_.symm; have f5_ := f3_.symm; clear f1_ f2_ f3_; subst f4_; subst f5_))
       obtain ⟨Ao138, co138, eo138⟩ := Kd.V_slice HO_6.out
       (first | subst eo138 | (injection eo138 with f1_ f2_ f3_; have f4_ := f1_.symm; have f5_ := f3_.symm; clear f1_ f2_ f3_; subst f4_; subst f5_))
       refine hK.out _ _ ⟨(blk_cell BK409.out 0).trans rfl, (blk_cell BK409.out 1).trans rfl⟩ (fun hHeld => ?_)
       clear hK K
       refine norm_ (a' := ?_) ?_ ?_
       rotate_left
       · show Act.put _ (some 82) _ = _
         simp only [Act.put, List.setIfInBounds_toArray, List.set_cons_zero, List.set_cons_succ, i64_w, i32_w]
         rfl
       refine one_ (i := 5) (N := some 85) #[true, true, true, true, true, true, false, true, true, true, false, false, false, false] rfl rfl (one_of HT_.out (by kernel_rfl)) (by decide) (fun K hK => ?_)
       refine ge Try.func45 #[.slice Ao137 x7_1.length co137, .slice Ao138 t403.length co138] ?_
       with_reducible refine (turnstileref24_Times.calls k1 _ _ x7_1 _ _ t403 t457 _ ?side1 ?side2 ?side3 ?side4 A131.out).mono ?_
       (case side1 => exact co (Kd.V_reads' HO_7.out).2.2)
       (case side2 => exact (Kd.V_reads' HO_7.out).2.1)
       (case side3 => exact co (Kd.V_reads' HO_6.out).2.2)
       (case side4 => exact (Kd.V_reads' HO_6.out).2.1)
       rintro e w139 ⟨v458, rfl, ho0, hb⟩
       refine ⟨_, rfl, ?_⟩
       have HO459 := Aside0.mk (Kd.V_lower (Kd.V_mono (ok' := fun k_ => k_ ≠ gb402 ∧ k_ ≠ gb409) ho0 (fun k_ hk_ => ⟨(Kd.freshB (g := gb402) (o := .cells #[.int .i64 a0_0, .int .u64 a0_1, .int .u64 a0_2, .int .u64 a0_3, .int .u64 a0_4] 24 (0, 0)) (bk BK402) k_ hk_), (Kd.freshB (g := gb409) (o := .cells #[.int .u64 x410000_1, u410001] 115 (0, 0)) (bk BK409) k_ hk_)⟩)) (below_size (bw HB)))
       replace HO_6 := Aside0.mk (Kd.V_below (vo HO_6) hb); replace HO_7 := Aside0.mk (Kd.V_below (vo HO_7) hb); replace HO_410001 := Aside0.mk (Kd.V_below (vo HO_410001) hb); replace HO456 := Aside0.mk (Kd.V_below (vo HO456) hb); replace BK402 := bb BK402 hb; replace BK409 := bb BK409 hb; replace HB := bs HB hb; (try clear hb); (try clear hb2); (try clear hk); (try clear hi); (try clear ho0)
       obtain ⟨Ao140, co140, eo140⟩ := Kd.V_slice HO456.out
       (first | subst eo140 | (injection eo140 with f1_ f2_ f3_; have f4_ := f1_.symm; have f5_ := f3_.symm; clear f1_ f2_ f3_; subst f4_; subst f5_))
       obtain ⟨Ao141, co141, eo141⟩ := Kd.V_slice HO459.out
       (first | subst eo141 | (injection eo141 with f1_ f2_ f3_; have f4_ := f1_.symm; have f5_ := f3_.symm; clear f1_ f2_ f3_; subst f4_; subst f5_))
       refine hK.out _ _ ⟨(blk_cell BK409.out 0).trans rfl, (blk_cell BK409.out 1).trans rfl⟩ (fun hHeld => ?_)
       clear hK K
       refine norm_ (a' := ?_) ?_ ?_
       rotate_left
       · show Act.put _ (some 85) _ = _
         simp only [Act.put, List.setIfInBounds_toArray, List.set_cons_zero, List.set_cons_succ, i64_w, i32_w]
         rfl
       refine one_ (i := 6) (N := some 86) #[true, true, true, true, true, true, true, true, true, true, false, false, false, false] rfl rfl (one_of HT_.out (by kernel_rfl)) (by decide) (fun K hK => ?_)
       refine ge Try.func43 #[.slice Ao140 t454.length co140, .slice Ao141 t457.length co141] ?_
       with_reducible refine (turnstileref24_Plus.calls k1 _ _ t454 _ _ t457 t460 _ ?side1 ?side2 ?side3 ?side4 A132.out).mono ?_
       (case side1 => exact co (Kd.V_reads' HO456.out).2.2)
       (case side2 => exact (Kd.V_reads' HO456.out).2.1)
       (case side3 => exact co (Kd.V_reads' HO459.out).2.2)
       (case side4 => exact (Kd.V_reads' HO459.out).2.1)
       rintro e w142 ⟨v461, rfl, ho0, hb⟩
       refine ⟨_, rfl, ?_⟩
       have HO462 := Aside0.mk (Kd.V_lower (Kd.V_mono (ok' := fun k_ => k_ ≠ gb402 ∧ k_ ≠ gb409) ho0 (fun k_ hk_ => ⟨(Kd.freshB (g := gb402) (o := .cells #[.int .i64 a0_0, .int .u64 a0_1, .int .u64 a0_2, .int .u64 a0_3, .int .u64 a0_4] 24 (0, 0)) (bk BK402) k_ hk_), (Kd.freshB (g := gb409) (o := .cells #[.int .u64 x410000_1, u410001] 115 (0, 0)) (bk BK409) k_ hk_)⟩)) (below_size (bw HB)))
       replace HO_6 := Aside0.mk (Kd.V_below (vo HO_6) hb); replace HO_7 := Aside0.mk (Kd.V_below (vo HO_7) hb); replace HO_410001 := Aside0.mk (Kd.V_below (vo HO_410001) hb); replace HO456 := Aside0.mk (Kd.V_below (vo HO456) hb); replace HO459 := Aside0.mk (Kd.V_below (vo HO459) hb); replace BK402 := bb BK402 hb; replace BK409 := bb BK409 hb; replace HB := bs HB hb; (try clear hb); (try clear hb2); (try clear hk); (try clear hi); (try clear ho0)
       obtain ⟨Ao143, co143, eo143⟩ := Kd.V_slice HO_410001.out
       (first | subst eo143 | (injection eo143 with f1_ f2_ f3_; have f4_ := f1_.symm; have f5_ := f3_.symm; clear f1_ f2_ f3_; subst f4_; subst f5_))
       refine hK.out _ _ ⟨(blk_cell BK409.out 0).trans rfl, (blk_cell BK409.out 1).trans rfl⟩ (fun hHeld => ?_)
       clear hK K
       refine norm_ (a' := ?_) ?_ ?_
       rotate_left
       · show Act.put _ (some 86) _ = _
         simp only [Act.put, List.setIfInBounds_toArray, List.set_cons_zero, List.set_cons_succ, i64_w, i32_w]
         rfl
       refine one_ (i := 10) (N := some 90) #[true, true, true, true, true, true, true, true, true, true, true, false, false, false] rfl rfl (one_of HT_.out (by kernel_rfl)) (by decide) (fun K hK => ?_)
       refine ge Try.func45 #[.slice Ao143 x410001_1.length co143, .slice Ao138 t403.length co138] ?_
       with_reducible refine (turnstileref24_Times.calls k1 _ _ x410001_1 _ _ t403 t463 _ ?side1 ?side2 ?side3 ?side4 A133.out).mono ?_
       (case side1 => exact co (Kd.V_reads' HO_410001.out).2.2)
       (case side2 => exact (Kd.V_reads' HO_410001.out).2.1)
       (case side3 => exact co (Kd.V_reads' HO_6.out).2.2)
       (case side4 => exact (Kd.V_reads' HO_6.out).2.1)
       rintro e w144 ⟨v464, rfl, ho0, hb⟩
       refine ⟨_, rfl, ?_⟩
       have HO465 := Aside0.mk (Kd.V_lower (Kd.V_mono (ok' := fun k_ => k_ ≠ gb402 ∧ k_ ≠ gb409) ho0 (fun k_ hk_ => ⟨(Kd.freshB (g := gb402) (o := .cells #[.int .i64 a0_0, .int .u64 a0_1, .int .u64 a0_2, .int .u64 a0_3, .int .u64 a0_4] 24 (0, 0)) (bk BK402) k_ hk_), (Kd.freshB (g := gb409) (o := .cells #[.int .u64 x410000_1, .slice Ao143 x410001_1.length co143] 115 (0, 0)) (bk BK409) k_ hk_)⟩)) (below_size (bw HB)))
       replace HO_6 := Aside0.mk (Kd.V_below (vo HO_6) hb); replace HO_7 := Aside0.mk (Kd.V_below (vo HO_7) hb); replace HO_410001 := Aside0.mk (Kd.V_below (vo HO_410001) hb); replace HO456 := Aside0.mk (Kd.V_below (vo HO456) hb); replace HO459 := Aside0.mk (Kd.V_below (vo HO459) hb); replace HO462 := Aside0.mk (Kd.V_below (vo HO462) hb); replace BK402 := bb BK402 hb; replace BK409 := bb BK409 hb; replace HB := bs HB hb; (try clear hb); (try clear hb2); (try clear hk); (try clear hi); (try clear ho0)
       obtain ⟨Ao145, co145, eo145⟩ := Kd.V_slice HO462.out
       (first | subst eo145 | (injection eo145 with f1_ f2_ f3_; have f4_ := f1_.symm; have f5_ := f3_.symm; clear f1_ f2_ f3_; subst f4_; subst f5_))
       obtain ⟨Ao146, co146, eo146⟩ := Kd.V_slice HO465.out
       (first | subst eo146 | (injection eo146 with f1_ f2_ f3_; have f4_ := f1_.symm; have f5_ := f3_.symm; clear f1_ f2_ f3_; subst f4_; subst f5_))
       refine hK.out _ _ ⟨(blk_cell BK409.out 0).trans rfl, (blk_cell BK409.out 1).trans rfl⟩ (fun hHeld => ?_)
       clear hK K
       refine norm_ (a' := ?_) ?_ ?_
       rotate_left
       · show Act.put _ (some 90) _ = _
         simp only [Act.put, List.setIfInBounds_toArray, List.set_cons_zero, List.set_cons_succ, i64_w, i32_w]
         rfl
       refine one_ (i := 11) (N := some 91) #[true, true, true, true, true, true, true, true, true, true, true, true, false, false] rfl rfl (one_of HT_.out (by kernel_rfl)) (by decide) (fun K hK => ?_)
       refine ge Try.func46 #[.slice Ao145 t460.length co145, .slice Ao146 t463.length co146] ?_
       with_reducible refine (turnstileref24_minus.calls k1 _ _ t460 _ _ t463 t466 _ ?side1 ?side2 ?side3 ?side4 A134.out).mono ?_
       (case side1 => exact co (Kd.V_reads' HO462.out).2.2)
       (case side2 => exact (Kd.V_reads' HO462.out).2.1)
       (case side3 => exact co (Kd.V_reads' HO465.out).2.2)
       (case side4 => exact (Kd.V_reads' HO465.out).2.1)
       rintro e w147 ⟨v467, rfl, ho0, hb⟩
       refine ⟨_, rfl, ?_⟩
       have HO468 := Aside0.mk (Kd.R_lower ho0 (below_size (bw HB))); replace HO_6 := Aside0.mk (Kd.V_elder' (vo HO_6) (Kd.R_base ho0) hb); replace HO_7 := Aside0.mk (Kd.V_elder' (vo HO_7) (Kd.R_base ho0) hb); replace HO_410001 := Aside0.mk (Kd.V_elder' (vo HO_410001) (Kd.R_base ho0) hb); replace HO456 := Aside0.mk (Kd.V_elder' (vo HO456) (Kd.R_base ho0) hb); replace HO459 := Aside0.mk (Kd.V_elder' (vo HO459) (Kd.R_base ho0) hb); replace HO462 := Aside0.mk (Kd.V_elder' (vo HO462) (Kd.R_base ho0) hb); replace HO465 := Aside0.mk (Kd.V_elder' (vo HO465) (Kd.R_base ho0) hb); replace BK402 := bb BK402 hb; replace BK409 := bb BK409 hb; replace HB := bs HB hb; (try clear hb); (try clear hb2); (try clear hk); (try clear hi); (try clear ho0)
       refine hK.out _ _ ⟨(blk_cell BK409.out 0).trans rfl, (blk_cell BK409.out 1).trans rfl⟩ (fun hHeld => ?_)
       clear hK K
       refine norm_ (a' := ?_) ?_ ?_
       rotate_left
       · show Act.put _ (some 91) _ = _
         simp only [Act.put, List.setIfInBounds_toArray, List.set_cons_zero, List.set_cons_succ, i64_w, i32_w]
         rfl
       refine chain_ (fuel := 0) [(12, 0, some 4), (13, 0, some 5)] #[true, true, true, true, true, true, true, true, true, true, true, true, true, true] HT_.out HW_.out (by kernel_rfl) (fun _ _ _ _ _ h => h) (Or.inl (by decide)) rfl ?_
       (iterate 2 refine lkP ?_); refine .nil ?_
       refine done_ (done_of HT_.out (by kernel_rfl)) ?_
       try go_wp2
       go_ret2
       exact ⟨_, re, by (with_reducible repeat (first | apply Kd.R_alloc | apply Kd.R_drewN | apply Kd.R_drew)); exact HO468.out, bw HB⟩

end Go.Proofs.Ytdoifmefhofnnaa.D
