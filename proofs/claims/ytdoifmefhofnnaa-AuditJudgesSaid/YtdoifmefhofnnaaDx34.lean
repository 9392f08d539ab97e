/- Written by the session's own program hyb.py: what functions of the program compute; Lean checks it. -/
import Derived.Test.YtdoifmefhofnnaaDx0
import Derived.Test.YtdoifmefhofnnaaDx33
namespace Go.Proofs.Ytdoifmefhofnnaa.D
open Go.RowKit Go.Proofs.YtdoifmefhofnnaaW.PrintWords Go.Proofs.YtdoifmefhofnnaaW.PrintLast Go.Proofs.YtdoifmefhofnnaaW.PrintMore Go.Proofs.YtdoifmefhofnnaaW.PrintShort
attribute [local go_sem] run_Add64 run_Sub64
attribute [local go_sem] max2_int min2_int max_two min_two max_three min_three max_four min_four   -- for this text's walks alone
set_option linter.unusedVariables false
set_option linter.unusedSimpArgs false

/-! ### turnstileref24_grid: function 32 -/
mutual
def turnstileref24_grid.l0 : Nat → List (S31) → List (S31) → Int → Int → Int → Int → Int → Int → Option (Int × Int × Bool)
  | 0, _, _, _, _, _, _, _, _ => none
  | k + 1, x1, x7, x8, x529000, x529001, x529002, x529003, x529004 => if x8 < (x1.length : Int) then (if 0 ≤ x8 then (if ((rd_T31 x1 x8).f1) = 0 then (some (0, 0, false)) else (if x529004 = 0 then (none) else (if x7.length < 8796093022208 then (turnstileref24_grid.l0 k x1 (x7 ++ [(⟨IntKind.u64.wrap (Int.tdiv ((rd_T31 x1 x8).f0) x529004), (rd_T31 x1 x8).f1⟩ : S31)]) (wrap64 (x8 + 1)) x529000 x529001 x529002 x529003 x529004) else (none)))) else (none)) else ((turnstileref24_sorted.f k x7).bind fun t538 => (turnstileref24_grid.l1 k t538 0 0 0 x529000 x529001 x529002 x529003 x529004))
def turnstileref24_grid.l1 : Nat → List (S31) → Int → Int → Int → Int → Int → Int → Int → Int → Option (Int × Int × Bool)
  | 0, _, _, _, _, _, _, _, _, _ => none
  | k + 1, x7, x9, x10, x11, x529000, x529001, x529002, x529003, x529004 => if x11 < (x7.length : Int) then (if x11 = 0 then (turnstileref24_grid.j2 k x7 x9 x10 x11 true x529000 x529001 x529002 x529003 x529004) else (if 0 ≤ x11 then (turnstileref24_grid.j2 k x7 x9 x10 x11 (((rd_T31 x7 x11).f0) != x9) x529000 x529001 x529002 x529003 x529004) else (none))) else (some (x9, x10, true))
def turnstileref24_grid.j2 : Nat → List (S31) → Int → Int → Int → Bool → Int → Int → Int → Int → Int → Option (Int × Int × Bool)
  | 0, _, _, _, _, _, _, _, _, _, _ => none
  | k + 1, x7, x9, x10, x11, x60, x529000, x529001, x529002, x529003, x529004 => if x60 = true then (if 0 ≤ x11 then (if x11 < (x7.length : Int) then (if ((rd_T31 x7 x11).f1) > (IntKind.u64.wrap (x529003)) then (some (0, 0, false)) else (turnstileref24_grid.l1 k x7 ((rd_T31 x7 x11).f0) (IntKind.u64.wrap (((rd_T31 x7 x11).f1))) (wrap64 (x11 + 1)) x529000 x529001 x529002 x529003 x529004)) else (none)) else (none)) else (if 0 ≤ x11 then (if x11 < (x7.length : Int) then (if ((rd_T31 x7 x11).f1) > (IntKind.u64.wrap (x529003 - x10)) then (some (0, 0, false)) else (turnstileref24_grid.l1 k x7 x9 (IntKind.u64.wrap (x10 + ((rd_T31 x7 x11).f1))) (wrap64 (x11 + 1)) x529000 x529001 x529002 x529003 x529004)) else (none)) else (none))
end
def turnstileref24_grid.f (k : Nat) (a0_0 : Int) (a0_1 : Int) (a0_2 : Int) (a0_3 : Int) (a0_4 : Int) (l1 : List (S31)) : Option (Int × Int × Bool) := turnstileref24_grid.l0 k l1 (([] : List (S31))) 0 a0_0 a0_1 a0_2 a0_3 a0_4
def turnstileref24_grid.T7 : Bool × List (List Nat × List Nat) := (true, [([], []), ([], []), ([], []), ([1, 2], [1, 2]), ([3], [3]), ([4], [4]), ([], []), ([6], [6]), ([5, 7], [5, 7]), ([], []), ([], []), ([9, 10], [9, 10]), ([11], [11]), ([12], [12]), ([8, 13], [8, 13]), ([14], [14]), ([0, 15], [0, 15]), ([16, 16, 0, 1, 2, 3, 4, 5, 6, 7, 8, 9, 10, 11, 12, 13, 14, 15, 16], [0, 16])])
def turnstileref24_grid.B7 : List Nat := [0, 0, 0, 6, 14, 30, 0, 64, 254, 0, 0, 1536, 3584, 7680, 16382, 32766, 65535, 131071]
theorem turnstileref24_grid.tab7 : rtab .any (opsOf Try.f32 7) = turnstileref24_grid.T7 := by kernel_rfl
theorem turnstileref24_grid.bits7 : waitsOk turnstileref24_grid.T7.2 turnstileref24_grid.B7 = true := by kernel_rfl
def turnstileref24_grid.T17 : Bool × List (List Nat × List Nat) := (true, [([], []), ([], []), ([0, 1], [0, 1]), ([2], [2]), ([3], [3]), ([], []), ([5], [5]), ([], []), ([6, 7], [6, 7]), ([4, 8], [4, 8])])
def turnstileref24_grid.B17 : List Nat := [0, 0, 3, 7, 15, 0, 32, 0, 224, 511]
theorem turnstileref24_grid.tab17 : rtab .any (opsOf Try.f32 17) = turnstileref24_grid.T17 := by kernel_rfl
theorem turnstileref24_grid.bits17 : waitsOk turnstileref24_grid.T17.2 turnstileref24_grid.B17 = true := by kernel_rfl
set_option maxHeartbeats 8000000 in
set_option maxRecDepth 100000 in
theorem turnstileref24_grid.calls (k : Nat) (a0_0 : Int) (a0_1 : Int) (a0_2 : Int) (a0_3 : Int) (a0_4 : Int) (A1 : Option Addr) (c1 : Nat) (l1 : List (S31)) (r1 : Int) (r2 : Int) (r3 : Bool) (w : World) (hr1 : Kd.C k31 w A1 l1.length l1) (hc1 : l1.length ≤ c1) (h : turnstileref24_grid.f k a0_0 a0_1 a0_2 a0_3 a0_4 l1 = some (r1, r2, r3)) :
    Calls Try.prog 32 #[.agg #[.int .i64 a0_0, .int .u64 a0_1, .int .u64 a0_2, .int .u64 a0_3, .int .u64 a0_4], .slice A1 l1.length c1] w fun e w' => e = .returned (.tuple #[.int .u64 r1, .int .u64 r2, .bool r3]) ∧ Below w.heap.size w w' := by
  have hu24 := Try.underlying24
  have hu31 := Try.underlying31
  have HR1 := Aside0.mk hr1
  have HC1 := Aside0.mk hc1
  clear hr1 hc1
  have HB := Aside0.mk (Below.refl w.heap.size w)
  have H : (turnstileref24_grid.l0 k l1 (([] : List (S31))) 0 a0_0 a0_1 a0_2 a0_3 a0_4) = some (r1, r2, r3) := h
  clear h
  obtain ⟨y529, hy529⟩ : ∃ y_ : List (S31), y_ = (([] : List (S31))) := ⟨_, rfl⟩
  replace H : (turnstileref24_grid.l0 k l1 y529 0 a0_0 a0_1 a0_2 a0_3 a0_4) = some (r1, r2, r3) := by first | (rw [hy529]; with_reducible exact H) | (have H2_ := (Option.bind_some _ _).symm.trans H; rw [hy529]; with_reducible exact H2_) | (have H2_ := (Option.bind_some _ _).symm.trans H; with_reducible exact H2_) | with_reducible exact H | (rw [hy529]; exact H) | exact H
  have Ny529 := Aside0.mk hy529
  clear hy529
  have H' := Aside0.mk H
  clear H
  go_enter Try.func32, Try.ntmps32
  go_wp2_with (first | ((with_reducible refine gate_dst (N := 2) rfl ?_); refine bx 2 #[.int .i64 a0_0, .int .u64 a0_1, .int .u64 a0_2, .int .u64 a0_3, .int .u64 a0_4] 24 ?_; intro gb528 hg w3 hbox hb; have BK528 := Aside0.mk (hbox); have GW528 := sz HB hg; have GE528 := sz HB hg; replace HB := bs HB hb; clear hb hbox hg) | ((with_reducible refine gate_dst (N := 12) rfl ?_); refine Kd.R_lit k31 _ 31 ?hg (N := 12) ?hd (xs := ([] : List (S31))) (inner := []) (ok := fun _ => True) (okp := fun _ => True) ?hr ?hp (fun _ hk => hk) trivial (Below.refl _ _) (Nat.le_refl _) (by simp) ?_; (case hd => rfl); (case hg => rfl); (case hr => first | (go_simp; done) | (go_simp; rfl)); (case hp => exact (Reps.none _ _)); intro v530 w4 ho5 hb hg_ hnew_; clear hg_ hnew_; (first | rw [← Ny529.out] at ho5 | (simp only [Int.reduceToNat] at ho5; rw [← Ny529.out] at ho5)); have HO531 := Aside0.mk (Kd.R_lower ho5 (below_size (bw HB))); replace BK528 := bb BK528 hb; replace HB := bs HB hb; clear hb ho5))
  go_loopg [7, 8] k (fun kq v7 v8 w' => ∃ (x7_1 : List (S31)) (x8_1 : Int), v8 = .int .i64 x8_1 ∧ Aside0 (turnstileref24_grid.l0 kq l1 x7_1 x8_1 a0_0 a0_1 a0_2 a0_3 a0_4 = some (r1, r2, r3)) ∧ Aside0 (kq ≤ k) ∧ Aside0 (Kd.R k31 31 w' w.heap.size (fun _ => True) v7 x7_1) ∧ Aside0 (w'.heap[gb528]? = some (.cells #[.int .i64 a0_0, .int .u64 a0_1, .int .u64 a0_2, .int .u64 a0_3, .int .u64 a0_4] 24 (0, 0))) ∧ Aside0 (Below w.heap.size w w'))
  case atStart => exact ⟨(y529), (0), rs, H', ⟨Nat.le_refl _⟩, ⟨ro HO531⟩, ⟨bk BK528⟩, ⟨bw HB⟩⟩
  case round =>
    clear H'
    try clear c1
    try clear p2
    try clear c3
    obtain ⟨x7_1, x8_1, rfl, HA, HK1, HO_7, BK528, HB⟩ := hrel
    cases gk with
    | zero => exact absurd HA.out (by simp [turnstileref24_grid.l0])
    | succ k1 =>
      have H := HA.out
      clear HA
      simp only [turnstileref24_grid.l0] at H
      by_cases c6 : x8_1 < (l1.length : Int)
      · rw [if_pos c6] at H
        have c6b0 : decide (x8_1 < (l1.length : Int)) = true := decide_eq_true c6
        clear c6
        by_cases c7 : 0 ≤ x8_1
        · rw [if_pos c7] at H
          have c7b0 : decide (0 ≤ x8_1) = true := decide_eq_true c7
          clear c7
          by_cases c8 : ((rd_T31 l1 x8_1).f1) = 0
          · rw [if_pos c8] at H
            have c8b0 : (((rd_T31 l1 x8_1).f1) == 0) = true := beq_iff_eq.mpr c8
            have c8b1 : (((rd_T31 l1 x8_1).f1) != 0) = false := bne_eq_false_iff_eq.mpr c8
            clear c8
            simp only [Option.some.injEq, Prod.mk.injEq] at H
            obtain ⟨rfl, rfl, rfl⟩ := H
            have p532 : 0 ≤ (x8_1 : Int) := of_decide_eq_true (by first | (with_reducible assumption) | assumption)
            have q532 : x8_1 < (l1.length : Int) := of_decide_eq_true (by first | (with_reducible assumption) | assumption)
            obtain ⟨ad532, e532, hx532_0, hx532_1⟩ := at_T31 HR1.out x8_1 p532 q532
            cases e532
            replace hx532_0 := (HB.out.cell (World.block_lt_of_cell? w _ hx532_0)).trans hx532_0
            replace hx532_1 := (HB.out.cell (World.block_lt_of_cell? w _ hx532_1)).trans hx532_1
            replace p532 := eq_true p532
            replace q532 := eq_true q532
            go_wp2
            go_ret3
            exact ⟨re, bw HB⟩
          · rw [if_neg c8] at H
            have c8b0 : (((rd_T31 l1 x8_1).f1) == 0) = false := beq_eq_false_iff_ne.mpr c8
            have c8b1 : (((rd_T31 l1 x8_1).f1) != 0) = true := bne_iff_ne.mpr c8
            by_cases c9 : a0_4 = 0
            · rw [if_pos c9] at H
              exact absurd H (by simp)
            · rw [if_neg c9] at H
              have c9b0 : (a0_4 == 0) = false := beq_eq_false_iff_ne.mpr c9
              have c9b1 : (a0_4 != 0) = true := bne_iff_ne.mpr c9
              by_cases c10 : x7_1.length < 8796093022208
              · rw [if_pos c10] at H
                have LMc10 := Aside0.mk c10
                clear c10
                obtain ⟨y535, hy535⟩ : ∃ y_ : List (S31), y_ = (x7_1 ++ [(⟨IntKind.u64.wrap (Int.tdiv ((rd_T31 l1 x8_1).f0) a0_4), (rd_T31 l1 x8_1).f1⟩ : S31)]) := ⟨_, rfl⟩
                replace H : (turnstileref24_grid.l0 k1 l1 y535 (wrap64 (x8_1 + 1)) a0_0 a0_1 a0_2 a0_3 a0_4) = some (r1, r2, r3) := by first | (rw [hy535]; with_reducible exact H) | (have H2_ := (Option.bind_some _ _).symm.trans H; rw [hy535]; with_reducible exact H2_) | (have H2_ := (Option.bind_some _ _).symm.trans H; with_reducible exact H2_) | with_reducible exact H | (rw [hy535]; exact H) | exact H
                have Ny535 := Aside0.mk hy535
                clear hy535
                have H' := Aside0.mk H
                clear H
                have p532 : 0 ≤ (x8_1 : Int) := of_decide_eq_true (by first | (with_reducible assumption) | assumption)
                have q532 : x8_1 < (l1.length : Int) := of_decide_eq_true (by first | (with_reducible assumption) | assumption)
                obtain ⟨ad532, e532, hx532_0, hx532_1⟩ := at_T31 HR1.out x8_1 p532 q532
                cases e532
                replace hx532_0 := (HB.out.cell (World.block_lt_of_cell? w _ hx532_0)).trans hx532_0
                replace hx532_1 := (HB.out.cell (World.block_lt_of_cell? w _ hx532_1)).trans hx532_1
                replace p532 := eq_true p532
                replace q532 := eq_true q532
                try go_wp2
                replace HO_7 := Aside0.mk (Kd.R_drew HO_7.out)
                replace BK528 := Aside0.mk (blk_drew BK528.out)
                replace HB := Aside0.mk (below_drew1 HB.out)
                have p533 : 0 ≤ (x8_1 : Int) := of_decide_eq_true (by first | (with_reducible assumption) | assumption)
                have q533 : x8_1 < (l1.length : Int) := of_decide_eq_true (by first | (with_reducible assumption) | assumption)
                obtain ⟨ad533, e533, hx533_0, hx533_1⟩ := at_T31 HR1.out x8_1 p533 q533
                have hw533_1 := hx533_1
                have hw533_0 := hx533_0
                obtain rfl : ad532 = ad533 := (by injection e533)
                replace hx533_0 := (HB.out.cell (World.block_lt_of_cell? w _ hx533_0)).trans hx533_0
                replace hx533_1 := (HB.out.cell (World.block_lt_of_cell? w _ hx533_1)).trans hx533_1
                replace p533 := eq_true p533
                replace q533 := eq_true q533
                have p534 : 0 ≤ (x8_1 : Int) := of_decide_eq_true (by first | (with_reducible assumption) | assumption)
                have q534 : x8_1 < (l1.length : Int) := of_decide_eq_true (by first | (with_reducible assumption) | assumption)
                obtain ⟨ad534, e534, hx534_0, hx534_1⟩ := at_T31 HR1.out x8_1 p534 q534
                have hw534_1 := hx534_1
                have hw534_0 := hx534_0
                obtain rfl : ad532 = ad534 := (by injection e534)
                replace hx534_0 := (HB.out.cell (World.block_lt_of_cell? w _ hx534_0)).trans hx534_0
                replace hx534_1 := (HB.out.cell (World.block_lt_of_cell? w _ hx534_1)).trans hx534_1
                replace p534 := eq_true p534
                replace q534 := eq_true q534
                refine start_ (n := 18) (S := fun w' => w'.cell? ⟨gb528, 0, none⟩ = some (.int .i64 a0_0) ∧ w'.cell? ⟨gb528, 1, none⟩ = some (.int .u64 a0_1) ∧ w'.cell? ⟨gb528, 2, none⟩ = some (.int .u64 a0_2) ∧ w'.cell? ⟨gb528, 3, none⟩ = some (.int .u64 a0_3) ∧ w'.cell? ⟨gb528, 4, none⟩ = some (.int .u64 a0_4) ∧ w'.cell? (ad532.add ((x8_1).toNat * 2)) = some (.int .u64 ((rd_T31 l1 x8_1).f0)) ∧ w'.cell? ⟨(ad532.add ((x8_1).toNat * 2)).block, (ad532.add ((x8_1).toNat * 2)).off + 1, none⟩ = some (.int .u64 ((rd_T31 l1 x8_1).f1)) ∧ w'.cell? (ad532.add ((x8_1).toNat * 2)) = some (.int .u64 ((rd_T31 l1 x8_1).f0)) ∧ w'.cell? ⟨(ad532.add ((x8_1).toNat * 2)).block, (ad532.add ((x8_1).toNat * 2)).off + 1, none⟩ = some (.int .u64 ((rd_T31 l1 x8_1).f1))) (ds := []) #[false, false, false, false, false, false, false, false, false, false, false, false, false, false, false, false, false, false] (by kernel_rfl) rfl rfl ⟨(blk_cell BK528.out 0).trans rfl, (blk_cell BK528.out 1).trans rfl, (blk_cell BK528.out 2).trans rfl, (blk_cell BK528.out 3).trans rfl, (blk_cell BK528.out 4).trans rfl, ((HB.out.cell (World.block_lt_of_cell? w _ hw533_0)).trans hw533_0), ((HB.out.cell (World.block_lt_of_cell? w _ hw533_1)).trans hw533_1), ((HB.out.cell (World.block_lt_of_cell? w _ hw534_0)).trans hw534_0), ((HB.out.cell (World.block_lt_of_cell? w _ hw534_1)).trans hw534_1)⟩ (fun hHeld => ?_); refine with_tabW turnstileref24_grid.tab7 turnstileref24_grid.bits7 (fun HT_ HW_ => ?_)
                generalize wr.drew = w11 at HO_7 BK528 HB hx533_0 hx533_1 hx534_0 hx534_1 hHeld ⊢
                refine chain_ (fuel := 3) [(0, 0, some 25), (1, 0, some 26), (2, 0, some 27), (3, 0, some 28), (4, 0, some 29), (6, 0, some 31), (9, 0, some 34), (10, 0, some 35), (11, 0, some 36), (12, 0, some 37), (5, 1, some 30), (7, 1, some 32), (8, 0, some 33), (13, 1, some 38), (14, 0, some 39)] #[true, true, true, true, true, true, true, true, true, true, true, true, true, true, true, false, false, false] HT_.out HW_.out (by kernel_rfl) (fun _ _ _ _ _ h => h) (Or.inr hHeld) rfl ?_
                (iterate 10 refine lkP ?_); (iterate 2 refine lkT ?_); refine lkP ?_; refine lkT ?_; refine lkP ?_; refine .nil ?_
                refine one_ (i := 15) (N := some 40) #[true, true, true, true, true, true, true, true, true, true, true, true, true, true, true, true, false, false] rfl rfl (one_of HT_.out (by kernel_rfl)) (by decide) (fun K hK => ?_)
                refine value_ (w1 := ?_) (v := ?_) (by rfl) rfl ?_ ?_
                rotate_left 2
                · go_simp
                  constructor
                  · rfl
                  · rfl
                refine hK.out _ _ ⟨(blk_cell (blk_alloc BK528.out _) 0).trans rfl, (blk_cell (blk_alloc BK528.out _) 1).trans rfl, (blk_cell (blk_alloc BK528.out _) 2).trans rfl, (blk_cell (blk_alloc BK528.out _) 3).trans rfl, (blk_cell (blk_alloc BK528.out _) 4).trans rfl, (World.cell?_alloc_lt _ _ _ (World.block_lt_of_cell? _ _ (((HB.out.cell (World.block_lt_of_cell? w _ hw533_0)).trans hw533_0)))).trans (((HB.out.cell (World.block_lt_of_cell? w _ hw533_0)).trans hw533_0)), (World.cell?_alloc_lt _ _ _ (World.block_lt_of_cell? _ _ (((HB.out.cell (World.block_lt_of_cell? w _ hw533_1)).trans hw533_1)))).trans (((HB.out.cell (World.block_lt_of_cell? w _ hw533_1)).trans hw533_1)), (World.cell?_alloc_lt _ _ _ (World.block_lt_of_cell? _ _ (((HB.out.cell (World.block_lt_of_cell? w _ hw534_0)).trans hw534_0)))).trans (((HB.out.cell (World.block_lt_of_cell? w _ hw534_0)).trans hw534_0)), (World.cell?_alloc_lt _ _ _ (World.block_lt_of_cell? _ _ (((HB.out.cell (World.block_lt_of_cell? w _ hw534_1)).trans hw534_1)))).trans (((HB.out.cell (World.block_lt_of_cell? w _ hw534_1)).trans hw534_1))⟩ (fun hHeld => ?_)
                clear hK K
                refine norm_ (a' := ?_) ?_ ?_
                rotate_left
                · show Act.put _ (some 40) _ = _
                  simp only [Act.put, List.setIfInBounds_toArray, List.set_cons_zero, List.set_cons_succ, i64_w, i32_w]
                  rfl
                refine one_ (i := 16) (N := some 41) #[true, true, true, true, true, true, true, true, true, true, true, true, true, true, true, true, true, false] rfl rfl (one_of HT_.out (by kernel_rfl)) (by decide) (fun K hK => ?_)
                refine Kd.R_append_step k31 (w0 := w) w.heap.size (by rfl) (.tmp 25) (.tmp 40) 25 31 (.agg #[(.int .u64 0), (.int .u64 0)]) 16 rfl Try.underlying25 info31 rfl (by decide) (by omega) u7 x7_1 (⟨IntKind.u64.wrap (Int.tdiv ((rd_T31 l1 x8_1).f0) a0_4), (rd_T31 l1 x8_1).f1⟩ : S31) [.int .u64 (IntKind.u64.wrap (Int.tdiv ((rd_T31 l1 x8_1).f0) a0_4)), .int .u64 ((rd_T31 l1 x8_1).f1)] (fun _ => True) (fun _ => False) rfl rfl ?aP (fun _ hk => hk.elim) ?aF ?aO ?aB ?aS ?aL ?_
                (case aP => exact k31_mkM _ _ _ (⟨IntKind.u64.wrap (Int.tdiv ((rd_T31 l1 x8_1).f0) a0_4), (rd_T31 l1 x8_1).f1⟩ : S31))
                (case aB => exact (bw HB))
                (case aF => exact (fun _ _ => trivial))
                (case aO => exact (ro HO_7))
                (case aS => exact (below_size (bw HB)))
                (case aL => have := LMc10.out; omega)
                intro v536 w12 ho hb hg hat
                rw [← Ny535.out] at ho
                have n0_ := Aside0.mk (blk_grown (g := gb528) (o := .cells #[.int .i64 a0_0, .int .u64 a0_1, .int .u64 a0_2, .int .u64 a0_3, .int .u64 a0_4] 24 (0, 0)) (bk BK528) hg (Kd.R_ne HO_7.out BK528.out (by decide)))
                have n1_ := Aside0.mk (hb)
                have n2_ := Aside0.mk (ho)
                clear BK528
                clear HB
                clear HO_7
                have BK528 := n0_
                have HB := n1_
                have HO537 := n2_
                clear n0_ n1_ n2_
                clear ho hb hg hat
                refine hK.out _ _ ⟨(blk_cell BK528.out 0).trans rfl, (blk_cell BK528.out 1).trans rfl, (blk_cell BK528.out 2).trans rfl, (blk_cell BK528.out 3).trans rfl, (blk_cell BK528.out 4).trans rfl, ((HB.out.cell (World.block_lt_of_cell? w _ hw533_0)).trans hw533_0), ((HB.out.cell (World.block_lt_of_cell? w _ hw533_1)).trans hw533_1), ((HB.out.cell (World.block_lt_of_cell? w _ hw534_0)).trans hw534_0), ((HB.out.cell (World.block_lt_of_cell? w _ hw534_1)).trans hw534_1)⟩ (fun hHeld => ?_)
                clear hK K
                refine norm_ (a' := ?_) ?_ ?_
                rotate_left
                · show Act.put _ (some 41) _ = _
                  simp only [Act.put, List.setIfInBounds_toArray, List.set_cons_zero, List.set_cons_succ, i64_w, i32_w]
                  rfl
                refine chain_ (fuel := 0) [(17, 0, some 7)] #[true, true, true, true, true, true, true, true, true, true, true, true, true, true, true, true, true, true] HT_.out HW_.out (by kernel_rfl) (fun _ _ _ _ _ h => h) (Or.inl (by decide)) rfl ?_
                refine lkP ?_; refine .nil ?_
                refine done_ (done_of HT_.out (by kernel_rfl)) ?_
                try go_wp2
                go_roundg k1
                case measure => have := HK1.out; omega
                case rel => exact ⟨(y535), (wrap64 (x8_1 + 1)), rs, H', ⟨by have := HK1.out; omega⟩, ⟨ro HO537⟩, ⟨bk BK528⟩, ⟨bw HB⟩⟩
              · rw [if_neg c10] at H
                exact absurd H (by simp)
        · rw [if_neg c7] at H
          exact absurd H (by simp)
      · rw [if_neg c6] at H
        have c6b0 : decide (x8_1 < (l1.length : Int)) = false := decide_eq_false c6
        clear c6
        replace H := Option.bind_eq_some_iff.mp H
        obtain ⟨t538, A130, H⟩ := H
        replace H : (turnstileref24_grid.l1 k1 t538 0 0 0 a0_0 a0_1 a0_2 a0_3 a0_4) = some (r1, r2, r3) := H
        have A13 := Aside0.mk A130
        clear A130
        have H' := Aside0.mk H
        clear H
        obtain ⟨Ao14, co14, eo14⟩ := Kd.R_slice HO_7.out
        subst eo14
        go_wp2_with (first | ((with_reducible refine gate_callee (f := 47) rfl ?_); refine gl (some 43) Try.func47 #[.slice Ao14 x7_1.length co14] ?_; (with_reducible refine (turnstileref24_sorted.calls k1 _ _ x7_1 t538 _ ?side1 ?side2 A13.out).mono ?_); (case side1 => exact co (Kd.R_reads' HO_7.out).2.2); (case side2 => exact (Kd.R_reads' HO_7.out).2.1); rintro e w15 ⟨v539, rfl, ho0, hb⟩; refine ⟨_, rfl, ?_⟩; have n1_ := Aside0.mk ho0; have n2_ := bb BK528 hb; have n3_ := bs HB hb; clear HO_7; clear BK528; clear HB; have HO540 := n1_; have BK528 := n2_; have HB := n3_; clear n1_ n2_ n3_; (try clear hb); (try clear hb2); (try clear hk); (try clear hi); (try clear ho0)))
        go_loopg [9, 10, 11] k1 (fun kq v9 v10 v11 w' => ∃ (x9_2 : Int) (x10_2 : Int) (x11_2 : Int), v9 = .int .u64 x9_2 ∧ v10 = .int .u64 x10_2 ∧ v11 = .int .i64 x11_2 ∧ Aside0 (turnstileref24_grid.l1 kq t538 x9_2 x10_2 x11_2 a0_0 a0_1 a0_2 a0_3 a0_4 = some (r1, r2, r3)) ∧ Aside0 (kq ≤ k1) ∧ Aside0 (Kd.V k31 31 w' 0 (fun _ => True) v539 t538) ∧ Aside0 (w'.heap[gb528]? = some (.cells #[.int .i64 a0_0, .int .u64 a0_1, .int .u64 a0_2, .int .u64 a0_3, .int .u64 a0_4] 24 (0, 0))) ∧ Aside0 (Below w.heap.size w w'))
        case atStart => exact ⟨(0), (0), (0), rs, rs, rs, H', ⟨Nat.le_refl _⟩, ⟨by (with_reducible repeat (first | apply Kd.V_alloc | apply Kd.V_drewN | apply Kd.V_drew)); exact Kd.V_mono HO540.out (fun _ hk => trivial)⟩, ⟨bk BK528⟩, ⟨bw HB⟩⟩
        case round =>
          clear H'
          try clear c1
          try clear p2
          try clear c3
          try clear c4
          try clear p5
          try clear q5
          try clear hx5
          try clear c6
          try clear c6b0
          try clear p6
          try clear c7
          try clear c7b0
          try clear c8
          try clear c8b0
          try clear c8b1
          try clear c9
          try clear c9b0
          try clear c9b1
          try clear c10
          try clear hx532_0
          try clear hx532_1
          try clear hx533_0
          try clear hx533_1
          try clear hx534_0
          try clear hx534_1
          try clear p2
          try clear p532
          try clear p533
          try clear p534
          try clear q532
          try clear q533
          try clear q534
          obtain ⟨x9_2, x10_2, x11_2, rfl, rfl, rfl, HA, HK2, HO_7, BK528, HB⟩ := hrel
          cases gk with
          | zero => exact absurd HA.out (by simp [turnstileref24_grid.l1])
          | succ k2 =>
            have H := HA.out
            clear HA
            simp only [turnstileref24_grid.l1] at H
            by_cases c16 : x11_2 < (t538.length : Int)
            · rw [if_pos c16] at H
              have c16b0 : decide (x11_2 < (t538.length : Int)) = true := decide_eq_true c16
              clear c16
              have HC17 := Aside0.mk H
              clear H
              obtain ⟨Ao18, co18, eo18⟩ := Kd.V_slice HO_7.out
              subst eo18
              go_upto_region 14 with (fail)
              go_cut [60] (fun v60 wc => ∃ (kq : Nat) (x60_16 : Bool), v60 = .bool x60_16 ∧ Aside0 (turnstileref24_grid.j2 kq t538 x9_2 x10_2 x11_2 x60_16 a0_0 a0_1 a0_2 a0_3 a0_4 = some (r1, r2, r3)) ∧ Aside0 (kq ≤ k2) ∧ Aside0 (Kd.V k31 31 wc 0 (fun _ => True) (.slice Ao18 t538.length co18) t538) ∧ Aside0 (wc.heap[gb528]? = some (.cells #[.int .i64 a0_0, .int .u64 a0_1, .int .u64 a0_2, .int .u64 a0_3, .int .u64 a0_4] 24 (0, 0))) ∧ Aside0 (Below w.heap.size w wc))
              case first =>
                have H := HC17.out
                clear HC17
                by_cases c19 : x11_2 = 0
                · rw [if_pos c19] at H
                  have c19b0 : (x11_2 == 0) = true := beq_iff_eq.mpr c19
                  have c19b1 : (x11_2 != 0) = false := bne_eq_false_iff_eq.mpr c19
                  clear c19
                  (first | rw [c19b0] | (simp only [i64_w, i32_w]; rw [c19b0]) | skip)
                  have H' := Aside0.mk H
                  clear H
                  go_wp2
                  go_meet
                  case rel => exact ⟨_, (true), rs, H', ⟨by have := HK1.out; have := HK2.out; first | omega | exact Nat.le_refl _⟩, ⟨vo HO_7⟩, ⟨bk BK528⟩, ⟨bw HB⟩⟩
                · rw [if_neg c19] at H
                  have c19b0 : (x11_2 == 0) = false := beq_eq_false_iff_ne.mpr c19
                  have c19b1 : (x11_2 != 0) = true := bne_iff_ne.mpr c19
                  (first | rw [c19b0] | (simp only [i64_w, i32_w]; rw [c19b0]) | skip)
                  by_cases c20 : 0 ≤ x11_2
                  · rw [if_pos c20] at H
                    have c20b0 : decide (0 ≤ x11_2) = true := decide_eq_true c20
                    clear c20
                    have H' := Aside0.mk H
                    clear H
                    have p541 : 0 ≤ (x11_2 : Int) := of_decide_eq_true (by first | (with_reducible assumption) | assumption)
                    have q541 : x11_2 < (t538.length : Int) := of_decide_eq_true (by first | (with_reducible assumption) | assumption)
                    obtain ⟨ad541, e541, hx541_0, hx541_1⟩ := at_T31 (Kd.V_reads' HO_7.out).2.2 x11_2 p541 q541
                    cases e541
                    replace p541 := eq_true p541
                    replace q541 := eq_true q541
                    go_wp2
                    go_meet
                    case rel => exact ⟨_, ((((rd_T31 t538 x11_2).f0) != x9_2)), rs, H', ⟨by have := HK1.out; have := HK2.out; first | omega | exact Nat.le_refl _⟩, ⟨vo HO_7⟩, ⟨bk BK528⟩, ⟨bw HB⟩⟩
                  · rw [if_neg c20] at H
                    exact absurd H (by simp)
              case rest =>
                clear HC17
                try clear c1
                try clear c2
                try clear p2
                try clear c3
                try clear c4
                try clear p5
                try clear q5
                try clear hx5
                try clear c6
                try clear c6b0
                try clear p6
                try clear c7
                try clear c7b0
                try clear c8
                try clear c8b0
                try clear c8b1
                try clear c9
                try clear c9b0
                try clear c9b1
                try clear c10
                try clear c16
                try clear c16b0
                try clear c19
                try clear c19b0
                try clear c19b1
                try clear c20
                try clear c20b0
                try clear hx532_0
                try clear hx532_1
                try clear hx533_0
                try clear hx533_1
                try clear hx534_0
                try clear hx534_1
                try clear hx541_0
                try clear hx541_1
                try clear p2
                try clear p5
                try clear p532
                try clear p533
                try clear p534
                try clear p541
                try clear p6
                try clear q5
                try clear q532
                try clear q533
                try clear q534
                try clear q541
                obtain ⟨kq, x60_16, rfl, HA, HJ16, HO_7, BK528, HB⟩ := hcut
                cases kq with
                | zero => exact absurd HA.out (by simp [turnstileref24_grid.j2])
                | succ kj16 =>
                  have H := HA.out
                  clear HA
                  simp only [turnstileref24_grid.j2] at H
                  by_cases c21 : x60_16 = true
                  · subst c21
                    have H1 : (if 0 ≤ x11_2 then (if x11_2 < (t538.length : Int) then (if ((rd_T31 t538 x11_2).f1) > (IntKind.u64.wrap (a0_3)) then (some (0, 0, false)) else (turnstileref24_grid.l1 kj16 t538 ((rd_T31 t538 x11_2).f0) (IntKind.u64.wrap (((rd_T31 t538 x11_2).f1))) (wrap64 (x11_2 + 1)) a0_0 a0_1 a0_2 a0_3 a0_4)) else (none)) else (none)) = some (r1, r2, r3) := by rw [if_pos rfl] at H; exact H
                    clear H
                    have H := H1
                    clear H1
                    by_cases c22 : 0 ≤ x11_2
                    · rw [if_pos c22] at H
                      have c22b0 : decide (0 ≤ x11_2) = true := decide_eq_true c22
                      clear c22
                      by_cases c23 : x11_2 < (t538.length : Int)
                      · rw [if_pos c23] at H
                        have c23b0 : decide (x11_2 < (t538.length : Int)) = true := decide_eq_true c23
                        clear c23
                        by_cases c24 : ((rd_T31 t538 x11_2).f1) > (IntKind.u64.wrap (a0_3))
                        · rw [if_pos c24] at H
                          have c24b0 : decide ((IntKind.u64.wrap (a0_3)) < ((rd_T31 t538 x11_2).f1)) = true := decide_eq_true c24
                          clear c24
                          simp only [Option.some.injEq, Prod.mk.injEq] at H
                          obtain ⟨rfl, rfl, rfl⟩ := H
                          have p542 : 0 ≤ (x11_2 : Int) := of_decide_eq_true (by first | (with_reducible assumption) | assumption)
                          have q542 : x11_2 < (t538.length : Int) := of_decide_eq_true (by first | (with_reducible assumption) | assumption)
                          obtain ⟨ad542, e542, hx542_0, hx542_1⟩ := at_T31 (Kd.V_reads' HO_7.out).2.2 x11_2 p542 q542
                          cases e542
                          replace p542 := eq_true p542
                          replace q542 := eq_true q542
                          try go_wp2
                          replace HO_7 := Aside0.mk (Kd.V_drew HO_7.out)
                          replace BK528 := Aside0.mk (blk_drew BK528.out)
                          replace HB := Aside0.mk (below_drew1 HB.out)
                          have p543 : 0 ≤ (x11_2 : Int) := of_decide_eq_true (by first | (with_reducible assumption) | assumption)
                          have q543 : x11_2 < (t538.length : Int) := of_decide_eq_true (by first | (with_reducible assumption) | assumption)
                          obtain ⟨ad543, e543, hx543_0, hx543_1⟩ := at_T31 (Kd.V_reads' HO_7.out).2.2 x11_2 p543 q543
                          obtain rfl : ad542 = ad543 := (by injection e543)
                          replace p543 := eq_true p543
                          replace q543 := eq_true q543
                          refine start_ (n := 10) (S := fun w' => w'.cell? ⟨gb528, 0, none⟩ = some (.int .i64 a0_0) ∧ w'.cell? ⟨gb528, 1, none⟩ = some (.int .u64 a0_1) ∧ w'.cell? ⟨gb528, 2, none⟩ = some (.int .u64 a0_2) ∧ w'.cell? ⟨gb528, 3, none⟩ = some (.int .u64 a0_3) ∧ w'.cell? ⟨gb528, 4, none⟩ = some (.int .u64 a0_4) ∧ w'.cell? (ad542.add ((x11_2).toNat * 2)) = some (.int .u64 ((rd_T31 t538 x11_2).f0)) ∧ w'.cell? ⟨(ad542.add ((x11_2).toNat * 2)).block, (ad542.add ((x11_2).toNat * 2)).off + 1, none⟩ = some (.int .u64 ((rd_T31 t538 x11_2).f1))) (ds := []) #[false, false, false, false, false, false, false, false, false, false] (by kernel_rfl) rfl rfl ⟨(blk_cell BK528.out 0).trans rfl, (blk_cell BK528.out 1).trans rfl, (blk_cell BK528.out 2).trans rfl, (blk_cell BK528.out 3).trans rfl, (blk_cell BK528.out 4).trans rfl, hx543_0, hx543_1⟩ (fun hHeld => ?_); refine with_tabW turnstileref24_grid.tab17 turnstileref24_grid.bits17 (fun HT_ HW_ => ?_)
                          generalize wc.drew = w25 at HO_7 BK528 HB hx543_0 hx543_1 hHeld ⊢
                          refine chain_ (fuel := 0) [(0, 0, some 66), (1, 0, some 67), (2, 0, some 68), (3, 0, some 69), (5, 0, some 71), (7, 0, some 73), (4, 1, some 70), (6, 1, some 72), (8, 0, some 74), (9, 0, some 75)] #[true, true, true, true, true, true, true, true, true, true] HT_.out HW_.out (by kernel_rfl) (fun _ _ _ _ _ h => h) (Or.inr hHeld) rfl ?_
                          (iterate 6 refine lkP ?_); (iterate 2 refine lkT ?_); (iterate 2 refine lkP ?_); refine .nil ?_
                          refine done_ (done_of HT_.out (by kernel_rfl)) ?_
                          try go_wp2
                          go_ret3
                          exact ⟨re, bw HB⟩
                        · rw [if_neg c24] at H
                          have c24b0 : decide ((IntKind.u64.wrap (a0_3)) < ((rd_T31 t538 x11_2).f1)) = false := decide_eq_false c24
                          clear c24
                          have H' := Aside0.mk H
                          clear H
                          have p542 : 0 ≤ (x11_2 : Int) := of_decide_eq_true (by first | (with_reducible assumption) | assumption)
                          have q542 : x11_2 < (t538.length : Int) := of_decide_eq_true (by first | (with_reducible assumption) | assumption)
                          obtain ⟨ad542, e542, hx542_0, hx542_1⟩ := at_T31 (Kd.V_reads' HO_7.out).2.2 x11_2 p542 q542
                          cases e542
                          replace p542 := eq_true p542
                          replace q542 := eq_true q542
                          try go_wp2
                          replace HO_7 := Aside0.mk (Kd.V_drew HO_7.out)
                          replace BK528 := Aside0.mk (blk_drew BK528.out)
                          replace HB := Aside0.mk (below_drew1 HB.out)
                          have p543 : 0 ≤ (x11_2 : Int) := of_decide_eq_true (by first | (with_reducible assumption) | assumption)
                          have q543 : x11_2 < (t538.length : Int) := of_decide_eq_true (by first | (with_reducible assumption) | assumption)
                          obtain ⟨ad543, e543, hx543_0, hx543_1⟩ := at_T31 (Kd.V_reads' HO_7.out).2.2 x11_2 p543 q543
                          obtain rfl : ad542 = ad543 := (by injection e543)
                          replace p543 := eq_true p543
                          replace q543 := eq_true q543
                          refine start_ (n := 10) (S := fun w' => w'.cell? ⟨gb528, 0, none⟩ = some (.int .i64 a0_0) ∧ w'.cell? ⟨gb528, 1, none⟩ = some (.int .u64 a0_1) ∧ w'.cell? ⟨gb528, 2, none⟩ = some (.int .u64 a0_2) ∧ w'.cell? ⟨gb528, 3, none⟩ = some (.int .u64 a0_3) ∧ w'.cell? ⟨gb528, 4, none⟩ = some (.int .u64 a0_4) ∧ w'.cell? (ad542.add ((x11_2).toNat * 2)) = some (.int .u64 ((rd_T31 t538 x11_2).f0)) ∧ w'.cell? ⟨(ad542.add ((x11_2).toNat * 2)).block, (ad542.add ((x11_2).toNat * 2)).off + 1, none⟩ = some (.int .u64 ((rd_T31 t538 x11_2).f1))) (ds := []) #[false, false, false, false, false, false, false, false, false, false] (by kernel_rfl) rfl rfl ⟨(blk_cell BK528.out 0).trans rfl, (blk_cell BK528.out 1).trans rfl, (blk_cell BK528.out 2).trans rfl, (blk_cell BK528.out 3).trans rfl, (blk_cell BK528.out 4).trans rfl, hx543_0, hx543_1⟩ (fun hHeld => ?_); refine with_tabW turnstileref24_grid.tab17 turnstileref24_grid.bits17 (fun HT_ HW_ => ?_)
                          generalize wc.drew = w26 at HO_7 BK528 HB hx543_0 hx543_1 hHeld ⊢
                          refine chain_ (fuel := 0) [(0, 0, some 66), (1, 0, some 67), (2, 0, some 68), (3, 0, some 69), (5, 0, some 71), (7, 0, some 73), (4, 1, some 70), (6, 1, some 72), (8, 0, some 74), (9, 0, some 75)] #[true, true, true, true, true, true, true, true, true, true] HT_.out HW_.out (by kernel_rfl) (fun _ _ _ _ _ h => h) (Or.inr hHeld) rfl ?_
                          (iterate 6 refine lkP ?_); (iterate 2 refine lkT ?_); (iterate 2 refine lkP ?_); refine .nil ?_
                          refine done_ (done_of HT_.out (by kernel_rfl)) ?_
                          have p544 : 0 ≤ (x11_2 : Int) := of_decide_eq_true (by first | (with_reducible assumption) | assumption)
                          have q544 : x11_2 < (t538.length : Int) := of_decide_eq_true (by first | (with_reducible assumption) | assumption)
                          obtain ⟨ad544, e544, hx544_0, hx544_1⟩ := at_T31 (Kd.V_reads' HO_7.out).2.2 x11_2 p544 q544
                          obtain rfl : ad542 = ad544 := (by injection e544)
                          replace p544 := eq_true p544
                          replace q544 := eq_true q544
                          try go_wp2
                          go_roundg kj16
                          case measure => have := HK1.out; have := HK2.out; have := HJ16.out; omega
                          case rel => exact ⟨((rd_T31 t538 x11_2).f0), (IntKind.u64.wrap (((rd_T31 t538 x11_2).f1))), (wrap64 (x11_2 + 1)), rs, rs, rs, H', ⟨by have := HK1.out; have := HK2.out; have := HJ16.out; omega⟩, ⟨vo HO_7⟩, ⟨bk BK528⟩, ⟨bw HB⟩⟩
                      · rw [if_neg c23] at H
                        exact absurd H (by simp)
                    · rw [if_neg c22] at H
                      exact absurd H (by simp)
                  · replace c21 := Bool.eq_false_iff.mpr c21
                    subst c21
                    have H1 : (if 0 ≤ x11_2 then (if x11_2 < (t538.length : Int) then (if ((rd_T31 t538 x11_2).f1) > (IntKind.u64.wrap (a0_3 - x10_2)) then (some (0, 0, false)) else (turnstileref24_grid.l1 kj16 t538 x9_2 (IntKind.u64.wrap (x10_2 + ((rd_T31 t538 x11_2).f1))) (wrap64 (x11_2 + 1)) a0_0 a0_1 a0_2 a0_3 a0_4)) else (none)) else (none)) = some (r1, r2, r3) := by rw [if_neg (show ¬ (false = true) by decide)] at H; exact H
                    clear H
                    have H := H1
                    clear H1
                    by_cases c27 : 0 ≤ x11_2
                    · rw [if_pos c27] at H
                      have c27b0 : decide (0 ≤ x11_2) = true := decide_eq_true c27
                      clear c27
                      by_cases c28 : x11_2 < (t538.length : Int)
                      · rw [if_pos c28] at H
                        have c28b0 : decide (x11_2 < (t538.length : Int)) = true := decide_eq_true c28
                        clear c28
                        by_cases c29 : ((rd_T31 t538 x11_2).f1) > (IntKind.u64.wrap (a0_3 - x10_2))
                        · rw [if_pos c29] at H
                          have c29b0 : decide ((IntKind.u64.wrap (a0_3 - x10_2)) < ((rd_T31 t538 x11_2).f1)) = true := decide_eq_true c29
                          clear c29
                          simp only [Option.some.injEq, Prod.mk.injEq] at H
                          obtain ⟨rfl, rfl, rfl⟩ := H
                          try go_wp2
                          replace HO_7 := Aside0.mk (Kd.V_drew HO_7.out)
                          replace BK528 := Aside0.mk (blk_drew BK528.out)
                          replace HB := Aside0.mk (below_drew1 HB.out)
                          have p545 : 0 ≤ (x11_2 : Int) := of_decide_eq_true (by first | (with_reducible assumption) | assumption)
                          have q545 : x11_2 < (t538.length : Int) := of_decide_eq_true (by first | (with_reducible assumption) | assumption)
                          obtain ⟨ad545, e545, hx545_0, hx545_1⟩ := at_T31 (Kd.V_reads' HO_7.out).2.2 x11_2 p545 q545
                          cases e545
                          replace p545 := eq_true p545
                          replace q545 := eq_true q545
                          refine start_ (n := 10) (S := fun w' => w'.cell? ⟨gb528, 0, none⟩ = some (.int .i64 a0_0) ∧ w'.cell? ⟨gb528, 1, none⟩ = some (.int .u64 a0_1) ∧ w'.cell? ⟨gb528, 2, none⟩ = some (.int .u64 a0_2) ∧ w'.cell? ⟨gb528, 3, none⟩ = some (.int .u64 a0_3) ∧ w'.cell? ⟨gb528, 4, none⟩ = some (.int .u64 a0_4) ∧ w'.cell? (ad545.add ((x11_2).toNat * 2)) = some (.int .u64 ((rd_T31 t538 x11_2).f0)) ∧ w'.cell? ⟨(ad545.add ((x11_2).toNat * 2)).block, (ad545.add ((x11_2).toNat * 2)).off + 1, none⟩ = some (.int .u64 ((rd_T31 t538 x11_2).f1))) (ds := []) #[false, false, false, false, false, false, false, false, false, false] (by kernel_rfl) rfl rfl ⟨(blk_cell BK528.out 0).trans rfl, (blk_cell BK528.out 1).trans rfl, (blk_cell BK528.out 2).trans rfl, (blk_cell BK528.out 3).trans rfl, (blk_cell BK528.out 4).trans rfl, hx545_0, hx545_1⟩ (fun hHeld => ?_); refine with_tabW turnstileref24_grid.tab17 turnstileref24_grid.bits17 (fun HT_ HW_ => ?_)
                          generalize wc.drew = w30 at HO_7 BK528 HB hx545_0 hx545_1 hHeld ⊢
                          refine chain_ (fuel := 0) [(0, 0, some 66), (1, 0, some 67), (2, 0, some 68), (3, 0, some 69), (5, 0, some 71), (7, 0, some 73), (4, 1, some 70), (6, 1, some 72), (8, 0, some 74), (9, 0, some 75)] #[true, true, true, true, true, true, true, true, true, true] HT_.out HW_.out (by kernel_rfl) (fun _ _ _ _ _ h => h) (Or.inr hHeld) rfl ?_
                          (iterate 6 refine lkP ?_); (iterate 2 refine lkT ?_); (iterate 2 refine lkP ?_); refine .nil ?_
                          refine done_ (done_of HT_.out (by kernel_rfl)) ?_
                          try go_wp2
                          go_ret3
                          exact ⟨re, bw HB⟩
                        · rw [if_neg c29] at H
                          have c29b0 : decide ((IntKind.u64.wrap (a0_3 - x10_2)) < ((rd_T31 t538 x11_2).f1)) = false := decide_eq_false c29
                          clear c29
                          have H' := Aside0.mk H
                          clear H
                          try go_wp2
                          replace HO_7 := Aside0.mk (Kd.V_drew HO_7.out)
                          replace BK528 := Aside0.mk (blk_drew BK528.out)
                          replace HB := Aside0.mk (below_drew1 HB.out)
                          have p545 : 0 ≤ (x11_2 : Int) := of_decide_eq_true (by first | (with_reducible assumption) | assumption)
                          have q545 : x11_2 < (t538.length : Int) := of_decide_eq_true (by first | (with_reducible assumption) | assumption)
                          obtain ⟨ad545, e545, hx545_0, hx545_1⟩ := at_T31 (Kd.V_reads' HO_7.out).2.2 x11_2 p545 q545
                          cases e545
                          replace p545 := eq_true p545
                          replace q545 := eq_true q545
                          refine start_ (n := 10) (S := fun w' => w'.cell? ⟨gb528, 0, none⟩ = some (.int .i64 a0_0) ∧ w'.cell? ⟨gb528, 1, none⟩ = some (.int .u64 a0_1) ∧ w'.cell? ⟨gb528, 2, none⟩ = some (.int .u64 a0_2) ∧ w'.cell? ⟨gb528, 3, none⟩ = some (.int .u64 a0_3) ∧ w'.cell? ⟨gb528, 4, none⟩ = some (.int .u64 a0_4) ∧ w'.cell? (ad545.add ((x11_2).toNat * 2)) = some (.int .u64 ((rd_T31 t538 x11_2).f0)) ∧ w'.cell? ⟨(ad545.add ((x11_2).toNat * 2)).block, (ad545.add ((x11_2).toNat * 2)).off + 1, none⟩ = some (.int .u64 ((rd_T31 t538 x11_2).f1))) (ds := []) #[false, false, false, false, false, false, false, false, false, false] (by kernel_rfl) rfl rfl ⟨(blk_cell BK528.out 0).trans rfl, (blk_cell BK528.out 1).trans rfl, (blk_cell BK528.out 2).trans rfl, (blk_cell BK528.out 3).trans rfl, (blk_cell BK528.out 4).trans rfl, hx545_0, hx545_1⟩ (fun hHeld => ?_); refine with_tabW turnstileref24_grid.tab17 turnstileref24_grid.bits17 (fun HT_ HW_ => ?_)
                          generalize wc.drew = w31 at HO_7 BK528 HB hx545_0 hx545_1 hHeld ⊢
                          refine chain_ (fuel := 0) [(0, 0, some 66), (1, 0, some 67), (2, 0, some 68), (3, 0, some 69), (5, 0, some 71), (7, 0, some 73), (4, 1, some 70), (6, 1, some 72), (8, 0, some 74), (9, 0, some 75)] #[true, true, true, true, true, true, true, true, true, true] HT_.out HW_.out (by kernel_rfl) (fun _ _ _ _ _ h => h) (Or.inr hHeld) rfl ?_
                          (iterate 6 refine lkP ?_); (iterate 2 refine lkT ?_); (iterate 2 refine lkP ?_); refine .nil ?_
                          refine done_ (done_of HT_.out (by kernel_rfl)) ?_
                          have p546 : 0 ≤ (x11_2 : Int) := of_decide_eq_true (by first | (with_reducible assumption) | assumption)
                          have q546 : x11_2 < (t538.length : Int) := of_decide_eq_true (by first | (with_reducible assumption) | assumption)
                          obtain ⟨ad546, e546, hx546_0, hx546_1⟩ := at_T31 (Kd.V_reads' HO_7.out).2.2 x11_2 p546 q546
                          obtain rfl : ad545 = ad546 := (by injection e546)
                          replace p546 := eq_true p546
                          replace q546 := eq_true q546
                          try go_wp2
                          go_roundg kj16
                          case measure => have := HK1.out; have := HK2.out; have := HJ16.out; omega
                          case rel => exact ⟨(x9_2), (IntKind.u64.wrap (x10_2 + ((rd_T31 t538 x11_2).f1))), (wrap64 (x11_2 + 1)), rs, rs, rs, H', ⟨by have := HK1.out; have := HK2.out; have := HJ16.out; omega⟩, ⟨vo HO_7⟩, ⟨bk BK528⟩, ⟨bw HB⟩⟩
                      · rw [if_neg c28] at H
                        exact absurd H (by simp)
                    · rw [if_neg c27] at H
                      exact absurd H (by simp)
            · rw [if_neg c16] at H
              have c16b0 : decide (x11_2 < (t538.length : Int)) = false := decide_eq_false c16
              clear c16
              simp only [Option.some.injEq, Prod.mk.injEq] at H
              obtain ⟨rfl, rfl, rfl⟩ := H
              obtain ⟨Ao32, co32, eo32⟩ := Kd.V_slice HO_7.out
              subst eo32
              go_wp2
              go_ret3
              exact ⟨re, bw HB⟩

end Go.Proofs.Ytdoifmefhofnnaa.D
