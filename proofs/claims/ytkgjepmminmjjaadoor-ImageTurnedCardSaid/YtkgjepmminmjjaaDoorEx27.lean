/- Written by the session's own program hyb.py: what functions of the program compute; Lean checks it. -/
import Derived.Test.YtkgjepmminmjjaaDoorEx0
namespace Go.Proofs.YtkgjepmminmjjaaDoor.E
open Go.RowKit Go.Proofs.YtkgjepmminmjjaaDoorW.PrintWords Go.Proofs.YtkgjepmminmjjaaDoorW.PrintLast Go.Proofs.YtkgjepmminmjjaaDoorW.PrintMore Go.Proofs.YtkgjepmminmjjaaDoorW.PrintShort
attribute [local go_sem] run_Add64 run_Sub64
attribute [local go_sem] max2_int min2_int max_two min_two max_three min_three max_four min_four   -- for this text's walks alone
set_option linter.unusedVariables false
set_option linter.unusedSimpArgs false

/-! ### turnstilelaw14_wide: function 23 -/
def turnstilelaw14_wide.l0 : Nat → Int → Int → Int → Int → List (S79) → Option (Bool)
  | 0, _, _, _, _, _ => none
  | k + 1, x3, x4, x353000, x353001, x353002 => if x4 < (x353002.length : Int) then (if x3 ≤ 16777216 then (if x4 ≤ 1048576 then (if 0 ≤ x4 then (turnstilelaw14_wide.l0 k (wrap64 (x3 + (((rd_T79 x353002 x4).f0).size : Int))) (wrap64 (x4 + 1)) x353000 x353001 x353002) else (none)) else (if (x353002.length : Int) > 1048576 then (some true) else (some (decide (x3 > 16777216))))) else (if (x353002.length : Int) > 1048576 then (some true) else (some (decide (x3 > 16777216))))) else (if (x353002.length : Int) > 1048576 then (some true) else (some (decide (x3 > 16777216))))
def turnstilelaw14_wide.f (k : Nat) (a0_0 : Int) (a0_1 : Int) (l0_2 : List (S79)) : Option (Bool) := turnstilelaw14_wide.l0 k 0 0 a0_0 a0_1 l0_2
set_option maxHeartbeats 8000000 in
set_option maxRecDepth 100000 in
theorem turnstilelaw14_wide.calls (k : Nat) (a0_0 : Int) (a0_1 : Int) (A0_2 : Option Addr) (c0_2 : Nat) (l0_2 : List (S79)) (r : Bool) (w : World) (hr0_2 : Kd.C k79 w A0_2 l0_2.length l0_2) (hc0_2 : l0_2.length ≤ c0_2) (h : turnstilelaw14_wide.f k a0_0 a0_1 l0_2 = some r) :
    Calls Tryd.prog 23 #[.agg #[.int .u64 a0_0, .int .u64 a0_1, .slice A0_2 l0_2.length c0_2]] w fun e w' => e = .returned (.bool r) ∧ Below w.heap.size w w' := by
  have hu51 := Tryd.underlying51
  have HR0_2 := Aside0.mk hr0_2
  have HC0_2 := Aside0.mk hc0_2
  clear hr0_2 hc0_2
  have HB := Aside0.mk (Below.refl w.heap.size w)
  have H : (turnstilelaw14_wide.l0 k 0 0 a0_0 a0_1 l0_2) = some r := h
  clear h
  have H' := Aside0.mk H
  clear H
  go_enter Tryd.func23, Tryd.ntmps23
  go_wp2_with (first | ((with_reducible refine gate_dst (N := 1) rfl ?_); refine bx 1 #[.int .u64 a0_0, .int .u64 a0_1, .slice A0_2 l0_2.length c0_2] 51 ?_; intro gb352 hg w2 hbox hb; have n0_ := bs HB hb; have n1_ := Aside0.mk (hbox); have n2_ := sz HB hg; have n3_ := sz HB hg; clear HB; have HB := n0_; have BK352 := n1_; have GW352 := n2_; have GE352 := n3_; clear n0_ n1_ n2_ n3_; clear hb hbox hg))
  go_loopg [3, 4] k (fun kq v3 v4 w' => ∃ (x3_1 : Int) (x4_1 : Int), v3 = .int .i64 x3_1 ∧ v4 = .int .i64 x4_1 ∧ Aside0 (turnstilelaw14_wide.l0 kq x3_1 x4_1 a0_0 a0_1 l0_2 = some r) ∧ Aside0 (kq ≤ k) ∧ Aside0 (w'.heap[gb352]? = some (.cells #[.int .u64 a0_0, .int .u64 a0_1, (.slice A0_2 l0_2.length c0_2)] 51 (0, 0))) ∧ Aside0 (Below w.heap.size w w'))
  case atStart => exact ⟨(0), (0), rs, rs, H', ⟨Nat.le_refl _⟩, ⟨bk BK352⟩, ⟨bw HB⟩⟩
  case round =>
    clear H'
    try clear c2
    try clear p2
    obtain ⟨x3_1, x4_1, rfl, rfl, HA, HK1, BK352, HB⟩ := hrel
    cases gk with
    | zero => exact absurd HA.out (by simp [turnstilelaw14_wide.l0])
    | succ k1 =>
      have H := HA.out
      clear HA
      simp only [turnstilelaw14_wide.l0] at H
      by_cases c3 : x4_1 < (l0_2.length : Int)
      · rw [if_pos c3] at H
        have c3b0 : decide (x4_1 < (l0_2.length : Int)) = true := decide_eq_true c3
        clear c3
        by_cases c4 : x3_1 ≤ 16777216
        · rw [if_pos c4] at H
          have c4b0 : decide (x3_1 ≤ 16777216) = true := decide_eq_true c4
          clear c4
          by_cases c5 : x4_1 ≤ 1048576
          · rw [if_pos c5] at H
            have c5b0 : decide (x4_1 ≤ 1048576) = true := decide_eq_true c5
            clear c5
            by_cases c6 : 0 ≤ x4_1
            · rw [if_pos c6] at H
              have c6b0 : decide (0 ≤ x4_1) = true := decide_eq_true c6
              clear c6
              have H' := Aside0.mk H
              clear H
              obtain ⟨hcz7_0, hcz7_1, hcz7_2, hfz7_0, hfz7_1, hfz7_2⟩ := bc3 BK352
              have p353 : 0 ≤ (x4_1 : Int) := of_decide_eq_true (by first | (with_reducible assumption) | assumption)
              have q353 : x4_1 < (l0_2.length : Int) := of_decide_eq_true (by first | (with_reducible assumption) | assumption)
              obtain ⟨ad353, e353, hx353_0, hx353_1, hx353_2, hx353_3, hx353_4, hx353_5, hx353_6, hx353_7, hx353_8⟩ := at_T79 HR0_2.out x4_1 p353 q353
              cases e353
              replace hx353_0 := (HB.out.cell (World.block_lt_of_cell? w _ hx353_0)).trans hx353_0
              replace hx353_1 := (HB.out.cell (World.block_lt_of_cell? w _ hx353_1)).trans hx353_1
              replace hx353_2 := (HB.out.cell (World.block_lt_of_cell? w _ hx353_2)).trans hx353_2
              replace hx353_3 := (HB.out.cell (World.block_lt_of_cell? w _ hx353_3)).trans hx353_3
              replace hx353_4 := (HB.out.cell (World.block_lt_of_cell? w _ hx353_4)).trans hx353_4
              replace hx353_5 := (HB.out.cell (World.block_lt_of_cell? w _ hx353_5)).trans hx353_5
              replace hx353_6 := (HB.out.cell (World.block_lt_of_cell? w _ hx353_6)).trans hx353_6
              replace hx353_7 := (HB.out.cell (World.block_lt_of_cell? w _ hx353_7)).trans hx353_7
              replace hx353_8 := (HB.out.cell (World.block_lt_of_cell? w _ hx353_8)).trans hx353_8
              replace p353 := eq_true p353
              replace q353 := eq_true q353
              go_wp2
              go_roundg k1
              case measure => have := HK1.out; omega
              case rel => exact ⟨(wrap64 (x3_1 + (((rd_T79 l0_2 x4_1).f0).size : Int))), (wrap64 (x4_1 + 1)), rs, rs, H', ⟨by have := HK1.out; omega⟩, ⟨bk BK352⟩, ⟨bw HB⟩⟩
            · rw [if_neg c6] at H
              exact absurd H (by simp)
          · rw [if_neg c5] at H
            have c5b0 : decide (x4_1 ≤ 1048576) = false := decide_eq_false c5
            clear c5
            by_cases c8 : (l0_2.length : Int) > 1048576
            · rw [if_pos c8] at H
              have c8b0 : decide (1048576 < (l0_2.length : Int)) = true := decide_eq_true c8
              have c8b1 : decide (1048576 < l0_2.length) = true := decide_eq_true (by omega)
              clear c8
              obtain rfl := Option.some.inj H
              obtain ⟨hcz9_0, hcz9_1, hcz9_2, hfz9_0, hfz9_1, hfz9_2⟩ := bc3 BK352
              go_wp2
              go_ret
              exact ⟨re, bw HB⟩
            · rw [if_neg c8] at H
              have c8b0 : decide (1048576 < (l0_2.length : Int)) = false := decide_eq_false c8
              have c8b1 : decide (1048576 < l0_2.length) = false := decide_eq_false (by omega)
              clear c8
              obtain rfl := Option.some.inj H
              obtain ⟨hcz10_0, hcz10_1, hcz10_2, hfz10_0, hfz10_1, hfz10_2⟩ := bc3 BK352
              go_wp2
              go_ret
              exact ⟨re, bw HB⟩
        · rw [if_neg c4] at H
          have c4b0 : decide (x3_1 ≤ 16777216) = false := decide_eq_false c4
          clear c4
          by_cases c11 : (l0_2.length : Int) > 1048576
          · rw [if_pos c11] at H
            have c11b0 : decide (1048576 < (l0_2.length : Int)) = true := decide_eq_true c11
            have c11b1 : decide (1048576 < l0_2.length) = true := decide_eq_true (by omega)
            clear c11
            obtain rfl := Option.some.inj H
            obtain ⟨hcz12_0, hcz12_1, hcz12_2, hfz12_0, hfz12_1, hfz12_2⟩ := bc3 BK352
            go_wp2
            go_ret
            exact ⟨re, bw HB⟩
          · rw [if_neg c11] at H
            have c11b0 : decide (1048576 < (l0_2.length : Int)) = false := decide_eq_false c11
            have c11b1 : decide (1048576 < l0_2.length) = false := decide_eq_false (by omega)
            clear c11
            obtain rfl := Option.some.inj H
            obtain ⟨hcz13_0, hcz13_1, hcz13_2, hfz13_0, hfz13_1, hfz13_2⟩ := bc3 BK352
            go_wp2
            go_ret
            exact ⟨re, bw HB⟩
      · rw [if_neg c3] at H
        have c3b0 : decide (x4_1 < (l0_2.length : Int)) = false := decide_eq_false c3
        clear c3
        by_cases c14 : (l0_2.length : Int) > 1048576
        · rw [if_pos c14] at H
          have c14b0 : decide (1048576 < (l0_2.length : Int)) = true := decide_eq_true c14
          have c14b1 : decide (1048576 < l0_2.length) = true := decide_eq_true (by omega)
          clear c14
          obtain rfl := Option.some.inj H
          obtain ⟨hcz15_0, hcz15_1, hcz15_2, hfz15_0, hfz15_1, hfz15_2⟩ := bc3 BK352
          go_wp2
          go_ret
          exact ⟨re, bw HB⟩
        · rw [if_neg c14] at H
          have c14b0 : decide (1048576 < (l0_2.length : Int)) = false := decide_eq_false c14
          have c14b1 : decide (1048576 < l0_2.length) = false := decide_eq_false (by omega)
          clear c14
          obtain rfl := Option.some.inj H
          obtain ⟨hcz16_0, hcz16_1, hcz16_2, hfz16_0, hfz16_1, hfz16_2⟩ := bc3 BK352
          go_wp2
          go_ret
          exact ⟨re, bw HB⟩

/-! ### turnstilelaw14_copied: function 25 -/
def turnstilelaw14_copied.f (a0_0 : Int) (a0_1 : Int) (l0_2 : List (S79)) : Option (Int × Int × (List (S79))) := (some (([] : List (S79)) : List (S79))).bind fun y356 => (if y356.length + l0_2.length < 1759218604441 then (some (a0_0, a0_1, (y356 ++ l0_2))) else (none))
def turnstilelaw14_copied.T1 : Bool × List (List Nat × List Nat) := (true, [([], []), ([0], [0]), ([], []), ([2], [2]), ([], []), ([], []), ([5], [5]), ([4, 6], [4, 6]), ([1, 3, 7], [1, 3, 7]), ([8, 7, 0, 1, 2, 3, 4, 5, 6, 7, 8], [8])])
def turnstilelaw14_copied.B1 : List Nat := [0, 1, 0, 4, 0, 0, 32, 112, 255, 511]
theorem turnstilelaw14_copied.tab1 : rtab .any (opsOf Tryd.f25 1) = turnstilelaw14_copied.T1 := by kernel_rfl
theorem turnstilelaw14_copied.bits1 : waitsOk turnstilelaw14_copied.T1.2 turnstilelaw14_copied.B1 = true := by kernel_rfl
set_option maxHeartbeats 8000000 in
set_option maxRecDepth 100000 in
theorem turnstilelaw14_copied.calls (a0_0 : Int) (a0_1 : Int) (A0_2 : Option Addr) (c0_2 : Nat) (l0_2 : List (S79)) (r1 : Int) (r2 : Int) (r3 : List (S79)) (w : World) (hr0_2 : Kd.C k79 w A0_2 l0_2.length l0_2) (hc0_2 : l0_2.length ≤ c0_2) (h : turnstilelaw14_copied.f a0_0 a0_1 l0_2 = some (r1, r2, r3)) :
    Calls Tryd.prog 25 #[.agg #[.int .u64 a0_0, .int .u64 a0_1, .slice A0_2 l0_2.length c0_2]] w fun e w' => ∃ v2_ : Value, e = .returned (.agg #[.int .u64 r1, .int .u64 r2, v2_]) ∧ Kd.R k79 79 w' w.heap.size (fun _ => True) v2_ r3 ∧ Below w.heap.size w w' := by
  have hu51 := Tryd.underlying51
  have HR0_2 := Aside0.mk hr0_2
  have HC0_2 := Aside0.mk hc0_2
  clear hr0_2 hc0_2
  have HB := Aside0.mk (Below.refl w.heap.size w)
  have H : ((some (([] : List (S79)) : List (S79))).bind fun y356 => (if y356.length + l0_2.length < 1759218604441 then (some (a0_0, a0_1, (y356 ++ l0_2))) else (none))) = some (r1, r2, r3) := h
  clear h
  obtain ⟨y356, hy356⟩ : ∃ y_ : List (S79), y_ = (([] : List (S79))) := ⟨_, rfl⟩
  replace H : (if y356.length + l0_2.length < 1759218604441 then (some (a0_0, a0_1, (y356 ++ l0_2))) else (none)) = some (r1, r2, r3) := by first | (rw [hy356]; with_reducible exact H) | (have H2_ := (Option.bind_some _ _).symm.trans H; rw [hy356]; with_reducible exact H2_) | (have H2_ := (Option.bind_some _ _).symm.trans H; with_reducible exact H2_) | with_reducible exact H | (rw [hy356]; exact H) | exact H
  have Ny356 := Aside0.mk hy356
  clear hy356
  by_cases c2 : y356.length + l0_2.length < 1759218604441
  · rw [if_pos c2] at H
    have LMc2 := Aside0.mk c2
    clear c2
    obtain ⟨y359, hy359⟩ : ∃ y_ : List (S79), y_ = (y356 ++ l0_2) := ⟨_, rfl⟩
    replace H : (some (a0_0, a0_1, y359)) = some (r1, r2, r3) := by first | (rw [hy359]; with_reducible exact H) | (have H2_ := (Option.bind_some _ _).symm.trans H; rw [hy359]; with_reducible exact H2_) | (have H2_ := (Option.bind_some _ _).symm.trans H; with_reducible exact H2_) | with_reducible exact H | (rw [hy359]; exact H) | exact H
    have Ny359 := Aside0.mk hy359
    clear hy359
    simp only [Option.some.injEq, Prod.mk.injEq] at H
    obtain ⟨rfl, rfl, rfl⟩ := H
    go_enter Tryd.func25, Tryd.ntmps25
    try go_wp2_with (first | ((with_reducible refine gate_dst (N := 1) rfl ?_); refine bx 1 #[.int .u64 a0_0, .int .u64 a0_1, .slice A0_2 l0_2.length c0_2] 51 ?_; intro gb354 hg w3 hbox hb; have n0_ := bs HB hb; have n1_ := Aside0.mk (hbox); have n2_ := sz HB hg; have n3_ := sz HB hg; clear HB; have HB := n0_; have BK354 := n1_; have GW354 := n2_; have GE354 := n3_; clear n0_ n1_ n2_ n3_; clear hb hbox hg) | ((with_reducible refine gate_dst (N := 2) rfl ?_); refine bx 2 #[.int .u64 0, .int .u64 0, .slice none 0 0] 51 ?_; intro gb355 hg w4 hbox hb; have n0_ := bb BK354 hb; have n1_ := bs HB hb; have n2_ := Aside0.mk (hbox); have n3_ := sz HB hg; have n4_ := sz HB hg; have n5_ := nl BK354 hg; have n6_ := nr BK354 hg; clear BK354; clear HB; have BK354 := n0_; have HB := n1_; have BK355 := n2_; have GW355 := n3_; have GE355 := n4_; have NB354_355 := n5_; have NB355_354 := n6_; clear n0_ n1_ n2_ n3_ n4_ n5_ n6_; clear hb hbox hg))
    have n0_ := Aside0.mk (blk_drew BK354.out)
    have n1_ := Aside0.mk (blk_drew BK355.out)
    have n2_ := Aside0.mk (below_drew1 HB.out)
    clear BK354
    clear BK355
    clear HB
    have BK354 := n0_
    have BK355 := n1_
    have HB := n2_
    clear n0_ n1_ n2_
    refine start_ (n := 10) (S := fun w' => w'.cell? ⟨gb354, 0, none⟩ = some (.int .u64 a0_0) ∧ w'.cell? ⟨gb354, 1, none⟩ = some (.int .u64 a0_1) ∧ w'.cell? ⟨gb354, 2, none⟩ = some (.slice A0_2 l0_2.length c0_2)) (ds := []) #[false, false, false, false, false, false, false, false, false, false] (by kernel_rfl) rfl rfl ⟨(blk_cell BK354.out 0).trans rfl, (blk_cell BK354.out 1).trans rfl, (blk_cell BK354.out 2).trans rfl⟩ (fun hHeld => ?_); refine with_tabW turnstilelaw14_copied.tab1 turnstilelaw14_copied.bits1 (fun HT_ HW_ => ?_)
    generalize w4.drew = w5 at BK354 BK355 HB hHeld ⊢
    refine chain_ (fuel := 4) [(0, 0, some 3), (2, 0, some 5), (5, 0, some 8), (1, 1, some 4), (3, 1, some 6), (6, 1, some 9)] #[true, true, true, true, false, true, true, false, false, false] HT_.out HW_.out (by kernel_rfl) (fun _ _ _ _ _ h => h) (Or.inr hHeld) rfl ?_
    (iterate 3 refine lkP ?_); (iterate 3 refine lkT ?_); refine .nil ?_
    refine one_ (i := 4) (N := some 7) #[true, true, true, true, true, true, true, false, false, false] rfl rfl (one_of HT_.out (by kernel_rfl)) (by decide) (fun K hK => ?_)
    refine Kd.R_lit_step k79 _ 79 ?hg (N := 7) ?hd (xs := ([] : List (S79))) (inner := []) (ok := fun _ => True) (okp := fun _ => True) ?hr ?hp (fun _ hk => hk) trivial (Below.refl _ _) (Nat.le_refl _) (by simp) ?_; (case hd => rfl); (case hg => rfl); (case hr => first | (go_simp; done) | (go_simp; rfl)); (case hp => exact (Reps.none _ _))
    intro v357 w6 ho7 hb hg_ hnew_
    clear hg_ hnew_
    (first | rw [← Ny356.out] at ho7 | (simp only [Int.reduceToNat] at ho7; rw [← Ny356.out] at ho7))
    have n0_ := Aside0.mk (Kd.R_lower ho7 (below_size (bw HB)))
    have n1_ := bb BK354 hb
    have n2_ := bb BK355 hb
    have n3_ := bs HB hb
    clear BK354
    clear BK355
    clear HB
    have HO358 := n0_
    have BK354 := n1_
    have BK355 := n2_
    have HB := n3_
    clear n0_ n1_ n2_ n3_
    clear hb ho7
    refine hK.out _ _ ⟨(blk_cell BK354.out 0).trans rfl, (blk_cell BK354.out 1).trans rfl, (blk_cell BK354.out 2).trans rfl⟩ (fun hHeld => ?_)
    clear hK K
    refine norm_ (a' := ?_) ?_ ?_
    rotate_left
    · show Act.put _ (some 7) _ = _
      simp only [Act.put, List.setIfInBounds_toArray, List.set_cons_zero, List.set_cons_succ, i64_w, i32_w]
      rfl
    refine one_ (i := 7) (N := some 10) #[true, true, true, true, true, true, true, true, false, false] rfl rfl (one_of HT_.out (by kernel_rfl)) (by decide) (fun K hK => ?_)
    refine Kd.R_append_rows_step k79 (w0 := w) w.heap.size (by rfl) (.tmp 7) (.tmp 9) 49 79 (.agg #[(.string ⟨#[]⟩), (.int .i64 0), (.int .u64 0), (.int .u64 0), (.int .u64 0), (.int .u64 0), (.int .u64 0), (.int .u64 0), (.int .u64 0)]) 80 rfl Tryd.underlying49 info79 rfl (by decide) (by omega) v357 y356 l0_2 _ _ _ (fun _ => True) (fun _ => False) rfl rfl ?aO ?aR (fun _ _ h => h) (fun _ h => h.elim) ?aF ?aB ?aS ?aL ?_
    (case aR => repeat (first | exact (Kd.C_below HR0_2.out HB.out) | (with_reducible refine Kd.C_alloc ?_ _) | (with_reducible refine Kd.C_drewN ?_ _) | (with_reducible refine Kd.C_drew ?_)))
    (case aB => exact (bw HB))
    (case aF => exact (fun _ _ => trivial))
    (case aO => exact (ro HO358))
    (case aS => exact (below_size (bw HB)))
    (case aL => have := LMc2.out; omega)
    intro v360 w8 ho hb hg hat
    rw [← Ny359.out] at ho
    have n0_ := Aside0.mk (blk_grown (g := gb354) (o := .cells #[.int .u64 a0_0, .int .u64 a0_1, .slice A0_2 l0_2.length c0_2] 51 (0, 0)) (bk BK354) hg (Kd.R_ne HO358.out BK354.out (by decide)))
    have n1_ := Aside0.mk (blk_grown (g := gb355) (o := .cells #[.int .u64 0, .int .u64 0, .slice none 0 0] 51 (0, 0)) (bk BK355) hg (Kd.R_ne HO358.out BK355.out (by decide)))
    have n2_ := Aside0.mk (hb)
    have n3_ := Aside0.mk (ho)
    clear BK354
    clear BK355
    clear HB
    clear HO358
    have BK354 := n0_
    have BK355 := n1_
    have HB := n2_
    have HO361 := n3_
    clear n0_ n1_ n2_ n3_
    clear ho hb hg hat
    obtain ⟨Ao9, co9, eo9⟩ := Kd.R_slice HO361.out
    (first | subst eo9 | (injection eo9 with f1_ f2_ f3_; have f4_ := f1_.symm; have f5_ := f3_.symm; clear f1_ f2_ f3_; subst f4_; subst f5_))
    refine hK.out _ _ ⟨(blk_cell BK354.out 0).trans rfl, (blk_cell BK354.out 1).trans rfl, (blk_cell BK354.out 2).trans rfl⟩ (fun hHeld => ?_)
    clear hK K
    refine norm_ (a' := ?_) ?_ ?_
    rotate_left
    · show Act.put _ (some 10) _ = _
      simp only [Act.put, List.setIfInBounds_toArray, List.set_cons_zero, List.set_cons_succ, i64_w, i32_w]
      rfl
    refine chain_ (fuel := 1) [(8, 0, some 11)] #[true, true, true, true, true, true, true, true, true, false] HT_.out HW_.out (by kernel_rfl) (fun _ _ _ _ _ h => h) (Or.inl (by decide)) rfl ?_
    refine lkP ?_; refine .nil ?_
    refine one_ (i := 9) (N := none) #[true, true, true, true, true, true, true, true, true, true] rfl rfl (one_of HT_.out (by kernel_rfl)) (by decide) (fun K hK => ?_)
    have hs10 : w8.cell? ⟨gb355, 0, none⟩ = some (.int .u64 0) := (blk_cell BK355.out 0).trans rfl
    have hfs10 := blk_frozen BK355.out 0
    have hns10_0 := NB354_355.out
    have hms10_0 := NB355_354.out
    have hs11 : w8.cell? ⟨gb355, 1, none⟩ = some (.int .u64 0) := (blk_cell BK355.out 1).trans rfl
    have hfs11 := blk_frozen BK355.out 1
    have hns11_0 := NB354_355.out
    have hms11_0 := NB355_354.out
    have hs12 : w8.cell? ⟨gb355, 2, none⟩ = some (.slice none 0 0) := (blk_cell BK355.out 2).trans rfl
    have hfs12 := blk_frozen BK355.out 2
    have hns12_0 := NB354_355.out
    have hms12_0 := NB355_354.out
    refine skip_ (w1 := ?_) (by rfl) rfl ?_ ?_
    rotate_left
    · go_simp
      rfl
    refine hK.out _ _ ⟨((cell_far (p := ⟨gb355, _, none⟩) NB354_355.out _).trans (((cell_far (p := ⟨gb355, _, none⟩) NB354_355.out _).trans (((cell_far (p := ⟨gb355, _, none⟩) NB354_355.out _).trans (hHeld.1)))))), ((cell_far (p := ⟨gb355, _, none⟩) NB354_355.out _).trans (((cell_far (p := ⟨gb355, _, none⟩) NB354_355.out _).trans (((cell_far (p := ⟨gb355, _, none⟩) NB354_355.out _).trans (hHeld.2.1)))))), ((cell_far (p := ⟨gb355, _, none⟩) NB354_355.out _).trans (((cell_far (p := ⟨gb355, _, none⟩) NB354_355.out _).trans (((cell_far (p := ⟨gb355, _, none⟩) NB354_355.out _).trans (hHeld.2.2))))))⟩ (fun hHeld => ?_)
    clear hK K
    refine done_ (done_of HT_.out (by kernel_rfl)) ?_
    try go_wp2
    refine bodyPost_ret (results_cell_row rfl _ _ gb355 51 #[.int .u64 a0_0, .int .u64 a0_1, .slice Ao9 y359.length co9] (0, 0) _ rfl (bk BK355) Tryd.underlying51 rfl (by kernel_rfl)) rfl ?_
    exact ⟨_, re, by (with_reducible repeat (first | apply Kd.R_alloc | apply Kd.R_drewN | apply Kd.R_drew)); exact Kd.R_mono (Kd.R_far (p := ⟨gb355, 2, none⟩) (Kd.R_far (p := ⟨gb355, 1, none⟩) (Kd.R_far (p := ⟨gb355, 0, none⟩) (Kd.R_types HO361.out BK355.out (by decide)) (fun _ hk => hk.2) (.int .u64 a0_0)) (fun _ hk => hk.2) (.int .u64 a0_1)) (fun _ hk => hk.2) (.slice Ao9 y359.length co9)) (fun _ hk => trivial), bw HB⟩
  · rw [if_neg c2] at H
    exact absurd H (by simp)

end Go.Proofs.YtkgjepmminmjjaaDoor.E
