/- Written by the session's own program hyb.py: what functions of the program compute; Lean checks it. -/
import Derived.Test.YtdoifmefhofnnaaDx0
import Derived.Test.YtdoifmefhofnnaaDx6
namespace Go.Proofs.Ytdoifmefhofnnaa.D
open Go.RowKit Go.Proofs.YtdoifmefhofnnaaW.PrintWords Go.Proofs.YtdoifmefhofnnaaW.PrintLast Go.Proofs.YtdoifmefhofnnaaW.PrintMore Go.Proofs.YtdoifmefhofnnaaW.PrintShort
attribute [local go_sem] run_Add64 run_Sub64
attribute [local go_sem] max2_int min2_int max_two min_two max_three min_three max_four min_four   -- for this text's walks alone
set_option linter.unusedVariables false
set_option linter.unusedSimpArgs false

/-! ### audit_of: function 40 -/
def audit_of.f (a0 : Int) : Option (Int × Int × Int) := some (a0, 0, 0)
set_option maxHeartbeats 8000000 in
set_option maxRecDepth 100000 in
theorem audit_of.calls (a0 : Int) (r1 : Int) (r2 : Int) (r3 : Int) (w : World) (h : audit_of.f a0 = some (r1, r2, r3)) :
    Calls Try.prog 40 #[.int .u64 a0] w fun e w' => e = .returned (.agg #[.int .u64 r1, .int .u64 r2, .int .u64 r3]) ∧ Below w.heap.size w w' := by
  have hu76 := Try.underlying76
  have HB := Aside0.mk (Below.refl w.heap.size w)
  have H : (some (a0, 0, 0)) = some (r1, r2, r3) := h
  clear h
  simp only [Option.some.injEq, Prod.mk.injEq] at H
  obtain ⟨rfl, rfl, rfl⟩ := H
  go_enter Try.func40, Try.ntmps40
  go_wp2_with (first | ((with_reducible refine gate_dst (N := 2) rfl ?_); refine bx 2 #[.int .u64 0, .int .u64 0, .int .u64 0] 76 ?_; intro gb216 hg w2 hbox hb; have BK216 := Aside0.mk (hbox); have GW216 := sz HB hg; have GE216 := sz HB hg; replace HB := bs HB hb; clear hb hbox hg; obtain ⟨hcz3_0, hcz3_1, hcz3_2, hfz3_0, hfz3_1, hfz3_2⟩ := bc3 BK216))
  refine bodyPost_ret (results_cell_row rfl _ _ gb216 76 #[.int .u64 a0, .int .u64 0, .int .u64 0] (0, 0) _ rfl (bk BK216) Try.underlying76 rfl (by kernel_rfl)) rfl ?_
  exact ⟨re, bw HB⟩

/-! ### audit_above: function 51 -/
def audit_above.f (a0_0 a0_1 a0_2 a1_0 a1_1 a1_2 : Int) : Option Bool := if a0_2 = a1_2 then (if a0_1 = a1_1 then (if a0_0 = a1_0 then some false else some (decide (a1_0 < a0_0))) else some (decide (a1_1 < a0_1))) else some (decide (a1_2 < a0_2))
set_option maxHeartbeats 1600000 in
set_option maxRecDepth 100000 in
theorem audit_above.calls (a0_0 a0_1 a0_2 a1_0 a1_1 a1_2 : Int) (r : Bool) (w : World) (h : audit_above.f a0_0 a0_1 a0_2 a1_0 a1_1 a1_2 = some r) :
    Calls Try.prog 51 #[.agg #[.int .u64 a0_0, .int .u64 a0_1, .int .u64 a0_2], .agg #[.int .u64 a1_0, .int .u64 a1_1, .int .u64 a1_2]] w fun e w' => e = .returned (.bool r) ∧ Below w.heap.size w w' := by
  have HB := Aside0.mk (Below.refl w.heap.size w)
  have hu := Try.underlying76
  unfold audit_above.f at h
  have H := Aside0.mk h
  clear h
  go_enter Try.func51, Try.ntmps51
  go_wp2_with (first | ((with_reducible refine gate_dst (N := 2) rfl ?_); refine bx 2 #[.int .u64 a0_0, .int .u64 a0_1, .int .u64 a0_2] 76 ?_; intro ga hg w_ga hbox hb; have n0_ := bs HB hb; have GEga := sz HB hg; clear HB ; have HB := n0_; clear n0_; have BKga := Aside0.mk hbox; clear hb hbox hg) | ((with_reducible refine gate_dst (N := 3) rfl ?_); refine bx 3 #[.int .u64 a1_0, .int .u64 a1_1, .int .u64 a1_2] 76 ?_; intro gb hg w_gb hbox hb; have n_ga := bb BKga hb; have e1_ga := nl BKga hg; have e2_ga := nr BKga hg; have n0_ := bs HB hb; have GEgb := sz HB hg; clear HB BKga; have HB := n0_; clear n0_; have BKga := n_ga; clear n_ga; have NEga_gb := e1_ga; have NEgb_ga := e2_ga; clear e1_ga e2_ga; have BKgb := Aside0.mk hbox; clear hb hbox hg))
  go_loopw [5] (fun v5 WR => ∃ x5 : Int, v5 = .int .i64 x5 ∧ ((x5 = 2) ∨ (x5 = 1 ∧ a0_2 = a1_2) ∨ (x5 = 0 ∧ a0_2 = a1_2 ∧ a0_1 = a1_1) ∨ (x5 = -1 ∧ a0_2 = a1_2 ∧ a0_1 = a1_1 ∧ a0_0 = a1_0)) ∧ Aside0 (WR.heap[ga]? = some (.cells #[.int .u64 a0_0, .int .u64 a0_1, .int .u64 a0_2] 76 (0, 0))) ∧ Aside0 (WR.heap[gb]? = some (.cells #[.int .u64 a1_0, .int .u64 a1_1, .int .u64 a1_2] 76 (0, 0))) ∧ Aside0 (Below w.heap.size w WR)) (fun v5 _ => (intOf v5 + 1).toNat)
  case atStart => exact ⟨2, rs, Or.inl rfl, ⟨bk BKga⟩, ⟨bk BKgb⟩, ⟨bw HB⟩⟩
  case round =>
    clear BKga BKgb HB
    obtain ⟨x5, rfl, hx, BKga, BKgb, HB⟩ := hrel
    obtain ⟨hca0, hca1, hca2, hfa0, hfa1, hfa2⟩ := bc3 BKga
    obtain ⟨hcb0, hcb1, hcb2, hfb0, hfb1, hfb2⟩ := bc3 BKgb
    obtain rfl | ⟨rfl, e2⟩ | ⟨rfl, e2, e1⟩ | ⟨rfl, e2, e1, e0⟩ := hx
    · have H := H.out
      by_cases c : a0_2 = a1_2
      · clear H
        have cb0 : (a0_2 == a1_2) = true := beq_iff_eq.mpr c
        have cb1 : (a0_2 != a1_2) = false := bne_eq_false_iff_eq.mpr c
        have Z := Aside0.mk c
        clear c
        go_wp2
        repeat (go_quiet (fail); try go_wp2)
        go_roundw
        case measure => simp [intOf]
        case rel => exact ⟨1, rs, Or.inr (Or.inl ⟨rfl, Z.out⟩), ⟨bk BKga⟩, ⟨bk BKgb⟩, ⟨bw HB⟩⟩
      · rw [if_neg c] at H
        have cb0 : (a0_2 == a1_2) = false := beq_eq_false_iff_ne.mpr c
        have cb1 : (a0_2 != a1_2) = true := bne_iff_ne.mpr c
        clear c
        obtain rfl := Option.some.inj H
        clear H
        go_wp2
        repeat (go_quiet (fail); try go_wp2)
        go_ret
        exact ⟨rs, bw HB⟩
    · have H := H.out
      rw [if_pos e2] at H
      have Ze2 := Aside0.mk e2
      clear e2
      by_cases c : a0_1 = a1_1
      · clear H
        have cb0 : (a0_1 == a1_1) = true := beq_iff_eq.mpr c
        have cb1 : (a0_1 != a1_1) = false := bne_eq_false_iff_eq.mpr c
        have Z := Aside0.mk c
        clear c
        go_wp2
        repeat (go_quiet (fail); try go_wp2)
        go_roundw
        case measure => simp [intOf]
        case rel => exact ⟨0, rs, Or.inr (Or.inr (Or.inl ⟨rfl, Ze2.out, Z.out⟩)), ⟨bk BKga⟩, ⟨bk BKgb⟩, ⟨bw HB⟩⟩
      · rw [if_neg c] at H
        have cb0 : (a0_1 == a1_1) = false := beq_eq_false_iff_ne.mpr c
        have cb1 : (a0_1 != a1_1) = true := bne_iff_ne.mpr c
        clear c
        obtain rfl := Option.some.inj H
        clear H
        go_wp2
        repeat (go_quiet (fail); try go_wp2)
        go_ret
        exact ⟨rs, bw HB⟩
    · have H := H.out
      rw [if_pos e2] at H
      rw [if_pos e1] at H
      have Ze2 := Aside0.mk e2
      clear e2
      have Ze1 := Aside0.mk e1
      clear e1
      by_cases c : a0_0 = a1_0
      · clear H
        have cb0 : (a0_0 == a1_0) = true := beq_iff_eq.mpr c
        have cb1 : (a0_0 != a1_0) = false := bne_eq_false_iff_eq.mpr c
        have Z := Aside0.mk c
        clear c
        go_wp2
        repeat (go_quiet (fail); try go_wp2)
        go_roundw
        case measure => simp [intOf]
        case rel => exact ⟨-1, rs, Or.inr (Or.inr (Or.inr ⟨rfl, Ze2.out, Ze1.out, Z.out⟩)), ⟨bk BKga⟩, ⟨bk BKgb⟩, ⟨bw HB⟩⟩
      · rw [if_neg c] at H
        have cb0 : (a0_0 == a1_0) = false := beq_eq_false_iff_ne.mpr c
        have cb1 : (a0_0 != a1_0) = true := bne_iff_ne.mpr c
        clear c
        obtain rfl := Option.some.inj H
        clear H
        go_wp2
        repeat (go_quiet (fail); try go_wp2)
        go_ret
        exact ⟨rs, bw HB⟩
    · have H := H.out
      rw [if_pos e2, if_pos e1, if_pos e0] at H
      clear e2 e1 e0
      obtain rfl := Option.some.inj H
      clear H
      go_wp2
      repeat (go_quiet (fail); try go_wp2)
      go_ret
      exact ⟨rs, bw HB⟩

/-! ### audit_plus: function 52 -/
def audit_plus.f (a0_0 a0_1 a0_2 a1_0 a1_1 a1_2 : Int) : Option (Int × Int × Int) := if add64c a0_0 a1_0 0 ≤ 1 then (if add64c a0_1 a1_1 (add64c a0_0 a1_0 0) ≤ 1 then some (add64s a0_0 a1_0 0, add64s a0_1 a1_1 (add64c a0_0 a1_0 0), add64s a0_2 a1_2 (add64c a0_1 a1_1 (add64c a0_0 a1_0 0))) else none) else none
def audit_plus.T6 : Bool × List (List Nat × List Nat) := (true, [([], []), ([], []), ([1], [1]), ([2], [2]), ([], []), ([4], [4]), ([5], [5]), ([], []), ([3, 6, 7], [3, 6, 7]), ([8], [8]), ([9], [9]), ([9], [9]), ([0, 0, 1, 2, 3, 4, 5, 6, 7, 8, 9, 10], [0]), ([12, 10, 8, 0, 1, 2, 3, 4, 5, 6, 7, 8, 9, 10], [10, 12]), ([11, 13, 0, 1, 2, 3, 4, 5, 6, 7, 8, 9, 10, 11, 12, 13], [7, 11])])
def audit_plus.B6 : List Nat := [0, 0, 2, 6, 0, 16, 48, 0, 254, 510, 1022, 1022, 2047, 6143, 16383]
theorem audit_plus.tab6 : rtab .any (opsOf Try.f52 6) = audit_plus.T6 := by kernel_rfl
theorem audit_plus.bits6 : waitsOk audit_plus.T6.2 audit_plus.B6 = true := by kernel_rfl
set_option maxHeartbeats 1600000 in
set_option maxRecDepth 100000 in
theorem audit_plus.calls (a0_0 a0_1 a0_2 a1_0 a1_1 a1_2 : Int) (r1 r2 r3 : Int) (w : World) (h : audit_plus.f a0_0 a0_1 a0_2 a1_0 a1_1 a1_2 = some (r1, r2, r3)) :
    Calls Try.prog 52 #[.agg #[.int .u64 a0_0, .int .u64 a0_1, .int .u64 a0_2], .agg #[.int .u64 a1_0, .int .u64 a1_1, .int .u64 a1_2]] w fun e w' => e = .returned (.agg #[.int .u64 r1, .int .u64 r2, .int .u64 r3]) ∧ Below w.heap.size w w' := by
  have HB := Aside0.mk (Below.refl w.heap.size w)
  have hu := Try.underlying76
  unfold audit_plus.f at h
  by_cases q0 : add64c a0_0 a1_0 0 ≤ 1
  rotate_left
  · rw [if_neg q0] at h
    exact absurd h (by simp)
  rw [if_pos q0] at h
  by_cases q1 : add64c a0_1 a1_1 (add64c a0_0 a1_0 0) ≤ 1
  rotate_left
  · rw [if_neg q1] at h
    exact absurd h (by simp)
  rw [if_pos q1] at h
  simp only [Option.some.injEq, Prod.mk.injEq] at h
  obtain ⟨rfl, rfl, rfl⟩ := h
  have Q0 := eq_true q0
  have Q1 := eq_true q1
  clear q0 q1
  go_enter Try.func52, Try.ntmps52
  go_wp2_with (first | ((with_reducible refine gate_dst (N := 2) rfl ?_); refine bx 2 #[.int .u64 a0_0, .int .u64 a0_1, .int .u64 a0_2] 76 ?_; intro ga hg w_ga hbox hb; have n0_ := bs HB hb; have GEga := sz HB hg; clear HB ; have HB := n0_; clear n0_; have BKga := Aside0.mk hbox; clear hb hbox hg) | ((with_reducible refine gate_dst (N := 3) rfl ?_); refine bx 3 #[.int .u64 a1_0, .int .u64 a1_1, .int .u64 a1_2] 76 ?_; intro gb hg w_gb hbox hb; have n_ga := bb BKga hb; have e1_ga := nl BKga hg; have e2_ga := nr BKga hg; have n0_ := bs HB hb; have GEgb := sz HB hg; clear HB BKga; have HB := n0_; clear n0_; have BKga := n_ga; clear n_ga; have NEga_gb := e1_ga; have NEgb_ga := e2_ga; clear e1_ga e2_ga; have BKgb := Aside0.mk hbox; clear hb hbox hg) | ((with_reducible refine gate_dst (N := 4) rfl ?_); refine bx 4 #[.int .u64 0, .int .u64 0, .int .u64 0] 76 ?_; intro gr hg w_gr hbox hb; have n_ga := bb BKga hb; have e1_ga := nl BKga hg; have e2_ga := nr BKga hg; have n_gb := bb BKgb hb; have e1_gb := nl BKgb hg; have e2_gb := nr BKgb hg; have n0_ := bs HB hb; have GEgr := sz HB hg; clear HB BKga BKgb; have HB := n0_; clear n0_; have BKga := n_ga; clear n_ga; have NEga_gr := e1_ga; have NEgr_ga := e2_ga; clear e1_ga e2_ga; have BKgb := n_gb; clear n_gb; have NEgb_gr := e1_gb; have NEgr_gb := e2_gb; clear e1_gb e2_gb; have BKgr := Aside0.mk hbox; clear hb hbox hg) | ((with_reducible refine gate_dst (N := 5) rfl ?_); refine bx 5 #[.int .u64 0, .int .u64 0, .int .u64 0] 76 ?_; intro go hg w_go hbox hb; have n_ga := bb BKga hb; have e1_ga := nl BKga hg; have e2_ga := nr BKga hg; have n_gb := bb BKgb hb; have e1_gb := nl BKgb hg; have e2_gb := nr BKgb hg; have n_gr := bb BKgr hb; have e1_gr := nl BKgr hg; have e2_gr := nr BKgr hg; have n0_ := bs HB hb; have GEgo := sz HB hg; clear HB BKga BKgb BKgr; have HB := n0_; clear n0_; have BKga := n_ga; clear n_ga; have NEga_go := e1_ga; have NEgo_ga := e2_ga; clear e1_ga e2_ga; have BKgb := n_gb; clear n_gb; have NEgb_go := e1_gb; have NEgo_gb := e2_gb; clear e1_gb e2_gb; have BKgr := n_gr; clear n_gr; have NEgr_go := e1_gr; have NEgo_gr := e2_gr; clear e1_gr e2_gr; have BKgo := Aside0.mk hbox; clear hb hbox hg))
  go_loopw [6, 8] (fun v6 v8 WR => ∃ (j : Nat) (c x y z : Int), v8 = .int .i64 (j : Int) ∧ v6 = .int .u64 c ∧ ((j = 0 ∧ c = 0 ∧ x = 0 ∧ y = 0 ∧ z = 0) ∨ (j = 1 ∧ c = add64c a0_0 a1_0 0 ∧ x = add64s a0_0 a1_0 0 ∧ y = 0 ∧ z = 0) ∨ (j = 2 ∧ c = add64c a0_1 a1_1 (add64c a0_0 a1_0 0) ∧ x = add64s a0_0 a1_0 0 ∧ y = add64s a0_1 a1_1 (add64c a0_0 a1_0 0) ∧ z = 0) ∨ (j = 3 ∧ c = add64c a0_2 a1_2 (add64c a0_1 a1_1 (add64c a0_0 a1_0 0)) ∧ x = add64s a0_0 a1_0 0 ∧ y = add64s a0_1 a1_1 (add64c a0_0 a1_0 0) ∧ z = add64s a0_2 a1_2 (add64c a0_1 a1_1 (add64c a0_0 a1_0 0)))) ∧ Aside0 (WR.heap[ga]? = some (.cells #[.int .u64 a0_0, .int .u64 a0_1, .int .u64 a0_2] 76 (0, 0))) ∧ Aside0 (WR.heap[gb]? = some (.cells #[.int .u64 a1_0, .int .u64 a1_1, .int .u64 a1_2] 76 (0, 0))) ∧ Aside0 (WR.heap[gr]? = some (.cells #[.int .u64 0, .int .u64 0, .int .u64 0] 76 (0, 0))) ∧ Aside0 (WR.heap[go]? = some (.cells #[.int .u64 x, .int .u64 y, .int .u64 z] 76 (0, 0))) ∧ Aside0 (Below w.heap.size w WR)) (fun _ v8 _ => 3 - (intOf v8).toNat)
  case atStart => exact ⟨0, 0, 0, 0, 0, rs, rs, Or.inl ⟨rfl, rfl, rfl, rfl, rfl⟩, ⟨bk BKga⟩, ⟨bk BKgb⟩, ⟨bk BKgr⟩, ⟨bk BKgo⟩, ⟨bw HB⟩⟩
  case round =>
    clear BKga BKgb BKgr BKgo HB
    obtain ⟨j, c, x, y, z, rfl, rfl, hx, BKga, BKgb, BKgr, BKgo, HB⟩ := hrel
    obtain ⟨rfl, rfl, rfl, rfl, rfl⟩ | ⟨rfl, rfl, rfl, rfl, rfl⟩ | ⟨rfl, rfl, rfl, rfl, rfl⟩ | ⟨rfl, rfl, rfl, rfl, rfl⟩ := hx
    · have j0 : ((0 : Nat) : Int) = 0 := rfl
      rw [j0]
      clear j0
      go_wp2
      have n0_ := Aside0.mk (blk_drew BKga.out)
      have n1_ := Aside0.mk (blk_drew BKgb.out)
      have n2_ := Aside0.mk (blk_drew BKgr.out)
      have n3_ := Aside0.mk (blk_drew BKgo.out)
      have n4_ := Aside0.mk (below_drew1 HB.out)
      clear BKga BKgb BKgr BKgo HB
      have BKga := n0_
      have BKgb := n1_
      have BKgr := n2_
      have BKgo := n3_
      have HB := n4_
      clear n0_ n1_ n2_ n3_ n4_
      refine start_ (n := 15) (S := fun w' => w'.cell? ⟨ga, 0, none⟩ = some (.int .u64 a0_0) ∧ w'.cell? ⟨gb, 0, none⟩ = some (.int .u64 a1_0)) (ds := []) #[false, false, false, false, false, false, false, false, false, false, false, false, false, false, false] (by kernel_rfl) rfl rfl ⟨(blk_cell BKga.out 0).trans rfl, (blk_cell BKgb.out 0).trans rfl⟩ (fun hHeld => ?_); refine with_tabW audit_plus.tab6 audit_plus.bits6 (fun HT_ HW_ => ?_)
      generalize wr.drew = w4 at BKga BKgb BKgr BKgo HB hHeld ⊢
      refine chain_ (fuel := 2) [(0, 0, some 12), (1, 0, some 13), (2, 0, some 14), (4, 0, some 16), (5, 0, some 17), (7, 0, some 19), (3, 1, some 15), (6, 1, some 18), (8, 0, some 20), (9, 0, some 11), (10, 0, some 21), (11, 0, some 22), (12, 0, some 23)] #[true, true, true, true, true, true, true, true, true, true, true, true, true, false, false] HT_.out HW_.out (by kernel_rfl) (fun _ _ _ _ _ h => h) (Or.inr hHeld) rfl ?_
      (iterate 6 refine lkP ?_); (iterate 2 refine lkT ?_); (iterate 5 refine lkP ?_); refine .nil ?_
      refine one_ (i := 13) (N := none) #[true, true, true, true, true, true, true, true, true, true, true, true, true, true, false] rfl rfl (one_of HT_.out (by kernel_rfl)) (by decide) (fun K hK => ?_)
      have hs : w4.cell? ⟨go, 0, none⟩ = some _ := (blk_cell BKgo.out 0).trans rfl
      have hfs := blk_frozen BKgo.out 0
      refine skip_ (w1 := ?_) (by rfl) rfl ?_ ?_
      rotate_left
      · go_simp
        rfl
      refine hK.out _ _ ⟨(cell_far (p := ⟨go, _, none⟩) NEga_go.out _).trans hHeld.1, (cell_far (p := ⟨go, _, none⟩) NEgb_go.out _).trans hHeld.2⟩ (fun hHeld => ?_)
      clear hK K
      refine chain_ (fuel := 0) [(14, 0, some 6)] #[true, true, true, true, true, true, true, true, true, true, true, true, true, true, true] HT_.out HW_.out (by kernel_rfl) (fun _ _ _ _ _ h => h) (Or.inl (by decide)) rfl ?_
      refine lkP ?_; refine .nil ?_
      refine done_ (done_of HT_.out (by kernel_rfl)) ?_
      try go_wp2
      go_roundw
      case measure => simp [intOf]
      case rel => exact ⟨1, _, _, _, _, rs, rs, Or.inr (Or.inl ⟨rfl, rfl, rfl, rfl, rfl⟩), ⟨bk BKga⟩, ⟨bk BKgb⟩, ⟨bk BKgr⟩, ⟨bk BKgo⟩, ⟨bw HB⟩⟩
    · have j0 : ((1 : Nat) : Int) = 1 := rfl
      rw [j0]
      clear j0
      go_wp2
      have n0_ := Aside0.mk (blk_drew BKga.out)
      have n1_ := Aside0.mk (blk_drew BKgb.out)
      have n2_ := Aside0.mk (blk_drew BKgr.out)
      have n3_ := Aside0.mk (blk_drew BKgo.out)
      have n4_ := Aside0.mk (below_drew1 HB.out)
      clear BKga BKgb BKgr BKgo HB
      have BKga := n0_
      have BKgb := n1_
      have BKgr := n2_
      have BKgo := n3_
      have HB := n4_
      clear n0_ n1_ n2_ n3_ n4_
      refine start_ (n := 15) (S := fun w' => w'.cell? ⟨ga, 1, none⟩ = some (.int .u64 a0_1) ∧ w'.cell? ⟨gb, 1, none⟩ = some (.int .u64 a1_1)) (ds := []) #[false, false, false, false, false, false, false, false, false, false, false, false, false, false, false] (by kernel_rfl) rfl rfl ⟨(blk_cell BKga.out 1).trans rfl, (blk_cell BKgb.out 1).trans rfl⟩ (fun hHeld => ?_); refine with_tabW audit_plus.tab6 audit_plus.bits6 (fun HT_ HW_ => ?_)
      generalize wr.drew = w4 at BKga BKgb BKgr BKgo HB hHeld ⊢
      refine chain_ (fuel := 2) [(0, 0, some 12), (1, 0, some 13), (2, 0, some 14), (4, 0, some 16), (5, 0, some 17), (7, 0, some 19), (3, 1, some 15), (6, 1, some 18), (8, 0, some 20), (9, 0, some 11), (10, 0, some 21), (11, 0, some 22), (12, 0, some 23)] #[true, true, true, true, true, true, true, true, true, true, true, true, true, false, false] HT_.out HW_.out (by kernel_rfl) (fun _ _ _ _ _ h => h) (Or.inr hHeld) rfl ?_
      (iterate 6 refine lkP ?_); (iterate 2 refine lkT ?_); (iterate 5 refine lkP ?_); refine .nil ?_
      refine one_ (i := 13) (N := none) #[true, true, true, true, true, true, true, true, true, true, true, true, true, true, false] rfl rfl (one_of HT_.out (by kernel_rfl)) (by decide) (fun K hK => ?_)
      have hs : w4.cell? ⟨go, 1, none⟩ = some _ := (blk_cell BKgo.out 1).trans rfl
      have hfs := blk_frozen BKgo.out 1
      refine skip_ (w1 := ?_) (by rfl) rfl ?_ ?_
      rotate_left
      · go_simp
        rfl
      refine hK.out _ _ ⟨(cell_far (p := ⟨go, _, none⟩) NEga_go.out _).trans hHeld.1, (cell_far (p := ⟨go, _, none⟩) NEgb_go.out _).trans hHeld.2⟩ (fun hHeld => ?_)
      clear hK K
      refine chain_ (fuel := 0) [(14, 0, some 6)] #[true, true, true, true, true, true, true, true, true, true, true, true, true, true, true] HT_.out HW_.out (by kernel_rfl) (fun _ _ _ _ _ h => h) (Or.inl (by decide)) rfl ?_
      refine lkP ?_; refine .nil ?_
      refine done_ (done_of HT_.out (by kernel_rfl)) ?_
      try go_wp2
      go_roundw
      case measure => simp [intOf]
      case rel => exact ⟨2, _, _, _, _, rs, rs, Or.inr (Or.inr (Or.inl ⟨rfl, rfl, rfl, rfl, rfl⟩)), ⟨bk BKga⟩, ⟨bk BKgb⟩, ⟨bk BKgr⟩, ⟨bk BKgo⟩, ⟨bw HB⟩⟩
    · have j0 : ((2 : Nat) : Int) = 2 := rfl
      rw [j0]
      clear j0
      go_wp2
      have n0_ := Aside0.mk (blk_drew BKga.out)
      have n1_ := Aside0.mk (blk_drew BKgb.out)
      have n2_ := Aside0.mk (blk_drew BKgr.out)
      have n3_ := Aside0.mk (blk_drew BKgo.out)
      have n4_ := Aside0.mk (below_drew1 HB.out)
      clear BKga BKgb BKgr BKgo HB
      have BKga := n0_
      have BKgb := n1_
      have BKgr := n2_
      have BKgo := n3_
      have HB := n4_
      clear n0_ n1_ n2_ n3_ n4_
      refine start_ (n := 15) (S := fun w' => w'.cell? ⟨ga, 2, none⟩ = some (.int .u64 a0_2) ∧ w'.cell? ⟨gb, 2, none⟩ = some (.int .u64 a1_2)) (ds := []) #[false, false, false, false, false, false, false, false, false, false, false, false, false, false, false] (by kernel_rfl) rfl rfl ⟨(blk_cell BKga.out 2).trans rfl, (blk_cell BKgb.out 2).trans rfl⟩ (fun hHeld => ?_); refine with_tabW audit_plus.tab6 audit_plus.bits6 (fun HT_ HW_ => ?_)
      generalize wr.drew = w4 at BKga BKgb BKgr BKgo HB hHeld ⊢
      refine chain_ (fuel := 2) [(0, 0, some 12), (1, 0, some 13), (2, 0, some 14), (4, 0, some 16), (5, 0, some 17), (7, 0, some 19), (3, 1, some 15), (6, 1, some 18), (8, 0, some 20), (9, 0, some 11), (10, 0, some 21), (11, 0, some 22), (12, 0, some 23)] #[true, true, true, true, true, true, true, true, true, true, true, true, true, false, false] HT_.out HW_.out (by kernel_rfl) (fun _ _ _ _ _ h => h) (Or.inr hHeld) rfl ?_
      (iterate 6 refine lkP ?_); (iterate 2 refine lkT ?_); (iterate 5 refine lkP ?_); refine .nil ?_
      refine one_ (i := 13) (N := none) #[true, true, true, true, true, true, true, true, true, true, true, true, true, true, false] rfl rfl (one_of HT_.out (by kernel_rfl)) (by decide) (fun K hK => ?_)
      have hs : w4.cell? ⟨go, 2, none⟩ = some _ := (blk_cell BKgo.out 2).trans rfl
      have hfs := blk_frozen BKgo.out 2
      refine skip_ (w1 := ?_) (by rfl) rfl ?_ ?_
      rotate_left
      · go_simp
        rfl
      refine hK.out _ _ ⟨(cell_far (p := ⟨go, _, none⟩) NEga_go.out _).trans hHeld.1, (cell_far (p := ⟨go, _, none⟩) NEgb_go.out _).trans hHeld.2⟩ (fun hHeld => ?_)
      clear hK K
      refine chain_ (fuel := 0) [(14, 0, some 6)] #[true, true, true, true, true, true, true, true, true, true, true, true, true, true, true] HT_.out HW_.out (by kernel_rfl) (fun _ _ _ _ _ h => h) (Or.inl (by decide)) rfl ?_
      refine lkP ?_; refine .nil ?_
      refine done_ (done_of HT_.out (by kernel_rfl)) ?_
      try go_wp2
      go_roundw
      case measure => simp [intOf]
      case rel => exact ⟨3, _, _, _, _, rs, rs, Or.inr (Or.inr (Or.inr (⟨rfl, rfl, rfl, rfl, rfl⟩))), ⟨bk BKga⟩, ⟨bk BKgb⟩, ⟨bk BKgr⟩, ⟨bk BKgo⟩, ⟨bw HB⟩⟩
    · have j0 : ((3 : Nat) : Int) = 3 := rfl
      rw [j0]
      clear j0
      obtain ⟨hcz_0, hcz_1, hcz_2, hfz_0, hfz_1, hfz_2⟩ := bc3 BKgo
      obtain ⟨hcy_0, hcy_1, hcy_2, hfy_0, hfy_1, hfy_2⟩ := bc3 BKgr
      go_wp2
      refine bodyPost_ret (results_cell_row rfl _ _ gr 76 #[.int .u64 (add64s a0_0 a1_0 0), .int .u64 (add64s a0_1 a1_1 (add64c a0_0 a1_0 0)), .int .u64 (add64s a0_2 a1_2 (add64c a0_1 a1_1 (add64c a0_0 a1_0 0)))] (0, 0) _ rfl (bk BKgr) Try.underlying76 rfl (by kernel_rfl)) rfl ?_
      exact ⟨re, bw HB⟩

/-! ### audit_times: function 53 -/
def audit_times.f (a0 : Int) (a1 : Int) : Option (Int × Int × Int) := (bits_Mul64.f a0 a1).bind fun bt218 => (some (bt218.2, bt218.1, 0))
set_option maxHeartbeats 8000000 in
set_option maxRecDepth 100000 in
theorem audit_times.calls (a0 : Int) (a1 : Int) (r1 : Int) (r2 : Int) (r3 : Int) (w : World) (h : audit_times.f a0 a1 = some (r1, r2, r3)) :
    Calls Try.prog 53 #[.int .u64 a0, .int .u64 a1] w fun e w' => e = .returned (.agg #[.int .u64 r1, .int .u64 r2, .int .u64 r3]) ∧ Below w.heap.size w w' := by
  have hu76 := Try.underlying76
  have HB := Aside0.mk (Below.refl w.heap.size w)
  have H : ((bits_Mul64.f a0 a1).bind fun bt218 => (some (bt218.2, bt218.1, 0))) = some (r1, r2, r3) := h
  clear h
  replace H := Option.bind_eq_some_iff.mp H
  obtain ⟨⟨t218, t219⟩, A30, H⟩ := H
  replace H : (some (t219, t218, 0)) = some (r1, r2, r3) := H
  have A3 := Aside0.mk A30
  clear A30
  simp only [Option.some.injEq, Prod.mk.injEq] at H
  obtain ⟨rfl, rfl, rfl⟩ := H
  go_enter Try.func53, Try.ntmps53
  go_wp2_with (first | ((with_reducible refine gate_dst (N := 4) rfl ?_); refine bx 4 #[.int .u64 0, .int .u64 0, .int .u64 0] 76 ?_; intro gb217 hg w4 hbox hb; have BK217 := Aside0.mk (hbox); have GW217 := sz HB hg; have GE217 := sz HB hg; replace HB := bs HB hb; clear hb hbox hg) | ((with_reducible refine gate_callee (f := 36) rfl ?_); refine gl (some 10) Try.func36 #[.int .u64 a0, .int .u64 a1] ?_; (with_reducible refine (bits_Mul64.calls a0 a1 t218 t219 _ A3.out).mono ?_); rintro e w' ⟨rfl, ⟨nd, rfl⟩⟩; refine ⟨_, rfl, ?_⟩; (try (rw [drewN_self w4]; generalize hq_ : World.drewN w4 _ = w4; have n0_ : Aside0 (w4.heap[gb217]? = some (.cells #[.int .u64 0, .int .u64 0, .int .u64 0] 76 (0, 0))) := ⟨by rw [← hq_]; exact (bk BK217)⟩; have n1_ : Aside0 (Below w.heap.size w w4) := ⟨by rw [← hq_]; exact (bw HB)⟩; clear BK217 HB hq_; have BK217 := n0_; have HB := n1_; clear n0_ n1_)); obtain ⟨hcz5_0, hcz5_1, hcz5_2, hfz5_0, hfz5_1, hfz5_2⟩ := bc3 BK217))
  refine bodyPost_ret (results_cell_row rfl _ _ gb217 76 #[.int .u64 t219, .int .u64 t218, .int .u64 0] (0, 0) _ rfl (bk BK217) Try.underlying76 rfl (by kernel_rfl)) rfl ?_
  exact ⟨re, bw HB⟩

end Go.Proofs.Ytdoifmefhofnnaa.D
