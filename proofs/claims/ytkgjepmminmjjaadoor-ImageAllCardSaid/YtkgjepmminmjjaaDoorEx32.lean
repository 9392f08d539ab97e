/- Written by the session's own program hyb.py: what functions of the program compute; Lean checks it. -/
import Derived.Test.YtkgjepmminmjjaaDoorEx0
import Derived.Test.YtkgjepmminmjjaaDoorEx1
import Derived.Test.YtkgjepmminmjjaaDoorEx31
namespace Go.Proofs.YtkgjepmminmjjaaDoor.E
open Go.RowKit Go.Proofs.YtkgjepmminmjjaaDoorW.PrintWords Go.Proofs.YtkgjepmminmjjaaDoorW.PrintLast Go.Proofs.YtkgjepmminmjjaaDoorW.PrintMore Go.Proofs.YtkgjepmminmjjaaDoorW.PrintShort
attribute [local go_sem] run_Add64 run_Sub64
attribute [local go_sem] max2_int min2_int max_two min_two max_three min_three max_four min_four   -- for this text's walks alone
set_option linter.unusedVariables false
set_option linter.unusedSimpArgs false

attribute [local go_sem high] eqA30
/-! ### turnstileref06_Fits: function 73 -/
def turnstileref06_Fits.f (a0_0 : Int) (a0_1 : Int) (a0_2 : Int) (a0_3 : Int) (a0_4 : Int) (a1_0 : Int) (a1_1 : Int) (a1_2 : Int) : Option (Bool) := (turnstileref06_Valid.f a0_0 a0_1 a0_2 a0_3 a0_4).bind fun t401 => (if t401 = true then ((turnstileref06_Form.f a0_0 a0_1 a0_2 a0_3 a0_4 a1_0 a1_1 a1_2).bind fun bt402 => (some (bt402.1 == a1_0 && (bt402.2.1 == a1_1 && (bt402.2.2 == a1_2))))) else (some false))
def turnstileref06_Fits.T1 : Bool × List (List Nat × List Nat) := (true, [([], []), ([0], [0]), ([1, 1], [1]), ([2], [2]), ([2], [2]), ([3, 4, 2, 2], [2, 3, 4]), ([2], [2]), ([5, 6, 2], [2, 5, 6]), ([2, 7], [2, 7]), ([8, 5, 0, 1, 2, 3, 4, 5, 6, 7, 8], [8])])
def turnstileref06_Fits.B1 : List Nat := [0, 1, 3, 7, 7, 31, 7, 127, 255, 511]
theorem turnstileref06_Fits.tab1 : rtab .any (opsOf Tryd.f73 1) = turnstileref06_Fits.T1 := by kernel_rfl
theorem turnstileref06_Fits.bits1 : waitsOk turnstileref06_Fits.T1.2 turnstileref06_Fits.B1 = true := by kernel_rfl
set_option maxHeartbeats 8000000 in
set_option maxRecDepth 100000 in
theorem turnstileref06_Fits.calls (a0_0 : Int) (a0_1 : Int) (a0_2 : Int) (a0_3 : Int) (a0_4 : Int) (a1_0 : Int) (a1_1 : Int) (a1_2 : Int) (r : Bool) (w : World) (h : turnstileref06_Fits.f a0_0 a0_1 a0_2 a0_3 a0_4 a1_0 a1_1 a1_2 = some r) :
    Calls Tryd.prog 73 #[.agg #[.int .i64 a0_0, .int .u64 a0_1, .int .u64 a0_2, .int .u64 a0_3, .int .u64 a0_4], .agg #[.int .u64 a1_0, .int .u64 a1_1, .int .u64 a1_2]] w fun e w' => e = .returned (.bool r) ∧ Below w.heap.size w w' := by
  have hu28 := Tryd.underlying28
  have hu30 := Tryd.underlying30
  have HB := Aside0.mk (Below.refl w.heap.size w)
  have H : ((turnstileref06_Valid.f a0_0 a0_1 a0_2 a0_3 a0_4).bind fun t401 => (if t401 = true then ((turnstileref06_Form.f a0_0 a0_1 a0_2 a0_3 a0_4 a1_0 a1_1 a1_2).bind fun bt402 => (some (bt402.1 == a1_0 && (bt402.2.1 == a1_1 && (bt402.2.2 == a1_2))))) else (some false))) = some r := h
  clear h
  replace H := Option.bind_eq_some_iff.mp H
  obtain ⟨t401, A30, H⟩ := H
  replace H : (if t401 = true then ((turnstileref06_Form.f a0_0 a0_1 a0_2 a0_3 a0_4 a1_0 a1_1 a1_2).bind fun bt402 => (some (bt402.1 == a1_0 && (bt402.2.1 == a1_1 && (bt402.2.2 == a1_2))))) else (some false)) = some r := H
  have A3 := Aside0.mk A30
  clear A30
  by_cases c4 : t401 = true
  · subst c4
    have H1 : ((turnstileref06_Form.f a0_0 a0_1 a0_2 a0_3 a0_4 a1_0 a1_1 a1_2).bind fun bt402 => (some (bt402.1 == a1_0 && (bt402.2.1 == a1_1 && (bt402.2.2 == a1_2))))) = some r := by rw [if_pos rfl] at H; exact H
    clear H
    have H := H1
    clear H1
    replace H := Option.bind_eq_some_iff.mp H
    obtain ⟨⟨t402, t403, t404⟩, A50, H⟩ := H
    replace H : (some (t402 == a1_0 && (t403 == a1_1 && (t404 == a1_2)))) = some r := H
    have A5 := Aside0.mk A50
    clear A50
    obtain rfl := Option.some.inj H
    go_enter Tryd.func73, Tryd.ntmps73
    try go_wp2_with (first | ((with_reducible refine gate_dst (N := 2) rfl ?_); (try (refine gate_guard (by rfl) ?_; dsimp only)); refine bx 2 #[.int .i64 a0_0, .int .u64 a0_1, .int .u64 a0_2, .int .u64 a0_3, .int .u64 a0_4] 28 ?_; intro gb399 hg w6 hbox hb; have BK399 := Aside0.mk (hbox); have GW399 := sz HB hg; have GE399 := sz HB hg; replace HB := bs HB hb; clear hb hbox hg) | ((with_reducible refine gate_dst (N := 3) rfl ?_); (try (refine gate_guard (by rfl) ?_; dsimp only)); refine bx 3 #[.int .u64 a1_0, .int .u64 a1_1, .int .u64 a1_2] 30 ?_; intro gb400 hg w7 hbox hb; have BK400 := Aside0.mk (hbox); have GW400 := sz HB hg; have GE400 := sz HB hg; have NB399_400 := nl BK399 hg; have NB400_399 := nr BK399 hg; replace BK399 := bb BK399 hb; replace HB := bs HB hb; clear hb hbox hg))
    replace BK399 := Aside0.mk (blk_drew BK399.out)
    replace BK400 := Aside0.mk (blk_drew BK400.out)
    replace HB := Aside0.mk (below_drew1 HB.out)
    refine start_ (n := 10) (S := fun w' => w'.cell? ⟨gb399, 0, none⟩ = some (.int .i64 a0_0) ∧ w'.cell? ⟨gb399, 1, none⟩ = some (.int .u64 a0_1) ∧ w'.cell? ⟨gb399, 2, none⟩ = some (.int .u64 a0_2) ∧ w'.cell? ⟨gb399, 3, none⟩ = some (.int .u64 a0_3) ∧ w'.cell? ⟨gb399, 4, none⟩ = some (.int .u64 a0_4) ∧ w'.cell? ⟨gb400, 0, none⟩ = some (.int .u64 a1_0) ∧ w'.cell? ⟨gb400, 1, none⟩ = some (.int .u64 a1_1) ∧ w'.cell? ⟨gb400, 2, none⟩ = some (.int .u64 a1_2)) (ds := []) #[false, false, false, false, false, false, false, false, false, false] (by kernel_rfl) rfl rfl ⟨(blk_cell BK399.out 0).trans rfl, (blk_cell BK399.out 1).trans rfl, (blk_cell BK399.out 2).trans rfl, (blk_cell BK399.out 3).trans rfl, (blk_cell BK399.out 4).trans rfl, (blk_cell BK400.out 0).trans rfl, (blk_cell BK400.out 1).trans rfl, (blk_cell BK400.out 2).trans rfl⟩ (fun hHeld => ?_); refine with_tabW turnstileref06_Fits.tab1 turnstileref06_Fits.bits1 (fun HT_ HW_ => ?_)
    generalize w7.drew = w8 at BK399 BK400 HB hHeld ⊢
    refine chain_ (fuel := 9) [(0, 1, some 5)] #[true, false, false, false, false, false, false, false, false, false] HT_.out HW_.out (by kernel_rfl) (fun _ _ _ _ _ h => h) (Or.inr hHeld) rfl ?_
    refine lkT ?_; refine .nil ?_
    refine one_ (i := 1) (N := some 6) #[true, true, false, false, false, false, false, false, false, false] rfl rfl (one_of HT_.out (by kernel_rfl)) (by decide) (fun K hK => ?_)
    refine ge Tryd.func52 #[.agg #[.int .i64 a0_0, .int .u64 a0_1, .int .u64 a0_2, .int .u64 a0_3, .int .u64 a0_4]] ?_
    with_reducible refine (turnstileref06_Valid.calls a0_0 a0_1 a0_2 a0_3 a0_4 true _ A3.out).mono ?_
    rintro e w9 ⟨rfl, hb⟩
    refine ⟨_, rfl, ?_⟩
    replace BK399 := bb BK399 hb
    replace BK400 := bb BK400 hb
    replace HB := bs HB hb
    (try clear hb)
    (try clear hb2)
    (try clear hk)
    (try clear hi)
    refine hK.out _ _ ⟨(blk_cell BK399.out 0).trans rfl, (blk_cell BK399.out 1).trans rfl, (blk_cell BK399.out 2).trans rfl, (blk_cell BK399.out 3).trans rfl, (blk_cell BK399.out 4).trans rfl, (blk_cell BK400.out 0).trans rfl, (blk_cell BK400.out 1).trans rfl, (blk_cell BK400.out 2).trans rfl⟩ (fun hHeld => ?_)
    clear hK K
    refine norm_ (a' := ?_) ?_ ?_
    rotate_left
    · show Act.put _ (some 6) _ = _
      simp only [Act.put, List.setIfInBounds_toArray, List.set_cons_zero, List.set_cons_succ, i64_w, i32_w]
      rfl
    refine chain_ (fuel := 4) [(2, 0, some 7), (3, 1, some 8), (4, 1, some 9), (6, 1, some 11)] #[true, true, true, true, true, false, true, false, false, false] HT_.out HW_.out (by kernel_rfl) (fun _ _ _ _ _ h => h) (Or.inr hHeld) rfl ?_
    refine lkP ?_; (iterate 3 refine lkT ?_); refine .nil ?_
    refine one_ (i := 5) (N := some 10) #[true, true, true, true, true, true, true, false, false, false] rfl rfl (one_of HT_.out (by kernel_rfl)) (by decide) (fun K hK => ?_)
    refine ge Tryd.func94 #[.agg #[.int .i64 a0_0, .int .u64 a0_1, .int .u64 a0_2, .int .u64 a0_3, .int .u64 a0_4], .agg #[.int .u64 a1_0, .int .u64 a1_1, .int .u64 a1_2]] ?_
    with_reducible refine (turnstileref06_Form.calls a0_0 a0_1 a0_2 a0_3 a0_4 a1_0 a1_1 a1_2 t402 t403 t404 _ A5.out).mono ?_
    rintro e w10 ⟨rfl, hb⟩
    refine ⟨_, rfl, ?_⟩
    replace BK399 := bb BK399 hb
    replace BK400 := bb BK400 hb
    replace HB := bs HB hb
    (try clear hb)
    (try clear hb2)
    (try clear hk)
    (try clear hi)
    refine hK.out _ _ ⟨(blk_cell BK399.out 0).trans rfl, (blk_cell BK399.out 1).trans rfl, (blk_cell BK399.out 2).trans rfl, (blk_cell BK399.out 3).trans rfl, (blk_cell BK399.out 4).trans rfl, (blk_cell BK400.out 0).trans rfl, (blk_cell BK400.out 1).trans rfl, (blk_cell BK400.out 2).trans rfl⟩ (fun hHeld => ?_)
    clear hK K
    refine norm_ (a' := ?_) ?_ ?_
    rotate_left
    · show Act.put _ (some 10) _ = _
      simp only [Act.put, List.setIfInBounds_toArray, List.set_cons_zero, List.set_cons_succ, i64_w, i32_w]
      rfl
    refine chain_ (fuel := 0) [(7, 0, some 12), (8, 0, some 13), (9, 0, some 4)] #[true, true, true, true, true, true, true, true, true, true] HT_.out HW_.out (by kernel_rfl) (fun _ _ _ _ _ h => h) (Or.inl (by decide)) rfl ?_
    (iterate 3 refine lkP ?_); refine .nil ?_
    refine done_ (done_of HT_.out (by kernel_rfl)) ?_
    try go_wp2
    go_ret
    exact ⟨re, bw HB⟩
  · replace c4 := Bool.eq_false_iff.mpr c4
    subst c4
    have H1 : (some false) = some r := by rw [if_neg (show ¬ (false = true) by decide)] at H; exact H
    clear H
    have H := H1
    clear H1
    obtain rfl := Option.some.inj H
    go_enter Tryd.func73, Tryd.ntmps73
    try go_wp2_with (first | ((with_reducible refine gate_dst (N := 2) rfl ?_); (try (refine gate_guard (by rfl) ?_; dsimp only)); refine bx 2 #[.int .i64 a0_0, .int .u64 a0_1, .int .u64 a0_2, .int .u64 a0_3, .int .u64 a0_4] 28 ?_; intro gb399 hg w11 hbox hb; have BK399 := Aside0.mk (hbox); have GW399 := sz HB hg; have GE399 := sz HB hg; replace HB := bs HB hb; clear hb hbox hg) | ((with_reducible refine gate_dst (N := 3) rfl ?_); (try (refine gate_guard (by rfl) ?_; dsimp only)); refine bx 3 #[.int .u64 a1_0, .int .u64 a1_1, .int .u64 a1_2] 30 ?_; intro gb400 hg w12 hbox hb; have BK400 := Aside0.mk (hbox); have GW400 := sz HB hg; have GE400 := sz HB hg; have NB399_400 := nl BK399 hg; have NB400_399 := nr BK399 hg; replace BK399 := bb BK399 hb; replace HB := bs HB hb; clear hb hbox hg))
    replace BK399 := Aside0.mk (blk_drew BK399.out)
    replace BK400 := Aside0.mk (blk_drew BK400.out)
    replace HB := Aside0.mk (below_drew1 HB.out)
    refine start_ (n := 10) (S := fun w' => w'.cell? ⟨gb399, 0, none⟩ = some (.int .i64 a0_0) ∧ w'.cell? ⟨gb399, 1, none⟩ = some (.int .u64 a0_1) ∧ w'.cell? ⟨gb399, 2, none⟩ = some (.int .u64 a0_2) ∧ w'.cell? ⟨gb399, 3, none⟩ = some (.int .u64 a0_3) ∧ w'.cell? ⟨gb399, 4, none⟩ = some (.int .u64 a0_4)) (ds := []) #[false, false, false, false, false, false, false, false, false, false] (by kernel_rfl) rfl rfl ⟨(blk_cell BK399.out 0).trans rfl, (blk_cell BK399.out 1).trans rfl, (blk_cell BK399.out 2).trans rfl, (blk_cell BK399.out 3).trans rfl, (blk_cell BK399.out 4).trans rfl⟩ (fun hHeld => ?_); refine with_tabW turnstileref06_Fits.tab1 turnstileref06_Fits.bits1 (fun HT_ HW_ => ?_)
    generalize w12.drew = w13 at BK399 BK400 HB hHeld ⊢
    refine chain_ (fuel := 9) [(0, 1, some 5)] #[true, false, false, false, false, false, false, false, false, false] HT_.out HW_.out (by kernel_rfl) (fun _ _ _ _ _ h => h) (Or.inr hHeld) rfl ?_
    refine lkT ?_; refine .nil ?_
    refine one_ (i := 1) (N := some 6) #[true, true, false, false, false, false, false, false, false, false] rfl rfl (one_of HT_.out (by kernel_rfl)) (by decide) (fun K hK => ?_)
    refine ge Tryd.func52 #[.agg #[.int .i64 a0_0, .int .u64 a0_1, .int .u64 a0_2, .int .u64 a0_3, .int .u64 a0_4]] ?_
    with_reducible refine (turnstileref06_Valid.calls a0_0 a0_1 a0_2 a0_3 a0_4 false _ A3.out).mono ?_
    rintro e w14 ⟨rfl, hb⟩
    refine ⟨_, rfl, ?_⟩
    replace BK399 := bb BK399 hb
    replace BK400 := bb BK400 hb
    replace HB := bs HB hb
    (try clear hb)
    (try clear hb2)
    (try clear hk)
    (try clear hi)
    refine hK.out _ _ ⟨(blk_cell BK399.out 0).trans rfl, (blk_cell BK399.out 1).trans rfl, (blk_cell BK399.out 2).trans rfl, (blk_cell BK399.out 3).trans rfl, (blk_cell BK399.out 4).trans rfl⟩ (fun hHeld => ?_)
    clear hK K
    refine norm_ (a' := ?_) ?_ ?_
    rotate_left
    · show Act.put _ (some 6) _ = _
      simp only [Act.put, List.setIfInBounds_toArray, List.set_cons_zero, List.set_cons_succ, i64_w, i32_w]
      rfl
    refine chain_ (fuel := 0) [(2, 0, some 7), (3, 2, some 8), (4, 2, some 9), (5, 2, some 10), (6, 2, some 11), (7, 2, some 12), (8, 0, some 13), (9, 0, some 4)] #[true, true, true, true, true, true, true, true, true, true] HT_.out HW_.out (by kernel_rfl) (fun _ _ _ _ _ h => h) (Or.inl (by decide)) rfl ?_
    refine lkP ?_; (iterate 5 refine lkO ?_); (iterate 2 refine lkP ?_); refine .nil ?_
    refine done_ (done_of HT_.out (by kernel_rfl)) ?_
    try go_wp2
    go_ret
    exact ⟨re, bw HB⟩

end Go.Proofs.YtkgjepmminmjjaaDoor.E
