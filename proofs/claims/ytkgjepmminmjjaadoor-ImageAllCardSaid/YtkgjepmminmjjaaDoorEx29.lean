/- Written by the session's own program hyb.py: what functions of the program compute; Lean checks it. -/
import Derived.Test.YtkgjepmminmjjaaDoorEx0
namespace Go.Proofs.YtkgjepmminmjjaaDoor.E
open Go.RowKit Go.Proofs.YtkgjepmminmjjaaDoorW.PrintWords Go.Proofs.YtkgjepmminmjjaaDoorW.PrintLast Go.Proofs.YtkgjepmminmjjaaDoorW.PrintMore Go.Proofs.YtkgjepmminmjjaaDoorW.PrintShort
attribute [local go_sem] run_Add64 run_Sub64
attribute [local go_sem] max2_int min2_int max_two min_two max_three min_three max_four min_four   -- for this text's walks alone
set_option linter.unusedVariables false
set_option linter.unusedSimpArgs false

/-! ### turnstilelaw14_copied: function 25 -/
def turnstilelaw14_copied.f (a0_0 : Int) (a0_1 : Int) (l0_2 : List (S79)) : Option (Int × Int × (List (S79))) := (some (([] : List (S79)) : List (S79))).bind fun y360 => (if y360.length + l0_2.length < 1759218604441 then (some (a0_0, a0_1, (y360 ++ l0_2))) else (none))
def turnstilelaw14_copied.T1 : Bool × List (List Nat × List Nat) := (true, [([], []), ([0], [0]), ([], []), ([2], [2]), ([], []), ([], []), ([5], [5]), ([4, 6], [4, 6]), ([1, 3, 7], [1, 3, 7]), ([8, 7, 0, 1, 2, 3, 4, 5, 6, 7, 8], [8])])
def turnstilelaw14_copied.B1 : List Nat := [0, 1, 0, 4, 0, 0, 32, 112, 255, 511]
theorem turnstilelaw14_copied.tab1 : rtab .any (opsOf Tryd.f25 1) = turnstilelaw14_copied.T1 := by kernel_rfl
theorem turnstilelaw14_copied.bits1 : waitsOk turnstilelaw14_copied.T1.2 turnstilelaw14_copied.B1 = true := by kernel_rfl
set_option maxHeartbeats 8000000 in
set_option maxRecDepth 100000 in
theorem turnstilelaw14_copied.calls (a0_0 : Int) (a0_1 : Int) (A0_2 : Option Addr) (c0_2 : Nat) (l0_2 : List (S79)) (r1 : Int) (r2 : Int) (r3 : List (S79)) (w : World) (hr0_2 : Kd.C k79 w A0_2 l0_2.length l0_2) (hc0_2 : l0_2.length ≤ c0_2) (h : turnstilelaw14_copied.f a0_0 a0_1 l0_2 = some (r1, r2, r3)) :
    Calls Tryd.prog 25 #[.agg #[.int .u64 a0_0, .int .u64 a0_1, .slice A0_2 l0_2.length c0_2]] w fun e w' => ∃ v2_ : Value, e = .returned (.agg #[.int .u64 r1, .int .u64 r2, v2_]) ∧ Kd.R k79 79 w' w.heap.size (fun _ => True) v2_ r3 ∧ Below w.heap.size w w' := by
  have hu51 := Tryd.underlying51
  have HR0_2 := Aside0.mk hr0_2
  have HC0_2 := Aside0.mk hc0_2
  clear hr0_2 hc0_2
  have HB := Aside0.mk (Below.refl w.heap.size w)
  have H : ((some (([] : List (S79)) : List (S79))).bind fun y360 => (if y360.length + l0_2.length < 1759218604441 then (some (a0_0, a0_1, (y360 ++ l0_2))) else (none))) = some (r1, r2, r3) := h
  clear h
  obtain ⟨y360, hy360⟩ : ∃ y_ : List (S79), y_ = (([] : List (S79))) := ⟨_, rfl⟩
  replace H : (if y360.length + l0_2.length < 1759218604441 then (some (a0_0, a0_1, (y360 ++ l0_2))) else (none)) = some (r1, r2, r3) := by first | (rw [hy360]; with_reducible exact H) | (have H2_ := (Option.bind_some _ _).symm.trans H; rw [hy360]; with_reducible exact H2_) | (have H2_ := (Option.bind_some _ _).symm.trans H; with_reducible exact H2_) | with_reducible exact H | (rw [hy360]; exact H) | exact H
  have Ny360 := Aside0.mk hy360
  clear hy360
  by_cases c2 : y360.length + l0_2.length < 1759218604441
  · rw [if_pos c2] at H
    have LMc2 := Aside0.mk c2
    clear c2
    obtain ⟨y363, hy363⟩ : ∃ y_ : List (S79), y_ = (y360 ++ l0_2) := ⟨_, rfl⟩
    replace H : (some (a0_0, a0_1, y363)) = some (r1, r2, r3) := by first | (rw [hy363]; with_reducible exact H) | (have H2_ := (Option.bind_some _ _).symm.trans H; rw [hy363]; with_reducible exact H2_) | (have H2_ := (Option.bind_some _ _).symm.trans H; with_reducible exact H2_) | with_reducible exact H | (rw [hy363]; exact H) | exact H
    have Ny363 := Aside0.mk hy363
    clear hy363
    simp only [Option.some.injEq, Prod.mk.injEq] at H
    obtain ⟨rfl, rfl, rfl⟩ := H
    go_enter Tryd.func25, Tryd.ntmps25
    try go_wp2_with (first | ((with_reducible refine gate_dst (N := 1) rfl ?_); refine bx 1 #[.int .u64 a0_0, .int .u64 a0_1, .slice A0_2 l0_2.length c0_2] 51 ?_; intro gb358 hg w3 hbox hb; have BK358 := Aside0.mk (hbox); have GW358 := sz HB hg; have GE358 := sz HB hg; replace HB := bs HB hb; clear hb hbox hg) | ((with_reducible refine gate_dst (N := 2) rfl ?_); refine bx 2 #[.int .u64 0, .int .u64 0, .slice none 0 0] 51 ?_; intro gb359 hg w4 hbox hb; have BK359 := Aside0.mk (hbox); have GW359 := sz HB hg; have GE359 := sz HB hg; have NB358_359 := nl BK358 hg; have NB359_358 := nr BK358 hg; replace BK358 := bb BK358 hb; replace HB := bs HB hb; clear hb hbox hg))
    replace BK358 := Aside0.mk (blk_drew BK358.out)
    replace BK359 := Aside0.mk (blk_drew BK359.out)
    replace HB := Aside0.mk (below_drew1 HB.out)
    refine start_ (n := 10) (S := fun w' => w'.cell? ⟨gb358, 0, none⟩ = some (.int .u64 a0_0) ∧ w'.cell? ⟨gb358, 1, none⟩ = some (.int .u64 a0_1) ∧ w'.cell? ⟨gb358, 2, none⟩ = some (.slice A0_2 l0_2.length c0_2)) (ds := []) #[false, false, false, false, false, false, false, false, false, false] (by kernel_rfl) rfl rfl ⟨(blk_cell BK358.out 0).trans rfl, (blk_cell BK358.out 1).trans rfl, (blk_cell BK358.out 2).trans rfl⟩ (fun hHeld => ?_); refine with_tabW turnstilelaw14_copied.tab1 turnstilelaw14_copied.bits1 (fun HT_ HW_ => ?_)
    generalize w4.drew = w5 at BK358 BK359 HB hHeld ⊢
    refine chain_ (fuel := 4) [(0, 0, some 3), (2, 0, some 5), (5, 0, some 8), (1, 1, some 4), (3, 1, some 6), (6, 1, some 9)] #[true, true, true, true, false, true, true, false, false, false] HT_.out HW_.out (by kernel_rfl) (fun _ _ _ _ _ h => h) (Or.inr hHeld) rfl ?_
    (iterate 3 refine lkP ?_); (iterate 3 refine lkT ?_); refine .nil ?_
    refine one_ (i := 4) (N := some 7) #[true, true, true, true, true, true, true, false, false, false] rfl rfl (one_of HT_.out (by kernel_rfl)) (by decide) (fun K hK => ?_)
    refine Kd.R_lit_step k79 _ 79 ?hg (N := 7) ?hd (xs := ([] : List (S79))) (inner := []) (ok := fun _ => True) (okp := fun _ => True) ?hr ?hp (fun _ hk => hk) trivial (Below.refl _ _) (Nat.le_refl _) (by simp) ?_; (case hd => rfl); (case hg => rfl); (case hr => first | (go_simp; done) | (go_simp; rfl)); (case hp => exact (Reps.none _ _))
    intro v361 w6 ho7 hb hg_ hnew_
    clear hg_ hnew_
    (first | rw [← Ny360.out] at ho7 | (simp only [Int.reduceToNat] at ho7; rw [← Ny360.out] at ho7))
    have HO362 := Aside0.mk (Kd.R_lower ho7 (below_size (bw HB)))
    replace BK358 := bb BK358 hb
    replace BK359 := bb BK359 hb
    replace HB := bs HB hb
    clear hb ho7
    refine hK.out _ _ ⟨(blk_cell BK358.out 0).trans rfl, (blk_cell BK358.out 1).trans rfl, (blk_cell BK358.out 2).trans rfl⟩ (fun hHeld => ?_)
    clear hK K
    refine norm_ (a' := ?_) ?_ ?_
    rotate_left
    · show Act.put _ (some 7) _ = _
      simp only [Act.put, List.setIfInBounds_toArray, List.set_cons_zero, List.set_cons_succ, i64_w, i32_w]
      rfl
    refine one_ (i := 7) (N := some 10) #[true, true, true, true, true, true, true, true, false, false] rfl rfl (one_of HT_.out (by kernel_rfl)) (by decide) (fun K hK => ?_)
    refine Kd.R_append_rows_step k79 (w0 := w) w.heap.size (by rfl) (.tmp 7) (.tmp 9) 49 79 (.agg #[(.string ⟨#[]⟩), (.int .i64 0), (.int .u64 0), (.int .u64 0), (.int .u64 0), (.int .u64 0), (.int .u64 0), (.int .u64 0), (.int .u64 0)]) 80 rfl Tryd.underlying49 info79 rfl (by decide) (by omega) v361 y360 l0_2 _ _ _ (fun _ => True) (fun _ => False) rfl rfl ?aO ?aR (fun _ _ h => h) (fun _ h => h.elim) ?aF ?aB ?aS ?aL ?_
    (case aR => repeat (first | exact (Kd.C_below HR0_2.out HB.out) | (with_reducible refine Kd.C_alloc ?_ _) | (with_reducible refine Kd.C_drewN ?_ _) | (with_reducible refine Kd.C_drew ?_)))
    (case aB => exact (bw HB))
    (case aF => exact (fun _ _ => trivial))
    (case aO => exact (ro HO362))
    (case aS => exact (below_size (bw HB)))
    (case aL => have := LMc2.out; omega)
    intro v364 w8 ho hb hg hat
    rw [← Ny363.out] at ho
    have n0_ := Aside0.mk (blk_grown (g := gb358) (o := .cells #[.int .u64 a0_0, .int .u64 a0_1, .slice A0_2 l0_2.length c0_2] 51 (0, 0)) (bk BK358) hg (Kd.R_ne HO362.out BK358.out (by decide)))
    have n1_ := Aside0.mk (blk_grown (g := gb359) (o := .cells #[.int .u64 0, .int .u64 0, .slice none 0 0] 51 (0, 0)) (bk BK359) hg (Kd.R_ne HO362.out BK359.out (by decide)))
    have n2_ := Aside0.mk (hb)
    have n3_ := Aside0.mk (ho)
    clear BK358
    clear BK359
    clear HB
    clear HO362
    have BK358 := n0_
    have BK359 := n1_
    have HB := n2_
    have HO365 := n3_
    clear n0_ n1_ n2_ n3_
    clear ho hb hg hat
    obtain ⟨Ao9, co9, eo9⟩ := Kd.R_slice HO365.out
    (first | subst eo9 | (injection eo9 with f1_ f2_ f3_; have f4_ := f1_.symm; have f5_ := f3_.symm; clear f1_ f2_ f3_; subst f4_; subst f5_))
    refine hK.out _ _ ⟨(blk_cell BK358.out 0).trans rfl, (blk_cell BK358.out 1).trans rfl, (blk_cell BK358.out 2).trans rfl⟩ (fun hHeld => ?_)
    clear hK K
    refine norm_ (a' := ?_) ?_ ?_
    rotate_left
    · show Act.put _ (some 10) _ = _
      simp only [Act.put, List.setIfInBounds_toArray, List.set_cons_zero, List.set_cons_succ, i64_w, i32_w]
      rfl
    refine chain_ (fuel := 1) [(8, 0, some 11)] #[true, true, true, true, true, true, true, true, true, false] HT_.out HW_.out (by kernel_rfl) (fun _ _ _ _ _ h => h) (Or.inl (by decide)) rfl ?_
    refine lkP ?_; refine .nil ?_
    refine one_ (i := 9) (N := none) #[true, true, true, true, true, true, true, true, true, true] rfl rfl (one_of HT_.out (by kernel_rfl)) (by decide) (fun K hK => ?_)
    have hs10 : w8.cell? ⟨gb359, 0, none⟩ = some (.int .u64 0) := (blk_cell BK359.out 0).trans rfl
    have hfs10 := blk_frozen BK359.out 0
    have hns10_0 := NB358_359.out
    have hms10_0 := NB359_358.out
    have hs11 : w8.cell? ⟨gb359, 1, none⟩ = some (.int .u64 0) := (blk_cell BK359.out 1).trans rfl
    have hfs11 := blk_frozen BK359.out 1
    have hns11_0 := NB358_359.out
    have hms11_0 := NB359_358.out
    have hs12 : w8.cell? ⟨gb359, 2, none⟩ = some (.slice none 0 0) := (blk_cell BK359.out 2).trans rfl
    have hfs12 := blk_frozen BK359.out 2
    have hns12_0 := NB358_359.out
    have hms12_0 := NB359_358.out
    refine skip_ (w1 := ?_) (by rfl) rfl ?_ ?_
    rotate_left
    · go_simp
      rfl
    refine hK.out _ _ ⟨((cell_far (p := ⟨gb359, _, none⟩) NB358_359.out _).trans (((cell_far (p := ⟨gb359, _, none⟩) NB358_359.out _).trans (((cell_far (p := ⟨gb359, _, none⟩) NB358_359.out _).trans (hHeld.1)))))), ((cell_far (p := ⟨gb359, _, none⟩) NB358_359.out _).trans (((cell_far (p := ⟨gb359, _, none⟩) NB358_359.out _).trans (((cell_far (p := ⟨gb359, _, none⟩) NB358_359.out _).trans (hHeld.2.1)))))), ((cell_far (p := ⟨gb359, _, none⟩) NB358_359.out _).trans (((cell_far (p := ⟨gb359, _, none⟩) NB358_359.out _).trans (((cell_far (p := ⟨gb359, _, none⟩) NB358_359.out _).trans (hHeld.2.2))))))⟩ (fun hHeld => ?_)
    clear hK K
    refine done_ (done_of HT_.out (by kernel_rfl)) ?_
    try go_wp2
    refine bodyPost_ret (results_cell_row rfl _ _ gb359 51 #[.int .u64 a0_0, .int .u64 a0_1, .slice Ao9 y363.length co9] (0, 0) _ rfl (bk BK359) Tryd.underlying51 rfl (by kernel_rfl)) rfl ?_
    exact ⟨_, re, by (with_reducible repeat (first | apply Kd.R_alloc | apply Kd.R_drewN | apply Kd.R_drew)); exact Kd.R_mono (Kd.R_far (p := ⟨gb359, 2, none⟩) (Kd.R_far (p := ⟨gb359, 1, none⟩) (Kd.R_far (p := ⟨gb359, 0, none⟩) (Kd.R_types HO365.out BK359.out (by decide)) (fun _ hk => hk.2) (.int .u64 a0_0)) (fun _ hk => hk.2) (.int .u64 a0_1)) (fun _ hk => hk.2) (.slice Ao9 y363.length co9)) (fun _ hk => trivial), bw HB⟩
  · rw [if_neg c2] at H
    exact absurd H (by simp)

/-! ### turnstilelaw14_same: function 30 -/
def turnstilelaw14_same.l0 : Nat → List Int → List Int → Int → Option (Bool)
  | 0, _, _, _ => none
  | k + 1, x0, x1, x5 => if x5 < (x0.length : Int) then (if 0 ≤ x5 then (if x5 < (x1.length : Int) then (if (rd x0 x5) = (rd x1 x5) then (turnstilelaw14_same.l0 k x0 x1 (wrap64 (x5 + 1))) else (some false)) else (none)) else (none)) else (some true)
def turnstilelaw14_same.f (k : Nat) (l0 : List Int) (l1 : List Int) : Option (Bool) := if (l0.length : Int) = (l1.length : Int) then (turnstilelaw14_same.l0 k l0 l1 0) else (some false)
set_option maxHeartbeats 8000000 in
set_option maxRecDepth 100000 in
theorem turnstilelaw14_same.calls (k : Nat) (A0 : Option Addr) (c0 : Nat) (l0 : List Int) (A1 : Option Addr) (c1 : Nat) (l1 : List Int) (r : Bool) (w : World) (hr0 : Kd.C (Kd.int .u8) w A0 l0.length l0) (hc0 : l0.length ≤ c0) (hr1 : Kd.C (Kd.int .u8) w A1 l1.length l1) (hc1 : l1.length ≤ c1) (h : turnstilelaw14_same.f k l0 l1 = some r) :
    Calls Tryd.prog 30 #[.slice A0 l0.length c0, .slice A1 l1.length c1] w fun e w' => e = .returned (.bool r) ∧ Drawn0 w w' := by
  have HR0 := Aside0.mk hr0
  have HC0 := Aside0.mk hc0
  clear hr0 hc0
  have HR1 := Aside0.mk hr1
  have HC1 := Aside0.mk hc1
  clear hr1 hc1
  have H : (if (l0.length : Int) = (l1.length : Int) then (turnstilelaw14_same.l0 k l0 l1 0) else (some false)) = some r := h
  clear h
  by_cases c3 : (l0.length : Int) = (l1.length : Int)
  · rw [if_pos c3] at H
    have c3b0 : ((l0.length : Int) == (l1.length : Int)) = true := beq_iff_eq.mpr c3
    have c3b1 : ((l0.length : Int) != (l1.length : Int)) = false := bne_eq_false_iff_eq.mpr c3
    have c3b2 : (l0.length == l1.length) = true := by first | simpa using c3 | (simp at c3 ⊢; omega)
    clear c3
    have H' := Aside0.mk H
    clear H
    go_enter Tryd.func30, Tryd.ntmps30
    go_wp2
    repeat (go_quiet (fail); try go_wp2)
    go_loopg [5] k (fun kq v5 w' => ∃ (x5_1 : Int), v5 = .int .i64 x5_1 ∧ Aside0 (turnstilelaw14_same.l0 kq l0 l1 x5_1 = some r) ∧ Aside0 (kq ≤ k) ∧ Drawn0 w w')
    case atStart => exact ⟨(0), rs, H', ⟨Nat.le_refl _⟩, by repeat (first | exact Drawn0.refl _ | apply Drawn0.step)⟩
    case round =>
      clear H'
      try clear c1
      try clear p2
      try clear c3
      try clear c3b0
      try clear c3b1
      try clear c3b2
      obtain ⟨x5_1, rfl, HA, HK1, ⟨m1, rfl⟩⟩ := hrel
      cases gk with
      | zero => exact absurd HA.out (by simp [turnstilelaw14_same.l0])
      | succ k1 =>
        have H := HA.out
        clear HA
        simp only [turnstilelaw14_same.l0] at H
        by_cases c4 : x5_1 < (l0.length : Int)
        · rw [if_pos c4] at H
          have c4b0 : decide (x5_1 < (l0.length : Int)) = true := decide_eq_true c4
          clear c4
          by_cases c5 : 0 ≤ x5_1
          · rw [if_pos c5] at H
            have c5b0 : decide (0 ≤ x5_1) = true := decide_eq_true c5
            clear c5
            by_cases c6 : x5_1 < (l1.length : Int)
            · rw [if_pos c6] at H
              have c6b0 : decide (x5_1 < (l1.length : Int)) = true := decide_eq_true c6
              clear c6
              by_cases c7 : (rd l0 x5_1) = (rd l1 x5_1)
              · rw [if_pos c7] at H
                have c7b0 : ((rd l0 x5_1) == (rd l1 x5_1)) = true := beq_iff_eq.mpr c7
                have c7b1 : ((rd l0 x5_1) != (rd l1 x5_1)) = false := bne_eq_false_iff_eq.mpr c7
                clear c7
                have H' := Aside0.mk H
                clear H
                have p366 : 0 ≤ (x5_1 : Int) := of_decide_eq_true (by first | (with_reducible assumption) | assumption)
                have q366 : x5_1 < (l0.length : Int) := of_decide_eq_true (by first | (with_reducible assumption) | assumption)
                obtain ⟨ad366, e366, hx366_0⟩ := Kd.at_int HR0.out x5_1 p366 q366
                cases e366
                replace p366 := eq_true p366
                replace q366 := eq_true q366
                have p367 : 0 ≤ (x5_1 : Int) := of_decide_eq_true (by first | (with_reducible assumption) | assumption)
                have q367 : x5_1 < (l1.length : Int) := of_decide_eq_true (by first | (with_reducible assumption) | assumption)
                obtain ⟨ad367, e367, hx367_0⟩ := Kd.at_int HR1.out x5_1 p367 q367
                cases e367
                replace p367 := eq_true p367
                replace q367 := eq_true q367
                go_wp2
                repeat (go_quiet (fail); try go_wp2)
                go_roundg k1
                case measure => have := HK1.out; omega
                case rel => exact ⟨(wrap64 (x5_1 + 1)), rs, H', ⟨by have := HK1.out; omega⟩, by repeat (first | exact Drawn0.refl _ | apply Drawn0.step)⟩
              · rw [if_neg c7] at H
                have c7b0 : ((rd l0 x5_1) == (rd l1 x5_1)) = false := beq_eq_false_iff_ne.mpr c7
                have c7b1 : ((rd l0 x5_1) != (rd l1 x5_1)) = true := bne_iff_ne.mpr c7
                obtain rfl := Option.some.inj H
                have p366 : 0 ≤ (x5_1 : Int) := of_decide_eq_true (by first | (with_reducible assumption) | assumption)
                have q366 : x5_1 < (l0.length : Int) := of_decide_eq_true (by first | (with_reducible assumption) | assumption)
                obtain ⟨ad366, e366, hx366_0⟩ := Kd.at_int HR0.out x5_1 p366 q366
                cases e366
                replace p366 := eq_true p366
                replace q366 := eq_true q366
                have p367 : 0 ≤ (x5_1 : Int) := of_decide_eq_true (by first | (with_reducible assumption) | assumption)
                have q367 : x5_1 < (l1.length : Int) := of_decide_eq_true (by first | (with_reducible assumption) | assumption)
                obtain ⟨ad367, e367, hx367_0⟩ := Kd.at_int HR1.out x5_1 p367 q367
                cases e367
                replace p367 := eq_true p367
                replace q367 := eq_true q367
                go_wp2
                repeat (go_quiet (fail); try go_wp2)
                go_ret
                exact ⟨rs, by repeat (first | exact Drawn0.refl _ | apply Drawn0.step)⟩
            · rw [if_neg c6] at H
              exact absurd H (by simp)
          · rw [if_neg c5] at H
            exact absurd H (by simp)
        · rw [if_neg c4] at H
          have c4b0 : decide (x5_1 < (l0.length : Int)) = false := decide_eq_false c4
          clear c4
          obtain rfl := Option.some.inj H
          go_wp2
          repeat (go_quiet (fail); try go_wp2)
          go_ret
          exact ⟨rs, by repeat (first | exact Drawn0.refl _ | apply Drawn0.step)⟩
  · rw [if_neg c3] at H
    have c3b0 : ((l0.length : Int) == (l1.length : Int)) = false := beq_eq_false_iff_ne.mpr c3
    have c3b1 : ((l0.length : Int) != (l1.length : Int)) = true := bne_iff_ne.mpr c3
    have c3b2 : (l0.length == l1.length) = false := by first | simpa using c3 | (simp at c3 ⊢; omega)
    obtain rfl := Option.some.inj H
    go_enter Tryd.func30, Tryd.ntmps30
    go_wp2
    repeat (go_quiet (fail); try go_wp2)
    go_ret
    exact ⟨rs, by repeat (first | exact Drawn0.refl _ | apply Drawn0.step)⟩

end Go.Proofs.YtkgjepmminmjjaaDoor.E
