/- Written by the session's own program hyb.py: what functions of the program compute; Lean checks it. -/
import Derived.Test.YtdoifmefhofnnaaDx0
import Derived.Test.YtdoifmefhofnnaaDx6
namespace Go.Proofs.Ytdoifmefhofnnaa.D
open Go.RowKit Go.Proofs.YtdoifmefhofnnaaW.PrintWords Go.Proofs.YtdoifmefhofnnaaW.PrintLast Go.Proofs.YtdoifmefhofnnaaW.PrintMore Go.Proofs.YtdoifmefhofnnaaW.PrintShort
attribute [local go_sem] run_Add64 run_Sub64
attribute [local go_sem] max2_int min2_int max_two min_two max_three min_three max_four min_four   -- for this text's walks alone
set_option linter.unusedVariables false
set_option linter.unusedSimpArgs false

/-! ### gcra_Admit: function 59 -/
def gcra_Admit.j0 : Nat → Int → Int → Int → Int → Int → Int → Bool → Option (Int × Bool)
  | 0, _, _, _, _, _, _, _ => none
  | k + 1, x0, x1, x2, x3, x4, x12, x29 => if x29 = true then (some (x2, false)) else ((sat_Product.f (IntKind.u64.wrap (x4 - 1)) x0).bind fun bt126 => ((sat_Of.f x12).bind fun bt128 => ((sat_Wide_Plus.f bt126.1 bt126.2 bt128.1 bt128.2).bind fun bt130 => ((sat_Of.f x3).bind fun bt133 => ((sat_Of.f x1).bind fun bt135 => ((sat_Wide_Plus.f bt133.1 bt133.2 bt135.1 bt135.2).bind fun bt137 => ((sat_Wide_Cmp.f bt130.1 bt130.2 bt137.1 bt137.2).bind fun t139 => (if t139 > 0 then (some (x2, false)) else (some (IntKind.u64.wrap (x12 + (IntKind.u64.wrap (x4 * x0))), true))))))))))
def gcra_Admit.f (k : Nat) (a0 : Int) (a1 : Int) (a2 : Int) (a3 : Int) (a4 : Int) : Option (Int × Bool) := if a4 = 0 then (gcra_Admit.j0 k a0 a1 a2 a3 a4 (mx a2 a3) true) else (if a0 = 0 then (gcra_Admit.j0 k a0 a1 a2 a3 a4 (mx a2 a3) true) else ((gcra_room.f a0 (mx a2 a3) a4).bind fun t125 => (gcra_Admit.j0 k a0 a1 a2 a3 a4 (mx a2 a3) (!t125))))
theorem gcra_Admit.mono_l : ∀ k, (∀ y0 y1 y2 y3 y4 y5 y6, LeO (gcra_Admit.j0 k y0 y1 y2 y3 y4 y5 y6) (gcra_Admit.j0 (k + 1) y0 y1 y2 y3 y4 y5 y6))
  | 0 => fun _ _ _ _ _ _ _ r h => by simp [gcra_Admit.j0] at h
  | k + 1 => by
    have ih0 := gcra_Admit.mono_l k
    · intro y0 y1 y2 y3 y4 y5 y6
      unfold gcra_Admit.j0
      repeat' first
      | (with_reducible exact ih0 _ _ _ _ _ _ _)
      | (with_reducible exact LeO.refl _)
      | (with_reducible exact LeO.none _)
      | (with_reducible refine LeO.ite ?_ ?_)
      | (with_reducible refine LeO.bind ?_ (fun _ => ?_))
      | exact ih0 _ _ _ _ _ _ _
      | exact LeO.none _
      | refine LeO.ite ?_ ?_
      | refine LeO.bind ?_ (fun _ => ?_)
theorem gcra_Admit.mono : ∀ a0 a1 a2 a3 a4 k, LeO (gcra_Admit.f k a0 a1 a2 a3 a4) (gcra_Admit.f (k + 1) a0 a1 a2 a3 a4) := by
  intro a0 a1 a2 a3 a4 k
  have ih0 := gcra_Admit.mono_l k
  unfold gcra_Admit.f
  repeat' first
      | (with_reducible exact ih0 _ _ _ _ _ _ _)
      | (with_reducible exact LeO.refl _)
      | (with_reducible exact LeO.none _)
      | (with_reducible refine LeO.ite ?_ ?_)
      | (with_reducible refine LeO.bind ?_ (fun _ => ?_))
      | exact ih0 _ _ _ _ _ _ _
      | exact LeO.none _
      | refine LeO.ite ?_ ?_
      | refine LeO.bind ?_ (fun _ => ?_)
def gcra_Admit.T5 : Bool × List (List Nat × List Nat) := (true, [([], []), ([], []), ([1], [1]), ([], []), ([3, 2], [3]), ([2, 4, 4], [2, 4]), ([0, 5, 5], [0, 5]), ([6], [6])])
def gcra_Admit.B5 : List Nat := [0, 0, 2, 0, 14, 30, 63, 127]
theorem gcra_Admit.tab5 : rtab .any (opsOf Try.f59 5) = gcra_Admit.T5 := by kernel_rfl
theorem gcra_Admit.bits5 : waitsOk gcra_Admit.T5.2 gcra_Admit.B5 = true := by kernel_rfl
set_option maxHeartbeats 8000000 in
set_option maxRecDepth 100000 in
theorem gcra_Admit.calls (k : Nat) (a0 : Int) (a1 : Int) (a2 : Int) (a3 : Int) (a4 : Int) (r1 : Int) (r2 : Bool) (w : World) (h : gcra_Admit.f k a0 a1 a2 a3 a4 = some (r1, r2)) :
    Calls Try.prog 59 #[.int .u64 a0, .int .u64 a1, .int .u64 a2, .int .u64 a3, .int .u64 a4] w fun e w' => e = .returned (.tuple #[.int .u64 r1, .bool r2]) ∧ Below w.heap.size w w' := by
  have hu60 := Try.underlying60
  have HB := Aside0.mk (Below.refl w.heap.size w)
  have H : (if a4 = 0 then (gcra_Admit.j0 k a0 a1 a2 a3 a4 (mx a2 a3) true) else (if a0 = 0 then (gcra_Admit.j0 k a0 a1 a2 a3 a4 (mx a2 a3) true) else ((gcra_room.f a0 (mx a2 a3) a4).bind fun t125 => (gcra_Admit.j0 k a0 a1 a2 a3 a4 (mx a2 a3) (!t125))))) = some (r1, r2) := h
  clear h
  obtain ⟨ji6, hji6⟩ : ∃ j_ : Int, (mx a2 a3) = j_ := ⟨_, rfl⟩
  replace H : (if a4 = 0 then (gcra_Admit.j0 k a0 a1 a2 a3 a4 ji6 true) else (if a0 = 0 then (gcra_Admit.j0 k a0 a1 a2 a3 a4 ji6 true) else ((gcra_room.f a0 (ji6) a4).bind fun t125 => (gcra_Admit.j0 k a0 a1 a2 a3 a4 ji6 (!t125))))) = some (r1, r2) := by first | (rw [hji6] at H; exact H) | (simp only [hji6] at H ⊢; exact H)
  have hji6_ : (if a2 < a3 then a3 else a2) = ji6 := hji6
  have HC7 := Aside0.mk H
  clear H
  go_enter Try.func59, Try.ntmps59
  go_upto_region 2 with (fail)
  go_cut [29] (fun v29 wc => ∃ (kq : Nat) (x29_6 : Bool), v29 = .bool x29_6 ∧ Aside0 (gcra_Admit.j0 kq a0 a1 a2 a3 a4 ji6 x29_6 = some (r1, r2)) ∧ Aside0 (kq ≤ k) ∧ Aside0 (Below w.heap.size w wc))
  case first =>
    have H := HC7.out
    clear HC7
    by_cases c8 : a4 = 0
    · rw [if_pos c8] at H
      have c8b0 : (a4 == 0) = true := beq_iff_eq.mpr c8
      have c8b1 : (a4 != 0) = false := bne_eq_false_iff_eq.mpr c8
      clear c8
      (first | rw [c8b0] | (simp only [i64_w, i32_w]; rw [c8b0]) | skip)
      have H' := Aside0.mk H
      clear H
      go_wp2
      go_meet
      case rel => exact ⟨_, (true), rs, H', ⟨by first | omega | exact Nat.le_refl _⟩, ⟨bw HB⟩⟩
    · rw [if_neg c8] at H
      have c8b0 : (a4 == 0) = false := beq_eq_false_iff_ne.mpr c8
      have c8b1 : (a4 != 0) = true := bne_iff_ne.mpr c8
      (first | rw [c8b0] | (simp only [i64_w, i32_w]; rw [c8b0]) | skip)
      by_cases c9 : a0 = 0
      · rw [if_pos c9] at H
        have c9b0 : (a0 == 0) = true := beq_iff_eq.mpr c9
        have c9b1 : (a0 != 0) = false := bne_eq_false_iff_eq.mpr c9
        clear c9
        have H' := Aside0.mk H
        clear H
        go_wp2
        go_meet
        case rel => exact ⟨_, (true), rs, H', ⟨by first | omega | exact Nat.le_refl _⟩, ⟨bw HB⟩⟩
      · rw [if_neg c9] at H
        have c9b0 : (a0 == 0) = false := beq_eq_false_iff_ne.mpr c9
        have c9b1 : (a0 != 0) = true := bne_iff_ne.mpr c9
        replace H := Option.bind_eq_some_iff.mp H
        obtain ⟨t125, A100, H⟩ := H
        replace H : (gcra_Admit.j0 k a0 a1 a2 a3 a4 ji6 (!t125)) = some (r1, r2) := H
        have A10 := Aside0.mk A100
        clear A100
        have H' := Aside0.mk H
        clear H
        go_wp2_with (first | (go_at_call 74; (with_reducible refine (gcra_room.calls a0 ji6 a4 t125 _ A10.out).mono ?_); rintro e w11 ⟨rfl, hb⟩; have n0_ := bs HB hb; clear HB; have HB := n0_; clear n0_; (try clear hb); (try clear hb2); (try clear hk); (try clear hi)))
        go_meet
        case rel => exact ⟨_, (!t125), rs, H', ⟨by first | omega | exact Nat.le_refl _⟩, ⟨bw HB⟩⟩
  case rest =>
    clear HC7
    try clear p2
    try clear c5
    try clear c8
    try clear c8b0
    try clear c8b1
    try clear c9
    try clear c9b0
    try clear c9b1
    obtain ⟨kq, x29_6, rfl, HA, HJ6, HB⟩ := hcut
    cases kq with
    | zero => exact absurd HA.out (by simp [gcra_Admit.j0])
    | succ kj6 =>
      have H := HA.out
      clear HA
      simp only [gcra_Admit.j0] at H
      by_cases c12 : x29_6 = true
      · subst c12
        have H1 : (some (a2, false)) = some (r1, r2) := by rw [if_pos rfl] at H; exact H
        clear H
        have H := H1
        clear H1
        simp only [Option.some.injEq, Prod.mk.injEq] at H
        obtain ⟨rfl, rfl⟩ := H
        go_wp2
        go_ret2
        exact ⟨by first | rfl | (simp [errW_none, errW_some] <;> rfl) | (simp only [← hji6]; first | rfl | (simp [errW_none, errW_some] <;> rfl)) | (simp [*, errW_none, errW_some] <;> rfl), bw HB⟩
      · replace c12 := Bool.eq_false_iff.mpr c12
        subst c12
        have H1 : ((sat_Product.f (IntKind.u64.wrap (a4 - 1)) a0).bind fun bt126 => ((sat_Of.f ji6).bind fun bt128 => ((sat_Wide_Plus.f bt126.1 bt126.2 bt128.1 bt128.2).bind fun bt130 => ((sat_Of.f a3).bind fun bt133 => ((sat_Of.f a1).bind fun bt135 => ((sat_Wide_Plus.f bt133.1 bt133.2 bt135.1 bt135.2).bind fun bt137 => ((sat_Wide_Cmp.f bt130.1 bt130.2 bt137.1 bt137.2).bind fun t139 => (if t139 > 0 then (some (a2, false)) else (some (IntKind.u64.wrap (ji6 + (IntKind.u64.wrap (a4 * a0))), true)))))))))) = some (r1, r2) := by rw [if_neg (show ¬ (false = true) by decide)] at H; exact H
        clear H
        have H := H1
        clear H1
        replace H := Option.bind_eq_some_iff.mp H
        obtain ⟨⟨t126, t127⟩, A130, H⟩ := H
        replace H : ((sat_Of.f ji6).bind fun bt128 => ((sat_Wide_Plus.f t126 t127 bt128.1 bt128.2).bind fun bt130 => ((sat_Of.f a3).bind fun bt133 => ((sat_Of.f a1).bind fun bt135 => ((sat_Wide_Plus.f bt133.1 bt133.2 bt135.1 bt135.2).bind fun bt137 => ((sat_Wide_Cmp.f bt130.1 bt130.2 bt137.1 bt137.2).bind fun t139 => (if t139 > 0 then (some (a2, false)) else (some (IntKind.u64.wrap (ji6 + (IntKind.u64.wrap (a4 * a0))), true))))))))) = some (r1, r2) := H
        have A13 := Aside0.mk A130
        clear A130
        replace H := Option.bind_eq_some_iff.mp H
        obtain ⟨⟨t128, t129⟩, A140, H⟩ := H
        replace H : ((sat_Wide_Plus.f t126 t127 t128 t129).bind fun bt130 => ((sat_Of.f a3).bind fun bt133 => ((sat_Of.f a1).bind fun bt135 => ((sat_Wide_Plus.f bt133.1 bt133.2 bt135.1 bt135.2).bind fun bt137 => ((sat_Wide_Cmp.f bt130.1 bt130.2 bt137.1 bt137.2).bind fun t139 => (if t139 > 0 then (some (a2, false)) else (some (IntKind.u64.wrap (ji6 + (IntKind.u64.wrap (a4 * a0))), true)))))))) = some (r1, r2) := H
        have A14 := Aside0.mk A140
        clear A140
        replace H := Option.bind_eq_some_iff.mp H
        obtain ⟨⟨t130, t131⟩, A150, H⟩ := H
        replace H : ((sat_Of.f a3).bind fun bt133 => ((sat_Of.f a1).bind fun bt135 => ((sat_Wide_Plus.f bt133.1 bt133.2 bt135.1 bt135.2).bind fun bt137 => ((sat_Wide_Cmp.f t130 t131 bt137.1 bt137.2).bind fun t139 => (if t139 > 0 then (some (a2, false)) else (some (IntKind.u64.wrap (ji6 + (IntKind.u64.wrap (a4 * a0))), true))))))) = some (r1, r2) := H
        have A15 := Aside0.mk A150
        clear A150
        replace H := Option.bind_eq_some_iff.mp H
        obtain ⟨⟨t133, t134⟩, A160, H⟩ := H
        replace H : ((sat_Of.f a1).bind fun bt135 => ((sat_Wide_Plus.f t133 t134 bt135.1 bt135.2).bind fun bt137 => ((sat_Wide_Cmp.f t130 t131 bt137.1 bt137.2).bind fun t139 => (if t139 > 0 then (some (a2, false)) else (some (IntKind.u64.wrap (ji6 + (IntKind.u64.wrap (a4 * a0))), true)))))) = some (r1, r2) := H
        have A16 := Aside0.mk A160
        clear A160
        replace H := Option.bind_eq_some_iff.mp H
        obtain ⟨⟨t135, t136⟩, A170, H⟩ := H
        replace H : ((sat_Wide_Plus.f t133 t134 t135 t136).bind fun bt137 => ((sat_Wide_Cmp.f t130 t131 bt137.1 bt137.2).bind fun t139 => (if t139 > 0 then (some (a2, false)) else (some (IntKind.u64.wrap (ji6 + (IntKind.u64.wrap (a4 * a0))), true))))) = some (r1, r2) := H
        have A17 := Aside0.mk A170
        clear A170
        replace H := Option.bind_eq_some_iff.mp H
        obtain ⟨⟨t137, t138⟩, A180, H⟩ := H
        replace H : ((sat_Wide_Cmp.f t130 t131 t137 t138).bind fun t139 => (if t139 > 0 then (some (a2, false)) else (some (IntKind.u64.wrap (ji6 + (IntKind.u64.wrap (a4 * a0))), true)))) = some (r1, r2) := H
        have A18 := Aside0.mk A180
        clear A180
        replace H := Option.bind_eq_some_iff.mp H
        obtain ⟨t139, A190, H⟩ := H
        replace H : (if t139 > 0 then (some (a2, false)) else (some (IntKind.u64.wrap (ji6 + (IntKind.u64.wrap (a4 * a0))), true))) = some (r1, r2) := H
        have A19 := Aside0.mk A190
        clear A190
        by_cases c20 : t139 > 0
        · rw [if_pos c20] at H
          have c20b0 : decide (0 < t139) = true := decide_eq_true c20
          clear c20
          simp only [Option.some.injEq, Prod.mk.injEq] at H
          obtain ⟨rfl, rfl⟩ := H
          try go_wp2_with (first | ((with_reducible refine gate_callee (f := 20) rfl ?_); refine gm (some 34) Try.func20 #[.int .u64 (IntKind.u64.wrap (a4 - 1)), .int .u64 a0] (sat_Product.calls (IntKind.u64.wrap (a4 - 1)) a0 t126 t127 _ A13.out) ?_; intro w21 hb; have n0_ := bs HB hb; clear HB; have HB := n0_; clear n0_; (try clear hb); (try clear hb2); (try clear hk); (try clear hi)) | ((with_reducible refine gate_callee (f := 18) rfl ?_); refine goesL_ (some 36) rfl rfl Try.func18 (by kernel_rfl) rfl #[.int .u64 ji6] rfl (by (try simp only [List.map_toArray, List.map_cons, List.map_nil]); first | done | (simp only [hji6]; rfl) | rfl | (simp only [List.length_drop, List.length_take]; rfl)) ?_; (with_reducible refine (sat_Of.calls ji6 t128 t129 _ A14.out).mono ?_); rintro e w22 ⟨rfl, hb⟩; refine ⟨_, rfl, ?_⟩; have n0_ := bs HB hb; clear HB; have HB := n0_; clear n0_; (try clear hb); (try clear hb2); (try clear hk); (try clear hi)) | ((with_reducible refine gate_callee (f := 19) rfl ?_); refine gm (some 37) Try.func19 #[.agg #[.int .u64 t126, .int .u64 t127], .agg #[.int .u64 t128, .int .u64 t129]] (sat_Wide_Plus.calls t126 t127 t128 t129 t130 t131 _ A15.out) ?_; intro w23 hb; have n0_ := bs HB hb; clear HB; have HB := n0_; clear n0_; (try clear hb); (try clear hb2); (try clear hk); (try clear hi)) | ((with_reducible refine gate_dst (N := 13) rfl ?_); refine bx 13 #[.int .u64 0, .int .u64 0] 60 ?_; intro gb132 hg w24 hbox hb; have n0_ := bs HB hb; have n1_ := Aside0.mk (hbox); have n2_ := sz HB hg; have n3_ := sz HB hg; clear HB; have HB := n0_; have BK132 := n1_; have GW132 := n2_; have GE132 := n3_; clear n0_ n1_ n2_ n3_; clear hb hbox hg; obtain ⟨hcz25_0, hcz25_1, hfz25_0, hfz25_1⟩ := bc2 BK132))
          have n0_ : Aside0 (((w24.setCell ⟨gb132, 0, none⟩ (.int .u64 t130)).setCell ⟨gb132, 1, none⟩ (.int .u64 t131)).heap[gb132]? = some (.cells #[.int .u64 t130, .int .u64 t131] 60 (0, 0))) := ⟨bk BK132⟩
          have n1_ : Aside0 (Below w.heap.size w ((w24.setCell ⟨gb132, 0, none⟩ (.int .u64 t130)).setCell ⟨gb132, 1, none⟩ (.int .u64 t131))) := ⟨bw HB⟩
          (try clear BK132)
          (try clear HB)
          generalize ((w24.setCell ⟨gb132, 0, none⟩ (.int .u64 t130)).setCell ⟨gb132, 1, none⟩ (.int .u64 t131)) = w26 at n0_ n1_ ⊢
          have BK132 := n0_
          have HB := n1_
          clear n0_ n1_
          have n0_ := Aside0.mk (blk_drew BK132.out)
          have n1_ := Aside0.mk (below_drew1 HB.out)
          clear BK132
          clear HB
          have BK132 := n0_
          have HB := n1_
          clear n0_ n1_
          refine start_ (n := 8) (S := fun w' => w'.cell? ⟨gb132, 0, none⟩ = some (.int .u64 t130) ∧ w'.cell? ⟨gb132, 1, none⟩ = some (.int .u64 t131)) (ds := []) #[false, false, false, false, false, false, false, false] (by kernel_rfl) rfl rfl ⟨(blk_cell BK132.out 0).trans rfl, (blk_cell BK132.out 1).trans rfl⟩ (fun hHeld => ?_); refine with_tabW gcra_Admit.tab5 gcra_Admit.bits5 (fun HT_ HW_ => ?_)
          generalize w26.drew = w27 at BK132 HB hHeld ⊢
          refine chain_ (fuel := 5) [(1, 0, some 39), (3, 0, some 41), (0, 1, some 38)] #[true, true, false, true, false, false, false, false] HT_.out HW_.out (by kernel_rfl) (fun _ _ _ _ _ h => h) (Or.inr hHeld) rfl ?_
          (iterate 2 refine lkP ?_); refine lkT ?_; refine .nil ?_
          refine one_ (i := 2) (N := some 40) #[true, true, true, true, false, false, false, false] rfl rfl (one_of HT_.out (by kernel_rfl)) (by decide) (fun K hK => ?_)
          refine ge Try.func18 #[.int .u64 a3] ?_
          with_reducible refine (sat_Of.calls a3 t133 t134 _ A16.out).mono ?_
          rintro e w28 ⟨rfl, hb⟩
          refine ⟨_, rfl, ?_⟩
          have n0_ := bb BK132 hb
          have n1_ := bs HB hb
          clear BK132
          clear HB
          have BK132 := n0_
          have HB := n1_
          clear n0_ n1_
          (try clear hb)
          (try clear hb2)
          (try clear hk)
          (try clear hi)
          refine hK.out _ _ ⟨(blk_cell BK132.out 0).trans rfl, (blk_cell BK132.out 1).trans rfl⟩ (fun hHeld => ?_)
          clear hK K
          refine norm_ (a' := ?_) ?_ ?_
          rotate_left
          · show Act.put _ (some 40) _ = _
            simp only [Act.put, List.setIfInBounds_toArray, List.set_cons_zero, List.set_cons_succ, i64_w, i32_w]
            rfl
          refine one_ (i := 4) (N := some 42) #[true, true, true, true, true, false, false, false] rfl rfl (one_of HT_.out (by kernel_rfl)) (by decide) (fun K hK => ?_)
          refine ge Try.func18 #[.int .u64 a1] ?_
          with_reducible refine (sat_Of.calls a1 t135 t136 _ A17.out).mono ?_
          rintro e w29 ⟨rfl, hb⟩
          refine ⟨_, rfl, ?_⟩
          have n0_ := bb BK132 hb
          have n1_ := bs HB hb
          clear BK132
          clear HB
          have BK132 := n0_
          have HB := n1_
          clear n0_ n1_
          (try clear hb)
          (try clear hb2)
          (try clear hk)
          (try clear hi)
          refine hK.out _ _ ⟨(blk_cell BK132.out 0).trans rfl, (blk_cell BK132.out 1).trans rfl⟩ (fun hHeld => ?_)
          clear hK K
          refine norm_ (a' := ?_) ?_ ?_
          rotate_left
          · show Act.put _ (some 42) _ = _
            simp only [Act.put, List.setIfInBounds_toArray, List.set_cons_zero, List.set_cons_succ, i64_w, i32_w]
            rfl
          refine one_ (i := 5) (N := some 43) #[true, true, true, true, true, true, false, false] rfl rfl (one_of HT_.out (by kernel_rfl)) (by decide) (fun K hK => ?_)
          refine ge Try.func19 #[.agg #[.int .u64 t133, .int .u64 t134], .agg #[.int .u64 t135, .int .u64 t136]] ?_
          with_reducible refine (sat_Wide_Plus.calls t133 t134 t135 t136 t137 t138 _ A18.out).mono ?_
          rintro e w30 ⟨rfl, hb⟩
          refine ⟨_, rfl, ?_⟩
          have n0_ := bb BK132 hb
          have n1_ := bs HB hb
          clear BK132
          clear HB
          have BK132 := n0_
          have HB := n1_
          clear n0_ n1_
          (try clear hb)
          (try clear hb2)
          (try clear hk)
          (try clear hi)
          refine hK.out _ _ ⟨(blk_cell BK132.out 0).trans rfl, (blk_cell BK132.out 1).trans rfl⟩ (fun hHeld => ?_)
          clear hK K
          refine norm_ (a' := ?_) ?_ ?_
          rotate_left
          · show Act.put _ (some 43) _ = _
            simp only [Act.put, List.setIfInBounds_toArray, List.set_cons_zero, List.set_cons_succ, i64_w, i32_w]
            rfl
          refine one_ (i := 6) (N := some 44) #[true, true, true, true, true, true, true, false] rfl rfl (one_of HT_.out (by kernel_rfl)) (by decide) (fun K hK => ?_)
          refine ge Try.func21 #[.agg #[.int .u64 t130, .int .u64 t131], .agg #[.int .u64 t137, .int .u64 t138]] ?_
          with_reducible refine (sat_Wide_Cmp.calls t130 t131 t137 t138 t139 _ A19.out).mono ?_
          rintro e w31 ⟨rfl, hb⟩
          refine ⟨_, rfl, ?_⟩
          have n0_ := bb BK132 hb
          have n1_ := bs HB hb
          clear BK132
          clear HB
          have BK132 := n0_
          have HB := n1_
          clear n0_ n1_
          (try clear hb)
          (try clear hb2)
          (try clear hk)
          (try clear hi)
          refine hK.out _ _ ⟨(blk_cell BK132.out 0).trans rfl, (blk_cell BK132.out 1).trans rfl⟩ (fun hHeld => ?_)
          clear hK K
          refine norm_ (a' := ?_) ?_ ?_
          rotate_left
          · show Act.put _ (some 44) _ = _
            simp only [Act.put, List.setIfInBounds_toArray, List.set_cons_zero, List.set_cons_succ, i64_w, i32_w]
            rfl
          refine chain_ (fuel := 0) [(7, 0, some 45)] #[true, true, true, true, true, true, true, true] HT_.out HW_.out (by kernel_rfl) (fun _ _ _ _ _ h => h) (Or.inl (by decide)) rfl ?_
          refine lkP ?_; refine .nil ?_
          refine done_ (done_of HT_.out (by kernel_rfl)) ?_
          try go_wp2
          go_ret2
          exact ⟨by first | rfl | (simp [errW_none, errW_some] <;> rfl) | (simp only [← hji6]; first | rfl | (simp [errW_none, errW_some] <;> rfl)) | (simp [*, errW_none, errW_some] <;> rfl), bw HB⟩
        · rw [if_neg c20] at H
          have c20b0 : decide (0 < t139) = false := decide_eq_false c20
          clear c20
          simp only [Option.some.injEq, Prod.mk.injEq] at H
          obtain ⟨rfl, rfl⟩ := H
          try go_wp2_with (first | ((with_reducible refine gate_callee (f := 20) rfl ?_); refine gm (some 34) Try.func20 #[.int .u64 (IntKind.u64.wrap (a4 - 1)), .int .u64 a0] (sat_Product.calls (IntKind.u64.wrap (a4 - 1)) a0 t126 t127 _ A13.out) ?_; intro w32 hb; have n0_ := bs HB hb; clear HB; have HB := n0_; clear n0_; (try clear hb); (try clear hb2); (try clear hk); (try clear hi)) | ((with_reducible refine gate_callee (f := 18) rfl ?_); refine goesL_ (some 36) rfl rfl Try.func18 (by kernel_rfl) rfl #[.int .u64 ji6] rfl (by (try simp only [List.map_toArray, List.map_cons, List.map_nil]); first | done | (simp only [hji6]; rfl) | rfl | (simp only [List.length_drop, List.length_take]; rfl)) ?_; (with_reducible refine (sat_Of.calls ji6 t128 t129 _ A14.out).mono ?_); rintro e w33 ⟨rfl, hb⟩; refine ⟨_, rfl, ?_⟩; have n0_ := bs HB hb; clear HB; have HB := n0_; clear n0_; (try clear hb); (try clear hb2); (try clear hk); (try clear hi)) | ((with_reducible refine gate_callee (f := 19) rfl ?_); refine gm (some 37) Try.func19 #[.agg #[.int .u64 t126, .int .u64 t127], .agg #[.int .u64 t128, .int .u64 t129]] (sat_Wide_Plus.calls t126 t127 t128 t129 t130 t131 _ A15.out) ?_; intro w34 hb; have n0_ := bs HB hb; clear HB; have HB := n0_; clear n0_; (try clear hb); (try clear hb2); (try clear hk); (try clear hi)) | ((with_reducible refine gate_dst (N := 13) rfl ?_); refine bx 13 #[.int .u64 0, .int .u64 0] 60 ?_; intro gb132 hg w35 hbox hb; have n0_ := bs HB hb; have n1_ := Aside0.mk (hbox); have n2_ := sz HB hg; have n3_ := sz HB hg; clear HB; have HB := n0_; have BK132 := n1_; have GW132 := n2_; have GE132 := n3_; clear n0_ n1_ n2_ n3_; clear hb hbox hg; obtain ⟨hcz36_0, hcz36_1, hfz36_0, hfz36_1⟩ := bc2 BK132))
          have n0_ : Aside0 (((w35.setCell ⟨gb132, 0, none⟩ (.int .u64 t130)).setCell ⟨gb132, 1, none⟩ (.int .u64 t131)).heap[gb132]? = some (.cells #[.int .u64 t130, .int .u64 t131] 60 (0, 0))) := ⟨bk BK132⟩
          have n1_ : Aside0 (Below w.heap.size w ((w35.setCell ⟨gb132, 0, none⟩ (.int .u64 t130)).setCell ⟨gb132, 1, none⟩ (.int .u64 t131))) := ⟨bw HB⟩
          (try clear BK132)
          (try clear HB)
          generalize ((w35.setCell ⟨gb132, 0, none⟩ (.int .u64 t130)).setCell ⟨gb132, 1, none⟩ (.int .u64 t131)) = w37 at n0_ n1_ ⊢
          have BK132 := n0_
          have HB := n1_
          clear n0_ n1_
          have n0_ := Aside0.mk (blk_drew BK132.out)
          have n1_ := Aside0.mk (below_drew1 HB.out)
          clear BK132
          clear HB
          have BK132 := n0_
          have HB := n1_
          clear n0_ n1_
          refine start_ (n := 8) (S := fun w' => w'.cell? ⟨gb132, 0, none⟩ = some (.int .u64 t130) ∧ w'.cell? ⟨gb132, 1, none⟩ = some (.int .u64 t131)) (ds := []) #[false, false, false, false, false, false, false, false] (by kernel_rfl) rfl rfl ⟨(blk_cell BK132.out 0).trans rfl, (blk_cell BK132.out 1).trans rfl⟩ (fun hHeld => ?_); refine with_tabW gcra_Admit.tab5 gcra_Admit.bits5 (fun HT_ HW_ => ?_)
          generalize w37.drew = w38 at BK132 HB hHeld ⊢
          refine chain_ (fuel := 5) [(1, 0, some 39), (3, 0, some 41), (0, 1, some 38)] #[true, true, false, true, false, false, false, false] HT_.out HW_.out (by kernel_rfl) (fun _ _ _ _ _ h => h) (Or.inr hHeld) rfl ?_
          (iterate 2 refine lkP ?_); refine lkT ?_; refine .nil ?_
          refine one_ (i := 2) (N := some 40) #[true, true, true, true, false, false, false, false] rfl rfl (one_of HT_.out (by kernel_rfl)) (by decide) (fun K hK => ?_)
          refine ge Try.func18 #[.int .u64 a3] ?_
          with_reducible refine (sat_Of.calls a3 t133 t134 _ A16.out).mono ?_
          rintro e w39 ⟨rfl, hb⟩
          refine ⟨_, rfl, ?_⟩
          have n0_ := bb BK132 hb
          have n1_ := bs HB hb
          clear BK132
          clear HB
          have BK132 := n0_
          have HB := n1_
          clear n0_ n1_
          (try clear hb)
          (try clear hb2)
          (try clear hk)
          (try clear hi)
          refine hK.out _ _ ⟨(blk_cell BK132.out 0).trans rfl, (blk_cell BK132.out 1).trans rfl⟩ (fun hHeld => ?_)
          clear hK K
          refine norm_ (a' := ?_) ?_ ?_
          rotate_left
          · show Act.put _ (some 40) _ = _
            simp only [Act.put, List.setIfInBounds_toArray, List.set_cons_zero, List.set_cons_succ, i64_w, i32_w]
            rfl
          refine one_ (i := 4) (N := some 42) #[true, true, true, true, true, false, false, false] rfl rfl (one_of HT_.out (by kernel_rfl)) (by decide) (fun K hK => ?_)
          refine ge Try.func18 #[.int .u64 a1] ?_
          with_reducible refine (sat_Of.calls a1 t135 t136 _ A17.out).mono ?_
          rintro e w40 ⟨rfl, hb⟩
          refine ⟨_, rfl, ?_⟩
          have n0_ := bb BK132 hb
          have n1_ := bs HB hb
          clear BK132
          clear HB
          have BK132 := n0_
          have HB := n1_
          clear n0_ n1_
          (try clear hb)
          (try clear hb2)
          (try clear hk)
          (try clear hi)
          refine hK.out _ _ ⟨(blk_cell BK132.out 0).trans rfl, (blk_cell BK132.out 1).trans rfl⟩ (fun hHeld => ?_)
          clear hK K
          refine norm_ (a' := ?_) ?_ ?_
          rotate_left
          · show Act.put _ (some 42) _ = _
            simp only [Act.put, List.setIfInBounds_toArray, List.set_cons_zero, List.set_cons_succ, i64_w, i32_w]
            rfl
          refine one_ (i := 5) (N := some 43) #[true, true, true, true, true, true, false, false] rfl rfl (one_of HT_.out (by kernel_rfl)) (by decide) (fun K hK => ?_)
          refine ge Try.func19 #[.agg #[.int .u64 t133, .int .u64 t134], .agg #[.int .u64 t135, .int .u64 t136]] ?_
          with_reducible refine (sat_Wide_Plus.calls t133 t134 t135 t136 t137 t138 _ A18.out).mono ?_
          rintro e w41 ⟨rfl, hb⟩
          refine ⟨_, rfl, ?_⟩
          have n0_ := bb BK132 hb
          have n1_ := bs HB hb
          clear BK132
          clear HB
          have BK132 := n0_
          have HB := n1_
          clear n0_ n1_
          (try clear hb)
          (try clear hb2)
          (try clear hk)
          (try clear hi)
          refine hK.out _ _ ⟨(blk_cell BK132.out 0).trans rfl, (blk_cell BK132.out 1).trans rfl⟩ (fun hHeld => ?_)
          clear hK K
          refine norm_ (a' := ?_) ?_ ?_
          rotate_left
          · show Act.put _ (some 43) _ = _
            simp only [Act.put, List.setIfInBounds_toArray, List.set_cons_zero, List.set_cons_succ, i64_w, i32_w]
            rfl
          refine one_ (i := 6) (N := some 44) #[true, true, true, true, true, true, true, false] rfl rfl (one_of HT_.out (by kernel_rfl)) (by decide) (fun K hK => ?_)
          refine ge Try.func21 #[.agg #[.int .u64 t130, .int .u64 t131], .agg #[.int .u64 t137, .int .u64 t138]] ?_
          with_reducible refine (sat_Wide_Cmp.calls t130 t131 t137 t138 t139 _ A19.out).mono ?_
          rintro e w42 ⟨rfl, hb⟩
          refine ⟨_, rfl, ?_⟩
          have n0_ := bb BK132 hb
          have n1_ := bs HB hb
          clear BK132
          clear HB
          have BK132 := n0_
          have HB := n1_
          clear n0_ n1_
          (try clear hb)
          (try clear hb2)
          (try clear hk)
          (try clear hi)
          refine hK.out _ _ ⟨(blk_cell BK132.out 0).trans rfl, (blk_cell BK132.out 1).trans rfl⟩ (fun hHeld => ?_)
          clear hK K
          refine norm_ (a' := ?_) ?_ ?_
          rotate_left
          · show Act.put _ (some 44) _ = _
            simp only [Act.put, List.setIfInBounds_toArray, List.set_cons_zero, List.set_cons_succ, i64_w, i32_w]
            rfl
          refine chain_ (fuel := 0) [(7, 0, some 45)] #[true, true, true, true, true, true, true, true] HT_.out HW_.out (by kernel_rfl) (fun _ _ _ _ _ h => h) (Or.inl (by decide)) rfl ?_
          refine lkP ?_; refine .nil ?_
          refine done_ (done_of HT_.out (by kernel_rfl)) ?_
          try go_wp2
          go_ret2
          exact ⟨by first | rfl | (simp [errW_none, errW_some] <;> rfl) | (simp only [← hji6]; first | rfl | (simp [errW_none, errW_some] <;> rfl)) | (simp [*, errW_none, errW_some] <;> rfl), bw HB⟩

end Go.Proofs.Ytdoifmefhofnnaa.D
