/- Written by the session's own program hyb.py: what functions of the program compute; Lean checks it. -/
import Derived.Test.YtdoifmefhofnnaaDx0
import Derived.Test.YtdoifmefhofnnaaDx6
import Derived.Test.YtdoifmefhofnnaaDx9
import Derived.Test.YtdoifmefhofnnaaDx11
namespace Go.Proofs.Ytdoifmefhofnnaa.D
open Go.RowKit Go.Proofs.YtdoifmefhofnnaaW.PrintWords Go.Proofs.YtdoifmefhofnnaaW.PrintLast Go.Proofs.YtdoifmefhofnnaaW.PrintMore Go.Proofs.YtdoifmefhofnnaaW.PrintShort
attribute [local go_sem] run_Add64 run_Sub64
attribute [local go_sem] max2_int min2_int max_two min_two max_three min_three max_four min_four   -- for this text's walks alone
set_option linter.unusedVariables false
set_option linter.unusedSimpArgs false

/-! ### gcra_Burst: function 63 -/
def gcra_Burst.j0 : Nat → Int → Int → Bool → Int → Int → Option (Int)
  | 0, _, _, _, _, _ => none
  | k + 1, x0, x9, x30, x173000, x173001 => if x30 = true then (some 0) else ((sat_Of.f x9).bind fun bt176 => ((sat_Wide_Minus.f x173000 x173001 bt176.1 bt176.2).bind fun bt178 => ((sat_Wide_DivMod.f k bt178.1 bt178.2 x0).bind fun bt180 => ((sat_Of.f 1).bind fun bt184 => ((sat_Wide_Plus.f bt180.1 bt180.2.1 bt184.1 bt184.2).bind fun bt186 => (if x0 = 0 then (none) else ((sat_Of.f (IntKind.u64.wrap (Int.tdiv (IntKind.u64.wrap (18446744073709551615 - x9)) x0))).bind fun bt188 => ((sat_Wide_Cmp.f bt186.1 bt186.2 bt188.1 bt188.2).bind fun t190 => (if t190 > 0 then (some (IntKind.u64.wrap (Int.tdiv (IntKind.u64.wrap (18446744073709551615 - x9)) x0))) else (some bt186.2))))))))))
def gcra_Burst.f (k : Nat) (a0 : Int) (a1 : Int) (a2 : Int) (a3 : Int) : Option (Int) := (sat_Of.f a3).bind fun bt166 => ((sat_Of.f a1).bind fun bt168 => ((sat_Wide_Plus.f bt166.1 bt166.2 bt168.1 bt168.2).bind fun bt170 => (if a0 = 0 then (gcra_Burst.j0 k a0 (mx a2 a3) true bt170.1 bt170.2) else ((sat_Of.f (mx a2 a3)).bind fun bt173 => ((sat_Wide_Cmp.f bt170.1 bt170.2 bt173.1 bt173.2).bind fun t175 => (gcra_Burst.j0 k a0 (mx a2 a3) (decide (t175 < 0)) bt170.1 bt170.2))))))
theorem gcra_Burst.mono_l : ∀ k, (∀ y0 y1 y2 y3 y4, LeO (gcra_Burst.j0 k y0 y1 y2 y3 y4) (gcra_Burst.j0 (k + 1) y0 y1 y2 y3 y4))
  | 0 => fun _ _ _ _ _ r h => by simp [gcra_Burst.j0] at h
  | k + 1 => by
    have ih0 := gcra_Burst.mono_l k
    · intro y0 y1 y2 y3 y4
      unfold gcra_Burst.j0
      repeat' first
      | (with_reducible exact ih0 _ _ _ _ _)
      | (with_reducible exact sat_Wide_DivMod.mono _ _ _ _)
      | (with_reducible exact LeO.refl _)
      | (with_reducible exact LeO.none _)
      | (with_reducible refine LeO.ite ?_ ?_)
      | (with_reducible refine LeO.bind ?_ (fun _ => ?_))
      | exact ih0 _ _ _ _ _
      | exact sat_Wide_DivMod.mono _ _ _ _
      | exact LeO.none _
      | refine LeO.ite ?_ ?_
      | refine LeO.bind ?_ (fun _ => ?_)
theorem gcra_Burst.mono : ∀ a0 a1 a2 a3 k, LeO (gcra_Burst.f k a0 a1 a2 a3) (gcra_Burst.f (k + 1) a0 a1 a2 a3) := by
  intro a0 a1 a2 a3 k
  have ih0 := gcra_Burst.mono_l k
  unfold gcra_Burst.f
  repeat' first
      | (with_reducible exact ih0 _ _ _ _ _)
      | (with_reducible exact sat_Wide_DivMod.mono _ _ _ _)
      | (with_reducible exact LeO.refl _)
      | (with_reducible exact LeO.none _)
      | (with_reducible refine LeO.ite ?_ ?_)
      | (with_reducible refine LeO.bind ?_ (fun _ => ?_))
      | exact ih0 _ _ _ _ _
      | exact sat_Wide_DivMod.mono _ _ _ _
      | exact LeO.none _
      | refine LeO.ite ?_ ?_
      | refine LeO.bind ?_ (fun _ => ?_)
def gcra_Burst.T3 : Bool × List (List Nat × List Nat) := (true, [([], []), ([0], [0]), ([1], [1]), ([2], [2]), ([2], [2]), ([4, 2, 2], [2, 4]), ([3, 5, 5, 2], [2, 3, 5]), ([6, 2], [2, 6]), ([2, 7], [2, 7])])
def gcra_Burst.B3 : List Nat := [0, 1, 3, 7, 7, 23, 63, 127, 255]
theorem gcra_Burst.tab3 : rtab .any (opsOf Try.f63 3) = gcra_Burst.T3 := by kernel_rfl
theorem gcra_Burst.bits3 : waitsOk gcra_Burst.T3.2 gcra_Burst.B3 = true := by kernel_rfl
def gcra_Burst.T5 : Bool × List (List Nat × List Nat) := (true, [([], []), ([], []), ([1], [1]), ([0, 2, 2], [0, 2]), ([], []), ([3, 4, 3], [3, 4]), ([5], [5]), ([6], [6]), ([6], [6]), ([], []), ([9, 7, 5, 0, 1, 2, 3, 4, 5, 6, 7, 9], [7, 9]), ([8, 10, 0, 1, 2, 3, 4, 5, 6, 7, 8, 9, 10], [8])])
def gcra_Burst.B5 : List Nat := [0, 0, 2, 7, 0, 31, 63, 127, 127, 0, 767, 2047]
theorem gcra_Burst.tab5 : rtab .any (opsOf Try.f63 5) = gcra_Burst.T5 := by kernel_rfl
theorem gcra_Burst.bits5 : waitsOk gcra_Burst.T5.2 gcra_Burst.B5 = true := by kernel_rfl
set_option maxHeartbeats 8000000 in
set_option maxRecDepth 100000 in
theorem gcra_Burst.calls (k : Nat) (a0 : Int) (a1 : Int) (a2 : Int) (a3 : Int) (r : Int) (w : World) (h : gcra_Burst.f k a0 a1 a2 a3 = some r) :
    Calls Try.prog 63 #[.int .u64 a0, .int .u64 a1, .int .u64 a2, .int .u64 a3] w fun e w' => e = .returned (.int .u64 r) ∧ Below w.heap.size w w' := by
  have hu60 := Try.underlying60
  have HB := Aside0.mk (Below.refl w.heap.size w)
  have H : ((sat_Of.f a3).bind fun bt166 => ((sat_Of.f a1).bind fun bt168 => ((sat_Wide_Plus.f bt166.1 bt166.2 bt168.1 bt168.2).bind fun bt170 => (if a0 = 0 then (gcra_Burst.j0 k a0 (mx a2 a3) true bt170.1 bt170.2) else ((sat_Of.f (mx a2 a3)).bind fun bt173 => ((sat_Wide_Cmp.f bt170.1 bt170.2 bt173.1 bt173.2).bind fun t175 => (gcra_Burst.j0 k a0 (mx a2 a3) (decide (t175 < 0)) bt170.1 bt170.2))))))) = some r := h
  clear h
  obtain ⟨ji5, hji5⟩ : ∃ j_ : Int, (mx a2 a3) = j_ := ⟨_, rfl⟩
  replace H : ((sat_Of.f a3).bind fun bt166 => ((sat_Of.f a1).bind fun bt168 => ((sat_Wide_Plus.f bt166.1 bt166.2 bt168.1 bt168.2).bind fun bt170 => (if a0 = 0 then (gcra_Burst.j0 k a0 ji5 true bt170.1 bt170.2) else ((sat_Of.f (ji5)).bind fun bt173 => ((sat_Wide_Cmp.f bt170.1 bt170.2 bt173.1 bt173.2).bind fun t175 => (gcra_Burst.j0 k a0 ji5 (decide (t175 < 0)) bt170.1 bt170.2))))))) = some r := by first | (rw [hji5] at H; exact H) | (simp only [hji5] at H ⊢; exact H)
  have hji5_ : (if a2 < a3 then a3 else a2) = ji5 := hji5
  replace H := Option.bind_eq_some_iff.mp H
  obtain ⟨⟨t166, t167⟩, A60, H⟩ := H
  replace H : ((sat_Of.f a1).bind fun bt168 => ((sat_Wide_Plus.f t166 t167 bt168.1 bt168.2).bind fun bt170 => (if a0 = 0 then (gcra_Burst.j0 k a0 ji5 true bt170.1 bt170.2) else ((sat_Of.f (ji5)).bind fun bt173 => ((sat_Wide_Cmp.f bt170.1 bt170.2 bt173.1 bt173.2).bind fun t175 => (gcra_Burst.j0 k a0 ji5 (decide (t175 < 0)) bt170.1 bt170.2)))))) = some r := H
  have A6 := Aside0.mk A60
  clear A60
  replace H := Option.bind_eq_some_iff.mp H
  obtain ⟨⟨t168, t169⟩, A70, H⟩ := H
  replace H : ((sat_Wide_Plus.f t166 t167 t168 t169).bind fun bt170 => (if a0 = 0 then (gcra_Burst.j0 k a0 ji5 true bt170.1 bt170.2) else ((sat_Of.f (ji5)).bind fun bt173 => ((sat_Wide_Cmp.f bt170.1 bt170.2 bt173.1 bt173.2).bind fun t175 => (gcra_Burst.j0 k a0 ji5 (decide (t175 < 0)) bt170.1 bt170.2))))) = some r := H
  have A7 := Aside0.mk A70
  clear A70
  replace H := Option.bind_eq_some_iff.mp H
  obtain ⟨⟨t170, t171⟩, A80, H⟩ := H
  replace H : (if a0 = 0 then (gcra_Burst.j0 k a0 ji5 true t170 t171) else ((sat_Of.f (ji5)).bind fun bt173 => ((sat_Wide_Cmp.f t170 t171 bt173.1 bt173.2).bind fun t175 => (gcra_Burst.j0 k a0 ji5 (decide (t175 < 0)) t170 t171)))) = some r := H
  have A8 := Aside0.mk A80
  clear A80
  have HC9 := Aside0.mk H
  clear H
  go_enter Try.func63, Try.ntmps63
  go_upto_region 3 with (first | ((with_reducible refine gate_callee (f := 18) rfl ?_); refine gm (some 18) Try.func18 #[.int .u64 a3] (sat_Of.calls a3 t166 t167 _ A6.out) ?_; intro w10 hb; have n0_ := bs HB hb; clear HB; have HB := n0_; clear n0_; (try clear hb); (try clear hb2); (try clear hk); (try clear hi)) | ((with_reducible refine gate_callee (f := 18) rfl ?_); refine gm (some 20) Try.func18 #[.int .u64 a1] (sat_Of.calls a1 t168 t169 _ A7.out) ?_; intro w11 hb; have n0_ := bs HB hb; clear HB; have HB := n0_; clear n0_; (try clear hb); (try clear hb2); (try clear hk); (try clear hi)) | ((with_reducible refine gate_callee (f := 19) rfl ?_); refine gm (some 21) Try.func19 #[.agg #[.int .u64 t166, .int .u64 t167], .agg #[.int .u64 t168, .int .u64 t169]] (sat_Wide_Plus.calls t166 t167 t168 t169 t170 t171 _ A8.out) ?_; intro w12 hb; have n0_ := bs HB hb; clear HB; have HB := n0_; clear n0_; (try clear hb); (try clear hb2); (try clear hk); (try clear hi)) | ((with_reducible refine gate_dst (N := 10) rfl ?_); refine bx 10 #[.int .u64 0, .int .u64 0] 60 ?_; intro gb172 hg w13 hbox hb; have n0_ := bs HB hb; have n1_ := Aside0.mk (hbox); have n2_ := sz HB hg; have n3_ := sz HB hg; clear HB; have HB := n0_; have BK172 := n1_; have GW172 := n2_; have GE172 := n3_; clear n0_ n1_ n2_ n3_; clear hb hbox hg; obtain ⟨hcz14_0, hcz14_1, hfz14_0, hfz14_1⟩ := bc2 BK172))
  (try simp only [Act.put, List.setIfInBounds_toArray, List.set_cons_zero, List.set_cons_succ])
  go_cut [30] (fun v30 wc => ∃ (kq : Nat) (x30_8 : Bool), v30 = .bool x30_8 ∧ Aside0 (gcra_Burst.j0 kq a0 ji5 x30_8 t170 t171 = some r) ∧ Aside0 (kq ≤ k) ∧ Aside0 (wc.heap[gb172]? = some (.cells #[.int .u64 t170, .int .u64 t171] 60 (0, 0))) ∧ Aside0 (Below w.heap.size w wc))
  case first =>
    have H := HC9.out
    clear HC9
    by_cases c15 : a0 = 0
    · rw [if_pos c15] at H
      have c15b0 : (a0 == 0) = true := beq_iff_eq.mpr c15
      have c15b1 : (a0 != 0) = false := bne_eq_false_iff_eq.mpr c15
      clear c15
      (first | rw [c15b0] | (simp only [i64_w, i32_w]; rw [c15b0]) | skip)
      have H' := Aside0.mk H
      clear H
      try go_wp2
      have n0_ : Aside0 (((w13.setCell ⟨gb172, 0, none⟩ (.int .u64 t170)).setCell ⟨gb172, 1, none⟩ (.int .u64 t171)).heap[gb172]? = some (.cells #[.int .u64 t170, .int .u64 t171] 60 (0, 0))) := ⟨bk BK172⟩
      have n1_ : Aside0 (Below w.heap.size w ((w13.setCell ⟨gb172, 0, none⟩ (.int .u64 t170)).setCell ⟨gb172, 1, none⟩ (.int .u64 t171))) := ⟨bw HB⟩
      (try clear BK172)
      (try clear HB)
      generalize ((w13.setCell ⟨gb172, 0, none⟩ (.int .u64 t170)).setCell ⟨gb172, 1, none⟩ (.int .u64 t171)) = w16 at n0_ n1_ ⊢
      have BK172 := n0_
      have HB := n1_
      clear n0_ n1_
      have n0_ := Aside0.mk (blk_drew BK172.out)
      have n1_ := Aside0.mk (below_drew1 HB.out)
      clear BK172
      clear HB
      have BK172 := n0_
      have HB := n1_
      clear n0_ n1_
      refine start_ (n := 9) (S := fun w' => True) (ds := []) #[false, false, false, false, false, false, false, false, false] (by kernel_rfl) rfl rfl trivial (fun hHeld => ?_); refine with_tabW gcra_Burst.tab3 gcra_Burst.bits3 (fun HT_ HW_ => ?_)
      generalize w16.drew = w17 at BK172 HB hHeld ⊢
      refine chain_ (fuel := 0) [(0, 0, some 22), (1, 0, some 23), (2, 0, some 24), (3, 2, some 25), (4, 2, some 26), (5, 2, some 27), (6, 2, some 28), (7, 2, some 29), (8, 0, some 30)] #[true, true, true, true, true, true, true, true, true] HT_.out HW_.out (by kernel_rfl) (fun _ _ _ _ _ h => h) (Or.inl (by decide)) rfl ?_
      (iterate 3 refine lkP ?_); (iterate 5 refine lkO ?_); refine lkP ?_; refine .nil ?_
      refine done_ (done_of HT_.out (by kernel_rfl)) ?_
      try go_wp2
      go_meet
      case rel => exact ⟨_, (true), rs, H', ⟨by first | omega | exact Nat.le_refl _⟩, ⟨bk BK172⟩, ⟨bw HB⟩⟩
    · rw [if_neg c15] at H
      have c15b0 : (a0 == 0) = false := beq_eq_false_iff_ne.mpr c15
      have c15b1 : (a0 != 0) = true := bne_iff_ne.mpr c15
      (first | rw [c15b0] | (simp only [i64_w, i32_w]; rw [c15b0]) | skip)
      replace H := Option.bind_eq_some_iff.mp H
      obtain ⟨⟨t173, t174⟩, A180, H⟩ := H
      replace H : ((sat_Wide_Cmp.f t170 t171 t173 t174).bind fun t175 => (gcra_Burst.j0 k a0 ji5 (decide (t175 < 0)) t170 t171)) = some r := H
      have A18 := Aside0.mk A180
      clear A180
      replace H := Option.bind_eq_some_iff.mp H
      obtain ⟨t175, A190, H⟩ := H
      replace H : (gcra_Burst.j0 k a0 ji5 (decide (t175 < 0)) t170 t171) = some r := H
      have A19 := Aside0.mk A190
      clear A190
      have H' := Aside0.mk H
      clear H
      try go_wp2
      have n0_ : Aside0 (((w13.setCell ⟨gb172, 0, none⟩ (.int .u64 t170)).setCell ⟨gb172, 1, none⟩ (.int .u64 t171)).heap[gb172]? = some (.cells #[.int .u64 t170, .int .u64 t171] 60 (0, 0))) := ⟨bk BK172⟩
      have n1_ : Aside0 (Below w.heap.size w ((w13.setCell ⟨gb172, 0, none⟩ (.int .u64 t170)).setCell ⟨gb172, 1, none⟩ (.int .u64 t171))) := ⟨bw HB⟩
      (try clear BK172)
      (try clear HB)
      generalize ((w13.setCell ⟨gb172, 0, none⟩ (.int .u64 t170)).setCell ⟨gb172, 1, none⟩ (.int .u64 t171)) = w20 at n0_ n1_ ⊢
      have BK172 := n0_
      have HB := n1_
      clear n0_ n1_
      have n0_ := Aside0.mk (blk_drew BK172.out)
      have n1_ := Aside0.mk (below_drew1 HB.out)
      clear BK172
      clear HB
      have BK172 := n0_
      have HB := n1_
      clear n0_ n1_
      refine start_ (n := 9) (S := fun w' => w'.cell? ⟨gb172, 0, none⟩ = some (.int .u64 t170) ∧ w'.cell? ⟨gb172, 1, none⟩ = some (.int .u64 t171)) (ds := []) #[false, false, false, false, false, false, false, false, false] (by kernel_rfl) rfl rfl ⟨(blk_cell BK172.out 0).trans rfl, (blk_cell BK172.out 1).trans rfl⟩ (fun hHeld => ?_); refine with_tabW gcra_Burst.tab3 gcra_Burst.bits3 (fun HT_ HW_ => ?_)
      generalize w20.drew = w21 at BK172 HB hHeld ⊢
      refine chain_ (fuel := 4) [(0, 0, some 22), (1, 0, some 23), (2, 0, some 24), (4, 0, some 26), (3, 1, some 25)] #[true, true, true, true, true, false, false, false, false] HT_.out HW_.out (by kernel_rfl) (fun _ _ _ _ _ h => h) (Or.inr hHeld) rfl ?_
      (iterate 4 refine lkP ?_); refine lkT ?_; refine .nil ?_
      refine one_ (i := 5) (N := some 27) #[true, true, true, true, true, true, false, false, false] rfl rfl (one_of HT_.out (by kernel_rfl)) (by decide) (fun K hK => ?_)
      refine goes_ Try.func18 (by kernel_rfl) rfl #[.int .u64 ji5] (by rfl) rfl rfl (by (try simp only [List.map_toArray, List.map_cons, List.map_nil]); first | done | (simp only [hji5]; rfl) | rfl | (simp only [List.length_drop, List.length_take]; rfl)) ?_
      with_reducible refine (sat_Of.calls ji5 t173 t174 _ A18.out).mono ?_
      rintro e w22 ⟨rfl, hb⟩
      refine ⟨_, rfl, ?_⟩
      have n0_ := bb BK172 hb
      have n1_ := bs HB hb
      clear BK172
      clear HB
      have BK172 := n0_
      have HB := n1_
      clear n0_ n1_
      (try clear hb)
      (try clear hb2)
      (try clear hk)
      (try clear hi)
      refine hK.out _ _ ⟨(blk_cell BK172.out 0).trans rfl, (blk_cell BK172.out 1).trans rfl⟩ (fun hHeld => ?_)
      clear hK K
      refine norm_ (a' := ?_) ?_ ?_
      rotate_left
      · show Act.put _ (some 27) _ = _
        simp only [Act.put, List.setIfInBounds_toArray, List.set_cons_zero, List.set_cons_succ, i64_w, i32_w]
        rfl
      refine one_ (i := 6) (N := some 28) #[true, true, true, true, true, true, true, false, false] rfl rfl (one_of HT_.out (by kernel_rfl)) (by decide) (fun K hK => ?_)
      refine ge Try.func21 #[.agg #[.int .u64 t170, .int .u64 t171], .agg #[.int .u64 t173, .int .u64 t174]] ?_
      with_reducible refine (sat_Wide_Cmp.calls t170 t171 t173 t174 t175 _ A19.out).mono ?_
      rintro e w23 ⟨rfl, hb⟩
      refine ⟨_, rfl, ?_⟩
      have n0_ := bb BK172 hb
      have n1_ := bs HB hb
      clear BK172
      clear HB
      have BK172 := n0_
      have HB := n1_
      clear n0_ n1_
      (try clear hb)
      (try clear hb2)
      (try clear hk)
      (try clear hi)
      refine hK.out _ _ ⟨(blk_cell BK172.out 0).trans rfl, (blk_cell BK172.out 1).trans rfl⟩ (fun hHeld => ?_)
      clear hK K
      refine norm_ (a' := ?_) ?_ ?_
      rotate_left
      · show Act.put _ (some 28) _ = _
        simp only [Act.put, List.setIfInBounds_toArray, List.set_cons_zero, List.set_cons_succ, i64_w, i32_w]
        rfl
      refine chain_ (fuel := 0) [(7, 0, some 29), (8, 0, some 30)] #[true, true, true, true, true, true, true, true, true] HT_.out HW_.out (by kernel_rfl) (fun _ _ _ _ _ h => h) (Or.inl (by decide)) rfl ?_
      (iterate 2 refine lkP ?_); refine .nil ?_
      refine done_ (done_of HT_.out (by kernel_rfl)) ?_
      try go_wp2
      go_meet
      case rel => exact ⟨_, (decide (t175 < 0)), rs, H', ⟨by first | omega | exact Nat.le_refl _⟩, ⟨bk BK172⟩, ⟨bw HB⟩⟩
  case rest =>
    clear HC9
    try clear c1
    try clear c2
    try clear p2
    try clear c6
    try clear c15
    try clear c15b0
    try clear c15b1
    try clear c18
    try clear c19
    try clear c21
    try clear hcz14_0
    try clear hcz14_1
    try clear hfz14_0
    try clear hfz14_1
    obtain ⟨kq, x30_8, rfl, HA, HJ8, BK172, HB⟩ := hcut
    cases kq with
    | zero => exact absurd HA.out (by simp [gcra_Burst.j0])
    | succ kj8 =>
      have H := HA.out
      clear HA
      simp only [gcra_Burst.j0] at H
      by_cases c24 : x30_8 = true
      · subst c24
        have H1 : (some 0) = some r := by rw [if_pos rfl] at H; exact H
        clear H
        have H := H1
        clear H1
        obtain rfl := Option.some.inj H
        go_wp2
        go_ret
        exact ⟨by first | rfl | (simp [errW_none, errW_some] <;> rfl) | (simp only [← hji5]; first | rfl | (simp [errW_none, errW_some] <;> rfl)) | (simp [*, errW_none, errW_some] <;> rfl), bw HB⟩
      · replace c24 := Bool.eq_false_iff.mpr c24
        subst c24
        have H1 : ((sat_Of.f ji5).bind fun bt176 => ((sat_Wide_Minus.f t170 t171 bt176.1 bt176.2).bind fun bt178 => ((sat_Wide_DivMod.f kj8 bt178.1 bt178.2 a0).bind fun bt180 => ((sat_Of.f 1).bind fun bt184 => ((sat_Wide_Plus.f bt180.1 bt180.2.1 bt184.1 bt184.2).bind fun bt186 => (if a0 = 0 then (none) else ((sat_Of.f (IntKind.u64.wrap (Int.tdiv (IntKind.u64.wrap (18446744073709551615 - ji5)) a0))).bind fun bt188 => ((sat_Wide_Cmp.f bt186.1 bt186.2 bt188.1 bt188.2).bind fun t190 => (if t190 > 0 then (some (IntKind.u64.wrap (Int.tdiv (IntKind.u64.wrap (18446744073709551615 - ji5)) a0))) else (some bt186.2)))))))))) = some r := by rw [if_neg (show ¬ (false = true) by decide)] at H; exact H
        clear H
        have H := H1
        clear H1
        replace H := Option.bind_eq_some_iff.mp H
        obtain ⟨⟨t176, t177⟩, A250, H⟩ := H
        replace H : ((sat_Wide_Minus.f t170 t171 t176 t177).bind fun bt178 => ((sat_Wide_DivMod.f kj8 bt178.1 bt178.2 a0).bind fun bt180 => ((sat_Of.f 1).bind fun bt184 => ((sat_Wide_Plus.f bt180.1 bt180.2.1 bt184.1 bt184.2).bind fun bt186 => (if a0 = 0 then (none) else ((sat_Of.f (IntKind.u64.wrap (Int.tdiv (IntKind.u64.wrap (18446744073709551615 - ji5)) a0))).bind fun bt188 => ((sat_Wide_Cmp.f bt186.1 bt186.2 bt188.1 bt188.2).bind fun t190 => (if t190 > 0 then (some (IntKind.u64.wrap (Int.tdiv (IntKind.u64.wrap (18446744073709551615 - ji5)) a0))) else (some bt186.2))))))))) = some r := H
        have A25 := Aside0.mk A250
        clear A250
        replace H := Option.bind_eq_some_iff.mp H
        obtain ⟨⟨t178, t179⟩, A260, H⟩ := H
        replace H : ((sat_Wide_DivMod.f kj8 t178 t179 a0).bind fun bt180 => ((sat_Of.f 1).bind fun bt184 => ((sat_Wide_Plus.f bt180.1 bt180.2.1 bt184.1 bt184.2).bind fun bt186 => (if a0 = 0 then (none) else ((sat_Of.f (IntKind.u64.wrap (Int.tdiv (IntKind.u64.wrap (18446744073709551615 - ji5)) a0))).bind fun bt188 => ((sat_Wide_Cmp.f bt186.1 bt186.2 bt188.1 bt188.2).bind fun t190 => (if t190 > 0 then (some (IntKind.u64.wrap (Int.tdiv (IntKind.u64.wrap (18446744073709551615 - ji5)) a0))) else (some bt186.2)))))))) = some r := H
        have A26 := Aside0.mk A260
        clear A260
        replace H := Option.bind_eq_some_iff.mp H
        obtain ⟨⟨t180, t181, t182⟩, A270, H⟩ := H
        replace H : ((sat_Of.f 1).bind fun bt184 => ((sat_Wide_Plus.f t180 t181 bt184.1 bt184.2).bind fun bt186 => (if a0 = 0 then (none) else ((sat_Of.f (IntKind.u64.wrap (Int.tdiv (IntKind.u64.wrap (18446744073709551615 - ji5)) a0))).bind fun bt188 => ((sat_Wide_Cmp.f bt186.1 bt186.2 bt188.1 bt188.2).bind fun t190 => (if t190 > 0 then (some (IntKind.u64.wrap (Int.tdiv (IntKind.u64.wrap (18446744073709551615 - ji5)) a0))) else (some bt186.2))))))) = some r := H
        have A27 := Aside0.mk A270
        clear A270
        replace H := Option.bind_eq_some_iff.mp H
        obtain ⟨⟨t184, t185⟩, A280, H⟩ := H
        replace H : ((sat_Wide_Plus.f t180 t181 t184 t185).bind fun bt186 => (if a0 = 0 then (none) else ((sat_Of.f (IntKind.u64.wrap (Int.tdiv (IntKind.u64.wrap (18446744073709551615 - ji5)) a0))).bind fun bt188 => ((sat_Wide_Cmp.f bt186.1 bt186.2 bt188.1 bt188.2).bind fun t190 => (if t190 > 0 then (some (IntKind.u64.wrap (Int.tdiv (IntKind.u64.wrap (18446744073709551615 - ji5)) a0))) else (some bt186.2)))))) = some r := H
        have A28 := Aside0.mk A280
        clear A280
        replace H := Option.bind_eq_some_iff.mp H
        obtain ⟨⟨t186, t187⟩, A290, H⟩ := H
        replace H : (if a0 = 0 then (none) else ((sat_Of.f (IntKind.u64.wrap (Int.tdiv (IntKind.u64.wrap (18446744073709551615 - ji5)) a0))).bind fun bt188 => ((sat_Wide_Cmp.f t186 t187 bt188.1 bt188.2).bind fun t190 => (if t190 > 0 then (some (IntKind.u64.wrap (Int.tdiv (IntKind.u64.wrap (18446744073709551615 - ji5)) a0))) else (some t187))))) = some r := H
        have A29 := Aside0.mk A290
        clear A290
        by_cases c30 : a0 = 0
        · rw [if_pos c30] at H
          exact absurd H (by simp)
        · rw [if_neg c30] at H
          have c30b0 : (a0 == 0) = false := beq_eq_false_iff_ne.mpr c30
          have c30b1 : (a0 != 0) = true := bne_iff_ne.mpr c30
          replace H := Option.bind_eq_some_iff.mp H
          obtain ⟨⟨t188, t189⟩, A310, H⟩ := H
          replace H : ((sat_Wide_Cmp.f t186 t187 t188 t189).bind fun t190 => (if t190 > 0 then (some (IntKind.u64.wrap (Int.tdiv (IntKind.u64.wrap (18446744073709551615 - ji5)) a0))) else (some t187))) = some r := H
          have A31 := Aside0.mk A310
          clear A310
          replace H := Option.bind_eq_some_iff.mp H
          obtain ⟨t190, A320, H⟩ := H
          replace H : (if t190 > 0 then (some (IntKind.u64.wrap (Int.tdiv (IntKind.u64.wrap (18446744073709551615 - ji5)) a0))) else (some t187)) = some r := H
          have A32 := Aside0.mk A320
          clear A320
          by_cases c33 : t190 > 0
          · rw [if_pos c33] at H
            have c33b0 : decide (0 < t190) = true := decide_eq_true c33
            clear c33
            obtain rfl := Option.some.inj H
            try go_wp2
            have n0_ := Aside0.mk (blk_drew BK172.out)
            have n1_ := Aside0.mk (below_drew1 HB.out)
            clear BK172
            clear HB
            have BK172 := n0_
            have HB := n1_
            clear n0_ n1_
            refine start_ (n := 12) (S := fun w' => w'.cell? ⟨gb172, 0, none⟩ = some (.int .u64 t170) ∧ w'.cell? ⟨gb172, 1, none⟩ = some (.int .u64 t171)) (ds := []) #[false, false, false, false, false, false, false, false, false, false, false, false] (by kernel_rfl) rfl rfl ⟨(blk_cell BK172.out 0).trans rfl, (blk_cell BK172.out 1).trans rfl⟩ (fun hHeld => ?_); refine with_tabW gcra_Burst.tab5 gcra_Burst.bits5 (fun HT_ HW_ => ?_)
            generalize wc.drew = w34 at BK172 HB hHeld ⊢
            refine chain_ (fuel := 9) [(1, 0, some 33), (4, 0, some 36), (0, 1, some 32)] #[true, true, false, false, true, false, false, false, false, false, false, false] HT_.out HW_.out (by kernel_rfl) (fun _ _ _ _ _ h => h) (Or.inr hHeld) rfl ?_
            (iterate 2 refine lkP ?_); refine lkT ?_; refine .nil ?_
            refine join_ (σ := Nat) 2 #[true, true, true, true, true, true, true, true, true, true, false, false] (fun s_ => [(34, .agg #[.int .u64 t176, .int .u64 t177]), (35, .agg #[.int .u64 t178, .int .u64 t179]), (37, .tuple #[.agg #[.int .u64 t180, .int .u64 t181], .int .u64 t182]), (11, .pointer (some ⟨s_, 0, none⟩)), (31, .tuple #[.agg #[.int .u64 t180, .int .u64 t181], .int .u64 t182]), (38, .agg #[.int .u64 t180, .int .u64 t181]), (39, .int .u64 t182)]) (fun s_ w' => (w'.cell? ⟨gb172, 0, none⟩ = some (.int .u64 t170) ∧ w'.cell? ⟨gb172, 1, none⟩ = some (.int .u64 t171)) ∧ (w'.heap[gb172]? = some (.cells #[.int .u64 t170, .int .u64 t171] 60 (0, 0))) ∧ (w'.heap[s_]? = some (.cells #[.int .u64 0, .int .u64 0] 60 (0, 0))) ∧ (w.heap.size ≤ s_) ∧ (w.heap.size ≤ s_) ∧ (gb172 ≠ s_) ∧ (s_ ≠ gb172) ∧ (Below w.heap.size w w')) ?_ ?_
            rotate_left
            · intro hCont
              refine two_ (i := 2) (j := 9) (Ni := some 34) (Nj := some 11) #[true, true, true, false, true, false, false, false, false, false, false, false] #[true, true, false, false, true, false, false, false, false, true, false, false] rfl rfl rfl rfl (two_of HT_.out (by kernel_rfl)) (by decide) (by decide) (fun K hK => ?_) (fun K hK => ?_)
              · skip
                refine goes_ Try.func18 (by kernel_rfl) rfl #[.int .u64 ji5] (by rfl) rfl rfl (by (try simp only [List.map_toArray, List.map_cons, List.map_nil]); first | done | (simp only [hji5]; rfl) | rfl | (simp only [List.length_drop, List.length_take]; rfl)) ?_
                with_reducible refine (sat_Of.calls ji5 t176 t177 _ A25.out).mono ?_
                rintro e w35 ⟨rfl, hb⟩
                refine ⟨_, rfl, ?_⟩
                have n0_ := bb BK172 hb
                have n1_ := bs HB hb
                clear BK172
                clear HB
                have BK172 := n0_
                have HB := n1_
                clear n0_ n1_
                (try clear hb)
                (try clear hb2)
                (try clear hk)
                (try clear hi)
                refine hK.out _ _ ⟨(blk_cell BK172.out 0).trans rfl, (blk_cell BK172.out 1).trans rfl⟩ (fun hHeld => ?_)
                clear hK K
                refine norm_ (a' := ?_) ?_ ?_
                rotate_left
                · show Act.put _ (some 34) _ = _
                  simp only [Act.put, List.setIfInBounds_toArray, List.set_cons_zero, List.set_cons_succ, i64_w, i32_w]
                  rfl
                refine two_ (i := 3) (j := 9) (Ni := some 35) (Nj := some 11) #[true, true, true, true, true, false, false, false, false, false, false, false] #[true, true, true, false, true, false, false, false, false, true, false, false] rfl rfl rfl rfl (two_of HT_.out (by kernel_rfl)) (by decide) (by decide) (fun K hK => ?_) (fun K hK => ?_)
                · skip
                  refine ge Try.func76 #[.agg #[.int .u64 t170, .int .u64 t171], .agg #[.int .u64 t176, .int .u64 t177]] ?_
                  with_reducible refine (sat_Wide_Minus.calls t170 t171 t176 t177 t178 t179 _ A26.out).mono ?_
                  rintro e w36 ⟨rfl, hb⟩
                  refine ⟨_, rfl, ?_⟩
                  have n0_ := bb BK172 hb
                  have n1_ := bs HB hb
                  clear BK172
                  clear HB
                  have BK172 := n0_
                  have HB := n1_
                  clear n0_ n1_
                  (try clear hb)
                  (try clear hb2)
                  (try clear hk)
                  (try clear hi)
                  refine hK.out _ _ ⟨(blk_cell BK172.out 0).trans rfl, (blk_cell BK172.out 1).trans rfl⟩ (fun hHeld => ?_)
                  clear hK K
                  refine norm_ (a' := ?_) ?_ ?_
                  rotate_left
                  · show Act.put _ (some 35) _ = _
                    simp only [Act.put, List.setIfInBounds_toArray, List.set_cons_zero, List.set_cons_succ, i64_w, i32_w]
                    rfl
                  refine two_ (i := 5) (j := 9) (Ni := some 37) (Nj := some 11) #[true, true, true, true, true, true, false, false, false, false, false, false] #[true, true, true, true, true, false, false, false, false, true, false, false] rfl rfl rfl rfl (two_of HT_.out (by kernel_rfl)) (by decide) (by decide) (fun K hK => ?_) (fun K hK => ?_)
                  · skip
                    refine ge Try.func77 #[.agg #[.int .u64 t178, .int .u64 t179], .int .u64 a0] ?_
                    with_reducible refine (sat_Wide_DivMod.calls kj8 t178 t179 a0 t180 t181 t182 _ A27.out).mono ?_
                    rintro e w37 ⟨rfl, hb⟩
                    refine ⟨_, rfl, ?_⟩
                    have n0_ := bb BK172 hb
                    have n1_ := bs HB hb
                    clear BK172
                    clear HB
                    have BK172 := n0_
                    have HB := n1_
                    clear n0_ n1_
                    (try clear hb)
                    (try clear hb2)
                    (try clear hk)
                    (try clear hi)
                    refine hK.out _ _ ⟨(blk_cell BK172.out 0).trans rfl, (blk_cell BK172.out 1).trans rfl⟩ (fun hHeld => ?_)
                    clear hK K
                    refine norm_ (a' := ?_) ?_ ?_
                    rotate_left
                    · show Act.put _ (some 37) _ = _
                      simp only [Act.put, List.setIfInBounds_toArray, List.set_cons_zero, List.set_cons_succ, i64_w, i32_w]
                      rfl
                    refine chain_ (fuel := 3) [(6, 0, some 31), (7, 0, some 38), (8, 0, some 39)] #[true, true, true, true, true, true, true, true, true, false, false, false] HT_.out HW_.out (by kernel_rfl) (fun _ _ _ _ _ h => h) (Or.inl (by decide)) rfl ?_
                    (iterate 3 refine lkP ?_); refine .nil ?_
                    refine one_ (i := 9) (N := some 11) #[true, true, true, true, true, true, true, true, true, true, false, false] rfl rfl (one_of HT_.out (by kernel_rfl)) (by decide) (fun K hK => ?_)
                    refine box_step ?hg (N := 11) ?hd (cs := #[.int .u64 0, .int .u64 0]) (t := 60) ?hr ?_; (case hd => rfl); (case hg => rfl); (case hr => first | (go_simp; done) | (go_simp; rfl))
                    intro gb183 hg w38 hbox hb
                    have n0_ := bb BK172 hb
                    have n1_ := bs HB hb
                    have n2_ := Aside0.mk (hbox)
                    have n3_ := sz HB hg
                    have n4_ := sz HB hg
                    have n5_ := nl BK172 hg
                    have n6_ := nr BK172 hg
                    clear BK172
                    clear HB
                    have BK172 := n0_
                    have HB := n1_
                    have BK183 := n2_
                    have GW183 := n3_
                    have GE183 := n4_
                    have NB172_183 := n5_
                    have NB183_172 := n6_
                    clear n0_ n1_ n2_ n3_ n4_ n5_ n6_
                    clear hb hbox hg
                    refine hK.out _ _ ⟨(blk_cell BK172.out 0).trans rfl, (blk_cell BK172.out 1).trans rfl⟩ (fun hHeld => ?_)
                    clear hK K
                    refine norm_ (a' := ?_) ?_ ?_
                    rotate_left
                    · show Act.put _ (some 11) _ = _
                      simp only [Act.put, List.setIfInBounds_toArray, List.set_cons_zero, List.set_cons_succ, i64_w, i32_w]
                      rfl
                    exact norm_ (by simp only [putAll, Act.put, List.setIfInBounds_toArray, List.set_cons_zero, List.set_cons_succ]) (hCont (gb183) _ ⟨hHeld, (bk BK172), (bk BK183), GW183.out, GE183.out, NB172_183.out, NB183_172.out, (bw HB)⟩)
                  · skip
                    refine box_step ?hg (N := 11) ?hd (cs := #[.int .u64 0, .int .u64 0]) (t := 60) ?hr ?_; (case hd => rfl); (case hg => rfl); (case hr => first | (go_simp; done) | (go_simp; rfl))
                    intro gb183 hg w37 hbox hb
                    have n0_ := bb BK172 hb
                    have n1_ := bs HB hb
                    have n2_ := Aside0.mk (hbox)
                    have n3_ := sz HB hg
                    have n4_ := sz HB hg
                    have n5_ := nl BK172 hg
                    have n6_ := nr BK172 hg
                    clear BK172
                    clear HB
                    have BK172 := n0_
                    have HB := n1_
                    have BK183 := n2_
                    have GW183 := n3_
                    have GE183 := n4_
                    have NB172_183 := n5_
                    have NB183_172 := n6_
                    clear n0_ n1_ n2_ n3_ n4_ n5_ n6_
                    clear hb hbox hg
                    refine hK.out _ _ ⟨(blk_cell BK172.out 0).trans rfl, (blk_cell BK172.out 1).trans rfl⟩ (fun hHeld => ?_)
                    clear hK K
                    refine norm_ (a' := ?_) ?_ ?_
                    rotate_left
                    · show Act.put _ (some 11) _ = _
                      simp only [Act.put, List.setIfInBounds_toArray, List.set_cons_zero, List.set_cons_succ, i64_w, i32_w]
                      rfl
                    refine one_ (i := 5) (N := some 37) #[true, true, true, true, true, true, false, false, false, true, false, false] rfl rfl (one_of HT_.out (by kernel_rfl)) (by decide) (fun K hK => ?_)
                    refine ge Try.func77 #[.agg #[.int .u64 t178, .int .u64 t179], .int .u64 a0] ?_
                    with_reducible refine (sat_Wide_DivMod.calls kj8 t178 t179 a0 t180 t181 t182 _ A27.out).mono ?_
                    rintro e w38 ⟨rfl, hb⟩
                    refine ⟨_, rfl, ?_⟩
                    have n0_ := bb BK172 hb
                    have n1_ := bb BK183 hb
                    have n2_ := bs HB hb
                    clear BK172
                    clear BK183
                    clear HB
                    have BK172 := n0_
                    have BK183 := n1_
                    have HB := n2_
                    clear n0_ n1_ n2_
                    (try clear hb)
                    (try clear hb2)
                    (try clear hk)
                    (try clear hi)
                    refine hK.out _ _ ⟨(blk_cell BK172.out 0).trans rfl, (blk_cell BK172.out 1).trans rfl⟩ (fun hHeld => ?_)
                    clear hK K
                    refine norm_ (a' := ?_) ?_ ?_
                    rotate_left
                    · show Act.put _ (some 37) _ = _
                      simp only [Act.put, List.setIfInBounds_toArray, List.set_cons_zero, List.set_cons_succ, i64_w, i32_w]
                      rfl
                    refine chain_ (fuel := 2) [(6, 0, some 31), (7, 0, some 38), (8, 0, some 39)] #[true, true, true, true, true, true, true, true, true, true, false, false] HT_.out HW_.out (by kernel_rfl) (fun _ _ _ _ _ h => h) (Or.inl (by decide)) rfl ?_
                    (iterate 3 refine lkP ?_); refine .nil ?_
                    exact norm_ (by simp only [putAll, Act.put, List.setIfInBounds_toArray, List.set_cons_zero, List.set_cons_succ]) (hCont (gb183) _ ⟨hHeld, (bk BK172), (bk BK183), GW183.out, GE183.out, NB172_183.out, NB183_172.out, (bw HB)⟩)
                · skip
                  refine box_step ?hg (N := 11) ?hd (cs := #[.int .u64 0, .int .u64 0]) (t := 60) ?hr ?_; (case hd => rfl); (case hg => rfl); (case hr => first | (go_simp; done) | (go_simp; rfl))
                  intro gb183 hg w36 hbox hb
                  have n0_ := bb BK172 hb
                  have n1_ := bs HB hb
                  have n2_ := Aside0.mk (hbox)
                  have n3_ := sz HB hg
                  have n4_ := sz HB hg
                  have n5_ := nl BK172 hg
                  have n6_ := nr BK172 hg
                  clear BK172
                  clear HB
                  have BK172 := n0_
                  have HB := n1_
                  have BK183 := n2_
                  have GW183 := n3_
                  have GE183 := n4_
                  have NB172_183 := n5_
                  have NB183_172 := n6_
                  clear n0_ n1_ n2_ n3_ n4_ n5_ n6_
                  clear hb hbox hg
                  refine hK.out _ _ ⟨(blk_cell BK172.out 0).trans rfl, (blk_cell BK172.out 1).trans rfl⟩ (fun hHeld => ?_)
                  clear hK K
                  refine norm_ (a' := ?_) ?_ ?_
                  rotate_left
                  · show Act.put _ (some 11) _ = _
                    simp only [Act.put, List.setIfInBounds_toArray, List.set_cons_zero, List.set_cons_succ, i64_w, i32_w]
                    rfl
                  refine one_ (i := 3) (N := some 35) #[true, true, true, true, true, false, false, false, false, true, false, false] rfl rfl (one_of HT_.out (by kernel_rfl)) (by decide) (fun K hK => ?_)
                  refine ge Try.func76 #[.agg #[.int .u64 t170, .int .u64 t171], .agg #[.int .u64 t176, .int .u64 t177]] ?_
                  with_reducible refine (sat_Wide_Minus.calls t170 t171 t176 t177 t178 t179 _ A26.out).mono ?_
                  rintro e w37 ⟨rfl, hb⟩
                  refine ⟨_, rfl, ?_⟩
                  have n0_ := bb BK172 hb
                  have n1_ := bb BK183 hb
                  have n2_ := bs HB hb
                  clear BK172
                  clear BK183
                  clear HB
                  have BK172 := n0_
                  have BK183 := n1_
                  have HB := n2_
                  clear n0_ n1_ n2_
                  (try clear hb)
                  (try clear hb2)
                  (try clear hk)
                  (try clear hi)
                  refine hK.out _ _ ⟨(blk_cell BK172.out 0).trans rfl, (blk_cell BK172.out 1).trans rfl⟩ (fun hHeld => ?_)
                  clear hK K
                  refine norm_ (a' := ?_) ?_ ?_
                  rotate_left
                  · show Act.put _ (some 35) _ = _
                    simp only [Act.put, List.setIfInBounds_toArray, List.set_cons_zero, List.set_cons_succ, i64_w, i32_w]
                    rfl
                  refine one_ (i := 5) (N := some 37) #[true, true, true, true, true, true, false, false, false, true, false, false] rfl rfl (one_of HT_.out (by kernel_rfl)) (by decide) (fun K hK => ?_)
                  refine ge Try.func77 #[.agg #[.int .u64 t178, .int .u64 t179], .int .u64 a0] ?_
                  with_reducible refine (sat_Wide_DivMod.calls kj8 t178 t179 a0 t180 t181 t182 _ A27.out).mono ?_
                  rintro e w38 ⟨rfl, hb⟩
                  refine ⟨_, rfl, ?_⟩
                  have n0_ := bb BK172 hb
                  have n1_ := bb BK183 hb
                  have n2_ := bs HB hb
                  clear BK172
                  clear BK183
                  clear HB
                  have BK172 := n0_
                  have BK183 := n1_
                  have HB := n2_
                  clear n0_ n1_ n2_
                  (try clear hb)
                  (try clear hb2)
                  (try clear hk)
                  (try clear hi)
                  refine hK.out _ _ ⟨(blk_cell BK172.out 0).trans rfl, (blk_cell BK172.out 1).trans rfl⟩ (fun hHeld => ?_)
                  clear hK K
                  refine norm_ (a' := ?_) ?_ ?_
                  rotate_left
                  · show Act.put _ (some 37) _ = _
                    simp only [Act.put, List.setIfInBounds_toArray, List.set_cons_zero, List.set_cons_succ, i64_w, i32_w]
                    rfl
                  refine chain_ (fuel := 2) [(6, 0, some 31), (7, 0, some 38), (8, 0, some 39)] #[true, true, true, true, true, true, true, true, true, true, false, false] HT_.out HW_.out (by kernel_rfl) (fun _ _ _ _ _ h => h) (Or.inl (by decide)) rfl ?_
                  (iterate 3 refine lkP ?_); refine .nil ?_
                  exact norm_ (by simp only [putAll, Act.put, List.setIfInBounds_toArray, List.set_cons_zero, List.set_cons_succ]) (hCont (gb183) _ ⟨hHeld, (bk BK172), (bk BK183), GW183.out, GE183.out, NB172_183.out, NB183_172.out, (bw HB)⟩)
              · skip
                refine box_step ?hg (N := 11) ?hd (cs := #[.int .u64 0, .int .u64 0]) (t := 60) ?hr ?_; (case hd => rfl); (case hg => rfl); (case hr => first | (go_simp; done) | (go_simp; rfl))
                intro gb183 hg w35 hbox hb
                have n0_ := bb BK172 hb
                have n1_ := bs HB hb
                have n2_ := Aside0.mk (hbox)
                have n3_ := sz HB hg
                have n4_ := sz HB hg
                have n5_ := nl BK172 hg
                have n6_ := nr BK172 hg
                clear BK172
                clear HB
                have BK172 := n0_
                have HB := n1_
                have BK183 := n2_
                have GW183 := n3_
                have GE183 := n4_
                have NB172_183 := n5_
                have NB183_172 := n6_
                clear n0_ n1_ n2_ n3_ n4_ n5_ n6_
                clear hb hbox hg
                refine hK.out _ _ ⟨(blk_cell BK172.out 0).trans rfl, (blk_cell BK172.out 1).trans rfl⟩ (fun hHeld => ?_)
                clear hK K
                refine norm_ (a' := ?_) ?_ ?_
                rotate_left
                · show Act.put _ (some 11) _ = _
                  simp only [Act.put, List.setIfInBounds_toArray, List.set_cons_zero, List.set_cons_succ, i64_w, i32_w]
                  rfl
                refine one_ (i := 2) (N := some 34) #[true, true, true, false, true, false, false, false, false, true, false, false] rfl rfl (one_of HT_.out (by kernel_rfl)) (by decide) (fun K hK => ?_)
                refine goes_ Try.func18 (by kernel_rfl) rfl #[.int .u64 ji5] (by rfl) rfl rfl (by (try simp only [List.map_toArray, List.map_cons, List.map_nil]); first | done | (simp only [hji5]; rfl) | rfl | (simp only [List.length_drop, List.length_take]; rfl)) ?_
                with_reducible refine (sat_Of.calls ji5 t176 t177 _ A25.out).mono ?_
                rintro e w36 ⟨rfl, hb⟩
                refine ⟨_, rfl, ?_⟩
                have n0_ := bb BK172 hb
                have n1_ := bb BK183 hb
                have n2_ := bs HB hb
                clear BK172
                clear BK183
                clear HB
                have BK172 := n0_
                have BK183 := n1_
                have HB := n2_
                clear n0_ n1_ n2_
                (try clear hb)
                (try clear hb2)
                (try clear hk)
                (try clear hi)
                refine hK.out _ _ ⟨(blk_cell BK172.out 0).trans rfl, (blk_cell BK172.out 1).trans rfl⟩ (fun hHeld => ?_)
                clear hK K
                refine norm_ (a' := ?_) ?_ ?_
                rotate_left
                · show Act.put _ (some 34) _ = _
                  simp only [Act.put, List.setIfInBounds_toArray, List.set_cons_zero, List.set_cons_succ, i64_w, i32_w]
                  rfl
                refine one_ (i := 3) (N := some 35) #[true, true, true, true, true, false, false, false, false, true, false, false] rfl rfl (one_of HT_.out (by kernel_rfl)) (by decide) (fun K hK => ?_)
                refine ge Try.func76 #[.agg #[.int .u64 t170, .int .u64 t171], .agg #[.int .u64 t176, .int .u64 t177]] ?_
                with_reducible refine (sat_Wide_Minus.calls t170 t171 t176 t177 t178 t179 _ A26.out).mono ?_
                rintro e w37 ⟨rfl, hb⟩
                refine ⟨_, rfl, ?_⟩
                have n0_ := bb BK172 hb
                have n1_ := bb BK183 hb
                have n2_ := bs HB hb
                clear BK172
                clear BK183
                clear HB
                have BK172 := n0_
                have BK183 := n1_
                have HB := n2_
                clear n0_ n1_ n2_
                (try clear hb)
                (try clear hb2)
                (try clear hk)
                (try clear hi)
                refine hK.out _ _ ⟨(blk_cell BK172.out 0).trans rfl, (blk_cell BK172.out 1).trans rfl⟩ (fun hHeld => ?_)
                clear hK K
                refine norm_ (a' := ?_) ?_ ?_
                rotate_left
                · show Act.put _ (some 35) _ = _
                  simp only [Act.put, List.setIfInBounds_toArray, List.set_cons_zero, List.set_cons_succ, i64_w, i32_w]
                  rfl
                refine one_ (i := 5) (N := some 37) #[true, true, true, true, true, true, false, false, false, true, false, false] rfl rfl (one_of HT_.out (by kernel_rfl)) (by decide) (fun K hK => ?_)
                refine ge Try.func77 #[.agg #[.int .u64 t178, .int .u64 t179], .int .u64 a0] ?_
                with_reducible refine (sat_Wide_DivMod.calls kj8 t178 t179 a0 t180 t181 t182 _ A27.out).mono ?_
                rintro e w38 ⟨rfl, hb⟩
                refine ⟨_, rfl, ?_⟩
                have n0_ := bb BK172 hb
                have n1_ := bb BK183 hb
                have n2_ := bs HB hb
                clear BK172
                clear BK183
                clear HB
                have BK172 := n0_
                have BK183 := n1_
                have HB := n2_
                clear n0_ n1_ n2_
                (try clear hb)
                (try clear hb2)
                (try clear hk)
                (try clear hi)
                refine hK.out _ _ ⟨(blk_cell BK172.out 0).trans rfl, (blk_cell BK172.out 1).trans rfl⟩ (fun hHeld => ?_)
                clear hK K
                refine norm_ (a' := ?_) ?_ ?_
                rotate_left
                · show Act.put _ (some 37) _ = _
                  simp only [Act.put, List.setIfInBounds_toArray, List.set_cons_zero, List.set_cons_succ, i64_w, i32_w]
                  rfl
                refine chain_ (fuel := 2) [(6, 0, some 31), (7, 0, some 38), (8, 0, some 39)] #[true, true, true, true, true, true, true, true, true, true, false, false] HT_.out HW_.out (by kernel_rfl) (fun _ _ _ _ _ h => h) (Or.inl (by decide)) rfl ?_
                (iterate 3 refine lkP ?_); refine .nil ?_
                exact norm_ (by simp only [putAll, Act.put, List.setIfInBounds_toArray, List.set_cons_zero, List.set_cons_succ]) (hCont (gb183) _ ⟨hHeld, (bk BK172), (bk BK183), GW183.out, GE183.out, NB172_183.out, NB183_172.out, (bw HB)⟩)
            rintro gb183 w39 ⟨hS_, h0_, h1_, h2_, h3_, h4_, h5_, h6_⟩
            have n0_ : Aside0 (w39.heap[gb172]? = some (.cells #[.int .u64 t170, .int .u64 t171] 60 (0, 0))) := ⟨h0_⟩
            have n1_ : Aside0 (w39.heap[gb183]? = some (.cells #[.int .u64 0, .int .u64 0] 60 (0, 0))) := ⟨h1_⟩
            have n2_ : Aside0 (w.heap.size ≤ gb183) := ⟨h2_⟩
            have n3_ : Aside0 (w.heap.size ≤ gb183) := ⟨h3_⟩
            have n4_ : Aside0 (gb172 ≠ gb183) := ⟨h4_⟩
            have n5_ : Aside0 (gb183 ≠ gb172) := ⟨h5_⟩
            have n6_ : Aside0 (Below w.heap.size w w39) := ⟨h6_⟩
            clear BK172
            clear HB
            clear h0_ h1_ h2_ h3_ h4_ h5_ h6_
            have BK172 := n0_
            have BK183 := n1_
            have GW183 := n2_
            have GE183 := n3_
            have NB172_183 := n4_
            have NB183_172 := n5_
            have HB := n6_
            clear n0_ n1_ n2_ n3_ n4_ n5_ n6_
            have hHeld : w39.cell? ⟨gb172, 0, none⟩ = some (.int .u64 t170) ∧ w39.cell? ⟨gb172, 1, none⟩ = some (.int .u64 t171) := hS_
            refine norm_ (a' := ?_) ?_ ?_
            rotate_left
            · simp only [putAll, Act.put, List.setIfInBounds_toArray, List.set_cons_zero, List.set_cons_succ]
              rfl
            refine one_ (i := 10) (N := none) #[true, true, true, true, true, true, true, true, true, true, true, false] rfl rfl (one_of HT_.out (by kernel_rfl)) (by decide) (fun K hK => ?_)
            have hs40 : w39.cell? ⟨gb183, 0, none⟩ = some (.int .u64 0) := (blk_cell BK183.out 0).trans rfl
            have hfs40 := blk_frozen BK183.out 0
            have hns40_0 := NB172_183.out
            have hms40_0 := NB183_172.out
            have hs41 : w39.cell? ⟨gb183, 1, none⟩ = some (.int .u64 0) := (blk_cell BK183.out 1).trans rfl
            have hfs41 := blk_frozen BK183.out 1
            have hns41_0 := NB172_183.out
            have hms41_0 := NB183_172.out
            refine skip_ (w1 := ?_) (by rfl) rfl ?_ ?_
            rotate_left
            · go_simp
              rfl
            refine hK.out _ _ ⟨((cell_far (p := ⟨gb183, _, none⟩) NB172_183.out _).trans (((cell_far (p := ⟨gb183, _, none⟩) NB172_183.out _).trans (hHeld.1)))), ((cell_far (p := ⟨gb183, _, none⟩) NB172_183.out _).trans (((cell_far (p := ⟨gb183, _, none⟩) NB172_183.out _).trans (hHeld.2))))⟩ (fun hHeld => ?_)
            clear hK K
            refine chain_ (fuel := 0) [(11, 0, some 12)] #[true, true, true, true, true, true, true, true, true, true, true, true] HT_.out HW_.out (by kernel_rfl) (fun _ _ _ _ _ h => h) (Or.inl (by decide)) rfl ?_
            refine lkP ?_; refine .nil ?_
            refine done_ (done_of HT_.out (by kernel_rfl)) ?_
            try go_wp2
            have n0_ : Aside0 (((w39.setCell ⟨gb183, 0, none⟩ (.int .u64 t180)).setCell ⟨gb183, 1, none⟩ (.int .u64 t181)).heap[gb172]? = some (.cells #[.int .u64 t170, .int .u64 t171] 60 (0, 0))) := ⟨bk BK172⟩
            have n1_ : Aside0 (((w39.setCell ⟨gb183, 0, none⟩ (.int .u64 t180)).setCell ⟨gb183, 1, none⟩ (.int .u64 t181)).heap[gb183]? = some (.cells #[.int .u64 t180, .int .u64 t181] 60 (0, 0))) := ⟨bk BK183⟩
            have n2_ : Aside0 (Below w.heap.size w ((w39.setCell ⟨gb183, 0, none⟩ (.int .u64 t180)).setCell ⟨gb183, 1, none⟩ (.int .u64 t181))) := ⟨bw HB⟩
            (try clear BK172)
            (try clear BK183)
            (try clear HB)
            generalize ((w39.setCell ⟨gb183, 0, none⟩ (.int .u64 t180)).setCell ⟨gb183, 1, none⟩ (.int .u64 t181)) = w42 at n0_ n1_ n2_ ⊢
            have BK172 := n0_
            have BK183 := n1_
            have HB := n2_
            clear n0_ n1_ n2_
            have n0_ := Aside0.mk (blk_drew BK172.out)
            have n1_ := Aside0.mk (blk_drew BK183.out)
            have n2_ := Aside0.mk (below_drew1 HB.out)
            clear BK172
            clear BK183
            clear HB
            have BK172 := n0_
            have BK183 := n1_
            have HB := n2_
            clear n0_ n1_ n2_
            refine start_ (n := 4) (S := fun w' => w'.cell? ⟨gb183, 0, none⟩ = some (.int .u64 t180) ∧ w'.cell? ⟨gb183, 1, none⟩ = some (.int .u64 t181)) (ds := [3]) #[false, false, false, false] (by kernel_rfl) rfl rfl ⟨(blk_cell BK183.out 0).trans rfl, (blk_cell BK183.out 1).trans rfl⟩ (fun hHeld => ?_)
            generalize w42.drew = w43 at BK172 BK183 HB hHeld ⊢
            refine take_ (i := 0) (N := some 40) (v := ?_) (a' := ?_) #[true, false, false, false] rfl rfl (by kernel_rfl) (fun _ _ _ h => h) (Or.inl ⟨by rfl, ?_⟩) hHeld ?_ ?_
            rotate_left
            · rintro w' ⟨s0, s1⟩
              go_simp
              with_reducible rfl
            rotate_left
            · simp only [Act.put, List.setIfInBounds_toArray, List.set_cons_zero, List.set_cons_succ, i64_w, i32_w]
              rfl
            refine one_ (i := 1) (N := some 41) #[true, true, false, false] rfl rfl (by kernel_rfl) (by decide) (fun K hK => ?_)
            refine ge Try.func18 #[.int .u64 1] ?_
            with_reducible refine (sat_Of.calls 1 t184 t185 _ A28.out).mono ?_
            rintro e w44 ⟨rfl, hb⟩
            refine ⟨_, rfl, ?_⟩
            have n0_ := bb BK172 hb
            have n1_ := bb BK183 hb
            have n2_ := bs HB hb
            clear BK172
            clear BK183
            clear HB
            have BK172 := n0_
            have BK183 := n1_
            have HB := n2_
            clear n0_ n1_ n2_
            (try clear hb)
            (try clear hb2)
            (try clear hk)
            (try clear hi)
            refine hK.out _ _ ⟨(blk_cell BK183.out 0).trans rfl, (blk_cell BK183.out 1).trans rfl⟩ (fun hHeld => ?_)
            clear hK K
            refine norm_ (a' := ?_) ?_ ?_
            rotate_left
            · show Act.put _ (some 41) _ = _
              simp only [Act.put, List.setIfInBounds_toArray, List.set_cons_zero, List.set_cons_succ, i64_w, i32_w]
              rfl
            refine one_ (i := 2) (N := some 42) #[true, true, true, false] rfl rfl (by kernel_rfl) (by decide) (fun K hK => ?_)
            refine ge Try.func19 #[.agg #[.int .u64 t180, .int .u64 t181], .agg #[.int .u64 t184, .int .u64 t185]] ?_
            with_reducible refine (sat_Wide_Plus.calls t180 t181 t184 t185 t186 t187 _ A29.out).mono ?_
            rintro e w45 ⟨rfl, hb⟩
            refine ⟨_, rfl, ?_⟩
            have n0_ := bb BK172 hb
            have n1_ := bb BK183 hb
            have n2_ := bs HB hb
            clear BK172
            clear BK183
            clear HB
            have BK172 := n0_
            have BK183 := n1_
            have HB := n2_
            clear n0_ n1_ n2_
            (try clear hb)
            (try clear hb2)
            (try clear hk)
            (try clear hi)
            refine hK.out _ _ ⟨(blk_cell BK183.out 0).trans rfl, (blk_cell BK183.out 1).trans rfl⟩ (fun hHeld => ?_)
            clear hK K
            refine norm_ (a' := ?_) ?_ ?_
            rotate_left
            · show Act.put _ (some 42) _ = _
              simp only [Act.put, List.setIfInBounds_toArray, List.set_cons_zero, List.set_cons_succ, i64_w, i32_w]
              rfl
            refine last_ (i := 3) (N := none) #[true, true, true, true] rfl rfl (by kernel_rfl) (by decide) (fun K hK => ?_)
            have hs46 : w45.cell? ⟨gb183, 0, none⟩ = some (.int .u64 t180) := (blk_cell BK183.out 0).trans rfl
            have hfs46 := blk_frozen BK183.out 0
            have hns46_0 := NB172_183.out
            have hms46_0 := NB183_172.out
            have hs47 : w45.cell? ⟨gb183, 1, none⟩ = some (.int .u64 t181) := (blk_cell BK183.out 1).trans rfl
            have hfs47 := blk_frozen BK183.out 1
            have hns47_0 := NB172_183.out
            have hms47_0 := NB183_172.out
            refine skip_ (w1 := ?_) (by rfl) rfl ?_ ?_
            rotate_left
            · go_simp
              rfl
            refine hK.out _ _ ?_
            clear hK K
            refine done_ (by kernel_rfl) ?_
            try go_wp2
            have n0_ : Aside0 (((w45.setCell ⟨gb183, 0, none⟩ (.int .u64 t186)).setCell ⟨gb183, 1, none⟩ (.int .u64 t187)).heap[gb172]? = some (.cells #[.int .u64 t170, .int .u64 t171] 60 (0, 0))) := ⟨bk BK172⟩
            have n1_ : Aside0 (((w45.setCell ⟨gb183, 0, none⟩ (.int .u64 t186)).setCell ⟨gb183, 1, none⟩ (.int .u64 t187)).heap[gb183]? = some (.cells #[.int .u64 t186, .int .u64 t187] 60 (0, 0))) := ⟨bk BK183⟩
            have n2_ : Aside0 (Below w.heap.size w ((w45.setCell ⟨gb183, 0, none⟩ (.int .u64 t186)).setCell ⟨gb183, 1, none⟩ (.int .u64 t187))) := ⟨bw HB⟩
            (try clear BK172)
            (try clear BK183)
            (try clear HB)
            generalize ((w45.setCell ⟨gb183, 0, none⟩ (.int .u64 t186)).setCell ⟨gb183, 1, none⟩ (.int .u64 t187)) = w48 at n0_ n1_ n2_ ⊢
            have BK172 := n0_
            have BK183 := n1_
            have HB := n2_
            clear n0_ n1_ n2_
            have n0_ := Aside0.mk (blk_drew BK172.out)
            have n1_ := Aside0.mk (blk_drew BK183.out)
            have n2_ := Aside0.mk (below_drew1 HB.out)
            clear BK172
            clear BK183
            clear HB
            have BK172 := n0_
            have BK183 := n1_
            have HB := n2_
            clear n0_ n1_ n2_
            refine start_ (n := 5) (S := fun w' => w'.cell? ⟨gb183, 0, none⟩ = some (.int .u64 t186) ∧ w'.cell? ⟨gb183, 1, none⟩ = some (.int .u64 t187)) (ds := []) #[false, false, false, false, false] (by kernel_rfl) rfl rfl ⟨(blk_cell BK183.out 0).trans rfl, (blk_cell BK183.out 1).trans rfl⟩ (fun hHeld => ?_)
            generalize w48.drew = w49 at BK172 BK183 HB hHeld ⊢
            refine pure_ (i := 1) (N := some 48) (v := ?_) (a' := ?_) #[false, true, false, false, false] rfl rfl (by kernel_rfl) (fun _ _ _ h => h) (Or.inl ⟨by rfl, ?_⟩) ?_ ?_
            rotate_left
            · intro w'
              go_simp
              with_reducible rfl
            rotate_left
            · simp only [Act.put, List.setIfInBounds_toArray, List.set_cons_zero, List.set_cons_succ, i64_w, i32_w]
              rfl
            refine take_ (i := 0) (N := some 47) (v := ?_) (a' := ?_) #[true, true, false, false, false] rfl rfl (by kernel_rfl) (fun _ _ _ h => h) (Or.inl ⟨by rfl, ?_⟩) hHeld ?_ ?_
            rotate_left
            · rintro w' ⟨s0, s1⟩
              go_simp
              with_reducible rfl
            rotate_left
            · simp only [Act.put, List.setIfInBounds_toArray, List.set_cons_zero, List.set_cons_succ, i64_w, i32_w]
              rfl
            refine one_ (i := 2) (N := some 49) #[true, true, true, false, false] rfl rfl (by kernel_rfl) (by decide) (fun K hK => ?_)
            refine goes_ Try.func18 (by kernel_rfl) rfl #[.int .u64 (IntKind.u64.wrap (Int.tdiv (IntKind.u64.wrap (18446744073709551615 - ji5)) a0))] (by rfl) rfl rfl (by (try simp only [List.map_toArray, List.map_cons, List.map_nil]); first | done | (simp only [hji5]; rfl) | rfl | (simp only [List.length_drop, List.length_take]; rfl)) ?_
            with_reducible refine (sat_Of.calls (IntKind.u64.wrap (Int.tdiv (IntKind.u64.wrap (18446744073709551615 - ji5)) a0)) t188 t189 _ A31.out).mono ?_
            rintro e w50 ⟨rfl, hb⟩
            refine ⟨_, rfl, ?_⟩
            have n0_ := bb BK172 hb
            have n1_ := bb BK183 hb
            have n2_ := bs HB hb
            clear BK172
            clear BK183
            clear HB
            have BK172 := n0_
            have BK183 := n1_
            have HB := n2_
            clear n0_ n1_ n2_
            (try clear hb)
            (try clear hb2)
            (try clear hk)
            (try clear hi)
            refine hK.out _ _ ⟨(blk_cell BK183.out 0).trans rfl, (blk_cell BK183.out 1).trans rfl⟩ (fun hHeld => ?_)
            clear hK K
            refine norm_ (a' := ?_) ?_ ?_
            rotate_left
            · show Act.put _ (some 49) _ = _
              simp only [Act.put, List.setIfInBounds_toArray, List.set_cons_zero, List.set_cons_succ, i64_w, i32_w]
              rfl
            refine one_ (i := 3) (N := some 50) #[true, true, true, true, false] rfl rfl (by kernel_rfl) (by decide) (fun K hK => ?_)
            refine ge Try.func21 #[.agg #[.int .u64 t186, .int .u64 t187], .agg #[.int .u64 t188, .int .u64 t189]] ?_
            with_reducible refine (sat_Wide_Cmp.calls t186 t187 t188 t189 t190 _ A32.out).mono ?_
            rintro e w51 ⟨rfl, hb⟩
            refine ⟨_, rfl, ?_⟩
            have n0_ := bb BK172 hb
            have n1_ := bb BK183 hb
            have n2_ := bs HB hb
            clear BK172
            clear BK183
            clear HB
            have BK172 := n0_
            have BK183 := n1_
            have HB := n2_
            clear n0_ n1_ n2_
            (try clear hb)
            (try clear hb2)
            (try clear hk)
            (try clear hi)
            refine hK.out _ _ ⟨(blk_cell BK183.out 0).trans rfl, (blk_cell BK183.out 1).trans rfl⟩ (fun hHeld => ?_)
            clear hK K
            refine norm_ (a' := ?_) ?_ ?_
            rotate_left
            · show Act.put _ (some 50) _ = _
              simp only [Act.put, List.setIfInBounds_toArray, List.set_cons_zero, List.set_cons_succ, i64_w, i32_w]
              rfl
            refine pure_ (i := 4) (N := some 51) (v := ?_) (a' := ?_) #[true, true, true, true, true] rfl rfl (by kernel_rfl) (fun _ _ _ h => h) (Or.inl ⟨by rfl, ?_⟩) ?_ ?_
            rotate_left
            · intro w'
              go_simp
              with_reducible rfl
            rotate_left
            · simp only [Act.put, List.setIfInBounds_toArray, List.set_cons_zero, List.set_cons_succ, i64_w, i32_w]
              rfl
            refine done_ (by kernel_rfl) ?_
            try go_wp2
            go_ret
            exact ⟨by first | rfl | (simp [errW_none, errW_some] <;> rfl) | (simp only [← hji5]; first | rfl | (simp [errW_none, errW_some] <;> rfl)) | (simp [*, errW_none, errW_some] <;> rfl), bw HB⟩
          · rw [if_neg c33] at H
            have c33b0 : decide (0 < t190) = false := decide_eq_false c33
            clear c33
            obtain rfl := Option.some.inj H
            try go_wp2
            have n0_ := Aside0.mk (blk_drew BK172.out)
            have n1_ := Aside0.mk (below_drew1 HB.out)
            clear BK172
            clear HB
            have BK172 := n0_
            have HB := n1_
            clear n0_ n1_
            refine start_ (n := 12) (S := fun w' => w'.cell? ⟨gb172, 0, none⟩ = some (.int .u64 t170) ∧ w'.cell? ⟨gb172, 1, none⟩ = some (.int .u64 t171)) (ds := []) #[false, false, false, false, false, false, false, false, false, false, false, false] (by kernel_rfl) rfl rfl ⟨(blk_cell BK172.out 0).trans rfl, (blk_cell BK172.out 1).trans rfl⟩ (fun hHeld => ?_); refine with_tabW gcra_Burst.tab5 gcra_Burst.bits5 (fun HT_ HW_ => ?_)
            generalize wc.drew = w52 at BK172 HB hHeld ⊢
            refine chain_ (fuel := 9) [(1, 0, some 33), (4, 0, some 36), (0, 1, some 32)] #[true, true, false, false, true, false, false, false, false, false, false, false] HT_.out HW_.out (by kernel_rfl) (fun _ _ _ _ _ h => h) (Or.inr hHeld) rfl ?_
            (iterate 2 refine lkP ?_); refine lkT ?_; refine .nil ?_
            refine join_ (σ := Nat) 2 #[true, true, true, true, true, true, true, true, true, true, false, false] (fun s_ => [(34, .agg #[.int .u64 t176, .int .u64 t177]), (35, .agg #[.int .u64 t178, .int .u64 t179]), (37, .tuple #[.agg #[.int .u64 t180, .int .u64 t181], .int .u64 t182]), (11, .pointer (some ⟨s_, 0, none⟩)), (31, .tuple #[.agg #[.int .u64 t180, .int .u64 t181], .int .u64 t182]), (38, .agg #[.int .u64 t180, .int .u64 t181]), (39, .int .u64 t182)]) (fun s_ w' => (w'.cell? ⟨gb172, 0, none⟩ = some (.int .u64 t170) ∧ w'.cell? ⟨gb172, 1, none⟩ = some (.int .u64 t171)) ∧ (w'.heap[gb172]? = some (.cells #[.int .u64 t170, .int .u64 t171] 60 (0, 0))) ∧ (w'.heap[s_]? = some (.cells #[.int .u64 0, .int .u64 0] 60 (0, 0))) ∧ (w.heap.size ≤ s_) ∧ (w.heap.size ≤ s_) ∧ (gb172 ≠ s_) ∧ (s_ ≠ gb172) ∧ (Below w.heap.size w w')) ?_ ?_
            rotate_left
            · intro hCont
              refine two_ (i := 2) (j := 9) (Ni := some 34) (Nj := some 11) #[true, true, true, false, true, false, false, false, false, false, false, false] #[true, true, false, false, true, false, false, false, false, true, false, false] rfl rfl rfl rfl (two_of HT_.out (by kernel_rfl)) (by decide) (by decide) (fun K hK => ?_) (fun K hK => ?_)
              · skip
                refine goes_ Try.func18 (by kernel_rfl) rfl #[.int .u64 ji5] (by rfl) rfl rfl (by (try simp only [List.map_toArray, List.map_cons, List.map_nil]); first | done | (simp only [hji5]; rfl) | rfl | (simp only [List.length_drop, List.length_take]; rfl)) ?_
                with_reducible refine (sat_Of.calls ji5 t176 t177 _ A25.out).mono ?_
                rintro e w53 ⟨rfl, hb⟩
                refine ⟨_, rfl, ?_⟩
                have n0_ := bb BK172 hb
                have n1_ := bs HB hb
                clear BK172
                clear HB
                have BK172 := n0_
                have HB := n1_
                clear n0_ n1_
                (try clear hb)
                (try clear hb2)
                (try clear hk)
                (try clear hi)
                refine hK.out _ _ ⟨(blk_cell BK172.out 0).trans rfl, (blk_cell BK172.out 1).trans rfl⟩ (fun hHeld => ?_)
                clear hK K
                refine norm_ (a' := ?_) ?_ ?_
                rotate_left
                · show Act.put _ (some 34) _ = _
                  simp only [Act.put, List.setIfInBounds_toArray, List.set_cons_zero, List.set_cons_succ, i64_w, i32_w]
                  rfl
                refine two_ (i := 3) (j := 9) (Ni := some 35) (Nj := some 11) #[true, true, true, true, true, false, false, false, false, false, false, false] #[true, true, true, false, true, false, false, false, false, true, false, false] rfl rfl rfl rfl (two_of HT_.out (by kernel_rfl)) (by decide) (by decide) (fun K hK => ?_) (fun K hK => ?_)
                · skip
                  refine ge Try.func76 #[.agg #[.int .u64 t170, .int .u64 t171], .agg #[.int .u64 t176, .int .u64 t177]] ?_
                  with_reducible refine (sat_Wide_Minus.calls t170 t171 t176 t177 t178 t179 _ A26.out).mono ?_
                  rintro e w54 ⟨rfl, hb⟩
                  refine ⟨_, rfl, ?_⟩
                  have n0_ := bb BK172 hb
                  have n1_ := bs HB hb
                  clear BK172
                  clear HB
                  have BK172 := n0_
                  have HB := n1_
                  clear n0_ n1_
                  (try clear hb)
                  (try clear hb2)
                  (try clear hk)
                  (try clear hi)
                  refine hK.out _ _ ⟨(blk_cell BK172.out 0).trans rfl, (blk_cell BK172.out 1).trans rfl⟩ (fun hHeld => ?_)
                  clear hK K
                  refine norm_ (a' := ?_) ?_ ?_
                  rotate_left
                  · show Act.put _ (some 35) _ = _
                    simp only [Act.put, List.setIfInBounds_toArray, List.set_cons_zero, List.set_cons_succ, i64_w, i32_w]
                    rfl
                  refine two_ (i := 5) (j := 9) (Ni := some 37) (Nj := some 11) #[true, true, true, true, true, true, false, false, false, false, false, false] #[true, true, true, true, true, false, false, false, false, true, false, false] rfl rfl rfl rfl (two_of HT_.out (by kernel_rfl)) (by decide) (by decide) (fun K hK => ?_) (fun K hK => ?_)
                  · skip
                    refine ge Try.func77 #[.agg #[.int .u64 t178, .int .u64 t179], .int .u64 a0] ?_
                    with_reducible refine (sat_Wide_DivMod.calls kj8 t178 t179 a0 t180 t181 t182 _ A27.out).mono ?_
                    rintro e w55 ⟨rfl, hb⟩
                    refine ⟨_, rfl, ?_⟩
                    have n0_ := bb BK172 hb
                    have n1_ := bs HB hb
                    clear BK172
                    clear HB
                    have BK172 := n0_
                    have HB := n1_
                    clear n0_ n1_
                    (try clear hb)
                    (try clear hb2)
                    (try clear hk)
                    (try clear hi)
                    refine hK.out _ _ ⟨(blk_cell BK172.out 0).trans rfl, (blk_cell BK172.out 1).trans rfl⟩ (fun hHeld => ?_)
                    clear hK K
                    refine norm_ (a' := ?_) ?_ ?_
                    rotate_left
                    · show Act.put _ (some 37) _ = _
                      simp only [Act.put, List.setIfInBounds_toArray, List.set_cons_zero, List.set_cons_succ, i64_w, i32_w]
                      rfl
                    refine chain_ (fuel := 3) [(6, 0, some 31), (7, 0, some 38), (8, 0, some 39)] #[true, true, true, true, true, true, true, true, true, false, false, false] HT_.out HW_.out (by kernel_rfl) (fun _ _ _ _ _ h => h) (Or.inl (by decide)) rfl ?_
                    (iterate 3 refine lkP ?_); refine .nil ?_
                    refine one_ (i := 9) (N := some 11) #[true, true, true, true, true, true, true, true, true, true, false, false] rfl rfl (one_of HT_.out (by kernel_rfl)) (by decide) (fun K hK => ?_)
                    refine box_step ?hg (N := 11) ?hd (cs := #[.int .u64 0, .int .u64 0]) (t := 60) ?hr ?_; (case hd => rfl); (case hg => rfl); (case hr => first | (go_simp; done) | (go_simp; rfl))
                    intro gb183 hg w56 hbox hb
                    have n0_ := bb BK172 hb
                    have n1_ := bs HB hb
                    have n2_ := Aside0.mk (hbox)
                    have n3_ := sz HB hg
                    have n4_ := sz HB hg
                    have n5_ := nl BK172 hg
                    have n6_ := nr BK172 hg
                    clear BK172
                    clear HB
                    have BK172 := n0_
                    have HB := n1_
                    have BK183 := n2_
                    have GW183 := n3_
                    have GE183 := n4_
                    have NB172_183 := n5_
                    have NB183_172 := n6_
                    clear n0_ n1_ n2_ n3_ n4_ n5_ n6_
                    clear hb hbox hg
                    refine hK.out _ _ ⟨(blk_cell BK172.out 0).trans rfl, (blk_cell BK172.out 1).trans rfl⟩ (fun hHeld => ?_)
                    clear hK K
                    refine norm_ (a' := ?_) ?_ ?_
                    rotate_left
                    · show Act.put _ (some 11) _ = _
                      simp only [Act.put, List.setIfInBounds_toArray, List.set_cons_zero, List.set_cons_succ, i64_w, i32_w]
                      rfl
                    exact norm_ (by simp only [putAll, Act.put, List.setIfInBounds_toArray, List.set_cons_zero, List.set_cons_succ]) (hCont (gb183) _ ⟨hHeld, (bk BK172), (bk BK183), GW183.out, GE183.out, NB172_183.out, NB183_172.out, (bw HB)⟩)
                  · skip
                    refine box_step ?hg (N := 11) ?hd (cs := #[.int .u64 0, .int .u64 0]) (t := 60) ?hr ?_; (case hd => rfl); (case hg => rfl); (case hr => first | (go_simp; done) | (go_simp; rfl))
                    intro gb183 hg w55 hbox hb
                    have n0_ := bb BK172 hb
                    have n1_ := bs HB hb
                    have n2_ := Aside0.mk (hbox)
                    have n3_ := sz HB hg
                    have n4_ := sz HB hg
                    have n5_ := nl BK172 hg
                    have n6_ := nr BK172 hg
                    clear BK172
                    clear HB
                    have BK172 := n0_
                    have HB := n1_
                    have BK183 := n2_
                    have GW183 := n3_
                    have GE183 := n4_
                    have NB172_183 := n5_
                    have NB183_172 := n6_
                    clear n0_ n1_ n2_ n3_ n4_ n5_ n6_
                    clear hb hbox hg
                    refine hK.out _ _ ⟨(blk_cell BK172.out 0).trans rfl, (blk_cell BK172.out 1).trans rfl⟩ (fun hHeld => ?_)
                    clear hK K
                    refine norm_ (a' := ?_) ?_ ?_
                    rotate_left
                    · show Act.put _ (some 11) _ = _
                      simp only [Act.put, List.setIfInBounds_toArray, List.set_cons_zero, List.set_cons_succ, i64_w, i32_w]
                      rfl
                    refine one_ (i := 5) (N := some 37) #[true, true, true, true, true, true, false, false, false, true, false, false] rfl rfl (one_of HT_.out (by kernel_rfl)) (by decide) (fun K hK => ?_)
                    refine ge Try.func77 #[.agg #[.int .u64 t178, .int .u64 t179], .int .u64 a0] ?_
                    with_reducible refine (sat_Wide_DivMod.calls kj8 t178 t179 a0 t180 t181 t182 _ A27.out).mono ?_
                    rintro e w56 ⟨rfl, hb⟩
                    refine ⟨_, rfl, ?_⟩
                    have n0_ := bb BK172 hb
                    have n1_ := bb BK183 hb
                    have n2_ := bs HB hb
                    clear BK172
                    clear BK183
                    clear HB
                    have BK172 := n0_
                    have BK183 := n1_
                    have HB := n2_
                    clear n0_ n1_ n2_
                    (try clear hb)
                    (try clear hb2)
                    (try clear hk)
                    (try clear hi)
                    refine hK.out _ _ ⟨(blk_cell BK172.out 0).trans rfl, (blk_cell BK172.out 1).trans rfl⟩ (fun hHeld => ?_)
                    clear hK K
                    refine norm_ (a' := ?_) ?_ ?_
                    rotate_left
                    · show Act.put _ (some 37) _ = _
                      simp only [Act.put, List.setIfInBounds_toArray, List.set_cons_zero, List.set_cons_succ, i64_w, i32_w]
                      rfl
                    refine chain_ (fuel := 2) [(6, 0, some 31), (7, 0, some 38), (8, 0, some 39)] #[true, true, true, true, true, true, true, true, true, true, false, false] HT_.out HW_.out (by kernel_rfl) (fun _ _ _ _ _ h => h) (Or.inl (by decide)) rfl ?_
                    (iterate 3 refine lkP ?_); refine .nil ?_
                    exact norm_ (by simp only [putAll, Act.put, List.setIfInBounds_toArray, List.set_cons_zero, List.set_cons_succ]) (hCont (gb183) _ ⟨hHeld, (bk BK172), (bk BK183), GW183.out, GE183.out, NB172_183.out, NB183_172.out, (bw HB)⟩)
                · skip
                  refine box_step ?hg (N := 11) ?hd (cs := #[.int .u64 0, .int .u64 0]) (t := 60) ?hr ?_; (case hd => rfl); (case hg => rfl); (case hr => first | (go_simp; done) | (go_simp; rfl))
                  intro gb183 hg w54 hbox hb
                  have n0_ := bb BK172 hb
                  have n1_ := bs HB hb
                  have n2_ := Aside0.mk (hbox)
                  have n3_ := sz HB hg
                  have n4_ := sz HB hg
                  have n5_ := nl BK172 hg
                  have n6_ := nr BK172 hg
                  clear BK172
                  clear HB
                  have BK172 := n0_
                  have HB := n1_
                  have BK183 := n2_
                  have GW183 := n3_
                  have GE183 := n4_
                  have NB172_183 := n5_
                  have NB183_172 := n6_
                  clear n0_ n1_ n2_ n3_ n4_ n5_ n6_
                  clear hb hbox hg
                  refine hK.out _ _ ⟨(blk_cell BK172.out 0).trans rfl, (blk_cell BK172.out 1).trans rfl⟩ (fun hHeld => ?_)
                  clear hK K
                  refine norm_ (a' := ?_) ?_ ?_
                  rotate_left
                  · show Act.put _ (some 11) _ = _
                    simp only [Act.put, List.setIfInBounds_toArray, List.set_cons_zero, List.set_cons_succ, i64_w, i32_w]
                    rfl
                  refine one_ (i := 3) (N := some 35) #[true, true, true, true, true, false, false, false, false, true, false, false] rfl rfl (one_of HT_.out (by kernel_rfl)) (by decide) (fun K hK => ?_)
                  refine ge Try.func76 #[.agg #[.int .u64 t170, .int .u64 t171], .agg #[.int .u64 t176, .int .u64 t177]] ?_
                  with_reducible refine (sat_Wide_Minus.calls t170 t171 t176 t177 t178 t179 _ A26.out).mono ?_
                  rintro e w55 ⟨rfl, hb⟩
                  refine ⟨_, rfl, ?_⟩
                  have n0_ := bb BK172 hb
                  have n1_ := bb BK183 hb
                  have n2_ := bs HB hb
                  clear BK172
                  clear BK183
                  clear HB
                  have BK172 := n0_
                  have BK183 := n1_
                  have HB := n2_
                  clear n0_ n1_ n2_
                  (try clear hb)
                  (try clear hb2)
                  (try clear hk)
                  (try clear hi)
                  refine hK.out _ _ ⟨(blk_cell BK172.out 0).trans rfl, (blk_cell BK172.out 1).trans rfl⟩ (fun hHeld => ?_)
                  clear hK K
                  refine norm_ (a' := ?_) ?_ ?_
                  rotate_left
                  · show Act.put _ (some 35) _ = _
                    simp only [Act.put, List.setIfInBounds_toArray, List.set_cons_zero, List.set_cons_succ, i64_w, i32_w]
                    rfl
                  refine one_ (i := 5) (N := some 37) #[true, true, true, true, true, true, false, false, false, true, false, false] rfl rfl (one_of HT_.out (by kernel_rfl)) (by decide) (fun K hK => ?_)
                  refine ge Try.func77 #[.agg #[.int .u64 t178, .int .u64 t179], .int .u64 a0] ?_
                  with_reducible refine (sat_Wide_DivMod.calls kj8 t178 t179 a0 t180 t181 t182 _ A27.out).mono ?_
                  rintro e w56 ⟨rfl, hb⟩
                  refine ⟨_, rfl, ?_⟩
                  have n0_ := bb BK172 hb
                  have n1_ := bb BK183 hb
                  have n2_ := bs HB hb
                  clear BK172
                  clear BK183
                  clear HB
                  have BK172 := n0_
                  have BK183 := n1_
                  have HB := n2_
                  clear n0_ n1_ n2_
                  (try clear hb)
                  (try clear hb2)
                  (try clear hk)
                  (try clear hi)
                  refine hK.out _ _ ⟨(blk_cell BK172.out 0).trans rfl, (blk_cell BK172.out 1).trans rfl⟩ (fun hHeld => ?_)
                  clear hK K
                  refine norm_ (a' := ?_) ?_ ?_
                  rotate_left
                  · show Act.put _ (some 37) _ = _
                    simp only [Act.put, List.setIfInBounds_toArray, List.set_cons_zero, List.set_cons_succ, i64_w, i32_w]
                    rfl
                  refine chain_ (fuel := 2) [(6, 0, some 31), (7, 0, some 38), (8, 0, some 39)] #[true, true, true, true, true, true, true, true, true, true, false, false] HT_.out HW_.out (by kernel_rfl) (fun _ _ _ _ _ h => h) (Or.inl (by decide)) rfl ?_
                  (iterate 3 refine lkP ?_); refine .nil ?_
                  exact norm_ (by simp only [putAll, Act.put, List.setIfInBounds_toArray, List.set_cons_zero, List.set_cons_succ]) (hCont (gb183) _ ⟨hHeld, (bk BK172), (bk BK183), GW183.out, GE183.out, NB172_183.out, NB183_172.out, (bw HB)⟩)
              · skip
                refine box_step ?hg (N := 11) ?hd (cs := #[.int .u64 0, .int .u64 0]) (t := 60) ?hr ?_; (case hd => rfl); (case hg => rfl); (case hr => first | (go_simp; done) | (go_simp; rfl))
                intro gb183 hg w53 hbox hb
                have n0_ := bb BK172 hb
                have n1_ := bs HB hb
                have n2_ := Aside0.mk (hbox)
                have n3_ := sz HB hg
                have n4_ := sz HB hg
                have n5_ := nl BK172 hg
                have n6_ := nr BK172 hg
                clear BK172
                clear HB
                have BK172 := n0_
                have HB := n1_
                have BK183 := n2_
                have GW183 := n3_
                have GE183 := n4_
                have NB172_183 := n5_
                have NB183_172 := n6_
                clear n0_ n1_ n2_ n3_ n4_ n5_ n6_
                clear hb hbox hg
                refine hK.out _ _ ⟨(blk_cell BK172.out 0).trans rfl, (blk_cell BK172.out 1).trans rfl⟩ (fun hHeld => ?_)
                clear hK K
                refine norm_ (a' := ?_) ?_ ?_
                rotate_left
                · show Act.put _ (some 11) _ = _
                  simp only [Act.put, List.setIfInBounds_toArray, List.set_cons_zero, List.set_cons_succ, i64_w, i32_w]
                  rfl
                refine one_ (i := 2) (N := some 34) #[true, true, true, false, true, false, false, false, false, true, false, false] rfl rfl (one_of HT_.out (by kernel_rfl)) (by decide) (fun K hK => ?_)
                refine goes_ Try.func18 (by kernel_rfl) rfl #[.int .u64 ji5] (by rfl) rfl rfl (by (try simp only [List.map_toArray, List.map_cons, List.map_nil]); first | done | (simp only [hji5]; rfl) | rfl | (simp only [List.length_drop, List.length_take]; rfl)) ?_
                with_reducible refine (sat_Of.calls ji5 t176 t177 _ A25.out).mono ?_
                rintro e w54 ⟨rfl, hb⟩
                refine ⟨_, rfl, ?_⟩
                have n0_ := bb BK172 hb
                have n1_ := bb BK183 hb
                have n2_ := bs HB hb
                clear BK172
                clear BK183
                clear HB
                have BK172 := n0_
                have BK183 := n1_
                have HB := n2_
                clear n0_ n1_ n2_
                (try clear hb)
                (try clear hb2)
                (try clear hk)
                (try clear hi)
                refine hK.out _ _ ⟨(blk_cell BK172.out 0).trans rfl, (blk_cell BK172.out 1).trans rfl⟩ (fun hHeld => ?_)
                clear hK K
                refine norm_ (a' := ?_) ?_ ?_
                rotate_left
                · show Act.put _ (some 34) _ = _
                  simp only [Act.put, List.setIfInBounds_toArray, List.set_cons_zero, List.set_cons_succ, i64_w, i32_w]
                  rfl
                refine one_ (i := 3) (N := some 35) #[true, true, true, true, true, false, false, false, false, true, false, false] rfl rfl (one_of HT_.out (by kernel_rfl)) (by decide) (fun K hK => ?_)
                refine ge Try.func76 #[.agg #[.int .u64 t170, .int .u64 t171], .agg #[.int .u64 t176, .int .u64 t177]] ?_
                with_reducible refine (sat_Wide_Minus.calls t170 t171 t176 t177 t178 t179 _ A26.out).mono ?_
                rintro e w55 ⟨rfl, hb⟩
                refine ⟨_, rfl, ?_⟩
                have n0_ := bb BK172 hb
                have n1_ := bb BK183 hb
                have n2_ := bs HB hb
                clear BK172
                clear BK183
                clear HB
                have BK172 := n0_
                have BK183 := n1_
                have HB := n2_
                clear n0_ n1_ n2_
                (try clear hb)
                (try clear hb2)
                (try clear hk)
                (try clear hi)
                refine hK.out _ _ ⟨(blk_cell BK172.out 0).trans rfl, (blk_cell BK172.out 1).trans rfl⟩ (fun hHeld => ?_)
                clear hK K
                refine norm_ (a' := ?_) ?_ ?_
                rotate_left
                · show Act.put _ (some 35) _ = _
                  simp only [Act.put, List.setIfInBounds_toArray, List.set_cons_zero, List.set_cons_succ, i64_w, i32_w]
                  rfl
                refine one_ (i := 5) (N := some 37) #[true, true, true, true, true, true, false, false, false, true, false, false] rfl rfl (one_of HT_.out (by kernel_rfl)) (by decide) (fun K hK => ?_)
                refine ge Try.func77 #[.agg #[.int .u64 t178, .int .u64 t179], .int .u64 a0] ?_
                with_reducible refine (sat_Wide_DivMod.calls kj8 t178 t179 a0 t180 t181 t182 _ A27.out).mono ?_
                rintro e w56 ⟨rfl, hb⟩
                refine ⟨_, rfl, ?_⟩
                have n0_ := bb BK172 hb
                have n1_ := bb BK183 hb
                have n2_ := bs HB hb
                clear BK172
                clear BK183
                clear HB
                have BK172 := n0_
                have BK183 := n1_
                have HB := n2_
                clear n0_ n1_ n2_
                (try clear hb)
                (try clear hb2)
                (try clear hk)
                (try clear hi)
                refine hK.out _ _ ⟨(blk_cell BK172.out 0).trans rfl, (blk_cell BK172.out 1).trans rfl⟩ (fun hHeld => ?_)
                clear hK K
                refine norm_ (a' := ?_) ?_ ?_
                rotate_left
                · show Act.put _ (some 37) _ = _
                  simp only [Act.put, List.setIfInBounds_toArray, List.set_cons_zero, List.set_cons_succ, i64_w, i32_w]
                  rfl
                refine chain_ (fuel := 2) [(6, 0, some 31), (7, 0, some 38), (8, 0, some 39)] #[true, true, true, true, true, true, true, true, true, true, false, false] HT_.out HW_.out (by kernel_rfl) (fun _ _ _ _ _ h => h) (Or.inl (by decide)) rfl ?_
                (iterate 3 refine lkP ?_); refine .nil ?_
                exact norm_ (by simp only [putAll, Act.put, List.setIfInBounds_toArray, List.set_cons_zero, List.set_cons_succ]) (hCont (gb183) _ ⟨hHeld, (bk BK172), (bk BK183), GW183.out, GE183.out, NB172_183.out, NB183_172.out, (bw HB)⟩)
            rintro gb183 w57 ⟨hS_, h0_, h1_, h2_, h3_, h4_, h5_, h6_⟩
            have n0_ : Aside0 (w57.heap[gb172]? = some (.cells #[.int .u64 t170, .int .u64 t171] 60 (0, 0))) := ⟨h0_⟩
            have n1_ : Aside0 (w57.heap[gb183]? = some (.cells #[.int .u64 0, .int .u64 0] 60 (0, 0))) := ⟨h1_⟩
            have n2_ : Aside0 (w.heap.size ≤ gb183) := ⟨h2_⟩
            have n3_ : Aside0 (w.heap.size ≤ gb183) := ⟨h3_⟩
            have n4_ : Aside0 (gb172 ≠ gb183) := ⟨h4_⟩
            have n5_ : Aside0 (gb183 ≠ gb172) := ⟨h5_⟩
            have n6_ : Aside0 (Below w.heap.size w w57) := ⟨h6_⟩
            clear BK172
            clear HB
            clear h0_ h1_ h2_ h3_ h4_ h5_ h6_
            have BK172 := n0_
            have BK183 := n1_
            have GW183 := n2_
            have GE183 := n3_
            have NB172_183 := n4_
            have NB183_172 := n5_
            have HB := n6_
            clear n0_ n1_ n2_ n3_ n4_ n5_ n6_
            have hHeld : w57.cell? ⟨gb172, 0, none⟩ = some (.int .u64 t170) ∧ w57.cell? ⟨gb172, 1, none⟩ = some (.int .u64 t171) := hS_
            refine norm_ (a' := ?_) ?_ ?_
            rotate_left
            · simp only [putAll, Act.put, List.setIfInBounds_toArray, List.set_cons_zero, List.set_cons_succ]
              rfl
            refine one_ (i := 10) (N := none) #[true, true, true, true, true, true, true, true, true, true, true, false] rfl rfl (one_of HT_.out (by kernel_rfl)) (by decide) (fun K hK => ?_)
            have hs58 : w57.cell? ⟨gb183, 0, none⟩ = some (.int .u64 0) := (blk_cell BK183.out 0).trans rfl
            have hfs58 := blk_frozen BK183.out 0
            have hns58_0 := NB172_183.out
            have hms58_0 := NB183_172.out
            have hs59 : w57.cell? ⟨gb183, 1, none⟩ = some (.int .u64 0) := (blk_cell BK183.out 1).trans rfl
            have hfs59 := blk_frozen BK183.out 1
            have hns59_0 := NB172_183.out
            have hms59_0 := NB183_172.out
            refine skip_ (w1 := ?_) (by rfl) rfl ?_ ?_
            rotate_left
            · go_simp
              rfl
            refine hK.out _ _ ⟨((cell_far (p := ⟨gb183, _, none⟩) NB172_183.out _).trans (((cell_far (p := ⟨gb183, _, none⟩) NB172_183.out _).trans (hHeld.1)))), ((cell_far (p := ⟨gb183, _, none⟩) NB172_183.out _).trans (((cell_far (p := ⟨gb183, _, none⟩) NB172_183.out _).trans (hHeld.2))))⟩ (fun hHeld => ?_)
            clear hK K
            refine chain_ (fuel := 0) [(11, 0, some 12)] #[true, true, true, true, true, true, true, true, true, true, true, true] HT_.out HW_.out (by kernel_rfl) (fun _ _ _ _ _ h => h) (Or.inl (by decide)) rfl ?_
            refine lkP ?_; refine .nil ?_
            refine done_ (done_of HT_.out (by kernel_rfl)) ?_
            try go_wp2
            have n0_ : Aside0 (((w57.setCell ⟨gb183, 0, none⟩ (.int .u64 t180)).setCell ⟨gb183, 1, none⟩ (.int .u64 t181)).heap[gb172]? = some (.cells #[.int .u64 t170, .int .u64 t171] 60 (0, 0))) := ⟨bk BK172⟩
            have n1_ : Aside0 (((w57.setCell ⟨gb183, 0, none⟩ (.int .u64 t180)).setCell ⟨gb183, 1, none⟩ (.int .u64 t181)).heap[gb183]? = some (.cells #[.int .u64 t180, .int .u64 t181] 60 (0, 0))) := ⟨bk BK183⟩
            have n2_ : Aside0 (Below w.heap.size w ((w57.setCell ⟨gb183, 0, none⟩ (.int .u64 t180)).setCell ⟨gb183, 1, none⟩ (.int .u64 t181))) := ⟨bw HB⟩
            (try clear BK172)
            (try clear BK183)
            (try clear HB)
            generalize ((w57.setCell ⟨gb183, 0, none⟩ (.int .u64 t180)).setCell ⟨gb183, 1, none⟩ (.int .u64 t181)) = w60 at n0_ n1_ n2_ ⊢
            have BK172 := n0_
            have BK183 := n1_
            have HB := n2_
            clear n0_ n1_ n2_
            have n0_ := Aside0.mk (blk_drew BK172.out)
            have n1_ := Aside0.mk (blk_drew BK183.out)
            have n2_ := Aside0.mk (below_drew1 HB.out)
            clear BK172
            clear BK183
            clear HB
            have BK172 := n0_
            have BK183 := n1_
            have HB := n2_
            clear n0_ n1_ n2_
            refine start_ (n := 4) (S := fun w' => w'.cell? ⟨gb183, 0, none⟩ = some (.int .u64 t180) ∧ w'.cell? ⟨gb183, 1, none⟩ = some (.int .u64 t181)) (ds := [3]) #[false, false, false, false] (by kernel_rfl) rfl rfl ⟨(blk_cell BK183.out 0).trans rfl, (blk_cell BK183.out 1).trans rfl⟩ (fun hHeld => ?_)
            generalize w60.drew = w61 at BK172 BK183 HB hHeld ⊢
            refine take_ (i := 0) (N := some 40) (v := ?_) (a' := ?_) #[true, false, false, false] rfl rfl (by kernel_rfl) (fun _ _ _ h => h) (Or.inl ⟨by rfl, ?_⟩) hHeld ?_ ?_
            rotate_left
            · rintro w' ⟨s0, s1⟩
              go_simp
              with_reducible rfl
            rotate_left
            · simp only [Act.put, List.setIfInBounds_toArray, List.set_cons_zero, List.set_cons_succ, i64_w, i32_w]
              rfl
            refine one_ (i := 1) (N := some 41) #[true, true, false, false] rfl rfl (by kernel_rfl) (by decide) (fun K hK => ?_)
            refine ge Try.func18 #[.int .u64 1] ?_
            with_reducible refine (sat_Of.calls 1 t184 t185 _ A28.out).mono ?_
            rintro e w62 ⟨rfl, hb⟩
            refine ⟨_, rfl, ?_⟩
            have n0_ := bb BK172 hb
            have n1_ := bb BK183 hb
            have n2_ := bs HB hb
            clear BK172
            clear BK183
            clear HB
            have BK172 := n0_
            have BK183 := n1_
            have HB := n2_
            clear n0_ n1_ n2_
            (try clear hb)
            (try clear hb2)
            (try clear hk)
            (try clear hi)
            refine hK.out _ _ ⟨(blk_cell BK183.out 0).trans rfl, (blk_cell BK183.out 1).trans rfl⟩ (fun hHeld => ?_)
            clear hK K
            refine norm_ (a' := ?_) ?_ ?_
            rotate_left
            · show Act.put _ (some 41) _ = _
              simp only [Act.put, List.setIfInBounds_toArray, List.set_cons_zero, List.set_cons_succ, i64_w, i32_w]
              rfl
            refine one_ (i := 2) (N := some 42) #[true, true, true, false] rfl rfl (by kernel_rfl) (by decide) (fun K hK => ?_)
            refine ge Try.func19 #[.agg #[.int .u64 t180, .int .u64 t181], .agg #[.int .u64 t184, .int .u64 t185]] ?_
            with_reducible refine (sat_Wide_Plus.calls t180 t181 t184 t185 t186 t187 _ A29.out).mono ?_
            rintro e w63 ⟨rfl, hb⟩
            refine ⟨_, rfl, ?_⟩
            have n0_ := bb BK172 hb
            have n1_ := bb BK183 hb
            have n2_ := bs HB hb
            clear BK172
            clear BK183
            clear HB
            have BK172 := n0_
            have BK183 := n1_
            have HB := n2_
            clear n0_ n1_ n2_
            (try clear hb)
            (try clear hb2)
            (try clear hk)
            (try clear hi)
            refine hK.out _ _ ⟨(blk_cell BK183.out 0).trans rfl, (blk_cell BK183.out 1).trans rfl⟩ (fun hHeld => ?_)
            clear hK K
            refine norm_ (a' := ?_) ?_ ?_
            rotate_left
            · show Act.put _ (some 42) _ = _
              simp only [Act.put, List.setIfInBounds_toArray, List.set_cons_zero, List.set_cons_succ, i64_w, i32_w]
              rfl
            refine last_ (i := 3) (N := none) #[true, true, true, true] rfl rfl (by kernel_rfl) (by decide) (fun K hK => ?_)
            have hs64 : w63.cell? ⟨gb183, 0, none⟩ = some (.int .u64 t180) := (blk_cell BK183.out 0).trans rfl
            have hfs64 := blk_frozen BK183.out 0
            have hns64_0 := NB172_183.out
            have hms64_0 := NB183_172.out
            have hs65 : w63.cell? ⟨gb183, 1, none⟩ = some (.int .u64 t181) := (blk_cell BK183.out 1).trans rfl
            have hfs65 := blk_frozen BK183.out 1
            have hns65_0 := NB172_183.out
            have hms65_0 := NB183_172.out
            refine skip_ (w1 := ?_) (by rfl) rfl ?_ ?_
            rotate_left
            · go_simp
              rfl
            refine hK.out _ _ ?_
            clear hK K
            refine done_ (by kernel_rfl) ?_
            try go_wp2
            have n0_ : Aside0 (((w63.setCell ⟨gb183, 0, none⟩ (.int .u64 t186)).setCell ⟨gb183, 1, none⟩ (.int .u64 t187)).heap[gb172]? = some (.cells #[.int .u64 t170, .int .u64 t171] 60 (0, 0))) := ⟨bk BK172⟩
            have n1_ : Aside0 (((w63.setCell ⟨gb183, 0, none⟩ (.int .u64 t186)).setCell ⟨gb183, 1, none⟩ (.int .u64 t187)).heap[gb183]? = some (.cells #[.int .u64 t186, .int .u64 t187] 60 (0, 0))) := ⟨bk BK183⟩
            have n2_ : Aside0 (Below w.heap.size w ((w63.setCell ⟨gb183, 0, none⟩ (.int .u64 t186)).setCell ⟨gb183, 1, none⟩ (.int .u64 t187))) := ⟨bw HB⟩
            (try clear BK172)
            (try clear BK183)
            (try clear HB)
            generalize ((w63.setCell ⟨gb183, 0, none⟩ (.int .u64 t186)).setCell ⟨gb183, 1, none⟩ (.int .u64 t187)) = w66 at n0_ n1_ n2_ ⊢
            have BK172 := n0_
            have BK183 := n1_
            have HB := n2_
            clear n0_ n1_ n2_
            have n0_ := Aside0.mk (blk_drew BK172.out)
            have n1_ := Aside0.mk (blk_drew BK183.out)
            have n2_ := Aside0.mk (below_drew1 HB.out)
            clear BK172
            clear BK183
            clear HB
            have BK172 := n0_
            have BK183 := n1_
            have HB := n2_
            clear n0_ n1_ n2_
            refine start_ (n := 5) (S := fun w' => w'.cell? ⟨gb183, 0, none⟩ = some (.int .u64 t186) ∧ w'.cell? ⟨gb183, 1, none⟩ = some (.int .u64 t187)) (ds := []) #[false, false, false, false, false] (by kernel_rfl) rfl rfl ⟨(blk_cell BK183.out 0).trans rfl, (blk_cell BK183.out 1).trans rfl⟩ (fun hHeld => ?_)
            generalize w66.drew = w67 at BK172 BK183 HB hHeld ⊢
            refine pure_ (i := 1) (N := some 48) (v := ?_) (a' := ?_) #[false, true, false, false, false] rfl rfl (by kernel_rfl) (fun _ _ _ h => h) (Or.inl ⟨by rfl, ?_⟩) ?_ ?_
            rotate_left
            · intro w'
              go_simp
              with_reducible rfl
            rotate_left
            · simp only [Act.put, List.setIfInBounds_toArray, List.set_cons_zero, List.set_cons_succ, i64_w, i32_w]
              rfl
            refine take_ (i := 0) (N := some 47) (v := ?_) (a' := ?_) #[true, true, false, false, false] rfl rfl (by kernel_rfl) (fun _ _ _ h => h) (Or.inl ⟨by rfl, ?_⟩) hHeld ?_ ?_
            rotate_left
            · rintro w' ⟨s0, s1⟩
              go_simp
              with_reducible rfl
            rotate_left
            · simp only [Act.put, List.setIfInBounds_toArray, List.set_cons_zero, List.set_cons_succ, i64_w, i32_w]
              rfl
            refine one_ (i := 2) (N := some 49) #[true, true, true, false, false] rfl rfl (by kernel_rfl) (by decide) (fun K hK => ?_)
            refine goes_ Try.func18 (by kernel_rfl) rfl #[.int .u64 (IntKind.u64.wrap (Int.tdiv (IntKind.u64.wrap (18446744073709551615 - ji5)) a0))] (by rfl) rfl rfl (by (try simp only [List.map_toArray, List.map_cons, List.map_nil]); first | done | (simp only [hji5]; rfl) | rfl | (simp only [List.length_drop, List.length_take]; rfl)) ?_
            with_reducible refine (sat_Of.calls (IntKind.u64.wrap (Int.tdiv (IntKind.u64.wrap (18446744073709551615 - ji5)) a0)) t188 t189 _ A31.out).mono ?_
            rintro e w68 ⟨rfl, hb⟩
            refine ⟨_, rfl, ?_⟩
            have n0_ := bb BK172 hb
            have n1_ := bb BK183 hb
            have n2_ := bs HB hb
            clear BK172
            clear BK183
            clear HB
            have BK172 := n0_
            have BK183 := n1_
            have HB := n2_
            clear n0_ n1_ n2_
            (try clear hb)
            (try clear hb2)
            (try clear hk)
            (try clear hi)
            refine hK.out _ _ ⟨(blk_cell BK183.out 0).trans rfl, (blk_cell BK183.out 1).trans rfl⟩ (fun hHeld => ?_)
            clear hK K
            refine norm_ (a' := ?_) ?_ ?_
            rotate_left
            · show Act.put _ (some 49) _ = _
              simp only [Act.put, List.setIfInBounds_toArray, List.set_cons_zero, List.set_cons_succ, i64_w, i32_w]
              rfl
            refine one_ (i := 3) (N := some 50) #[true, true, true, true, false] rfl rfl (by kernel_rfl) (by decide) (fun K hK => ?_)
            refine ge Try.func21 #[.agg #[.int .u64 t186, .int .u64 t187], .agg #[.int .u64 t188, .int .u64 t189]] ?_
            with_reducible refine (sat_Wide_Cmp.calls t186 t187 t188 t189 t190 _ A32.out).mono ?_
            rintro e w69 ⟨rfl, hb⟩
            refine ⟨_, rfl, ?_⟩
            have n0_ := bb BK172 hb
            have n1_ := bb BK183 hb
            have n2_ := bs HB hb
            clear BK172
            clear BK183
            clear HB
            have BK172 := n0_
            have BK183 := n1_
            have HB := n2_
            clear n0_ n1_ n2_
            (try clear hb)
            (try clear hb2)
            (try clear hk)
            (try clear hi)
            refine hK.out _ _ ⟨(blk_cell BK183.out 0).trans rfl, (blk_cell BK183.out 1).trans rfl⟩ (fun hHeld => ?_)
            clear hK K
            refine norm_ (a' := ?_) ?_ ?_
            rotate_left
            · show Act.put _ (some 50) _ = _
              simp only [Act.put, List.setIfInBounds_toArray, List.set_cons_zero, List.set_cons_succ, i64_w, i32_w]
              rfl
            refine pure_ (i := 4) (N := some 51) (v := ?_) (a' := ?_) #[true, true, true, true, true] rfl rfl (by kernel_rfl) (fun _ _ _ h => h) (Or.inl ⟨by rfl, ?_⟩) ?_ ?_
            rotate_left
            · intro w'
              go_simp
              with_reducible rfl
            rotate_left
            · simp only [Act.put, List.setIfInBounds_toArray, List.set_cons_zero, List.set_cons_succ, i64_w, i32_w]
              rfl
            refine done_ (by kernel_rfl) ?_
            have hnb70 := NB183_172.out
            have hnc70 := NB172_183.out
            obtain ⟨hcz71_0, hcz71_1, hfz71_0, hfz71_1⟩ := bc2 BK183
            try go_wp2
            go_ret
            exact ⟨by first | rfl | (simp [errW_none, errW_some] <;> rfl) | (simp only [← hji5]; first | rfl | (simp [errW_none, errW_some] <;> rfl)) | (simp [*, errW_none, errW_some] <;> rfl), bw HB⟩

end Go.Proofs.Ytdoifmefhofnnaa.D
