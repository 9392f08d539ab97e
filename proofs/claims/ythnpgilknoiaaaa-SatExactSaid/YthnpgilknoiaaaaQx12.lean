/- Written by the session's own program hyb.py: what functions of the program compute; Lean checks it. -/
import Derived.Test.YthnpgilknoiaaaaQx0
import Derived.Test.YthnpgilknoiaaaaQx9
import Derived.Test.YthnpgilknoiaaaaQx10
namespace Go.Proofs.Ythnpgilknoiaaaa.Q
open Go.RowKit Go.Proofs.YthnpgilknoiaaaaW.PrintWords Go.Proofs.YthnpgilknoiaaaaW.PrintLast Go.Proofs.YthnpgilknoiaaaaW.PrintMore Go.Proofs.YthnpgilknoiaaaaW.PrintShort
attribute [local go_sem] run_Add64 run_Sub64
attribute [local go_sem] max2_int min2_int max_two min_two max_three min_three max_four min_four   -- for this text's walks alone
set_option linter.unusedVariables false
set_option linter.unusedSimpArgs false

/-! ### turnstileref03_Wide_Plus: function 49 -/
def turnstileref03_Wide_Plus.f (k : Nat) (a0_0 : Int) (a0_1 : Int) (a1_0 : Int) (a1_1 : Int) : Option (Int × Int) := (turnstileref03_of.f k a0_0 a0_1).bind fun t264 => ((turnstileref03_of.f k a1_0 a1_1).bind fun t267 => ((turnstileref03_sum.f k t264 t267).bind fun t270 => ((turnstileref03_number.f k t270).bind fun bt273 => (some (bt273.1, bt273.2)))))
theorem turnstileref03_Wide_Plus.mono : ∀ a0 a1 a2 a3 k, LeO (turnstileref03_Wide_Plus.f k a0 a1 a2 a3) (turnstileref03_Wide_Plus.f (k + 1) a0 a1 a2 a3) := by
  intro a0 a1 a2 a3 k
  unfold turnstileref03_Wide_Plus.f
  repeat' first
      | (with_reducible exact turnstileref03_number.mono _ _)
      | (with_reducible exact turnstileref03_of.mono _ _ _)
      | (with_reducible exact turnstileref03_sum.mono _ _ _)
      | (with_reducible exact LeO.refl _)
      | (with_reducible exact LeO.none _)
      | (with_reducible refine LeO.ite ?_ ?_)
      | (with_reducible refine LeO.bind ?_ (fun _ => ?_))
      | exact turnstileref03_number.mono _ _
      | exact turnstileref03_of.mono _ _ _
      | exact turnstileref03_sum.mono _ _ _
      | exact LeO.none _
      | refine LeO.ite ?_ ?_
      | refine LeO.bind ?_ (fun _ => ?_)
def turnstileref03_Wide_Plus.T1 : Bool × List (List Nat × List Nat) := (true, [([], []), ([0], [0]), ([], []), ([2], [2]), ([1, 3], [1, 3]), ([], []), ([5], [5]), ([], []), ([7], [7]), ([6, 8, 4], [6, 8]), ([4, 9, 9], [4, 9]), ([10, 10], [10]), ([11, 11, 0, 1, 2, 3, 4, 5, 6, 7, 8, 9, 10, 11], [11])])
def turnstileref03_Wide_Plus.B1 : List Nat := [0, 1, 0, 4, 15, 0, 32, 0, 128, 511, 1023, 2047, 4095]
theorem turnstileref03_Wide_Plus.tab1 : rtab .any (opsOf Try.f49 1) = turnstileref03_Wide_Plus.T1 := by kernel_rfl
theorem turnstileref03_Wide_Plus.bits1 : waitsOk turnstileref03_Wide_Plus.T1.2 turnstileref03_Wide_Plus.B1 = true := by kernel_rfl
set_option maxHeartbeats 8000000 in
set_option maxRecDepth 100000 in
theorem turnstileref03_Wide_Plus.calls (k : Nat) (a0_0 : Int) (a0_1 : Int) (a1_0 : Int) (a1_1 : Int) (r1 : Int) (r2 : Int) (w : World) (h : turnstileref03_Wide_Plus.f k a0_0 a0_1 a1_0 a1_1 = some (r1, r2)) :
    Calls Try.prog 49 #[.agg #[.int .u64 a0_0, .int .u64 a0_1], .agg #[.int .u64 a1_0, .int .u64 a1_1]] w fun e w' => e = .returned (.agg #[.int .u64 r1, .int .u64 r2]) ∧ Below w.heap.size w w' := by
  have hu66 := Try.underlying66
  have HB := Aside0.mk (Below.refl w.heap.size w)
  have H : ((turnstileref03_of.f k a0_0 a0_1).bind fun t264 => ((turnstileref03_of.f k a1_0 a1_1).bind fun t267 => ((turnstileref03_sum.f k t264 t267).bind fun t270 => ((turnstileref03_number.f k t270).bind fun bt273 => (some (bt273.1, bt273.2)))))) = some (r1, r2) := h
  clear h
  replace H := Option.bind_eq_some_iff.mp H
  obtain ⟨t264, A30, H⟩ := H
  replace H : ((turnstileref03_of.f k a1_0 a1_1).bind fun t267 => ((turnstileref03_sum.f k t264 t267).bind fun t270 => ((turnstileref03_number.f k t270).bind fun bt273 => (some (bt273.1, bt273.2))))) = some (r1, r2) := H
  have A3 := Aside0.mk A30
  clear A30
  replace H := Option.bind_eq_some_iff.mp H
  obtain ⟨t267, A40, H⟩ := H
  replace H : ((turnstileref03_sum.f k t264 t267).bind fun t270 => ((turnstileref03_number.f k t270).bind fun bt273 => (some (bt273.1, bt273.2)))) = some (r1, r2) := H
  have A4 := Aside0.mk A40
  clear A40
  replace H := Option.bind_eq_some_iff.mp H
  obtain ⟨t270, A50, H⟩ := H
  replace H : ((turnstileref03_number.f k t270).bind fun bt273 => (some (bt273.1, bt273.2))) = some (r1, r2) := H
  have A5 := Aside0.mk A50
  clear A50
  replace H := Option.bind_eq_some_iff.mp H
  obtain ⟨⟨t273, t274⟩, A60, H⟩ := H
  replace H : (some (t273, t274)) = some (r1, r2) := H
  have A6 := Aside0.mk A60
  clear A60
  simp only [Option.some.injEq, Prod.mk.injEq] at H
  obtain ⟨rfl, rfl⟩ := H
  go_enter Try.func49, Try.ntmps49
  try go_wp2_with (first | ((with_reducible refine gate_dst (N := 2) rfl ?_); refine bx 2 #[.int .u64 a0_0, .int .u64 a0_1] 66 ?_; intro gb261 hg w7 hbox hb; have n0_ := bs HB hb; have n1_ := Aside0.mk (hbox); have n2_ := sz HB hg; have n3_ := sz HB hg; clear HB; have HB := n0_; have BK261 := n1_; have GW261 := n2_; have GE261 := n3_; clear n0_ n1_ n2_ n3_; clear hb hbox hg) | ((with_reducible refine gate_dst (N := 3) rfl ?_); refine bx 3 #[.int .u64 a1_0, .int .u64 a1_1] 66 ?_; intro gb262 hg w8 hbox hb; have n0_ := bb BK261 hb; have n1_ := bs HB hb; have n2_ := Aside0.mk (hbox); have n3_ := sz HB hg; have n4_ := sz HB hg; have n5_ := nl BK261 hg; have n6_ := nr BK261 hg; clear BK261; clear HB; have BK261 := n0_; have HB := n1_; have BK262 := n2_; have GW262 := n3_; have GE262 := n4_; have NB261_262 := n5_; have NB262_261 := n6_; clear n0_ n1_ n2_ n3_ n4_ n5_ n6_; clear hb hbox hg) | ((with_reducible refine gate_dst (N := 4) rfl ?_); refine bx 4 #[.int .u64 0, .int .u64 0] 66 ?_; intro gb263 hg w9 hbox hb; have n0_ := bb BK261 hb; have n1_ := bb BK262 hb; have n2_ := bs HB hb; have n3_ := Aside0.mk (hbox); have n4_ := sz HB hg; have n5_ := sz HB hg; have n6_ := nl BK261 hg; have n7_ := nr BK261 hg; have n8_ := nl BK262 hg; have n9_ := nr BK262 hg; clear BK261; clear BK262; clear HB; have BK261 := n0_; have BK262 := n1_; have HB := n2_; have BK263 := n3_; have GW263 := n4_; have GE263 := n5_; have NB261_263 := n6_; have NB263_261 := n7_; have NB262_263 := n8_; have NB263_262 := n9_; clear n0_ n1_ n2_ n3_ n4_ n5_ n6_ n7_ n8_ n9_; clear hb hbox hg))
  have n0_ := Aside0.mk (blk_drew BK261.out)
  have n1_ := Aside0.mk (blk_drew BK262.out)
  have n2_ := Aside0.mk (blk_drew BK263.out)
  have n3_ := Aside0.mk (below_drew1 HB.out)
  clear BK261
  clear BK262
  clear BK263
  clear HB
  have BK261 := n0_
  have BK262 := n1_
  have BK263 := n2_
  have HB := n3_
  clear n0_ n1_ n2_ n3_
  refine start_ (n := 13) (S := fun w' => w'.cell? ⟨gb261, 0, none⟩ = some (.int .u64 a0_0) ∧ w'.cell? ⟨gb261, 1, none⟩ = some (.int .u64 a0_1) ∧ w'.cell? ⟨gb262, 0, none⟩ = some (.int .u64 a1_0) ∧ w'.cell? ⟨gb262, 1, none⟩ = some (.int .u64 a1_1)) (ds := []) #[false, false, false, false, false, false, false, false, false, false, false, false, false] (by kernel_rfl) rfl rfl ⟨(blk_cell BK261.out 0).trans rfl, (blk_cell BK261.out 1).trans rfl, (blk_cell BK262.out 0).trans rfl, (blk_cell BK262.out 1).trans rfl⟩ (fun hHeld => ?_); refine with_tabW turnstileref03_Wide_Plus.tab1 turnstileref03_Wide_Plus.bits1 (fun HT_ HW_ => ?_)
  generalize w9.drew = w10 at BK261 BK262 BK263 HB hHeld ⊢
  refine chain_ (fuel := 5) [(0, 0, some 5), (2, 0, some 7), (5, 0, some 10), (7, 0, some 12), (1, 1, some 6), (3, 1, some 8), (6, 1, some 11), (8, 1, some 13)] #[true, true, true, true, false, true, true, true, true, false, false, false, false] HT_.out HW_.out (by kernel_rfl) (fun _ _ _ _ _ h => h) (Or.inr hHeld) rfl ?_
  (iterate 4 refine lkP ?_); (iterate 4 refine lkT ?_); refine .nil ?_
  refine one_ (i := 4) (N := some 9) #[true, true, true, true, true, true, true, true, true, false, false, false, false] rfl rfl (one_of HT_.out (by kernel_rfl)) (by decide) (fun K hK => ?_)
  refine ge Try.func61 #[.int .u64 a0_0, .int .u64 a0_1] ?_
  with_reducible refine (turnstileref03_of.calls k a0_0 a0_1 t264 _ A3.out).mono ?_
  rintro e w11 ⟨v265, rfl, ho0, hb⟩
  refine ⟨_, rfl, ?_⟩
  have n0_ := Aside0.mk (Kd.R_lower ho0 (below_size (bw HB)))
  have n1_ := bb BK261 hb
  have n2_ := bb BK262 hb
  have n3_ := bb BK263 hb
  have n4_ := bs HB hb
  clear BK261
  clear BK262
  clear BK263
  clear HB
  have HO266 := n0_
  have BK261 := n1_
  have BK262 := n2_
  have BK263 := n3_
  have HB := n4_
  clear n0_ n1_ n2_ n3_ n4_
  (try clear hb)
  (try clear hb2)
  (try clear hk)
  (try clear hi)
  (try clear ho0)
  refine hK.out _ _ ⟨(blk_cell BK261.out 0).trans rfl, (blk_cell BK261.out 1).trans rfl, (blk_cell BK262.out 0).trans rfl, (blk_cell BK262.out 1).trans rfl⟩ (fun hHeld => ?_)
  clear hK K
  refine norm_ (a' := ?_) ?_ ?_
  rotate_left
  · show Act.put _ (some 9) _ = _
    simp only [Act.put, List.setIfInBounds_toArray, List.set_cons_zero, List.set_cons_succ, i64_w, i32_w]
    rfl
  refine one_ (i := 9) (N := some 14) #[true, true, true, true, true, true, true, true, true, true, false, false, false] rfl rfl (one_of HT_.out (by kernel_rfl)) (by decide) (fun K hK => ?_)
  refine ge Try.func61 #[.int .u64 a1_0, .int .u64 a1_1] ?_
  with_reducible refine (turnstileref03_of.calls k a1_0 a1_1 t267 _ A4.out).mono ?_
  rintro e w12 ⟨v268, rfl, ho0, hb⟩
  refine ⟨_, rfl, ?_⟩
  have n0_ := Aside0.mk (Kd.R_elder' (by (with_reducible repeat (first | apply Kd.R_alloc | apply Kd.R_drewN | apply Kd.R_drew)); exact HO266.out) (Kd.R_base ho0) hb)
  have n1_ := Aside0.mk (Kd.R_lower (Kd.R_new' ho0 (Kd.R_lt (by (with_reducible repeat (first | apply Kd.R_alloc | apply Kd.R_drewN | apply Kd.R_drew)); exact HO266.out))) (below_size (bw HB)))
  have n2_ := bb BK261 hb
  have n3_ := bb BK262 hb
  have n4_ := bb BK263 hb
  have n5_ := bs HB hb
  clear HO266
  clear BK261
  clear BK262
  clear BK263
  clear HB
  have HO266 := n0_
  have HO269 := n1_
  have BK261 := n2_
  have BK262 := n3_
  have BK263 := n4_
  have HB := n5_
  clear n0_ n1_ n2_ n3_ n4_ n5_
  (try clear hb)
  (try clear hb2)
  (try clear hk)
  (try clear hi)
  (try clear ho0)
  obtain ⟨Ao13, co13, eo13⟩ := Kd.R_slice HO266.out
  (first | subst eo13 | (injection eo13 with f1_ f2_ f3_; have f4_ := f1_.symm; have f5_ := f3_.symm; clear f1_ f2_ f3_; subst f4_; subst f5_))
  obtain ⟨Ao14, co14, eo14⟩ := Kd.R_slice HO269.out
  (first | subst eo14 | (injection eo14 with f1_ f2_ f3_; have f4_ := f1_.symm; have f5_ := f3_.symm; clear f1_ f2_ f3_; subst f4_; subst f5_))
  refine hK.out _ _ ⟨(blk_cell BK261.out 0).trans rfl, (blk_cell BK261.out 1).trans rfl, (blk_cell BK262.out 0).trans rfl, (blk_cell BK262.out 1).trans rfl⟩ (fun hHeld => ?_)
  clear hK K
  refine norm_ (a' := ?_) ?_ ?_
  rotate_left
  · show Act.put _ (some 14) _ = _
    simp only [Act.put, List.setIfInBounds_toArray, List.set_cons_zero, List.set_cons_succ, i64_w, i32_w]
    rfl
  refine one_ (i := 10) (N := some 15) #[true, true, true, true, true, true, true, true, true, true, true, false, false] rfl rfl (one_of HT_.out (by kernel_rfl)) (by decide) (fun K hK => ?_)
  refine ge Try.func60 #[.slice Ao13 t264.length co13, .slice Ao14 t267.length co14] ?_
  with_reducible refine (turnstileref03_sum.calls k _ _ t264 _ _ t267 t270 _ ?side1 ?side2 ?side3 ?side4 A5.out).mono ?_
  (case side1 => repeat (first | exact (Kd.R_reads' HO266.out).2.2 | (with_reducible refine Kd.C_alloc ?_ _) | (with_reducible refine Kd.C_drewN ?_ _) | (with_reducible refine Kd.C_drew ?_)))
  (case side2 => exact (Kd.R_reads' HO266.out).2.1)
  (case side3 => repeat (first | exact (Kd.R_reads' HO269.out).2.2 | (with_reducible refine Kd.C_alloc ?_ _) | (with_reducible refine Kd.C_drewN ?_ _) | (with_reducible refine Kd.C_drew ?_)))
  (case side4 => exact (Kd.R_reads' HO269.out).2.1)
  rintro e w15 ⟨v271, rfl, ho0, hb⟩
  refine ⟨_, rfl, ?_⟩
  have n0_ := Aside0.mk (Kd.R_elder' (by (with_reducible repeat (first | apply Kd.R_alloc | apply Kd.R_drewN | apply Kd.R_drew)); exact HO266.out) (Kd.R_base ho0) hb)
  have n1_ := Aside0.mk (Kd.R_elder' (by (with_reducible repeat (first | apply Kd.R_alloc | apply Kd.R_drewN | apply Kd.R_drew)); exact HO269.out) (Kd.R_base ho0) hb)
  have n2_ := Aside0.mk (Kd.R_lower (Kd.R_new' (Kd.R_new' ho0 (Kd.R_lt (by (with_reducible repeat (first | apply Kd.R_alloc | apply Kd.R_drewN | apply Kd.R_drew)); exact HO266.out))) (Kd.R_lt (by (with_reducible repeat (first | apply Kd.R_alloc | apply Kd.R_drewN | apply Kd.R_drew)); exact HO269.out))) (below_size (bw HB)))
  have n3_ := bb BK261 hb
  have n4_ := bb BK262 hb
  have n5_ := bb BK263 hb
  have n6_ := bs HB hb
  clear HO266
  clear HO269
  clear BK261
  clear BK262
  clear BK263
  clear HB
  have HO266 := n0_
  have HO269 := n1_
  have HO272 := n2_
  have BK261 := n3_
  have BK262 := n4_
  have BK263 := n5_
  have HB := n6_
  clear n0_ n1_ n2_ n3_ n4_ n5_ n6_
  (try clear hb)
  (try clear hb2)
  (try clear hk)
  (try clear hi)
  (try clear ho0)
  obtain ⟨Ao16, co16, eo16⟩ := Kd.R_slice HO272.out
  (first | subst eo16 | (injection eo16 with f1_ f2_ f3_; have f4_ := f1_.symm; have f5_ := f3_.symm; clear f1_ f2_ f3_; subst f4_; subst f5_))
  refine hK.out _ _ ⟨(blk_cell BK261.out 0).trans rfl, (blk_cell BK261.out 1).trans rfl, (blk_cell BK262.out 0).trans rfl, (blk_cell BK262.out 1).trans rfl⟩ (fun hHeld => ?_)
  clear hK K
  refine norm_ (a' := ?_) ?_ ?_
  rotate_left
  · show Act.put _ (some 15) _ = _
    simp only [Act.put, List.setIfInBounds_toArray, List.set_cons_zero, List.set_cons_succ, i64_w, i32_w]
    rfl
  refine one_ (i := 11) (N := some 16) #[true, true, true, true, true, true, true, true, true, true, true, true, false] rfl rfl (one_of HT_.out (by kernel_rfl)) (by decide) (fun K hK => ?_)
  refine ge Try.func59 #[.slice Ao16 t270.length co16] ?_
  with_reducible refine (turnstileref03_number.calls k _ _ t270 t273 t274 _ ?side1 ?side2 A6.out).mono ?_
  (case side1 => repeat (first | exact (Kd.R_reads' HO272.out).2.2 | (with_reducible refine Kd.C_alloc ?_ _) | (with_reducible refine Kd.C_drewN ?_ _) | (with_reducible refine Kd.C_drew ?_)))
  (case side2 => exact (Kd.R_reads' HO272.out).2.1)
  rintro e w17 ⟨rfl, hb⟩
  refine ⟨_, rfl, ?_⟩
  have n0_ := Aside0.mk (Kd.R_below (by (with_reducible repeat (first | apply Kd.R_alloc | apply Kd.R_drewN | apply Kd.R_drew)); exact HO266.out) hb)
  have n1_ := Aside0.mk (Kd.R_below (by (with_reducible repeat (first | apply Kd.R_alloc | apply Kd.R_drewN | apply Kd.R_drew)); exact HO269.out) hb)
  have n2_ := Aside0.mk (Kd.R_below (by (with_reducible repeat (first | apply Kd.R_alloc | apply Kd.R_drewN | apply Kd.R_drew)); exact HO272.out) hb)
  have n3_ := bb BK261 hb
  have n4_ := bb BK262 hb
  have n5_ := bb BK263 hb
  have n6_ := bs HB hb
  clear HO266
  clear HO269
  clear HO272
  clear BK261
  clear BK262
  clear BK263
  clear HB
  have HO266 := n0_
  have HO269 := n1_
  have HO272 := n2_
  have BK261 := n3_
  have BK262 := n4_
  have BK263 := n5_
  have HB := n6_
  clear n0_ n1_ n2_ n3_ n4_ n5_ n6_
  (try clear hb)
  (try clear hb2)
  (try clear hk)
  (try clear hi)
  refine hK.out _ _ ⟨(blk_cell BK261.out 0).trans rfl, (blk_cell BK261.out 1).trans rfl, (blk_cell BK262.out 0).trans rfl, (blk_cell BK262.out 1).trans rfl⟩ (fun hHeld => ?_)
  clear hK K
  refine norm_ (a' := ?_) ?_ ?_
  rotate_left
  · show Act.put _ (some 16) _ = _
    simp only [Act.put, List.setIfInBounds_toArray, List.set_cons_zero, List.set_cons_succ, i64_w, i32_w]
    rfl
  refine one_ (i := 12) (N := none) #[true, true, true, true, true, true, true, true, true, true, true, true, true] rfl rfl (one_of HT_.out (by kernel_rfl)) (by decide) (fun K hK => ?_)
  have hs18 : w17.cell? ⟨gb263, 0, none⟩ = some (.int .u64 0) := (blk_cell BK263.out 0).trans rfl
  have hfs18 := blk_frozen BK263.out 0
  have hns18_0 := NB261_263.out
  have hns18_1 := NB262_263.out
  have hms18_0 := NB263_261.out
  have hms18_1 := NB263_262.out
  have hs19 : w17.cell? ⟨gb263, 1, none⟩ = some (.int .u64 0) := (blk_cell BK263.out 1).trans rfl
  have hfs19 := blk_frozen BK263.out 1
  have hns19_0 := NB261_263.out
  have hns19_1 := NB262_263.out
  have hms19_0 := NB263_261.out
  have hms19_1 := NB263_262.out
  refine skip_ (w1 := ?_) (by rfl) rfl ?_ ?_
  rotate_left
  · go_simp
    rfl
  refine hK.out _ _ ⟨((cell_far (p := ⟨gb263, _, none⟩) NB261_263.out _).trans (((cell_far (p := ⟨gb263, _, none⟩) NB261_263.out _).trans (hHeld.1)))), ((cell_far (p := ⟨gb263, _, none⟩) NB261_263.out _).trans (((cell_far (p := ⟨gb263, _, none⟩) NB261_263.out _).trans (hHeld.2.1)))), ((cell_far (p := ⟨gb263, _, none⟩) NB262_263.out _).trans (((cell_far (p := ⟨gb263, _, none⟩) NB262_263.out _).trans (hHeld.2.2.1)))), ((cell_far (p := ⟨gb263, _, none⟩) NB262_263.out _).trans (((cell_far (p := ⟨gb263, _, none⟩) NB262_263.out _).trans (hHeld.2.2.2))))⟩ (fun hHeld => ?_)
  clear hK K
  refine done_ (done_of HT_.out (by kernel_rfl)) ?_
  try go_wp2
  refine bodyPost_ret (results_cell_row rfl _ _ gb263 66 #[.int .u64 t273, .int .u64 t274] (0, 0) _ rfl (bk BK263) Try.underlying66 rfl (by kernel_rfl)) rfl ?_
  exact ⟨re, bw HB⟩

end Go.Proofs.Ythnpgilknoiaaaa.Q
