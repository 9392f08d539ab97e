/- Written by the session's own program hyb.py: what functions of the program compute; Lean checks it. -/
import Derived.Test.YthnpgilknoiaaaaQx0
namespace Go.Proofs.Ythnpgilknoiaaaa.Q
open Go.RowKit Go.Proofs.YthnpgilknoiaaaaW.PrintWords Go.Proofs.YthnpgilknoiaaaaW.PrintLast Go.Proofs.YthnpgilknoiaaaaW.PrintMore Go.Proofs.YthnpgilknoiaaaaW.PrintShort
attribute [local go_sem] run_Add64 run_Sub64
attribute [local go_sem] max2_int min2_int max_two min_two max_three min_three max_four min_four   -- for this text's walks alone
set_option linter.unusedVariables false
set_option linter.unusedSimpArgs false

/-! ### turnstileref03_Wide_DivMod: function 53 -/
mutual
def turnstileref03_Wide_DivMod.l0 : Nat → Int → Int → Int → Int → Int → Int → Int → Option (Int × Int × Int)
  | 0, _, _, _, _, _, _, _ => none
  | k + 1, x1, x7, x8, x309000, x309001, x311000, x311001 => if x8 ≥ 0 then (if x8 ≥ 64 then (if 0 ≤ (wrap64 (x8 - 64)) then (turnstileref03_Wide_DivMod.j1 k x1 x7 x8 (Int.tmod (shr .u64 x309000 (wrap64 (x8 - 64))) 2) x309000 x309001 x311000 x311001) else (none)) else (if 0 ≤ x8 then (turnstileref03_Wide_DivMod.j1 k x1 x7 x8 (Int.tmod (shr .u64 x309001 x8) 2) x309000 x309001 x311000 x311001) else (none))) else (some (x311000, x311001, x7))
def turnstileref03_Wide_DivMod.j1 : Nat → Int → Int → Int → Int → Int → Int → Int → Int → Option (Int × Int × Int)
  | 0, _, _, _, _, _, _, _, _ => none
  | k + 1, x1, x7, x8, x9, x309000, x309001, x311000, x311001 => if x7 ≥ 9223372036854775808 then (turnstileref03_Wide_DivMod.j2 k x1 (IntKind.u64.wrap ((IntKind.u64.wrap (2 * x7)) + x9)) x8 0 true x309000 x309001 x311000 x311001) else (turnstileref03_Wide_DivMod.j2 k x1 (IntKind.u64.wrap ((IntKind.u64.wrap (2 * x7)) + x9)) x8 0 (decide ((IntKind.u64.wrap ((IntKind.u64.wrap (2 * x7)) + x9)) ≥ x1)) x309000 x309001 x311000 x311001)
def turnstileref03_Wide_DivMod.j2 : Nat → Int → Int → Int → Int → Bool → Int → Int → Int → Int → Option (Int × Int × Int)
  | 0, _, _, _, _, _, _, _, _, _ => none
  | k + 1, x1, x7, x8, x11, x44, x309000, x309001, x311000, x311001 => if x44 = true then (if x8 ≥ 64 then (turnstileref03_Wide_DivMod.l0 k x1 (IntKind.u64.wrap (x7 - x1)) (wrap64 (x8 - 1)) x309000 x309001 (IntKind.u64.wrap ((IntKind.u64.wrap (2 * x311000)) + 1)) x311001) else (turnstileref03_Wide_DivMod.l0 k x1 (IntKind.u64.wrap (x7 - x1)) (wrap64 (x8 - 1)) x309000 x309001 x311000 (IntKind.u64.wrap ((IntKind.u64.wrap (2 * x311001)) + 1)))) else (if x8 ≥ 64 then (turnstileref03_Wide_DivMod.l0 k x1 x7 (wrap64 (x8 - 1)) x309000 x309001 (IntKind.u64.wrap ((IntKind.u64.wrap (2 * x311000)) + x11)) x311001) else (turnstileref03_Wide_DivMod.l0 k x1 x7 (wrap64 (x8 - 1)) x309000 x309001 x311000 (IntKind.u64.wrap ((IntKind.u64.wrap (2 * x311001)) + x11))))
end
def turnstileref03_Wide_DivMod.f (k : Nat) (a0_0 : Int) (a0_1 : Int) (a1 : Int) : Option (Int × Int × Int) := if a1 = 0 then (some (0, 0, 0)) else (turnstileref03_Wide_DivMod.l0 k a1 0 127 a0_0 a0_1 0 0)
theorem turnstileref03_Wide_DivMod.mono_l : ∀ k, (∀ y0 y1 y2 y3 y4 y5 y6, LeO (turnstileref03_Wide_DivMod.l0 k y0 y1 y2 y3 y4 y5 y6) (turnstileref03_Wide_DivMod.l0 (k + 1) y0 y1 y2 y3 y4 y5 y6)) ∧ (∀ y0 y1 y2 y3 y4 y5 y6 y7, LeO (turnstileref03_Wide_DivMod.j1 k y0 y1 y2 y3 y4 y5 y6 y7) (turnstileref03_Wide_DivMod.j1 (k + 1) y0 y1 y2 y3 y4 y5 y6 y7)) ∧ (∀ y0 y1 y2 y3 y4 y5 y6 y7 y8, LeO (turnstileref03_Wide_DivMod.j2 k y0 y1 y2 y3 y4 y5 y6 y7 y8) (turnstileref03_Wide_DivMod.j2 (k + 1) y0 y1 y2 y3 y4 y5 y6 y7 y8))
  | 0 => ⟨fun _ _ _ _ _ _ _ r h => by simp [turnstileref03_Wide_DivMod.l0] at h, fun _ _ _ _ _ _ _ _ r h => by simp [turnstileref03_Wide_DivMod.j1] at h, fun _ _ _ _ _ _ _ _ _ r h => by simp [turnstileref03_Wide_DivMod.j2] at h⟩
  | k + 1 => by
    obtain ⟨ih0, ih1, ih2⟩ := turnstileref03_Wide_DivMod.mono_l k
    refine ⟨?_, ?_, ?_⟩
    · intro y0 y1 y2 y3 y4 y5 y6
      unfold turnstileref03_Wide_DivMod.l0
      repeat' first
      | (with_reducible exact ih0 _ _ _ _ _ _ _)
      | (with_reducible exact ih1 _ _ _ _ _ _ _ _)
      | (with_reducible exact ih2 _ _ _ _ _ _ _ _ _)
      | (with_reducible exact LeO.refl _)
      | (with_reducible exact LeO.none _)
      | (with_reducible refine LeO.ite ?_ ?_)
      | (with_reducible refine LeO.bind ?_ (fun _ => ?_))
      | exact ih0 _ _ _ _ _ _ _
      | exact ih1 _ _ _ _ _ _ _ _
      | exact ih2 _ _ _ _ _ _ _ _ _
      | exact LeO.none _
      | refine LeO.ite ?_ ?_
      | refine LeO.bind ?_ (fun _ => ?_)
    · intro y0 y1 y2 y3 y4 y5 y6 y7
      unfold turnstileref03_Wide_DivMod.j1
      repeat' first
      | (with_reducible exact ih0 _ _ _ _ _ _ _)
      | (with_reducible exact ih1 _ _ _ _ _ _ _ _)
      | (with_reducible exact ih2 _ _ _ _ _ _ _ _ _)
      | (with_reducible exact LeO.refl _)
      | (with_reducible exact LeO.none _)
      | (with_reducible refine LeO.ite ?_ ?_)
      | (with_reducible refine LeO.bind ?_ (fun _ => ?_))
      | exact ih0 _ _ _ _ _ _ _
      | exact ih1 _ _ _ _ _ _ _ _
      | exact ih2 _ _ _ _ _ _ _ _ _
      | exact LeO.none _
      | refine LeO.ite ?_ ?_
      | refine LeO.bind ?_ (fun _ => ?_)
    · intro y0 y1 y2 y3 y4 y5 y6 y7 y8
      unfold turnstileref03_Wide_DivMod.j2
      repeat' first
      | (with_reducible exact ih0 _ _ _ _ _ _ _)
      | (with_reducible exact ih1 _ _ _ _ _ _ _ _)
      | (with_reducible exact ih2 _ _ _ _ _ _ _ _ _)
      | (with_reducible exact LeO.refl _)
      | (with_reducible exact LeO.none _)
      | (with_reducible refine LeO.ite ?_ ?_)
      | (with_reducible refine LeO.bind ?_ (fun _ => ?_))
      | exact ih0 _ _ _ _ _ _ _
      | exact ih1 _ _ _ _ _ _ _ _
      | exact ih2 _ _ _ _ _ _ _ _ _
      | exact LeO.none _
      | refine LeO.ite ?_ ?_
      | refine LeO.bind ?_ (fun _ => ?_)
theorem turnstileref03_Wide_DivMod.mono : ∀ a0 a1 a2 k, LeO (turnstileref03_Wide_DivMod.f k a0 a1 a2) (turnstileref03_Wide_DivMod.f (k + 1) a0 a1 a2) := by
  intro a0 a1 a2 k
  obtain ⟨ih0, ih1, ih2⟩ := turnstileref03_Wide_DivMod.mono_l k
  unfold turnstileref03_Wide_DivMod.f
  repeat' first
      | (with_reducible exact ih0 _ _ _ _ _ _ _)
      | (with_reducible exact ih1 _ _ _ _ _ _ _ _)
      | (with_reducible exact ih2 _ _ _ _ _ _ _ _ _)
      | (with_reducible exact LeO.refl _)
      | (with_reducible exact LeO.none _)
      | (with_reducible refine LeO.ite ?_ ?_)
      | (with_reducible refine LeO.bind ?_ (fun _ => ?_))
      | exact ih0 _ _ _ _ _ _ _
      | exact ih1 _ _ _ _ _ _ _ _
      | exact ih2 _ _ _ _ _ _ _ _ _
      | exact LeO.none _
      | refine LeO.ite ?_ ?_
      | refine LeO.bind ?_ (fun _ => ?_)
set_option maxHeartbeats 8000000 in
set_option maxRecDepth 100000 in
theorem turnstileref03_Wide_DivMod.calls (k : Nat) (a0_0 : Int) (a0_1 : Int) (a1 : Int) (r1 : Int) (r2 : Int) (r3 : Int) (w : World) (h : turnstileref03_Wide_DivMod.f k a0_0 a0_1 a1 = some (r1, r2, r3)) :
    Calls Try.prog 53 #[.agg #[.int .u64 a0_0, .int .u64 a0_1], .int .u64 a1] w fun e w' => e = .returned (.tuple #[.agg #[.int .u64 r1, .int .u64 r2], .int .u64 r3]) ∧ Below w.heap.size w w' := by
  have hu66 := Try.underlying66
  have HB := Aside0.mk (Below.refl w.heap.size w)
  have H : (if a1 = 0 then (some (0, 0, 0)) else (turnstileref03_Wide_DivMod.l0 k a1 0 127 a0_0 a0_1 0 0)) = some (r1, r2, r3) := h
  clear h
  by_cases c3 : a1 = 0
  · rw [if_pos c3] at H
    have c3b0 : (a1 == 0) = true := beq_iff_eq.mpr c3
    have c3b1 : (a1 != 0) = false := bne_eq_false_iff_eq.mpr c3
    clear c3
    simp only [Option.some.injEq, Prod.mk.injEq] at H
    obtain ⟨rfl, rfl, rfl⟩ := H
    go_enter Try.func53, Try.ntmps53
    go_wp2_with (first | ((with_reducible refine gate_dst (N := 2) rfl ?_); refine bx 2 #[.int .u64 a0_0, .int .u64 a0_1] 66 ?_; intro gb308 hg w4 hbox hb; have n0_ := bs HB hb; have n1_ := Aside0.mk (hbox); have n2_ := sz HB hg; have n3_ := sz HB hg; clear HB; have HB := n0_; have BK308 := n1_; have GW308 := n2_; have GE308 := n3_; clear n0_ n1_ n2_ n3_; clear hb hbox hg) | ((with_reducible refine gate_dst (N := 4) rfl ?_); refine bx 4 #[.int .u64 0, .int .u64 0] 66 ?_; intro gb309 hg w5 hbox hb; have n0_ := bb BK308 hb; have n1_ := bs HB hb; have n2_ := Aside0.mk (hbox); have n3_ := sz HB hg; have n4_ := sz HB hg; have n5_ := nl BK308 hg; have n6_ := nr BK308 hg; clear BK308; clear HB; have BK308 := n0_; have HB := n1_; have BK309 := n2_; have GW309 := n3_; have GE309 := n4_; have NB308_309 := n5_; have NB309_308 := n6_; clear n0_ n1_ n2_ n3_ n4_ n5_ n6_; clear hb hbox hg; have hnb6 := NB309_308.out; have hnc6 := NB308_309.out; obtain ⟨hcz7_0, hcz7_1, hfz7_0, hfz7_1⟩ := bc2 BK309))
    refine bodyPost_ret (results_ct rfl _ _ gb309 66 #[.int .u64 0, .int .u64 0] (0, 0) _ rfl (bk BK309) Try.underlying66 rfl (by kernel_rfl)) rfl ?_
    exact ⟨re, bw HB⟩
  · rw [if_neg c3] at H
    have c3b0 : (a1 == 0) = false := beq_eq_false_iff_ne.mpr c3
    have c3b1 : (a1 != 0) = true := bne_iff_ne.mpr c3
    have H' := Aside0.mk H
    clear H
    go_enter Try.func53, Try.ntmps53
    go_wp2_with (first | ((with_reducible refine gate_dst (N := 2) rfl ?_); refine bx 2 #[.int .u64 a0_0, .int .u64 a0_1] 66 ?_; intro gb308 hg w8 hbox hb; have n0_ := bs HB hb; have n1_ := Aside0.mk (hbox); have n2_ := sz HB hg; have n3_ := sz HB hg; clear HB; have HB := n0_; have BK308 := n1_; have GW308 := n2_; have GE308 := n3_; clear n0_ n1_ n2_ n3_; clear hb hbox hg) | ((with_reducible refine gate_dst (N := 4) rfl ?_); refine bx 4 #[.int .u64 0, .int .u64 0] 66 ?_; intro gb309 hg w9 hbox hb; have n0_ := bb BK308 hb; have n1_ := bs HB hb; have n2_ := Aside0.mk (hbox); have n3_ := sz HB hg; have n4_ := sz HB hg; have n5_ := nl BK308 hg; have n6_ := nr BK308 hg; clear BK308; clear HB; have BK308 := n0_; have HB := n1_; have BK309 := n2_; have GW309 := n3_; have GE309 := n4_; have NB308_309 := n5_; have NB309_308 := n6_; clear n0_ n1_ n2_ n3_ n4_ n5_ n6_; clear hb hbox hg) | ((with_reducible refine gate_dst (N := 6) rfl ?_); refine bx 6 #[.int .u64 0, .int .u64 0] 66 ?_; intro gb310 hg w10 hbox hb; have n0_ := bb BK308 hb; have n1_ := bb BK309 hb; have n2_ := bs HB hb; have n3_ := Aside0.mk (hbox); have n4_ := sz HB hg; have n5_ := sz HB hg; have n6_ := nl BK308 hg; have n7_ := nr BK308 hg; have n8_ := nl BK309 hg; have n9_ := nr BK309 hg; clear BK308; clear BK309; clear HB; have BK308 := n0_; have BK309 := n1_; have HB := n2_; have BK310 := n3_; have GW310 := n4_; have GE310 := n5_; have NB308_310 := n6_; have NB310_308 := n7_; have NB309_310 := n8_; have NB310_309 := n9_; clear n0_ n1_ n2_ n3_ n4_ n5_ n6_ n7_ n8_ n9_; clear hb hbox hg; have hnb11 := NB310_308.out; have hnc11 := NB308_310.out; have hnb12 := NB310_309.out; have hnc12 := NB309_310.out; obtain ⟨hcz13_0, hcz13_1, hfz13_0, hfz13_1⟩ := bc2 BK310))
    go_loopg [7, 8] k (fun kq v7 v8 w' => ∃ (x7_1 : Int) (x8_1 : Int) (x311000_1 : Int) (x311001_1 : Int), v7 = .int .u64 x7_1 ∧ v8 = .int .i64 x8_1 ∧ Aside0 (turnstileref03_Wide_DivMod.l0 kq a1 x7_1 x8_1 a0_0 a0_1 x311000_1 x311001_1 = some (r1, r2, r3)) ∧ Aside0 (kq ≤ k) ∧ Aside0 (w'.heap[gb308]? = some (.cells #[.int .u64 a0_0, .int .u64 a0_1] 66 (0, 0))) ∧ Aside0 (w'.heap[gb309]? = some (.cells #[.int .u64 0, .int .u64 0] 66 (0, 0))) ∧ Aside0 (w'.heap[gb310]? = some (.cells #[.int .u64 x311000_1, .int .u64 x311001_1] 66 (0, 0))) ∧ Aside0 (Below w.heap.size w w'))
    case atStart => exact ⟨(0), (127), (0), (0), rs, rs, H', ⟨Nat.le_refl _⟩, ⟨bk BK308⟩, ⟨bk BK309⟩, ⟨bk BK310⟩, ⟨bw HB⟩⟩
    case round =>
      clear H'
      try clear c1
      try clear p2
      try clear c3
      try clear c3b0
      try clear c3b1
      try clear c5
      try clear c6
      try clear c11
      try clear c12
      try clear hcz13_0
      try clear hcz13_1
      try clear hcz7_0
      try clear hcz7_1
      try clear hfz13_0
      try clear hfz13_1
      try clear hfz7_0
      try clear hfz7_1
      obtain ⟨x7_1, x8_1, x311000_1, x311001_1, rfl, rfl, HA, HK1, BK308, BK309, BK310, HB⟩ := hrel
      cases gk with
      | zero => exact absurd HA.out (by simp [turnstileref03_Wide_DivMod.l0])
      | succ k1 =>
        have H := HA.out
        clear HA
        simp only [turnstileref03_Wide_DivMod.l0] at H
        by_cases c14 : x8_1 ≥ 0
        · rw [if_pos c14] at H
          have c14b0 : decide (0 ≤ x8_1) = true := decide_eq_true c14
          clear c14
          have HC15 := Aside0.mk H
          clear H
          go_upto_if 21 with (fail)
          go_cut [9] (fun v9 wc => ∃ (kq : Nat) (x9_14 : Int), v9 = .int .u64 x9_14 ∧ Aside0 (turnstileref03_Wide_DivMod.j1 kq a1 x7_1 x8_1 x9_14 a0_0 a0_1 x311000_1 x311001_1 = some (r1, r2, r3)) ∧ Aside0 (kq ≤ k1) ∧ Aside0 (wc.heap[gb308]? = some (.cells #[.int .u64 a0_0, .int .u64 a0_1] 66 (0, 0))) ∧ Aside0 (wc.heap[gb309]? = some (.cells #[.int .u64 0, .int .u64 0] 66 (0, 0))) ∧ Aside0 (wc.heap[gb310]? = some (.cells #[.int .u64 x311000_1, .int .u64 x311001_1] 66 (0, 0))) ∧ Aside0 (Below w.heap.size w wc))
          case first =>
            have H := HC15.out
            clear HC15
            by_cases c16 : x8_1 ≥ 64
            · rw [if_pos c16] at H
              have c16b0 : decide (64 ≤ x8_1) = true := decide_eq_true c16
              clear c16
              (first | rw [c16b0] | (simp only [i64_w, i32_w]; rw [c16b0]) | skip)
              obtain ⟨ji17, hji17⟩ : ∃ j_ : Int, (wrap64 (x8_1 - 64)) = j_ := ⟨_, rfl⟩
              replace H : (if 0 ≤ (ji17) then (turnstileref03_Wide_DivMod.j1 k1 a1 x7_1 x8_1 (Int.tmod (shr .u64 a0_0 (ji17)) 2) a0_0 a0_1 x311000_1 x311001_1) else (none)) = some (r1, r2, r3) := by first | (rw [hji17] at H; exact H) | (simp only [hji17] at H ⊢; exact H)
              have hji17w : (IntKind.i64.wrap (x8_1 - 64)) = ji17 := (i64_w _).trans hji17
              by_cases c18 : 0 ≤ (ji17)
              · rw [if_pos c18] at H
                have c18b0 := eq_true c18
                have c18b1 : decide (0 ≤ (ji17)) = true := decide_eq_true c18
                clear c18
                obtain ⟨ji19, hji19⟩ : ∃ j_ : Int, (shr .u64 a0_0 (ji17)) = j_ := ⟨_, rfl⟩
                replace H : (turnstileref03_Wide_DivMod.j1 k1 a1 x7_1 x8_1 (Int.tmod (ji19) 2) a0_0 a0_1 x311000_1 x311001_1) = some (r1, r2, r3) := by first | (rw [hji19] at H; exact H) | (simp only [hji19] at H ⊢; exact H)
                have hji19_ : (a0_0 / 2 ^ min (ji17).toNat 64) = ji19 := hji19
                have hji19z : (ji17) ≤ 64 → (a0_0 / 2 ^ (ji17).toNat) = ji19 := shr_small hji19
                have H' := Aside0.mk H
                clear H
                have hnb20 := NB308_309.out
                have hnc20 := NB309_308.out
                have hnb21 := NB308_310.out
                have hnc21 := NB310_308.out
                obtain ⟨hcz22_0, hcz22_1, hfz22_0, hfz22_1⟩ := bc2 BK308
                go_wp2
                go_meet
                case rel => exact ⟨_, (Int.tmod (ji19) 2), (by first | rfl | (simp; done) | (simp only [← hji19] <;> (first | rfl | simp)) | (simp [*]; done)), H', ⟨by have := HK1.out; first | omega | exact Nat.le_refl _⟩, ⟨bk BK308⟩, ⟨bk BK309⟩, ⟨bk BK310⟩, ⟨bw HB⟩⟩
              · rw [if_neg c18] at H
                exact absurd H (by simp)
            · rw [if_neg c16] at H
              have c16b0 : decide (64 ≤ x8_1) = false := decide_eq_false c16
              clear c16
              (first | rw [c16b0] | (simp only [i64_w, i32_w]; rw [c16b0]) | skip)
              by_cases c23 : 0 ≤ x8_1
              · rw [if_pos c23] at H
                have c23b0 := eq_true c23
                have c23b1 : decide (0 ≤ x8_1) = true := decide_eq_true c23
                clear c23
                obtain ⟨ji24, hji24⟩ : ∃ j_ : Int, (shr .u64 a0_1 x8_1) = j_ := ⟨_, rfl⟩
                replace H : (turnstileref03_Wide_DivMod.j1 k1 a1 x7_1 x8_1 (Int.tmod (ji24) 2) a0_0 a0_1 x311000_1 x311001_1) = some (r1, r2, r3) := by first | (rw [hji24] at H; exact H) | (simp only [hji24] at H ⊢; exact H)
                have hji24_ : (a0_1 / 2 ^ min x8_1.toNat 64) = ji24 := hji24
                have hji24z : x8_1 ≤ 64 → (a0_1 / 2 ^ x8_1.toNat) = ji24 := shr_small hji24
                have H' := Aside0.mk H
                clear H
                have hnb25 := NB308_309.out
                have hnc25 := NB309_308.out
                have hnb26 := NB308_310.out
                have hnc26 := NB310_308.out
                obtain ⟨hcz27_0, hcz27_1, hfz27_0, hfz27_1⟩ := bc2 BK308
                go_wp2
                go_meet
                case rel => exact ⟨_, (Int.tmod (ji24) 2), (by first | rfl | (simp; done) | (simp only [← hji24] <;> (first | rfl | simp)) | (simp [*]; done)), H', ⟨by have := HK1.out; first | omega | exact Nat.le_refl _⟩, ⟨bk BK308⟩, ⟨bk BK309⟩, ⟨bk BK310⟩, ⟨bw HB⟩⟩
              · rw [if_neg c23] at H
                exact absurd H (by simp)
          case rest =>
            clear HC15
            try clear c1
            try clear c2
            try clear p2
            try clear c3
            try clear c3b0
            try clear c3b1
            try clear c5
            try clear c6
            try clear p6
            try clear c11
            try clear c12
            try clear c14
            try clear c14b0
            try clear c16
            try clear c16b0
            try clear c18
            try clear c18b0
            try clear c18b1
            try clear c20
            try clear c21
            try clear c23
            try clear c23b0
            try clear c23b1
            try clear c25
            try clear c26
            try clear hcz13_0
            try clear hcz13_1
            try clear hcz22_0
            try clear hcz22_1
            try clear hcz27_0
            try clear hcz27_1
            try clear hcz7_0
            try clear hcz7_1
            try clear hfz13_0
            try clear hfz13_1
            try clear hfz22_0
            try clear hfz22_1
            try clear hfz27_0
            try clear hfz27_1
            try clear hfz7_0
            try clear hfz7_1
            try clear p2
            obtain ⟨kq, x9_14, rfl, HA, HJ14, BK308, BK309, BK310, HB⟩ := hcut
            cases kq with
            | zero => exact absurd HA.out (by simp [turnstileref03_Wide_DivMod.j1])
            | succ kj14 =>
              have H := HA.out
              clear HA
              simp only [turnstileref03_Wide_DivMod.j1] at H
              have HC28 := Aside0.mk H
              clear H
              go_upto_region 15 with (fail)
              go_cut [10, 44] (fun v10 v44 wc => ∃ (kq : Nat) (x44_27 : Bool), v44 = .bool x44_27 ∧ Aside0 (turnstileref03_Wide_DivMod.j2 kq a1 (IntKind.u64.wrap ((IntKind.u64.wrap (2 * x7_1)) + x9_14)) x8_1 0 x44_27 a0_0 a0_1 x311000_1 x311001_1 = some (r1, r2, r3)) ∧ Aside0 (kq ≤ kj14) ∧ Aside0 (wc.heap[gb308]? = some (.cells #[.int .u64 a0_0, .int .u64 a0_1] 66 (0, 0))) ∧ Aside0 (wc.heap[gb309]? = some (.cells #[.int .u64 0, .int .u64 0] 66 (0, 0))) ∧ Aside0 (wc.heap[gb310]? = some (.cells #[.int .u64 x311000_1, .int .u64 x311001_1] 66 (0, 0))) ∧ Aside0 (Below w.heap.size w wc))
              case first =>
                have H := HC28.out
                clear HC28
                by_cases c29 : x7_1 ≥ 9223372036854775808
                · rw [if_pos c29] at H
                  have c29b0 : decide (9223372036854775808 ≤ x7_1) = true := decide_eq_true c29
                  clear c29
                  (first | rw [c29b0] | (simp only [i64_w, i32_w]; rw [c29b0]) | skip)
                  have H' := Aside0.mk H
                  clear H
                  go_wp2
                  go_meet
                  case rel => exact ⟨_, (true), rs, H', ⟨by have := HK1.out; have := HJ14.out; first | omega | exact Nat.le_refl _⟩, ⟨bk BK308⟩, ⟨bk BK309⟩, ⟨bk BK310⟩, ⟨bw HB⟩⟩
                · rw [if_neg c29] at H
                  have c29b0 : decide (9223372036854775808 ≤ x7_1) = false := decide_eq_false c29
                  clear c29
                  (first | rw [c29b0] | (simp only [i64_w, i32_w]; rw [c29b0]) | skip)
                  have H' := Aside0.mk H
                  clear H
                  go_wp2
                  go_meet
                  case rel => exact ⟨_, (decide ((IntKind.u64.wrap ((IntKind.u64.wrap (2 * x7_1)) + x9_14)) ≥ a1)), rs, H', ⟨by have := HK1.out; have := HJ14.out; first | omega | exact Nat.le_refl _⟩, ⟨bk BK308⟩, ⟨bk BK309⟩, ⟨bk BK310⟩, ⟨bw HB⟩⟩
              case rest =>
                clear HC28
                try clear c1
                try clear c2
                try clear p2
                try clear c3
                try clear c3b0
                try clear c3b1
                try clear c5
                try clear c6
                try clear p6
                try clear c11
                try clear c12
                try clear c14
                try clear c14b0
                try clear c16
                try clear c16b0
                try clear c18
                try clear c18b0
                try clear c18b1
                try clear c20
                try clear c21
                try clear c23
                try clear c23b0
                try clear c23b1
                try clear c25
                try clear c26
                try clear c29
                try clear c29b0
                try clear hcz13_0
                try clear hcz13_1
                try clear hcz22_0
                try clear hcz22_1
                try clear hcz27_0
                try clear hcz27_1
                try clear hcz7_0
                try clear hcz7_1
                try clear hfz13_0
                try clear hfz13_1
                try clear hfz22_0
                try clear hfz22_1
                try clear hfz27_0
                try clear hfz27_1
                try clear hfz7_0
                try clear hfz7_1
                try clear p2
                try clear p6
                obtain ⟨kq, x44_27, rfl, HA, HJ27, BK308, BK309, BK310, HB⟩ := hcut
                cases kq with
                | zero => exact absurd HA.out (by simp [turnstileref03_Wide_DivMod.j2])
                | succ kj27 =>
                  have H := HA.out
                  clear HA
                  simp only [turnstileref03_Wide_DivMod.j2] at H
                  by_cases c30 : x44_27 = true
                  · subst c30
                    have H1 : (if x8_1 ≥ 64 then (turnstileref03_Wide_DivMod.l0 kj27 a1 (IntKind.u64.wrap ((IntKind.u64.wrap ((IntKind.u64.wrap (2 * x7_1)) + x9_14)) - a1)) (wrap64 (x8_1 - 1)) a0_0 a0_1 (IntKind.u64.wrap ((IntKind.u64.wrap (2 * x311000_1)) + 1)) x311001_1) else (turnstileref03_Wide_DivMod.l0 kj27 a1 (IntKind.u64.wrap ((IntKind.u64.wrap ((IntKind.u64.wrap (2 * x7_1)) + x9_14)) - a1)) (wrap64 (x8_1 - 1)) a0_0 a0_1 x311000_1 (IntKind.u64.wrap ((IntKind.u64.wrap (2 * x311001_1)) + 1)))) = some (r1, r2, r3) := by rw [if_pos rfl] at H; exact H
                    clear H
                    have H := H1
                    clear H1
                    by_cases c31 : x8_1 ≥ 64
                    · rw [if_pos c31] at H
                      have c31b0 : decide (64 ≤ x8_1) = true := decide_eq_true c31
                      clear c31
                      have H' := Aside0.mk H
                      clear H
                      have hnb32 := NB310_308.out
                      have hnc32 := NB308_310.out
                      have hnb33 := NB310_309.out
                      have hnc33 := NB309_310.out
                      obtain ⟨hcz34_0, hcz34_1, hfz34_0, hfz34_1⟩ := bc2 BK310
                      go_wp2
                      go_roundg kj27
                      case measure => have := HK1.out; have := HJ14.out; have := HJ27.out; omega
                      case rel => exact ⟨(IntKind.u64.wrap ((IntKind.u64.wrap ((IntKind.u64.wrap (2 * x7_1)) + x9_14)) - a1)), (wrap64 (x8_1 - 1)), (IntKind.u64.wrap ((IntKind.u64.wrap (2 * x311000_1)) + 1)), (x311001_1), rs, rs, H', ⟨by have := HK1.out; have := HJ14.out; have := HJ27.out; omega⟩, ⟨bk BK308⟩, ⟨bk BK309⟩, ⟨bk BK310⟩, ⟨bw HB⟩⟩
                    · rw [if_neg c31] at H
                      have c31b0 : decide (64 ≤ x8_1) = false := decide_eq_false c31
                      clear c31
                      have H' := Aside0.mk H
                      clear H
                      have hnb35 := NB310_308.out
                      have hnc35 := NB308_310.out
                      have hnb36 := NB310_309.out
                      have hnc36 := NB309_310.out
                      obtain ⟨hcz37_0, hcz37_1, hfz37_0, hfz37_1⟩ := bc2 BK310
                      go_wp2
                      go_roundg kj27
                      case measure => have := HK1.out; have := HJ14.out; have := HJ27.out; omega
                      case rel => exact ⟨(IntKind.u64.wrap ((IntKind.u64.wrap ((IntKind.u64.wrap (2 * x7_1)) + x9_14)) - a1)), (wrap64 (x8_1 - 1)), (x311000_1), (IntKind.u64.wrap ((IntKind.u64.wrap (2 * x311001_1)) + 1)), rs, rs, H', ⟨by have := HK1.out; have := HJ14.out; have := HJ27.out; omega⟩, ⟨bk BK308⟩, ⟨bk BK309⟩, ⟨bk BK310⟩, ⟨bw HB⟩⟩
                  · replace c30 := Bool.eq_false_iff.mpr c30
                    subst c30
                    have H1 : (if x8_1 ≥ 64 then (turnstileref03_Wide_DivMod.l0 kj27 a1 (IntKind.u64.wrap ((IntKind.u64.wrap (2 * x7_1)) + x9_14)) (wrap64 (x8_1 - 1)) a0_0 a0_1 (IntKind.u64.wrap ((IntKind.u64.wrap (2 * x311000_1)) + 0)) x311001_1) else (turnstileref03_Wide_DivMod.l0 kj27 a1 (IntKind.u64.wrap ((IntKind.u64.wrap (2 * x7_1)) + x9_14)) (wrap64 (x8_1 - 1)) a0_0 a0_1 x311000_1 (IntKind.u64.wrap ((IntKind.u64.wrap (2 * x311001_1)) + 0)))) = some (r1, r2, r3) := by rw [if_neg (show ¬ (false = true) by decide)] at H; exact H
                    clear H
                    have H := H1
                    clear H1
                    by_cases c38 : x8_1 ≥ 64
                    · rw [if_pos c38] at H
                      have c38b0 : decide (64 ≤ x8_1) = true := decide_eq_true c38
                      clear c38
                      have H' := Aside0.mk H
                      clear H
                      have hnb39 := NB310_308.out
                      have hnc39 := NB308_310.out
                      have hnb40 := NB310_309.out
                      have hnc40 := NB309_310.out
                      obtain ⟨hcz41_0, hcz41_1, hfz41_0, hfz41_1⟩ := bc2 BK310
                      go_wp2
                      go_roundg kj27
                      case measure => have := HK1.out; have := HJ14.out; have := HJ27.out; omega
                      case rel => exact ⟨((IntKind.u64.wrap ((IntKind.u64.wrap (2 * x7_1)) + x9_14))), (wrap64 (x8_1 - 1)), (IntKind.u64.wrap ((IntKind.u64.wrap (2 * x311000_1)) + 0)), (x311001_1), rs, rs, H', ⟨by have := HK1.out; have := HJ14.out; have := HJ27.out; omega⟩, ⟨bk BK308⟩, ⟨bk BK309⟩, ⟨bk BK310⟩, ⟨bw HB⟩⟩
                    · rw [if_neg c38] at H
                      have c38b0 : decide (64 ≤ x8_1) = false := decide_eq_false c38
                      clear c38
                      have H' := Aside0.mk H
                      clear H
                      have hnb42 := NB310_308.out
                      have hnc42 := NB308_310.out
                      have hnb43 := NB310_309.out
                      have hnc43 := NB309_310.out
                      obtain ⟨hcz44_0, hcz44_1, hfz44_0, hfz44_1⟩ := bc2 BK310
                      go_wp2
                      go_roundg kj27
                      case measure => have := HK1.out; have := HJ14.out; have := HJ27.out; omega
                      case rel => exact ⟨((IntKind.u64.wrap ((IntKind.u64.wrap (2 * x7_1)) + x9_14))), (wrap64 (x8_1 - 1)), (x311000_1), (IntKind.u64.wrap ((IntKind.u64.wrap (2 * x311001_1)) + 0)), rs, rs, H', ⟨by have := HK1.out; have := HJ14.out; have := HJ27.out; omega⟩, ⟨bk BK308⟩, ⟨bk BK309⟩, ⟨bk BK310⟩, ⟨bw HB⟩⟩
        · rw [if_neg c14] at H
          have c14b0 : decide (0 ≤ x8_1) = false := decide_eq_false c14
          clear c14
          simp only [Option.some.injEq, Prod.mk.injEq] at H
          obtain ⟨rfl, rfl, rfl⟩ := H
          have hnb45 := NB310_308.out
          have hnc45 := NB308_310.out
          have hnb46 := NB310_309.out
          have hnc46 := NB309_310.out
          obtain ⟨hcz47_0, hcz47_1, hfz47_0, hfz47_1⟩ := bc2 BK310
          have hnb48 := NB309_308.out
          have hnc48 := NB308_309.out
          obtain ⟨hcz49_0, hcz49_1, hfz49_0, hfz49_1⟩ := bc2 BK309
          go_wp2
          refine bodyPost_ret (results_ct rfl _ _ gb309 66 #[.int .u64 x311000_1, .int .u64 x311001_1] (0, 0) _ rfl (bk BK309) Try.underlying66 rfl (by kernel_rfl)) rfl ?_
          exact ⟨re, bw HB⟩

end Go.Proofs.Ythnpgilknoiaaaa.Q
