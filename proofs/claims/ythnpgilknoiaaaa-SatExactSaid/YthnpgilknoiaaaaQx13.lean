/- Written by the session's own program hyb.py: what functions of the program compute; Lean checks it. -/
import Derived.Test.YthnpgilknoiaaaaQx0
import Derived.Test.YthnpgilknoiaaaaQx10
namespace Go.Proofs.Ythnpgilknoiaaaa.Q
open Go.RowKit Go.Proofs.YthnpgilknoiaaaaW.PrintWords Go.Proofs.YthnpgilknoiaaaaW.PrintLast Go.Proofs.YthnpgilknoiaaaaW.PrintMore Go.Proofs.YthnpgilknoiaaaaW.PrintShort
attribute [local go_sem] run_Add64 run_Sub64
attribute [local go_sem] max2_int min2_int max_two min_two max_three min_three max_four min_four   -- for this text's walks alone
set_option linter.unusedVariables false
set_option linter.unusedSimpArgs false

/-! ### turnstileref03_Wide_Cmp: function 51 -/
def turnstileref03_Wide_Cmp.l0 : Nat → List Int → List Int → Int → Option (Int)
  | 0, _, _, _ => none
  | k + 1, x5, x6, x7 => if x7 ≥ 0 then (if 0 ≤ x7 then (if x7 < (x5.length : Int) then (if x7 < (x6.length : Int) then (if (rd x5 x7) < (rd x6 x7) then (some (-1)) else (if (rd x5 x7) > (rd x6 x7) then (some 1) else (turnstileref03_Wide_Cmp.l0 k x5 x6 (wrap64 (x7 - 1))))) else (none)) else (none)) else (none)) else (some 0)
def turnstileref03_Wide_Cmp.f (k : Nat) (a0_0 : Int) (a0_1 : Int) (a1_0 : Int) (a1_1 : Int) : Option (Int) := (turnstileref03_of.f k a0_0 a0_1).bind fun t277 => ((turnstileref03_of.f k a1_0 a1_1).bind fun t280 => (turnstileref03_Wide_Cmp.l0 k t277 t280 7))
theorem turnstileref03_Wide_Cmp.mono_l : ∀ k, (∀ y0 y1 y2, LeO (turnstileref03_Wide_Cmp.l0 k y0 y1 y2) (turnstileref03_Wide_Cmp.l0 (k + 1) y0 y1 y2))
  | 0 => fun _ _ _ r h => by simp [turnstileref03_Wide_Cmp.l0] at h
  | k + 1 => by
    have ih0 := turnstileref03_Wide_Cmp.mono_l k
    · intro y0 y1 y2
      unfold turnstileref03_Wide_Cmp.l0
      repeat' first
      | (with_reducible exact ih0 _ _ _)
      | (with_reducible exact turnstileref03_of.mono _ _ _)
      | (with_reducible exact LeO.refl _)
      | (with_reducible exact LeO.none _)
      | (with_reducible refine LeO.ite ?_ ?_)
      | (with_reducible refine LeO.bind ?_ (fun _ => ?_))
      | exact ih0 _ _ _
      | exact turnstileref03_of.mono _ _ _
      | exact LeO.none _
      | refine LeO.ite ?_ ?_
      | refine LeO.bind ?_ (fun _ => ?_)
theorem turnstileref03_Wide_Cmp.mono : ∀ a0 a1 a2 a3 k, LeO (turnstileref03_Wide_Cmp.f k a0 a1 a2 a3) (turnstileref03_Wide_Cmp.f (k + 1) a0 a1 a2 a3) := by
  intro a0 a1 a2 a3 k
  have ih0 := turnstileref03_Wide_Cmp.mono_l k
  unfold turnstileref03_Wide_Cmp.f
  repeat' first
      | (with_reducible exact ih0 _ _ _)
      | (with_reducible exact turnstileref03_of.mono _ _ _)
      | (with_reducible exact LeO.refl _)
      | (with_reducible exact LeO.none _)
      | (with_reducible refine LeO.ite ?_ ?_)
      | (with_reducible refine LeO.bind ?_ (fun _ => ?_))
      | exact ih0 _ _ _
      | exact turnstileref03_of.mono _ _ _
      | exact LeO.none _
      | refine LeO.ite ?_ ?_
      | refine LeO.bind ?_ (fun _ => ?_)
set_option maxHeartbeats 8000000 in
set_option maxRecDepth 100000 in
theorem turnstileref03_Wide_Cmp.calls (k : Nat) (a0_0 : Int) (a0_1 : Int) (a1_0 : Int) (a1_1 : Int) (r : Int) (w : World) (h : turnstileref03_Wide_Cmp.f k a0_0 a0_1 a1_0 a1_1 = some r) :
    Calls Try.prog 51 #[.agg #[.int .u64 a0_0, .int .u64 a0_1], .agg #[.int .u64 a1_0, .int .u64 a1_1]] w fun e w' => e = .returned (.int .i64 r) ∧ Below w.heap.size w w' := by
  have hu66 := Try.underlying66
  have HB := Aside0.mk (Below.refl w.heap.size w)
  have H : ((turnstileref03_of.f k a0_0 a0_1).bind fun t277 => ((turnstileref03_of.f k a1_0 a1_1).bind fun t280 => (turnstileref03_Wide_Cmp.l0 k t277 t280 7))) = some r := h
  clear h
  replace H := Option.bind_eq_some_iff.mp H
  obtain ⟨t277, A30, H⟩ := H
  replace H : ((turnstileref03_of.f k a1_0 a1_1).bind fun t280 => (turnstileref03_Wide_Cmp.l0 k t277 t280 7)) = some r := H
  have A3 := Aside0.mk A30
  clear A30
  replace H := Option.bind_eq_some_iff.mp H
  obtain ⟨t280, A40, H⟩ := H
  replace H : (turnstileref03_Wide_Cmp.l0 k t277 t280 7) = some r := H
  have A4 := Aside0.mk A40
  clear A40
  have H' := Aside0.mk H
  clear H
  go_enter Try.func51, Try.ntmps51
  go_wp2_with (first | ((with_reducible refine gate_dst (N := 2) rfl ?_); refine bx 2 #[.int .u64 a0_0, .int .u64 a0_1] 66 ?_; intro gb275 hg w5 hbox hb; have n0_ := bs HB hb; have n1_ := Aside0.mk (hbox); have n2_ := sz HB hg; have n3_ := sz HB hg; clear HB; have HB := n0_; have BK275 := n1_; have GW275 := n2_; have GE275 := n3_; clear n0_ n1_ n2_ n3_; clear hb hbox hg) | ((with_reducible refine gate_dst (N := 3) rfl ?_); refine bx 3 #[.int .u64 a1_0, .int .u64 a1_1] 66 ?_; intro gb276 hg w6 hbox hb; have n0_ := bb BK275 hb; have n1_ := bs HB hb; have n2_ := Aside0.mk (hbox); have n3_ := sz HB hg; have n4_ := sz HB hg; have n5_ := nl BK275 hg; have n6_ := nr BK275 hg; clear BK275; clear HB; have BK275 := n0_; have HB := n1_; have BK276 := n2_; have GW276 := n3_; have GE276 := n4_; have NB275_276 := n5_; have NB276_275 := n6_; clear n0_ n1_ n2_ n3_ n4_ n5_ n6_; clear hb hbox hg; have hnb7 := NB275_276.out; have hnc7 := NB276_275.out; obtain ⟨hcz8_0, hcz8_1, hfz8_0, hfz8_1⟩ := bc2 BK275) | (go_at_call 61; (with_reducible refine (turnstileref03_of.calls k a0_0 a0_1 t277 _ A3.out).mono ?_); rintro e w9 ⟨v278, rfl, ho0, hb⟩; have n0_ := Aside0.mk (Kd.R_lower ho0 (below_size (bw HB))); have n1_ := bb BK275 hb; have n2_ := bb BK276 hb; have n3_ := bs HB hb; clear BK275; clear BK276; clear HB; have HO279 := n0_; have BK275 := n1_; have BK276 := n2_; have HB := n3_; clear n0_ n1_ n2_ n3_; (try clear hb); (try clear hb2); (try clear hk); (try clear hi); (try clear ho0); obtain ⟨hcz10_0, hcz10_1, hfz10_0, hfz10_1⟩ := bc2 BK276) | (go_at_call 61; (with_reducible refine (turnstileref03_of.calls k a1_0 a1_1 t280 _ A4.out).mono ?_); rintro e w11 ⟨v281, rfl, ho0, hb⟩; have n0_ := Aside0.mk (Kd.R_elder' (by (with_reducible repeat (first | apply Kd.R_alloc | apply Kd.R_drewN | apply Kd.R_drew)); exact HO279.out) (Kd.R_base ho0) hb); have n1_ := Aside0.mk (Kd.R_lower (Kd.R_new' ho0 (Kd.R_lt (by (with_reducible repeat (first | apply Kd.R_alloc | apply Kd.R_drewN | apply Kd.R_drew)); exact HO279.out))) (below_size (bw HB))); have n2_ := bb BK275 hb; have n3_ := bb BK276 hb; have n4_ := bs HB hb; clear HO279; clear BK275; clear BK276; clear HB; have HO279 := n0_; have HO282 := n1_; have BK275 := n2_; have BK276 := n3_; have HB := n4_; clear n0_ n1_ n2_ n3_ n4_; (try clear hb); (try clear hb2); (try clear hk); (try clear hi); (try clear ho0)))
  repeat (go_quiet (first | ((with_reducible refine gate_dst (N := 2) rfl ?_); refine bx 2 #[.int .u64 a0_0, .int .u64 a0_1] 66 ?_; intro gb275 hg w5 hbox hb; have n0_ := bs HB hb; have n1_ := Aside0.mk (hbox); have n2_ := sz HB hg; have n3_ := sz HB hg; clear HB; have HB := n0_; have BK275 := n1_; have GW275 := n2_; have GE275 := n3_; clear n0_ n1_ n2_ n3_; clear hb hbox hg) | ((with_reducible refine gate_dst (N := 3) rfl ?_); refine bx 3 #[.int .u64 a1_0, .int .u64 a1_1] 66 ?_; intro gb276 hg w6 hbox hb; have n0_ := bb BK275 hb; have n1_ := bs HB hb; have n2_ := Aside0.mk (hbox); have n3_ := sz HB hg; have n4_ := sz HB hg; have n5_ := nl BK275 hg; have n6_ := nr BK275 hg; clear BK275; clear HB; have BK275 := n0_; have HB := n1_; have BK276 := n2_; have GW276 := n3_; have GE276 := n4_; have NB275_276 := n5_; have NB276_275 := n6_; clear n0_ n1_ n2_ n3_ n4_ n5_ n6_; clear hb hbox hg; have hnb7 := NB275_276.out; have hnc7 := NB276_275.out; obtain ⟨hcz8_0, hcz8_1, hfz8_0, hfz8_1⟩ := bc2 BK275) | (go_at_call 61; (with_reducible refine (turnstileref03_of.calls k a0_0 a0_1 t277 _ A3.out).mono ?_); rintro e w9 ⟨v278, rfl, ho0, hb⟩; have n0_ := Aside0.mk (Kd.R_lower ho0 (below_size (bw HB))); have n1_ := bb BK275 hb; have n2_ := bb BK276 hb; have n3_ := bs HB hb; clear BK275; clear BK276; clear HB; have HO279 := n0_; have BK275 := n1_; have BK276 := n2_; have HB := n3_; clear n0_ n1_ n2_ n3_; (try clear hb); (try clear hb2); (try clear hk); (try clear hi); (try clear ho0); obtain ⟨hcz10_0, hcz10_1, hfz10_0, hfz10_1⟩ := bc2 BK276) | (go_at_call 61; (with_reducible refine (turnstileref03_of.calls k a1_0 a1_1 t280 _ A4.out).mono ?_); rintro e w11 ⟨v281, rfl, ho0, hb⟩; have n0_ := Aside0.mk (Kd.R_elder' (by (with_reducible repeat (first | apply Kd.R_alloc | apply Kd.R_drewN | apply Kd.R_drew)); exact HO279.out) (Kd.R_base ho0) hb); have n1_ := Aside0.mk (Kd.R_lower (Kd.R_new' ho0 (Kd.R_lt (by (with_reducible repeat (first | apply Kd.R_alloc | apply Kd.R_drewN | apply Kd.R_drew)); exact HO279.out))) (below_size (bw HB))); have n2_ := bb BK275 hb; have n3_ := bb BK276 hb; have n4_ := bs HB hb; clear HO279; clear BK275; clear BK276; clear HB; have HO279 := n0_; have HO282 := n1_; have BK275 := n2_; have BK276 := n3_; have HB := n4_; clear n0_ n1_ n2_ n3_ n4_; (try clear hb); (try clear hb2); (try clear hk); (try clear hi); (try clear ho0))); try go_wp2_with (first | ((with_reducible refine gate_dst (N := 2) rfl ?_); refine bx 2 #[.int .u64 a0_0, .int .u64 a0_1] 66 ?_; intro gb275 hg w5 hbox hb; have n0_ := bs HB hb; have n1_ := Aside0.mk (hbox); have n2_ := sz HB hg; have n3_ := sz HB hg; clear HB; have HB := n0_; have BK275 := n1_; have GW275 := n2_; have GE275 := n3_; clear n0_ n1_ n2_ n3_; clear hb hbox hg) | ((with_reducible refine gate_dst (N := 3) rfl ?_); refine bx 3 #[.int .u64 a1_0, .int .u64 a1_1] 66 ?_; intro gb276 hg w6 hbox hb; have n0_ := bb BK275 hb; have n1_ := bs HB hb; have n2_ := Aside0.mk (hbox); have n3_ := sz HB hg; have n4_ := sz HB hg; have n5_ := nl BK275 hg; have n6_ := nr BK275 hg; clear BK275; clear HB; have BK275 := n0_; have HB := n1_; have BK276 := n2_; have GW276 := n3_; have GE276 := n4_; have NB275_276 := n5_; have NB276_275 := n6_; clear n0_ n1_ n2_ n3_ n4_ n5_ n6_; clear hb hbox hg; have hnb7 := NB275_276.out; have hnc7 := NB276_275.out; obtain ⟨hcz8_0, hcz8_1, hfz8_0, hfz8_1⟩ := bc2 BK275) | (go_at_call 61; (with_reducible refine (turnstileref03_of.calls k a0_0 a0_1 t277 _ A3.out).mono ?_); rintro e w9 ⟨v278, rfl, ho0, hb⟩; have n0_ := Aside0.mk (Kd.R_lower ho0 (below_size (bw HB))); have n1_ := bb BK275 hb; have n2_ := bb BK276 hb; have n3_ := bs HB hb; clear BK275; clear BK276; clear HB; have HO279 := n0_; have BK275 := n1_; have BK276 := n2_; have HB := n3_; clear n0_ n1_ n2_ n3_; (try clear hb); (try clear hb2); (try clear hk); (try clear hi); (try clear ho0); obtain ⟨hcz10_0, hcz10_1, hfz10_0, hfz10_1⟩ := bc2 BK276) | (go_at_call 61; (with_reducible refine (turnstileref03_of.calls k a1_0 a1_1 t280 _ A4.out).mono ?_); rintro e w11 ⟨v281, rfl, ho0, hb⟩; have n0_ := Aside0.mk (Kd.R_elder' (by (with_reducible repeat (first | apply Kd.R_alloc | apply Kd.R_drewN | apply Kd.R_drew)); exact HO279.out) (Kd.R_base ho0) hb); have n1_ := Aside0.mk (Kd.R_lower (Kd.R_new' ho0 (Kd.R_lt (by (with_reducible repeat (first | apply Kd.R_alloc | apply Kd.R_drewN | apply Kd.R_drew)); exact HO279.out))) (below_size (bw HB))); have n2_ := bb BK275 hb; have n3_ := bb BK276 hb; have n4_ := bs HB hb; clear HO279; clear BK275; clear BK276; clear HB; have HO279 := n0_; have HO282 := n1_; have BK275 := n2_; have BK276 := n3_; have HB := n4_; clear n0_ n1_ n2_ n3_ n4_; (try clear hb); (try clear hb2); (try clear hk); (try clear hi); (try clear ho0))))
  go_loopg [7] k (fun kq v7 w' => ∃ (x7_1 : Int), v7 = .int .i64 x7_1 ∧ Aside0 (turnstileref03_Wide_Cmp.l0 kq t277 t280 x7_1 = some r) ∧ Aside0 (kq ≤ k) ∧ Aside0 (Kd.R (Kd.int .u64) 22 w' w.heap.size (fun k_ => some k_ ≠ (v281 : Value).ownBlock) v278 t277) ∧ Aside0 (Kd.R (Kd.int .u64) 22 w' w.heap.size (fun k_ => some k_ ≠ (v278 : Value).ownBlock) v281 t280) ∧ Aside0 (w'.heap[gb275]? = some (.cells #[.int .u64 a0_0, .int .u64 a0_1] 66 (0, 0))) ∧ Aside0 (w'.heap[gb276]? = some (.cells #[.int .u64 a1_0, .int .u64 a1_1] 66 (0, 0))) ∧ Aside0 (Below w.heap.size w w'))
  case atStart => exact ⟨(7), rs, H', ⟨Nat.le_refl _⟩, ⟨by (with_reducible repeat (first | apply Kd.R_alloc | apply Kd.R_drewN | apply Kd.R_drew)); exact Kd.R_mono HO279.out (fun _ hk => hk.2)⟩, ⟨by (with_reducible repeat (first | apply Kd.R_alloc | apply Kd.R_drewN | apply Kd.R_drew)); exact Kd.R_mono HO282.out (fun _ hk => hk.2)⟩, ⟨bk BK275⟩, ⟨bk BK276⟩, ⟨bw HB⟩⟩
  case round =>
    clear H'
    try clear p2
    try clear c5
    try clear c7
    try clear hcz10_0
    try clear hcz10_1
    try clear hcz8_0
    try clear hcz8_1
    try clear hfz10_0
    try clear hfz10_1
    try clear hfz8_0
    try clear hfz8_1
    obtain ⟨x7_1, rfl, HA, HK1, HO_5, HO_6, BK275, BK276, HB⟩ := hrel
    cases gk with
    | zero => exact absurd HA.out (by simp [turnstileref03_Wide_Cmp.l0])
    | succ k1 =>
      have H := HA.out
      clear HA
      simp only [turnstileref03_Wide_Cmp.l0] at H
      by_cases c12 : x7_1 ≥ 0
      · rw [if_pos c12] at H
        have c12b0 : decide (0 ≤ x7_1) = true := decide_eq_true c12
        clear c12
        by_cases c13 : 0 ≤ x7_1
        · rw [if_pos c13] at H
          have c13b0 : decide (0 ≤ x7_1) = true := decide_eq_true c13
          clear c13
          by_cases c14 : x7_1 < (t277.length : Int)
          · rw [if_pos c14] at H
            have c14b0 : decide (x7_1 < (t277.length : Int)) = true := decide_eq_true c14
            clear c14
            by_cases c15 : x7_1 < (t280.length : Int)
            · rw [if_pos c15] at H
              have c15b0 : decide (x7_1 < (t280.length : Int)) = true := decide_eq_true c15
              clear c15
              by_cases c16 : (rd t277 x7_1) < (rd t280 x7_1)
              · rw [if_pos c16] at H
                have c16b0 : decide ((rd t277 x7_1) < (rd t280 x7_1)) = true := decide_eq_true c16
                clear c16
                obtain rfl := Option.some.inj H
                obtain ⟨Ao17, co17, eo17⟩ := Kd.R_slice HO_5.out
                subst eo17
                have p283 : 0 ≤ (x7_1 : Int) := of_decide_eq_true (by first | (with_reducible assumption) | assumption)
                have q283 : x7_1 < (t277.length : Int) := of_decide_eq_true (by first | (with_reducible assumption) | assumption)
                obtain ⟨ad283, e283, hx283_0⟩ := Kd.at_int (Kd.R_reads' HO_5.out).2.2 x7_1 p283 q283
                cases e283
                replace p283 := eq_true p283
                replace q283 := eq_true q283
                obtain ⟨Ao18, co18, eo18⟩ := Kd.R_slice HO_6.out
                subst eo18
                have p284 : 0 ≤ (x7_1 : Int) := of_decide_eq_true (by first | (with_reducible assumption) | assumption)
                have q284 : x7_1 < (t280.length : Int) := of_decide_eq_true (by first | (with_reducible assumption) | assumption)
                obtain ⟨ad284, e284, hx284_0⟩ := Kd.at_int (Kd.R_reads' HO_6.out).2.2 x7_1 p284 q284
                cases e284
                replace p284 := eq_true p284
                replace q284 := eq_true q284
                go_wp2
                repeat (go_quiet (fail); try go_wp2)
                go_ret
                exact ⟨re, bw HB⟩
              · rw [if_neg c16] at H
                have c16b0 : decide ((rd t277 x7_1) < (rd t280 x7_1)) = false := decide_eq_false c16
                clear c16
                by_cases c19 : (rd t277 x7_1) > (rd t280 x7_1)
                · rw [if_pos c19] at H
                  have c19b0 : decide ((rd t280 x7_1) < (rd t277 x7_1)) = true := decide_eq_true c19
                  clear c19
                  obtain rfl := Option.some.inj H
                  obtain ⟨Ao20, co20, eo20⟩ := Kd.R_slice HO_5.out
                  subst eo20
                  have p283 : 0 ≤ (x7_1 : Int) := of_decide_eq_true (by first | (with_reducible assumption) | assumption)
                  have q283 : x7_1 < (t277.length : Int) := of_decide_eq_true (by first | (with_reducible assumption) | assumption)
                  obtain ⟨ad283, e283, hx283_0⟩ := Kd.at_int (Kd.R_reads' HO_5.out).2.2 x7_1 p283 q283
                  cases e283
                  replace p283 := eq_true p283
                  replace q283 := eq_true q283
                  obtain ⟨Ao21, co21, eo21⟩ := Kd.R_slice HO_6.out
                  subst eo21
                  have p284 : 0 ≤ (x7_1 : Int) := of_decide_eq_true (by first | (with_reducible assumption) | assumption)
                  have q284 : x7_1 < (t280.length : Int) := of_decide_eq_true (by first | (with_reducible assumption) | assumption)
                  obtain ⟨ad284, e284, hx284_0⟩ := Kd.at_int (Kd.R_reads' HO_6.out).2.2 x7_1 p284 q284
                  cases e284
                  replace p284 := eq_true p284
                  replace q284 := eq_true q284
                  have p285 : 0 ≤ (x7_1 : Int) := of_decide_eq_true (by first | (with_reducible assumption) | assumption)
                  have q285 : x7_1 < (t277.length : Int) := of_decide_eq_true (by first | (with_reducible assumption) | assumption)
                  obtain ⟨ad285, e285, hx285_0⟩ := Kd.at_int (Kd.R_reads' HO_5.out).2.2 x7_1 p285 q285
                  obtain rfl : ad283 = ad285 := (by injection e285)
                  replace p285 := eq_true p285
                  replace q285 := eq_true q285
                  have p286 : 0 ≤ (x7_1 : Int) := of_decide_eq_true (by first | (with_reducible assumption) | assumption)
                  have q286 : x7_1 < (t280.length : Int) := of_decide_eq_true (by first | (with_reducible assumption) | assumption)
                  obtain ⟨ad286, e286, hx286_0⟩ := Kd.at_int (Kd.R_reads' HO_6.out).2.2 x7_1 p286 q286
                  obtain rfl : ad284 = ad286 := (by injection e286)
                  replace p286 := eq_true p286
                  replace q286 := eq_true q286
                  go_wp2
                  repeat (go_quiet (fail); try go_wp2)
                  go_ret
                  exact ⟨re, bw HB⟩
                · rw [if_neg c19] at H
                  have c19b0 : decide ((rd t280 x7_1) < (rd t277 x7_1)) = false := decide_eq_false c19
                  clear c19
                  have H' := Aside0.mk H
                  clear H
                  obtain ⟨Ao22, co22, eo22⟩ := Kd.R_slice HO_5.out
                  subst eo22
                  have p283 : 0 ≤ (x7_1 : Int) := of_decide_eq_true (by first | (with_reducible assumption) | assumption)
                  have q283 : x7_1 < (t277.length : Int) := of_decide_eq_true (by first | (with_reducible assumption) | assumption)
                  obtain ⟨ad283, e283, hx283_0⟩ := Kd.at_int (Kd.R_reads' HO_5.out).2.2 x7_1 p283 q283
                  cases e283
                  replace p283 := eq_true p283
                  replace q283 := eq_true q283
                  obtain ⟨Ao23, co23, eo23⟩ := Kd.R_slice HO_6.out
                  subst eo23
                  have p284 : 0 ≤ (x7_1 : Int) := of_decide_eq_true (by first | (with_reducible assumption) | assumption)
                  have q284 : x7_1 < (t280.length : Int) := of_decide_eq_true (by first | (with_reducible assumption) | assumption)
                  obtain ⟨ad284, e284, hx284_0⟩ := Kd.at_int (Kd.R_reads' HO_6.out).2.2 x7_1 p284 q284
                  cases e284
                  replace p284 := eq_true p284
                  replace q284 := eq_true q284
                  have p285 : 0 ≤ (x7_1 : Int) := of_decide_eq_true (by first | (with_reducible assumption) | assumption)
                  have q285 : x7_1 < (t277.length : Int) := of_decide_eq_true (by first | (with_reducible assumption) | assumption)
                  obtain ⟨ad285, e285, hx285_0⟩ := Kd.at_int (Kd.R_reads' HO_5.out).2.2 x7_1 p285 q285
                  obtain rfl : ad283 = ad285 := (by injection e285)
                  replace p285 := eq_true p285
                  replace q285 := eq_true q285
                  have p286 : 0 ≤ (x7_1 : Int) := of_decide_eq_true (by first | (with_reducible assumption) | assumption)
                  have q286 : x7_1 < (t280.length : Int) := of_decide_eq_true (by first | (with_reducible assumption) | assumption)
                  obtain ⟨ad286, e286, hx286_0⟩ := Kd.at_int (Kd.R_reads' HO_6.out).2.2 x7_1 p286 q286
                  obtain rfl : ad284 = ad286 := (by injection e286)
                  replace p286 := eq_true p286
                  replace q286 := eq_true q286
                  go_wp2
                  repeat (go_quiet (fail); try go_wp2)
                  go_roundg k1
                  case measure => have := HK1.out; omega
                  case rel => exact ⟨(wrap64 (x7_1 - 1)), rs, H', ⟨by have := HK1.out; omega⟩, ⟨by (with_reducible repeat (first | apply Kd.R_alloc | apply Kd.R_drewN | apply Kd.R_drew)); exact HO_5.out⟩, ⟨by (with_reducible repeat (first | apply Kd.R_alloc | apply Kd.R_drewN | apply Kd.R_drew)); exact HO_6.out⟩, ⟨bk BK275⟩, ⟨bk BK276⟩, ⟨bw HB⟩⟩
            · rw [if_neg c15] at H
              exact absurd H (by simp)
          · rw [if_neg c14] at H
            exact absurd H (by simp)
        · rw [if_neg c13] at H
          exact absurd H (by simp)
      · rw [if_neg c12] at H
        have c12b0 : decide (0 ≤ x7_1) = false := decide_eq_false c12
        clear c12
        obtain rfl := Option.some.inj H
        go_wp2
        repeat (go_quiet (fail); try go_wp2)
        go_ret
        exact ⟨re, bw HB⟩

end Go.Proofs.Ythnpgilknoiaaaa.Q
