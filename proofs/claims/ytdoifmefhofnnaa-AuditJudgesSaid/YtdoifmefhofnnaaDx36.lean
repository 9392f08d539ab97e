/- Written by the session's own program hyb.py: what functions of the program compute; Lean checks it. -/
import Derived.Test.YtdoifmefhofnnaaDx0
import Derived.Test.YtdoifmefhofnnaaDx26
import Derived.Test.YtdoifmefhofnnaaDx32
import Derived.Test.YtdoifmefhofnnaaDx34
namespace Go.Proofs.Ytdoifmefhofnnaa.D
open Go.RowKit Go.Proofs.YtdoifmefhofnnaaW.PrintWords Go.Proofs.YtdoifmefhofnnaaW.PrintLast Go.Proofs.YtdoifmefhofnnaaW.PrintMore Go.Proofs.YtdoifmefhofnnaaW.PrintShort
attribute [local go_sem] run_Add64 run_Sub64
attribute [local go_sem] max2_int min2_int max_two min_two max_three min_three max_four min_four   -- for this text's walks alone
set_option linter.unusedVariables false
set_option linter.unusedSimpArgs false

/-! ### turnstileref24_Level: function 27 -/
def turnstileref24_Level.j0 : Nat → List Int → Bool → Option (Int × Int × Int × Bool)
  | 0, _, _ => none
  | k + 1, x9, x42 => if x42 = true then (some (0, 0, 0, false)) else (if (x9.length : Int) > 0 then (if 0 < (x9.length : Int) then (if (x9.length : Int) > 1 then (if 1 < (x9.length : Int) then (some (IntKind.u64.wrap ((rd x9 0) + (IntKind.u64.wrap ((rd x9 1) * 4294967296))), 0, 0, true)) else (none)) else (some (rd x9 0, 0, 0, true))) else (none)) else (if (x9.length : Int) > 1 then (if 1 < (x9.length : Int) then (some (IntKind.u64.wrap ((IntKind.u64.wrap ((rd x9 1) * 4294967296))), 0, 0, true)) else (none)) else (some (0, 0, 0, true))))
def turnstileref24_Level.f (k : Nat) (a0_0 : Int) (a0_1 : Int) (a0_2 : Int) (a0_3 : Int) (a0_4 : Int) (l1 : List (S31)) : Option (Int × Int × Int × Bool) := (turnstileref24_valid.f a0_0 a0_1 a0_2 a0_3 a0_4).bind fun t480 => (if t480 = true then (if a0_0 = 2 then ((turnstileref24_grid.f k a0_0 a0_1 a0_2 a0_3 a0_4 l1).bind fun bt481 => (some (0, bt481.1, bt481.2.1, bt481.2.2))) else ((turnstileref24_flow.f k a0_0 a0_1 a0_2 a0_3 a0_4 l1).bind fun bt484 => (if bt484.2 = true then (turnstileref24_Level.j0 k bt484.1 (decide ((bt484.1.length : Int) > 2))) else (turnstileref24_Level.j0 k bt484.1 true)))) else (some (0, 0, 0, false)))
def turnstileref24_Level.T13 : Bool × List (List Nat × List Nat) := (true, [([], []), ([0], [0]), ([], []), ([2], [2]), ([3], [3]), ([4], [4]), ([1, 5], [1, 5]), ([0, 1, 2, 3, 4, 5, 6], []), ([7, 6, 0, 1, 2, 3, 4, 5, 6], [6, 7])])
def turnstileref24_Level.B13 : List Nat := [0, 1, 0, 4, 12, 28, 63, 127, 255]
theorem turnstileref24_Level.tab13 : rtab .any (opsOf Try.f27 13) = turnstileref24_Level.T13 := by kernel_rfl
theorem turnstileref24_Level.bits13 : waitsOk turnstileref24_Level.T13.2 turnstileref24_Level.B13 = true := by kernel_rfl
set_option maxHeartbeats 8000000 in
set_option maxRecDepth 100000 in
theorem turnstileref24_Level.calls (k : Nat) (a0_0 : Int) (a0_1 : Int) (a0_2 : Int) (a0_3 : Int) (a0_4 : Int) (A1 : Option Addr) (c1 : Nat) (l1 : List (S31)) (r1 : Int) (r2 : Int) (r3 : Int) (r4 : Bool) (w : World) (hr1 : Kd.C k31 w A1 l1.length l1) (hc1 : l1.length ≤ c1) (h : turnstileref24_Level.f k a0_0 a0_1 a0_2 a0_3 a0_4 l1 = some (r1, r2, r3, r4)) :
    Calls Try.prog 27 #[.agg #[.int .i64 a0_0, .int .u64 a0_1, .int .u64 a0_2, .int .u64 a0_3, .int .u64 a0_4], .slice A1 l1.length c1] w fun e w' => e = .returned (.tuple #[.agg #[.int .u64 r1, .int .u64 r2, .int .u64 r3], .bool r4]) ∧ Below w.heap.size w w' := by
  have hu24 := Try.underlying24
  have hu40 := Try.underlying40
  have HR1 := Aside0.mk hr1
  have HC1 := Aside0.mk hc1
  clear hr1 hc1
  have HB := Aside0.mk (Below.refl w.heap.size w)
  have H : ((turnstileref24_valid.f a0_0 a0_1 a0_2 a0_3 a0_4).bind fun t480 => (if t480 = true then (if a0_0 = 2 then ((turnstileref24_grid.f k a0_0 a0_1 a0_2 a0_3 a0_4 l1).bind fun bt481 => (some (0, bt481.1, bt481.2.1, bt481.2.2))) else ((turnstileref24_flow.f k a0_0 a0_1 a0_2 a0_3 a0_4 l1).bind fun bt484 => (if bt484.2 = true then (turnstileref24_Level.j0 k bt484.1 (decide ((bt484.1.length : Int) > 2))) else (turnstileref24_Level.j0 k bt484.1 true)))) else (some (0, 0, 0, false)))) = some (r1, r2, r3, r4) := h
  clear h
  replace H := Option.bind_eq_some_iff.mp H
  obtain ⟨t480, A30, H⟩ := H
  replace H : (if t480 = true then (if a0_0 = 2 then ((turnstileref24_grid.f k a0_0 a0_1 a0_2 a0_3 a0_4 l1).bind fun bt481 => (some (0, bt481.1, bt481.2.1, bt481.2.2))) else ((turnstileref24_flow.f k a0_0 a0_1 a0_2 a0_3 a0_4 l1).bind fun bt484 => (if bt484.2 = true then (turnstileref24_Level.j0 k bt484.1 (decide ((bt484.1.length : Int) > 2))) else (turnstileref24_Level.j0 k bt484.1 true)))) else (some (0, 0, 0, false))) = some (r1, r2, r3, r4) := H
  have A3 := Aside0.mk A30
  clear A30
  by_cases c4 : t480 = true
  · subst c4
    have H1 : (if a0_0 = 2 then ((turnstileref24_grid.f k a0_0 a0_1 a0_2 a0_3 a0_4 l1).bind fun bt481 => (some (0, bt481.1, bt481.2.1, bt481.2.2))) else ((turnstileref24_flow.f k a0_0 a0_1 a0_2 a0_3 a0_4 l1).bind fun bt484 => (if bt484.2 = true then (turnstileref24_Level.j0 k bt484.1 (decide ((bt484.1.length : Int) > 2))) else (turnstileref24_Level.j0 k bt484.1 true)))) = some (r1, r2, r3, r4) := by rw [if_pos rfl] at H; exact H
    clear H
    have H := H1
    clear H1
    by_cases c5 : a0_0 = 2
    · rw [if_pos c5] at H
      have c5b0 : (a0_0 == 2) = true := beq_iff_eq.mpr c5
      have c5b1 : (a0_0 != 2) = false := bne_eq_false_iff_eq.mpr c5
      clear c5
      replace H := Option.bind_eq_some_iff.mp H
      obtain ⟨⟨t481, t482, t483⟩, A60, H⟩ := H
      replace H : (some (0, t481, t482, t483)) = some (r1, r2, r3, r4) := H
      have A6 := Aside0.mk A60
      clear A60
      simp only [Option.some.injEq, Prod.mk.injEq] at H
      obtain ⟨rfl, rfl, rfl, rfl⟩ := H
      go_enter Try.func27, Try.ntmps27
      go_wp2_with (first | ((with_reducible refine gate_dst (N := 2) rfl ?_); (try (refine gate_guard (by rfl) ?_; dsimp only)); refine bx 2 #[.int .i64 a0_0, .int .u64 a0_1, .int .u64 a0_2, .int .u64 a0_3, .int .u64 a0_4] 24 ?_; intro gb478 hg w7 hbox hb; have BK478 := Aside0.mk (hbox); have GW478 := sz HB hg; have GE478 := sz HB hg; replace HB := bs HB hb; clear hb hbox hg) | ((with_reducible refine gate_dst (N := 4) rfl ?_); (try (refine gate_guard (by rfl) ?_; dsimp only)); refine bx 4 #[.int .u64 0, .int .u64 0, .int .u64 0] 40 ?_; intro gb479 hg w8 hbox hb; have BK479 := Aside0.mk (hbox); have GW479 := sz HB hg; have GE479 := sz HB hg; have NB478_479 := nl BK478 hg; have NB479_478 := nr BK478 hg; replace BK478 := bb BK478 hb; replace HB := bs HB hb; clear hb hbox hg; have hnb9 := NB478_479.out; have hnc9 := NB479_478.out; obtain ⟨hcz10_0, hcz10_1, hcz10_2, hcz10_3, hcz10_4, hfz10_0, hfz10_1, hfz10_2, hfz10_3, hfz10_4⟩ := bc5 BK478) | ((with_reducible refine gate_callee (f := 30) rfl ?_); refine gm (some 13) Try.func30 #[.agg #[.int .i64 a0_0, .int .u64 a0_1, .int .u64 a0_2, .int .u64 a0_3, .int .u64 a0_4]] (turnstileref24_valid.calls a0_0 a0_1 a0_2 a0_3 a0_4 true _ A3.out) ?_; intro w11 hb; replace BK478 := bb BK478 hb; replace BK479 := bb BK479 hb; replace HB := bs HB hb; (try clear hb); (try clear hb2); (try clear hk); (try clear hi); obtain ⟨hcz12_0, hcz12_1, hcz12_2, hcz12_3, hcz12_4, hfz12_0, hfz12_1, hfz12_2, hfz12_3, hfz12_4⟩ := bc5 BK478) | ((with_reducible refine gate_callee (f := 32) rfl ?_); refine gl (some 22) Try.func32 #[.agg #[.int .i64 a0_0, .int .u64 a0_1, .int .u64 a0_2, .int .u64 a0_3, .int .u64 a0_4], .slice A1 l1.length c1] ?_; (with_reducible refine (turnstileref24_grid.calls k a0_0 a0_1 a0_2 a0_3 a0_4 _ _ l1 t481 t482 t483 _ ?side1 ?side2 A6.out).mono ?_); (case side1 => exact co (Kd.C_below HR1.out HB.out)); (case side2 => exact HC1.out); rintro e w13 ⟨rfl, hb⟩; refine ⟨_, rfl, ?_⟩; replace BK478 := bb BK478 hb; replace BK479 := bb BK479 hb; replace HB := bs HB hb; (try clear hb); (try clear hb2); (try clear hk); (try clear hi); obtain ⟨hcz14_0, hcz14_1, hcz14_2, hfz14_0, hfz14_1, hfz14_2⟩ := bc3 BK479))
      refine bodyPost_ret (results_ct rfl _ _ gb479 40 #[.int .u64 0, .int .u64 t481, .int .u64 t482] (0, 0) _ rfl (bk BK479) Try.underlying40 rfl (by kernel_rfl)) rfl ?_
      exact ⟨re, bw HB⟩
    · rw [if_neg c5] at H
      have c5b0 : (a0_0 == 2) = false := beq_eq_false_iff_ne.mpr c5
      have c5b1 : (a0_0 != 2) = true := bne_iff_ne.mpr c5
      replace H := Option.bind_eq_some_iff.mp H
      obtain ⟨⟨t484, t487⟩, A150, H⟩ := H
      replace H : (if t487 = true then (turnstileref24_Level.j0 k t484 (decide ((t484.length : Int) > 2))) else (turnstileref24_Level.j0 k t484 true)) = some (r1, r2, r3, r4) := H
      have A15 := Aside0.mk A150
      clear A150
      have HC16 := Aside0.mk H
      clear H
      go_enter Try.func27, Try.ntmps27
      go_upto_region 7 with (first | ((with_reducible refine gate_dst (N := 2) rfl ?_); (try (refine gate_guard (by rfl) ?_; dsimp only)); refine bx 2 #[.int .i64 a0_0, .int .u64 a0_1, .int .u64 a0_2, .int .u64 a0_3, .int .u64 a0_4] 24 ?_; intro gb478 hg w17 hbox hb; have BK478 := Aside0.mk (hbox); have GW478 := sz HB hg; have GE478 := sz HB hg; replace HB := bs HB hb; clear hb hbox hg) | ((with_reducible refine gate_dst (N := 4) rfl ?_); (try (refine gate_guard (by rfl) ?_; dsimp only)); refine bx 4 #[.int .u64 0, .int .u64 0, .int .u64 0] 40 ?_; intro gb479 hg w18 hbox hb; have BK479 := Aside0.mk (hbox); have GW479 := sz HB hg; have GE479 := sz HB hg; have NB478_479 := nl BK478 hg; have NB479_478 := nr BK478 hg; replace BK478 := bb BK478 hb; replace HB := bs HB hb; clear hb hbox hg; have hnb19 := NB478_479.out; have hnc19 := NB479_478.out; obtain ⟨hcz20_0, hcz20_1, hcz20_2, hcz20_3, hcz20_4, hfz20_0, hfz20_1, hfz20_2, hfz20_3, hfz20_4⟩ := bc5 BK478) | ((with_reducible refine gate_callee (f := 30) rfl ?_); refine gm (some 13) Try.func30 #[.agg #[.int .i64 a0_0, .int .u64 a0_1, .int .u64 a0_2, .int .u64 a0_3, .int .u64 a0_4]] (turnstileref24_valid.calls a0_0 a0_1 a0_2 a0_3 a0_4 true _ A3.out) ?_; intro w21 hb; replace BK478 := bb BK478 hb; replace BK479 := bb BK479 hb; replace HB := bs HB hb; (try clear hb); (try clear hb2); (try clear hk); (try clear hi); obtain ⟨hcz22_0, hcz22_1, hcz22_2, hcz22_3, hcz22_4, hfz22_0, hfz22_1, hfz22_2, hfz22_3, hfz22_4⟩ := bc5 BK478) | ((with_reducible refine gate_callee (f := 31) rfl ?_); refine gl (some 33) Try.func31 #[.agg #[.int .i64 a0_0, .int .u64 a0_1, .int .u64 a0_2, .int .u64 a0_3, .int .u64 a0_4], .slice A1 l1.length c1] ?_; (with_reducible refine (turnstileref24_flow.calls k a0_0 a0_1 a0_2 a0_3 a0_4 _ _ l1 t484 t487 _ ?side1 ?side2 A15.out).mono ?_); (case side1 => exact co (Kd.C_below HR1.out HB.out)); (case side2 => exact HC1.out); rintro e w23 ⟨v485, rfl, ho0, hb⟩; refine ⟨_, rfl, ?_⟩; have HO486 := Aside0.mk (Kd.R_lower ho0 (below_size (bw HB))); replace BK478 := bb BK478 hb; replace BK479 := bb BK479 hb; replace HB := bs HB hb; (try clear hb); (try clear hb2); (try clear hk); (try clear hi); (try clear ho0)))
      (try simp only [Act.put, List.setIfInBounds_toArray, List.set_cons_zero, List.set_cons_succ])
      go_cut [42] (fun v42 wc => ∃ (kq : Nat) (x42_15 : Bool), v42 = .bool x42_15 ∧ Aside0 (turnstileref24_Level.j0 kq t484 x42_15 = some (r1, r2, r3, r4)) ∧ Aside0 (kq ≤ k) ∧ Aside0 (Kd.R (Kd.int .u64) 22 wc w.heap.size (fun _ => True) v485 t484) ∧ Aside0 (wc.heap[gb478]? = some (.cells #[.int .i64 a0_0, .int .u64 a0_1, .int .u64 a0_2, .int .u64 a0_3, .int .u64 a0_4] 24 (0, 0))) ∧ Aside0 (wc.heap[gb479]? = some (.cells #[.int .u64 0, .int .u64 0, .int .u64 0] 40 (0, 0))) ∧ Aside0 (Below w.heap.size w wc))
      case first =>
        have H := HC16.out
        clear HC16
        by_cases c24 : t487 = true
        · subst c24
          have H1 : (turnstileref24_Level.j0 k t484 (decide ((t484.length : Int) > 2))) = some (r1, r2, r3, r4) := by rw [if_pos rfl] at H; exact H
          clear H
          have H := H1
          clear H1
          have H' := Aside0.mk H
          clear H
          obtain ⟨Ao25, co25, eo25⟩ := Kd.R_slice HO486.out
          subst eo25
          go_wp2
          go_meet
          case rel => exact ⟨_, (decide ((t484.length : Int) > 2)), rs, H', ⟨by first | omega | exact Nat.le_refl _⟩, ⟨ro HO486⟩, ⟨bk BK478⟩, ⟨bk BK479⟩, ⟨bw HB⟩⟩
        · replace c24 := Bool.eq_false_iff.mpr c24
          subst c24
          have H1 : (turnstileref24_Level.j0 k t484 true) = some (r1, r2, r3, r4) := by rw [if_neg (show ¬ (false = true) by decide)] at H; exact H
          clear H
          have H := H1
          clear H1
          have H' := Aside0.mk H
          clear H
          go_wp2
          go_meet
          case rel => exact ⟨_, (true), rs, H', ⟨by first | omega | exact Nat.le_refl _⟩, ⟨ro HO486⟩, ⟨bk BK478⟩, ⟨bk BK479⟩, ⟨bw HB⟩⟩
      case rest =>
        clear HC16
        try clear c1
        try clear c2
        try clear p2
        try clear c3
        try clear c4
        try clear c5
        try clear c5b0
        try clear c5b1
        try clear c9
        try clear c19
        try clear c24
        try clear hcz10_0
        try clear hcz10_1
        try clear hcz10_2
        try clear hcz10_3
        try clear hcz10_4
        try clear hcz12_0
        try clear hcz12_1
        try clear hcz12_2
        try clear hcz12_3
        try clear hcz12_4
        try clear hcz14_0
        try clear hcz14_1
        try clear hcz14_2
        try clear hcz20_0
        try clear hcz20_1
        try clear hcz20_2
        try clear hcz20_3
        try clear hcz20_4
        try clear hcz22_0
        try clear hcz22_1
        try clear hcz22_2
        try clear hcz22_3
        try clear hcz22_4
        try clear hfz10_0
        try clear hfz10_1
        try clear hfz10_2
        try clear hfz10_3
        try clear hfz10_4
        try clear hfz12_0
        try clear hfz12_1
        try clear hfz12_2
        try clear hfz12_3
        try clear hfz12_4
        try clear hfz14_0
        try clear hfz14_1
        try clear hfz14_2
        try clear hfz20_0
        try clear hfz20_1
        try clear hfz20_2
        try clear hfz20_3
        try clear hfz20_4
        try clear hfz22_0
        try clear hfz22_1
        try clear hfz22_2
        try clear hfz22_3
        try clear hfz22_4
        obtain ⟨kq, x42_15, rfl, HA, HJ15, HO_9, BK478, BK479, HB⟩ := hcut
        cases kq with
        | zero => exact absurd HA.out (by simp [turnstileref24_Level.j0])
        | succ kj15 =>
          have H := HA.out
          clear HA
          simp only [turnstileref24_Level.j0] at H
          by_cases c26 : x42_15 = true
          · subst c26
            have H1 : (some (0, 0, 0, false)) = some (r1, r2, r3, r4) := by rw [if_pos rfl] at H; exact H
            clear H
            have H := H1
            clear H1
            simp only [Option.some.injEq, Prod.mk.injEq] at H
            obtain ⟨rfl, rfl, rfl, rfl⟩ := H
            have hnb27 := NB479_478.out
            have hnc27 := NB478_479.out
            obtain ⟨hcz28_0, hcz28_1, hcz28_2, hfz28_0, hfz28_1, hfz28_2⟩ := bc3 BK479
            go_wp2
            refine bodyPost_ret (results_ct rfl _ _ gb479 40 #[.int .u64 0, .int .u64 0, .int .u64 0] (0, 0) _ rfl (blk_put (blk_put (blk_put (bk (o := .cells #[.int .u64 0, .int .u64 0, .int .u64 0] 40 (0, 0)) BK479) 0 _ rfl) 1 _ rfl) 2 _ rfl) Try.underlying40 rfl (by kernel_rfl)) rfl ?_
            exact ⟨re, bw HB⟩
          · replace c26 := Bool.eq_false_iff.mpr c26
            subst c26
            have H1 : (if (t484.length : Int) > 0 then (if 0 < (t484.length : Int) then (if (t484.length : Int) > 1 then (if 1 < (t484.length : Int) then (some (IntKind.u64.wrap ((rd t484 0) + (IntKind.u64.wrap ((rd t484 1) * 4294967296))), 0, 0, true)) else (none)) else (some (rd t484 0, 0, 0, true))) else (none)) else (if (t484.length : Int) > 1 then (if 1 < (t484.length : Int) then (some (IntKind.u64.wrap ((IntKind.u64.wrap ((rd t484 1) * 4294967296))), 0, 0, true)) else (none)) else (some (0, 0, 0, true)))) = some (r1, r2, r3, r4) := by rw [if_neg (show ¬ (false = true) by decide)] at H; exact H
            clear H
            have H := H1
            clear H1
            by_cases c29 : (t484.length : Int) > 0
            · rw [if_pos c29] at H
              have c29b0 : decide (0 < (t484.length : Int)) = true := decide_eq_true c29
              have c29b1 : decide (0 < t484.length) = true := decide_eq_true (by omega)
              clear c29
              by_cases c30 : 0 < (t484.length : Int)
              · rw [if_pos c30] at H
                have c30b0 : decide (0 < (t484.length : Int)) = true := decide_eq_true c30
                have c30b1 : decide (0 < t484.length) = true := decide_eq_true (by omega)
                clear c30
                by_cases c31 : (t484.length : Int) > 1
                · rw [if_pos c31] at H
                  have c31b0 : decide (1 < (t484.length : Int)) = true := decide_eq_true c31
                  have c31b1 : decide (1 < t484.length) = true := decide_eq_true (by omega)
                  clear c31
                  by_cases c32 : 1 < (t484.length : Int)
                  · rw [if_pos c32] at H
                    have c32b0 : decide (1 < (t484.length : Int)) = true := decide_eq_true c32
                    have c32b1 : decide (1 < t484.length) = true := decide_eq_true (by omega)
                    clear c32
                    simp only [Option.some.injEq, Prod.mk.injEq] at H
                    obtain ⟨rfl, rfl, rfl, rfl⟩ := H
                    try go_wp2_with (first | ((with_reducible refine gate_dst (N := 11) rfl ?_); (try (refine gate_guard (by rfl) ?_; dsimp only)); refine bx 11 #[.int .u64 0, .int .u64 0, .int .u64 0] 40 ?_; intro gb488 hg w33 hbox hb; have BK488 := Aside0.mk (hbox); have GW488 := sz HB hg; have GE488 := sz HB hg; have NB478_488 := nl BK478 hg; have NB488_478 := nr BK478 hg; have NB479_488 := nl BK479 hg; have NB488_479 := nr BK479 hg; replace HO_9 := Aside0.mk (Kd.R_below (ro HO_9) hb); replace BK478 := bb BK478 hb; replace BK479 := bb BK479 hb; replace HB := bs HB hb; clear hb hbox hg; have hnb34 := NB488_478.out; have hnc34 := NB478_488.out; have hnb35 := NB488_479.out; have hnc35 := NB479_488.out; obtain ⟨hcz36_0, hcz36_1, hcz36_2, hfz36_0, hfz36_1, hfz36_2⟩ := bc3 BK488; obtain ⟨Ao37, co37, eo37⟩ := Kd.R_slice HO_9.out; subst eo37; have p489 : 0 ≤ (0 : Int) := (by omega); have q489 : 0 < (t484.length : Int) := of_decide_eq_true (by first | (with_reducible assumption) | assumption); obtain ⟨ad489, e489, hx489_0⟩ := Kd.at_int (Kd.R_reads' HO_9.out).2.2 0 p489 q489; cases e489; have qi489 : (0 < t484.length) = True := eq_true (by omega); (try rw [show ((0 : Int)).toNat = 0 from rfl] at hx489_0); (try rw [Addr.add_zero'] at hx489_0); have hn489_0 : ad489.block ≠ gb488 := Kd.own_blk (Kd.R_ne HO_9.out BK488.out (by decide)); have hn489_1 : ad489.block ≠ gb488 := Kd.own_blk (Kd.R_ne HO_9.out BK488.out (by decide)); have hn489_2 : ad489.block ≠ gb488 := Kd.own_blk (Kd.R_ne HO_9.out BK488.out (by decide)); replace hx489_0 := (cell_far (p := ⟨gb488, 0, none⟩) (by first | (rw [add_block]; exact hn489_0) | (show (Addr.add _ _).block ≠ _; rw [add_block]; exact hn489_0) | exact hn489_0) (.int .u64 0)).trans hx489_0; replace hx489_0 := (cell_far (p := ⟨gb488, 1, none⟩) (by first | (rw [add_block]; exact hn489_1) | (show (Addr.add _ _).block ≠ _; rw [add_block]; exact hn489_1) | exact hn489_1) (.int .u64 0)).trans hx489_0; replace hx489_0 := (cell_far (p := ⟨gb488, 2, none⟩) (by first | (rw [add_block]; exact hn489_2) | (show (Addr.add _ _).block ≠ _; rw [add_block]; exact hn489_2) | exact hn489_2) (.int .u64 0)).trans hx489_0; clear hn489_0; clear hn489_1; clear hn489_2; replace p489 := eq_true p489; replace q489 := eq_true q489))
                    have n0_ : Aside0 (Kd.R (Kd.int .u64) 22 ((((w33.setCell ⟨gb488, 0, none⟩ (.int .u64 0)).setCell ⟨gb488, 1, none⟩ (.int .u64 0)).setCell ⟨gb488, 2, none⟩ (.int .u64 0)).setCell ⟨gb488, 0, none⟩ (.int .u64 (rd t484 0))) w.heap.size (fun _ => True) (.slice (some ad489) t484.length co37) t484) := ⟨by (with_reducible repeat (first | apply Kd.R_alloc | apply Kd.R_drewN | apply Kd.R_drew)); exact Kd.R_mono (Kd.R_far (p := ⟨gb488, 0, none⟩) (Kd.R_far (p := ⟨gb488, 2, none⟩) (Kd.R_far (p := ⟨gb488, 1, none⟩) (Kd.R_far (p := ⟨gb488, 0, none⟩) (Kd.R_types HO_9.out BK488.out (by decide)) (fun _ hk => hk.2) (.int .u64 0)) (fun _ hk => hk.2) (.int .u64 0)) (fun _ hk => hk.2) (.int .u64 0)) (fun _ hk => hk.2) (.int .u64 (rd t484 0))) (fun _ hk => trivial)⟩
                    have n1_ : Aside0 (((((w33.setCell ⟨gb488, 0, none⟩ (.int .u64 0)).setCell ⟨gb488, 1, none⟩ (.int .u64 0)).setCell ⟨gb488, 2, none⟩ (.int .u64 0)).setCell ⟨gb488, 0, none⟩ (.int .u64 (rd t484 0))).heap[gb478]? = some (.cells #[.int .i64 a0_0, .int .u64 a0_1, .int .u64 a0_2, .int .u64 a0_3, .int .u64 a0_4] 24 (0, 0))) := ⟨bk BK478⟩
                    have n2_ : Aside0 (((((w33.setCell ⟨gb488, 0, none⟩ (.int .u64 0)).setCell ⟨gb488, 1, none⟩ (.int .u64 0)).setCell ⟨gb488, 2, none⟩ (.int .u64 0)).setCell ⟨gb488, 0, none⟩ (.int .u64 (rd t484 0))).heap[gb479]? = some (.cells #[.int .u64 0, .int .u64 0, .int .u64 0] 40 (0, 0))) := ⟨bk BK479⟩
                    have n3_ : Aside0 (((((w33.setCell ⟨gb488, 0, none⟩ (.int .u64 0)).setCell ⟨gb488, 1, none⟩ (.int .u64 0)).setCell ⟨gb488, 2, none⟩ (.int .u64 0)).setCell ⟨gb488, 0, none⟩ (.int .u64 (rd t484 0))).heap[gb488]? = some (.cells #[.int .u64 (rd t484 0), .int .u64 0, .int .u64 0] 40 (0, 0))) := ⟨bk BK488⟩
                    have n4_ : Aside0 (Below w.heap.size w ((((w33.setCell ⟨gb488, 0, none⟩ (.int .u64 0)).setCell ⟨gb488, 1, none⟩ (.int .u64 0)).setCell ⟨gb488, 2, none⟩ (.int .u64 0)).setCell ⟨gb488, 0, none⟩ (.int .u64 (rd t484 0)))) := ⟨bw HB⟩
                    (try clear HO_9)
                    (try clear BK478)
                    (try clear BK479)
                    (try clear BK488)
                    (try clear HB)
                    generalize ((((w33.setCell ⟨gb488, 0, none⟩ (.int .u64 0)).setCell ⟨gb488, 1, none⟩ (.int .u64 0)).setCell ⟨gb488, 2, none⟩ (.int .u64 0)).setCell ⟨gb488, 0, none⟩ (.int .u64 (rd t484 0))) = w38 at n0_ n1_ n2_ n3_ n4_ ⊢
                    have HO_9 := n0_
                    have BK478 := n1_
                    have BK479 := n2_
                    have BK488 := n3_
                    have HB := n4_
                    clear n0_ n1_ n2_ n3_ n4_
                    replace HO_9 := Aside0.mk (Kd.R_drew HO_9.out)
                    replace BK478 := Aside0.mk (blk_drew BK478.out)
                    replace BK479 := Aside0.mk (blk_drew BK479.out)
                    replace BK488 := Aside0.mk (blk_drew BK488.out)
                    replace HB := Aside0.mk (below_drew1 HB.out)
                    have p490 : 0 ≤ (1 : Int) := (by omega)
                    have q490 : 1 < (t484.length : Int) := of_decide_eq_true (by first | (with_reducible assumption) | assumption)
                    obtain ⟨ad490, e490, hx490_0⟩ := Kd.at_int (Kd.R_reads' HO_9.out).2.2 1 p490 q490
                    obtain rfl : ad489 = ad490 := (by injection e490)
                    (try simp only [show (1 : Int).toNat = 1 from rfl, Nat.reduceMul, Nat.reduceEqDiff, Go.Addr.add, ↓reduceIte] at hx490_0)
                    have qi490 : (1 < t484.length) = True := eq_true (by omega)
                    (try rw [show ((1 : Int)).toNat = 1 from rfl] at hx490_0)
                    replace p490 := eq_true p490
                    replace q490 := eq_true q490
                    refine start_ (n := 9) (S := fun w' => w'.cell? ⟨gb488, 0, none⟩ = some (.int .u64 (rd t484 0)) ∧ w'.cell? ⟨gb488, 1, none⟩ = some (.int .u64 0) ∧ w'.cell? ⟨gb488, 2, none⟩ = some (.int .u64 0) ∧ w'.cell? ⟨ad489.block, ad489.off + 1, none⟩ = some (.int .u64 (rd t484 1))) (ds := [8]) #[false, false, false, false, false, false, false, false, false] (by kernel_rfl) rfl rfl ⟨(blk_cell BK488.out 0).trans rfl, (blk_cell BK488.out 1).trans rfl, (blk_cell BK488.out 2).trans rfl, hx490_0⟩ (fun hHeld => ?_); refine with_tabW turnstileref24_Level.tab13 turnstileref24_Level.bits13 (fun HT_ HW_ => ?_)
                    generalize w38.drew = w39 at HO_9 BK478 BK479 BK488 HB hx490_0 hHeld ⊢
                    refine chain_ (fuel := 1) [(0, 0, some 55), (2, 0, some 57), (3, 0, some 58), (1, 1, some 56), (4, 1, some 59), (5, 0, some 60), (6, 0, some 61), (7, 0, some 62)] #[true, true, true, true, true, true, true, true, false] HT_.out HW_.out (by kernel_rfl) (fun _ _ _ _ _ h => h) (Or.inr hHeld) rfl ?_
                    (iterate 3 refine lkP ?_); (iterate 2 refine lkT ?_); (iterate 3 refine lkP ?_); refine .nil ?_
                    refine last_ (i := 8) (N := none) #[true, true, true, true, true, true, true, true, true] rfl rfl (one_of HT_.out (by kernel_rfl)) (by decide) (fun K hK => ?_)
                    have hs40 : w39.cell? ⟨gb488, 0, none⟩ = some (.int .u64 (rd t484 0)) := (blk_cell BK488.out 0).trans rfl
                    have hfs40 := blk_frozen BK488.out 0
                    have hns40_0 := NB478_488.out
                    have hns40_1 := NB479_488.out
                    have hms40_0 := NB488_478.out
                    have hms40_1 := NB488_479.out
                    refine skip_ (w1 := ?_) (by rfl) rfl ?_ ?_
                    rotate_left
                    · go_simp
                      rfl
                    refine hK.out _ _ ?_
                    clear hK K
                    refine done_ (done_of HT_.out (by kernel_rfl)) ?_
                    obtain ⟨hcz41_0, hcz41_1, hcz41_2, hfz41_0, hfz41_1, hfz41_2⟩ := bc3 BK488
                    have hnb42 := NB479_478.out
                    have hnc42 := NB478_479.out
                    obtain ⟨hcz43_0, hcz43_1, hcz43_2, hfz43_0, hfz43_1, hfz43_2⟩ := bc3 BK479
                    try go_wp2
                    refine bodyPost_ret (results_ct rfl _ _ gb479 40 #[.int .u64 (IntKind.u64.wrap ((rd t484 0) + (IntKind.u64.wrap ((rd t484 1) * 4294967296)))), .int .u64 0, .int .u64 0] (0, 0) _ rfl (blk_put (blk_put (blk_put (bk (o := .cells #[.int .u64 0, .int .u64 0, .int .u64 0] 40 (0, 0)) BK479) 0 _ rfl) 1 _ rfl) 2 _ rfl) Try.underlying40 rfl (by kernel_rfl)) rfl ?_
                    exact ⟨re, bw HB⟩
                  · rw [if_neg c32] at H
                    exact absurd H (by simp)
                · rw [if_neg c31] at H
                  have c31b0 : decide (1 < (t484.length : Int)) = false := decide_eq_false c31
                  have c31b1 : decide (1 < t484.length) = false := decide_eq_false (by omega)
                  clear c31
                  simp only [Option.some.injEq, Prod.mk.injEq] at H
                  obtain ⟨rfl, rfl, rfl, rfl⟩ := H
                  go_wp2_with (first | ((with_reducible refine gate_dst (N := 11) rfl ?_); (try (refine gate_guard (by rfl) ?_; dsimp only)); refine bx 11 #[.int .u64 0, .int .u64 0, .int .u64 0] 40 ?_; intro gb488 hg w44 hbox hb; have BK488 := Aside0.mk (hbox); have GW488 := sz HB hg; have GE488 := sz HB hg; have NB478_488 := nl BK478 hg; have NB488_478 := nr BK478 hg; have NB479_488 := nl BK479 hg; have NB488_479 := nr BK479 hg; replace HO_9 := Aside0.mk (Kd.R_below (ro HO_9) hb); replace BK478 := bb BK478 hb; replace BK479 := bb BK479 hb; replace HB := bs HB hb; clear hb hbox hg; have hnb45 := NB488_478.out; have hnc45 := NB478_488.out; have hnb46 := NB488_479.out; have hnc46 := NB479_488.out; obtain ⟨hcz47_0, hcz47_1, hcz47_2, hfz47_0, hfz47_1, hfz47_2⟩ := bc3 BK488; obtain ⟨Ao48, co48, eo48⟩ := Kd.R_slice HO_9.out; subst eo48; have p489 : 0 ≤ (0 : Int) := (by omega); have q489 : 0 < (t484.length : Int) := of_decide_eq_true (by first | (with_reducible assumption) | assumption); obtain ⟨ad489, e489, hx489_0⟩ := Kd.at_int (Kd.R_reads' HO_9.out).2.2 0 p489 q489; cases e489; have qi489 : (0 < t484.length) = True := eq_true (by omega); (try rw [show ((0 : Int)).toNat = 0 from rfl] at hx489_0); (try rw [Addr.add_zero'] at hx489_0); have hn489_0 : ad489.block ≠ gb488 := Kd.own_blk (Kd.R_ne HO_9.out BK488.out (by decide)); have hn489_1 : ad489.block ≠ gb488 := Kd.own_blk (Kd.R_ne HO_9.out BK488.out (by decide)); have hn489_2 : ad489.block ≠ gb488 := Kd.own_blk (Kd.R_ne HO_9.out BK488.out (by decide)); replace hx489_0 := (cell_far (p := ⟨gb488, 0, none⟩) (by first | (rw [add_block]; exact hn489_0) | (show (Addr.add _ _).block ≠ _; rw [add_block]; exact hn489_0) | exact hn489_0) (.int .u64 0)).trans hx489_0; replace hx489_0 := (cell_far (p := ⟨gb488, 1, none⟩) (by first | (rw [add_block]; exact hn489_1) | (show (Addr.add _ _).block ≠ _; rw [add_block]; exact hn489_1) | exact hn489_1) (.int .u64 0)).trans hx489_0; replace hx489_0 := (cell_far (p := ⟨gb488, 2, none⟩) (by first | (rw [add_block]; exact hn489_2) | (show (Addr.add _ _).block ≠ _; rw [add_block]; exact hn489_2) | exact hn489_2) (.int .u64 0)).trans hx489_0; clear hn489_0; clear hn489_1; clear hn489_2; replace p489 := eq_true p489; replace q489 := eq_true q489; have hnb49 := NB479_478.out; have hnc49 := NB478_479.out; obtain ⟨hcz50_0, hcz50_1, hcz50_2, hfz50_0, hfz50_1, hfz50_2⟩ := bc3 BK479))
                  refine bodyPost_ret (results_ct rfl _ _ gb479 40 #[.int .u64 (rd t484 0), .int .u64 0, .int .u64 0] (0, 0) _ rfl (blk_put (blk_put (blk_put (bk (o := .cells #[.int .u64 0, .int .u64 0, .int .u64 0] 40 (0, 0)) BK479) 0 _ rfl) 1 _ rfl) 2 _ rfl) Try.underlying40 rfl (by kernel_rfl)) rfl ?_
                  exact ⟨re, bw HB⟩
              · rw [if_neg c30] at H
                exact absurd H (by simp)
            · rw [if_neg c29] at H
              have c29b0 : decide (0 < (t484.length : Int)) = false := decide_eq_false c29
              have c29b1 : decide (0 < t484.length) = false := decide_eq_false (by omega)
              clear c29
              by_cases c51 : (t484.length : Int) > 1
              · rw [if_pos c51] at H
                have c51b0 : decide (1 < (t484.length : Int)) = true := decide_eq_true c51
                have c51b1 : decide (1 < t484.length) = true := decide_eq_true (by omega)
                clear c51
                by_cases c52 : 1 < (t484.length : Int)
                · rw [if_pos c52] at H
                  have c52b0 : decide (1 < (t484.length : Int)) = true := decide_eq_true c52
                  have c52b1 : decide (1 < t484.length) = true := decide_eq_true (by omega)
                  clear c52
                  simp only [Option.some.injEq, Prod.mk.injEq] at H
                  obtain ⟨rfl, rfl, rfl, rfl⟩ := H
                  try go_wp2_with (first | ((with_reducible refine gate_dst (N := 11) rfl ?_); (try (refine gate_guard (by rfl) ?_; dsimp only)); refine bx 11 #[.int .u64 0, .int .u64 0, .int .u64 0] 40 ?_; intro gb488 hg w53 hbox hb; have BK488 := Aside0.mk (hbox); have GW488 := sz HB hg; have GE488 := sz HB hg; have NB478_488 := nl BK478 hg; have NB488_478 := nr BK478 hg; have NB479_488 := nl BK479 hg; have NB488_479 := nr BK479 hg; replace HO_9 := Aside0.mk (Kd.R_below (ro HO_9) hb); replace BK478 := bb BK478 hb; replace BK479 := bb BK479 hb; replace HB := bs HB hb; clear hb hbox hg; have hnb54 := NB488_478.out; have hnc54 := NB478_488.out; have hnb55 := NB488_479.out; have hnc55 := NB479_488.out; obtain ⟨hcz56_0, hcz56_1, hcz56_2, hfz56_0, hfz56_1, hfz56_2⟩ := bc3 BK488; obtain ⟨Ao57, co57, eo57⟩ := Kd.R_slice HO_9.out; subst eo57))
                  have n0_ : Aside0 (Kd.R (Kd.int .u64) 22 (((w53.setCell ⟨gb488, 0, none⟩ (.int .u64 0)).setCell ⟨gb488, 1, none⟩ (.int .u64 0)).setCell ⟨gb488, 2, none⟩ (.int .u64 0)) w.heap.size (fun _ => True) (.slice Ao57 t484.length co57) t484) := ⟨by (with_reducible repeat (first | apply Kd.R_alloc | apply Kd.R_drewN | apply Kd.R_drew)); exact Kd.R_mono (Kd.R_far (p := ⟨gb488, 2, none⟩) (Kd.R_far (p := ⟨gb488, 1, none⟩) (Kd.R_far (p := ⟨gb488, 0, none⟩) (Kd.R_types HO_9.out BK488.out (by decide)) (fun _ hk => hk.2) (.int .u64 0)) (fun _ hk => hk.2) (.int .u64 0)) (fun _ hk => hk.2) (.int .u64 0)) (fun _ hk => trivial)⟩
                  have n1_ : Aside0 ((((w53.setCell ⟨gb488, 0, none⟩ (.int .u64 0)).setCell ⟨gb488, 1, none⟩ (.int .u64 0)).setCell ⟨gb488, 2, none⟩ (.int .u64 0)).heap[gb478]? = some (.cells #[.int .i64 a0_0, .int .u64 a0_1, .int .u64 a0_2, .int .u64 a0_3, .int .u64 a0_4] 24 (0, 0))) := ⟨bk BK478⟩
                  have n2_ : Aside0 ((((w53.setCell ⟨gb488, 0, none⟩ (.int .u64 0)).setCell ⟨gb488, 1, none⟩ (.int .u64 0)).setCell ⟨gb488, 2, none⟩ (.int .u64 0)).heap[gb479]? = some (.cells #[.int .u64 0, .int .u64 0, .int .u64 0] 40 (0, 0))) := ⟨bk BK479⟩
                  have n3_ : Aside0 ((((w53.setCell ⟨gb488, 0, none⟩ (.int .u64 0)).setCell ⟨gb488, 1, none⟩ (.int .u64 0)).setCell ⟨gb488, 2, none⟩ (.int .u64 0)).heap[gb488]? = some (.cells #[.int .u64 0, .int .u64 0, .int .u64 0] 40 (0, 0))) := ⟨bk BK488⟩
                  have n4_ : Aside0 (Below w.heap.size w (((w53.setCell ⟨gb488, 0, none⟩ (.int .u64 0)).setCell ⟨gb488, 1, none⟩ (.int .u64 0)).setCell ⟨gb488, 2, none⟩ (.int .u64 0))) := ⟨bw HB⟩
                  (try clear HO_9)
                  (try clear BK478)
                  (try clear BK479)
                  (try clear BK488)
                  (try clear HB)
                  generalize (((w53.setCell ⟨gb488, 0, none⟩ (.int .u64 0)).setCell ⟨gb488, 1, none⟩ (.int .u64 0)).setCell ⟨gb488, 2, none⟩ (.int .u64 0)) = w58 at n0_ n1_ n2_ n3_ n4_ ⊢
                  have HO_9 := n0_
                  have BK478 := n1_
                  have BK479 := n2_
                  have BK488 := n3_
                  have HB := n4_
                  clear n0_ n1_ n2_ n3_ n4_
                  replace HO_9 := Aside0.mk (Kd.R_drew HO_9.out)
                  replace BK478 := Aside0.mk (blk_drew BK478.out)
                  replace BK479 := Aside0.mk (blk_drew BK479.out)
                  replace BK488 := Aside0.mk (blk_drew BK488.out)
                  replace HB := Aside0.mk (below_drew1 HB.out)
                  have p491 : 0 ≤ (1 : Int) := (by omega)
                  have q491 : 1 < (t484.length : Int) := of_decide_eq_true (by first | (with_reducible assumption) | assumption)
                  obtain ⟨ad491, e491, hx491_0⟩ := Kd.at_int (Kd.R_reads' HO_9.out).2.2 1 p491 q491
                  cases e491
                  (try simp only [show (1 : Int).toNat = 1 from rfl, Nat.reduceMul, Nat.reduceEqDiff, Go.Addr.add, ↓reduceIte] at hx491_0)
                  have qi491 : (1 < t484.length) = True := eq_true (by omega)
                  (try rw [show ((1 : Int)).toNat = 1 from rfl] at hx491_0)
                  replace p491 := eq_true p491
                  replace q491 := eq_true q491
                  refine start_ (n := 9) (S := fun w' => w'.cell? ⟨gb488, 0, none⟩ = some (.int .u64 0) ∧ w'.cell? ⟨gb488, 1, none⟩ = some (.int .u64 0) ∧ w'.cell? ⟨gb488, 2, none⟩ = some (.int .u64 0) ∧ w'.cell? ⟨ad491.block, ad491.off + 1, none⟩ = some (.int .u64 (rd t484 1))) (ds := [8]) #[false, false, false, false, false, false, false, false, false] (by kernel_rfl) rfl rfl ⟨(blk_cell BK488.out 0).trans rfl, (blk_cell BK488.out 1).trans rfl, (blk_cell BK488.out 2).trans rfl, hx491_0⟩ (fun hHeld => ?_); refine with_tabW turnstileref24_Level.tab13 turnstileref24_Level.bits13 (fun HT_ HW_ => ?_)
                  generalize w58.drew = w59 at HO_9 BK478 BK479 BK488 HB hx491_0 hHeld ⊢
                  refine chain_ (fuel := 1) [(0, 0, some 55), (2, 0, some 57), (3, 0, some 58), (1, 1, some 56), (4, 1, some 59), (5, 0, some 60), (6, 0, some 61), (7, 0, some 62)] #[true, true, true, true, true, true, true, true, false] HT_.out HW_.out (by kernel_rfl) (fun _ _ _ _ _ h => h) (Or.inr hHeld) rfl ?_
                  (iterate 3 refine lkP ?_); (iterate 2 refine lkT ?_); (iterate 3 refine lkP ?_); refine .nil ?_
                  refine last_ (i := 8) (N := none) #[true, true, true, true, true, true, true, true, true] rfl rfl (one_of HT_.out (by kernel_rfl)) (by decide) (fun K hK => ?_)
                  have hs60 : w59.cell? ⟨gb488, 0, none⟩ = some (.int .u64 0) := (blk_cell BK488.out 0).trans rfl
                  have hfs60 := blk_frozen BK488.out 0
                  have hns60_0 := NB478_488.out
                  have hns60_1 := NB479_488.out
                  have hms60_0 := NB488_478.out
                  have hms60_1 := NB488_479.out
                  refine skip_ (w1 := ?_) (by rfl) rfl ?_ ?_
                  rotate_left
                  · go_simp
                    rfl
                  refine hK.out _ _ ?_
                  clear hK K
                  refine done_ (done_of HT_.out (by kernel_rfl)) ?_
                  obtain ⟨hcz61_0, hcz61_1, hcz61_2, hfz61_0, hfz61_1, hfz61_2⟩ := bc3 BK488
                  have hnb62 := NB479_478.out
                  have hnc62 := NB478_479.out
                  obtain ⟨hcz63_0, hcz63_1, hcz63_2, hfz63_0, hfz63_1, hfz63_2⟩ := bc3 BK479
                  try go_wp2
                  refine bodyPost_ret (results_ct rfl _ _ gb479 40 #[.int .u64 (IntKind.u64.wrap ((IntKind.u64.wrap ((rd t484 1) * 4294967296)))), .int .u64 0, .int .u64 0] (0, 0) _ rfl (blk_put (blk_put (blk_put (bk (o := .cells #[.int .u64 0, .int .u64 0, .int .u64 0] 40 (0, 0)) BK479) 0 _ rfl) 1 _ rfl) 2 _ rfl) Try.underlying40 rfl (by kernel_rfl)) rfl ?_
                  exact ⟨re, bw HB⟩
                · rw [if_neg c52] at H
                  exact absurd H (by simp)
              · rw [if_neg c51] at H
                have c51b0 : decide (1 < (t484.length : Int)) = false := decide_eq_false c51
                have c51b1 : decide (1 < t484.length) = false := decide_eq_false (by omega)
                clear c51
                simp only [Option.some.injEq, Prod.mk.injEq] at H
                obtain ⟨rfl, rfl, rfl, rfl⟩ := H
                go_wp2_with (first | ((with_reducible refine gate_dst (N := 11) rfl ?_); (try (refine gate_guard (by rfl) ?_; dsimp only)); refine bx 11 #[.int .u64 0, .int .u64 0, .int .u64 0] 40 ?_; intro gb488 hg w64 hbox hb; have BK488 := Aside0.mk (hbox); have GW488 := sz HB hg; have GE488 := sz HB hg; have NB478_488 := nl BK478 hg; have NB488_478 := nr BK478 hg; have NB479_488 := nl BK479 hg; have NB488_479 := nr BK479 hg; replace HO_9 := Aside0.mk (Kd.R_below (ro HO_9) hb); replace BK478 := bb BK478 hb; replace BK479 := bb BK479 hb; replace HB := bs HB hb; clear hb hbox hg; have hnb65 := NB488_478.out; have hnc65 := NB478_488.out; have hnb66 := NB488_479.out; have hnc66 := NB479_488.out; obtain ⟨hcz67_0, hcz67_1, hcz67_2, hfz67_0, hfz67_1, hfz67_2⟩ := bc3 BK488; obtain ⟨Ao68, co68, eo68⟩ := Kd.R_slice HO_9.out; subst eo68; have hnb69 := NB479_478.out; have hnc69 := NB478_479.out; obtain ⟨hcz70_0, hcz70_1, hcz70_2, hfz70_0, hfz70_1, hfz70_2⟩ := bc3 BK479))
                refine bodyPost_ret (results_ct rfl _ _ gb479 40 #[.int .u64 0, .int .u64 0, .int .u64 0] (0, 0) _ rfl (blk_put (blk_put (blk_put (bk (o := .cells #[.int .u64 0, .int .u64 0, .int .u64 0] 40 (0, 0)) BK479) 0 _ rfl) 1 _ rfl) 2 _ rfl) Try.underlying40 rfl (by kernel_rfl)) rfl ?_
                exact ⟨re, bw HB⟩
  · replace c4 := Bool.eq_false_iff.mpr c4
    subst c4
    have H1 : (some (0, 0, 0, false)) = some (r1, r2, r3, r4) := by rw [if_neg (show ¬ (false = true) by decide)] at H; exact H
    clear H
    have H := H1
    clear H1
    simp only [Option.some.injEq, Prod.mk.injEq] at H
    obtain ⟨rfl, rfl, rfl, rfl⟩ := H
    go_enter Try.func27, Try.ntmps27
    go_wp2_with (first | ((with_reducible refine gate_dst (N := 2) rfl ?_); (try (refine gate_guard (by rfl) ?_; dsimp only)); refine bx 2 #[.int .i64 a0_0, .int .u64 a0_1, .int .u64 a0_2, .int .u64 a0_3, .int .u64 a0_4] 24 ?_; intro gb478 hg w71 hbox hb; have BK478 := Aside0.mk (hbox); have GW478 := sz HB hg; have GE478 := sz HB hg; replace HB := bs HB hb; clear hb hbox hg) | ((with_reducible refine gate_dst (N := 4) rfl ?_); (try (refine gate_guard (by rfl) ?_; dsimp only)); refine bx 4 #[.int .u64 0, .int .u64 0, .int .u64 0] 40 ?_; intro gb479 hg w72 hbox hb; have BK479 := Aside0.mk (hbox); have GW479 := sz HB hg; have GE479 := sz HB hg; have NB478_479 := nl BK478 hg; have NB479_478 := nr BK478 hg; replace BK478 := bb BK478 hb; replace HB := bs HB hb; clear hb hbox hg; have hnb73 := NB478_479.out; have hnc73 := NB479_478.out; obtain ⟨hcz74_0, hcz74_1, hcz74_2, hcz74_3, hcz74_4, hfz74_0, hfz74_1, hfz74_2, hfz74_3, hfz74_4⟩ := bc5 BK478) | ((with_reducible refine gate_callee (f := 30) rfl ?_); refine gm (some 13) Try.func30 #[.agg #[.int .i64 a0_0, .int .u64 a0_1, .int .u64 a0_2, .int .u64 a0_3, .int .u64 a0_4]] (turnstileref24_valid.calls a0_0 a0_1 a0_2 a0_3 a0_4 false _ A3.out) ?_; intro w75 hb; replace BK478 := bb BK478 hb; replace BK479 := bb BK479 hb; replace HB := bs HB hb; (try clear hb); (try clear hb2); (try clear hk); (try clear hi); obtain ⟨hcz76_0, hcz76_1, hcz76_2, hfz76_0, hfz76_1, hfz76_2⟩ := bc3 BK479))
    refine bodyPost_ret (results_ct rfl _ _ gb479 40 #[.int .u64 0, .int .u64 0, .int .u64 0] (0, 0) _ rfl (blk_put (blk_put (blk_put (bk (o := .cells #[.int .u64 0, .int .u64 0, .int .u64 0] 40 (0, 0)) BK479) 0 _ rfl) 1 _ rfl) 2 _ rfl) Try.underlying40 rfl (by kernel_rfl)) rfl ?_
    exact ⟨re, bw HB⟩

end Go.Proofs.Ytdoifmefhofnnaa.D
