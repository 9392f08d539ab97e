/- Written by the session's own program hyb.py: what functions of the program compute; Lean checks it. -/
import Derived.Test.YthnpgilknoiaaaaQx0
import Derived.Test.YthnpgilknoiaaaaQx9
import Derived.Test.YthnpgilknoiaaaaQx10
namespace Go.Proofs.Ythnpgilknoiaaaa.Q
open Go.RowKit Go.Proofs.YthnpgilknoiaaaaW.PrintWords Go.Proofs.YthnpgilknoiaaaaW.PrintLast Go.Proofs.YthnpgilknoiaaaaW.PrintMore Go.Proofs.YthnpgilknoiaaaaW.PrintShort
attribute [local go_sem] run_Add64 run_Sub64
attribute [local go_sem] max2_int min2_int max_two min_two max_three min_three max_four min_four   -- for this text's walks alone
set_option linter.unusedVariables false
set_option linter.unusedSimpArgs false

/-! ### turnstileref03_product: function 62 -/
mutual
def turnstileref03_product.l0 : Nat → List Int → List Int → List Int → Int → Option (List Int)
  | 0, _, _, _, _ => none
  | k + 1, x0, x1, x5, x6 => if x6 < 8 then (turnstileref03_product.l1 k x0 x1 x5 x6 0 0) else (some x5)
def turnstileref03_product.l1 : Nat → List Int → List Int → List Int → Int → Int → Int → Option (List Int)
  | 0, _, _, _, _, _, _ => none
  | k + 1, x0, x1, x5, x6, x7, x8 => if x8 < 8 then (if 0 ≤ (wrap64 (x6 + x8)) then (if (wrap64 (x6 + x8)) < (x5.length : Int) then (if 0 ≤ x6 then (if x6 < (x0.length : Int) then (if 0 ≤ x8 then (if x8 < (x1.length : Int) then (turnstileref03_product.l1 k x0 x1 (x5.set ((wrap64 (x6 + x8)) : Int).toNat (Int.tmod (IntKind.u64.wrap (x7 + (IntKind.u64.wrap ((rd x5 (wrap64 (x6 + x8))) + (IntKind.u64.wrap ((rd x0 x6) * (rd x1 x8))))))) 65536)) x6 (IntKind.u64.wrap (Int.tdiv (IntKind.u64.wrap (x7 + (IntKind.u64.wrap ((rd x5 (wrap64 (x6 + x8))) + (IntKind.u64.wrap ((rd x0 x6) * (rd x1 x8))))))) 65536)) (wrap64 (x8 + 1))) else (none)) else (none)) else (none)) else (none)) else (none)) else (none)) else (if 0 ≤ (wrap64 (x6 + 8)) then (if (wrap64 (x6 + 8)) < (x5.length : Int) then (turnstileref03_product.l0 k x0 x1 (x5.set ((wrap64 (x6 + 8)) : Int).toNat (IntKind.u64.wrap ((rd x5 (wrap64 (x6 + 8))) + x7))) (wrap64 (x6 + 1))) else (none)) else (none))
end
def turnstileref03_product.f (k : Nat) (l0 : List Int) (l1 : List Int) : Option (List Int) := if 17 ≤ 35184372088832 then (turnstileref03_product.l0 k l0 l1 (List.replicate 17 0) 0) else (none)
theorem turnstileref03_product.mono_l : ∀ k, (∀ y0 y1 y2 y3, LeO (turnstileref03_product.l0 k y0 y1 y2 y3) (turnstileref03_product.l0 (k + 1) y0 y1 y2 y3)) ∧ (∀ y0 y1 y2 y3 y4 y5, LeO (turnstileref03_product.l1 k y0 y1 y2 y3 y4 y5) (turnstileref03_product.l1 (k + 1) y0 y1 y2 y3 y4 y5))
  | 0 => ⟨fun _ _ _ _ r h => by simp [turnstileref03_product.l0] at h, fun _ _ _ _ _ _ r h => by simp [turnstileref03_product.l1] at h⟩
  | k + 1 => by
    obtain ⟨ih0, ih1⟩ := turnstileref03_product.mono_l k
    refine ⟨?_, ?_⟩
    · intro y0 y1 y2 y3
      unfold turnstileref03_product.l0
      repeat' first
      | (with_reducible exact ih0 _ _ _ _)
      | (with_reducible exact ih1 _ _ _ _ _ _)
      | (with_reducible exact LeO.refl _)
      | (with_reducible exact LeO.none _)
      | (with_reducible refine LeO.ite ?_ ?_)
      | (with_reducible refine LeO.bind ?_ (fun _ => ?_))
      | exact ih0 _ _ _ _
      | exact ih1 _ _ _ _ _ _
      | exact LeO.none _
      | refine LeO.ite ?_ ?_
      | refine LeO.bind ?_ (fun _ => ?_)
    · intro y0 y1 y2 y3 y4 y5
      unfold turnstileref03_product.l1
      repeat' first
      | (with_reducible exact ih0 _ _ _ _)
      | (with_reducible exact ih1 _ _ _ _ _ _)
      | (with_reducible exact LeO.refl _)
      | (with_reducible exact LeO.none _)
      | (with_reducible refine LeO.ite ?_ ?_)
      | (with_reducible refine LeO.bind ?_ (fun _ => ?_))
      | exact ih0 _ _ _ _
      | exact ih1 _ _ _ _ _ _
      | exact LeO.none _
      | refine LeO.ite ?_ ?_
      | refine LeO.bind ?_ (fun _ => ?_)
theorem turnstileref03_product.mono : ∀ a0 a1 k, LeO (turnstileref03_product.f k a0 a1) (turnstileref03_product.f (k + 1) a0 a1) := by
  intro a0 a1 k
  obtain ⟨ih0, ih1⟩ := turnstileref03_product.mono_l k
  unfold turnstileref03_product.f
  repeat' first
      | (with_reducible exact ih0 _ _ _ _)
      | (with_reducible exact ih1 _ _ _ _ _ _)
      | (with_reducible exact LeO.refl _)
      | (with_reducible exact LeO.none _)
      | (with_reducible refine LeO.ite ?_ ?_)
      | (with_reducible refine LeO.bind ?_ (fun _ => ?_))
      | exact ih0 _ _ _ _
      | exact ih1 _ _ _ _ _ _
      | exact LeO.none _
      | refine LeO.ite ?_ ?_
      | refine LeO.bind ?_ (fun _ => ?_)
set_option maxHeartbeats 8000000 in
set_option maxRecDepth 100000 in
theorem turnstileref03_product.calls (k : Nat) (A0 : Option Addr) (c0 : Nat) (l0 : List Int) (A1 : Option Addr) (c1 : Nat) (l1 : List Int) (r : List Int) (w : World) (hr0 : Kd.C (Kd.int .u64) w A0 l0.length l0) (hc0 : l0.length ≤ c0) (hr1 : Kd.C (Kd.int .u64) w A1 l1.length l1) (hc1 : l1.length ≤ c1) (h : turnstileref03_product.f k l0 l1 = some r) :
    Calls Try.prog 62 #[.slice A0 l0.length c0, .slice A1 l1.length c1] w fun e w' => ∃ v0_ : Value, e = .returned (v0_) ∧ Kd.R (Kd.int .u64) 22 w' w.heap.size (fun _ => True) v0_ r ∧ Below w.heap.size w w' := by
  have HR0 := Aside0.mk hr0
  have HC0 := Aside0.mk hc0
  clear hr0 hc0
  have HR1 := Aside0.mk hr1
  have HC1 := Aside0.mk hc1
  clear hr1 hc1
  have HB := Aside0.mk (Below.refl w.heap.size w)
  have H : (if 17 ≤ 35184372088832 then (turnstileref03_product.l0 k l0 l1 (List.replicate 17 0) 0) else (none)) = some r := h
  clear h
  by_cases c3 : 17 ≤ 35184372088832
  · rw [if_pos c3] at H
    have c3b0 := eq_true c3
    have c3b1 : decide (17 ≤ 35184372088832) = true := decide_eq_true c3
    clear c3
    obtain ⟨y234, hy234⟩ : ∃ y_ : List Int, y_ = (List.replicate 17 0) := ⟨_, rfl⟩
    replace H : (turnstileref03_product.l0 k l0 l1 y234 0) = some r := by first | (rw [hy234]; with_reducible exact H) | (have H2_ := (Option.bind_some _ _).symm.trans H; rw [hy234]; with_reducible exact H2_) | (have H2_ := (Option.bind_some _ _).symm.trans H; with_reducible exact H2_) | with_reducible exact H | (rw [hy234]; exact H) | exact H
    have Ny234 := Aside0.mk hy234
    clear hy234
    have H' := Aside0.mk H
    clear H
    go_enter Try.func62, Try.ntmps62
    go_wp2_with (first | ((with_reducible refine gate_dst (N := 9) rfl ?_); refine Kd.R_make (Kd.int .u64) _ 22 rfl (N := 9) rfl 80 _ _ rfl 17 rfl rfl Try.underlying80 (.int .u64 0) 8 info22 rfl (by decide) (by omega) 0 (ok := fun _ => True) (okp := fun _ => True) rfl (fun _ hk => hk) trivial (by omega) (by omega) (Below.refl _ _) (Nat.le_refl _) ?_; intro v235 w4 ho5 hb hg_ hnew_; clear hg_ hnew_; (first | rw [← Ny234.out] at ho5 | (simp only [Int.reduceToNat] at ho5; rw [← Ny234.out] at ho5)); have n0_ := Aside0.mk (Kd.R_lower ho5 (below_size (bw HB))); have n1_ := bs HB hb; clear HB; have HO236 := n0_; have HB := n1_; clear n0_ n1_; clear hb ho5))
    repeat (go_quiet (first | ((with_reducible refine gate_dst (N := 9) rfl ?_); refine Kd.R_make (Kd.int .u64) _ 22 rfl (N := 9) rfl 80 _ _ rfl 17 rfl rfl Try.underlying80 (.int .u64 0) 8 info22 rfl (by decide) (by omega) 0 (ok := fun _ => True) (okp := fun _ => True) rfl (fun _ hk => hk) trivial (by omega) (by omega) (Below.refl _ _) (Nat.le_refl _) ?_; intro v235 w4 ho5 hb hg_ hnew_; clear hg_ hnew_; (first | rw [← Ny234.out] at ho5 | (simp only [Int.reduceToNat] at ho5; rw [← Ny234.out] at ho5)); have n0_ := Aside0.mk (Kd.R_lower ho5 (below_size (bw HB))); have n1_ := bs HB hb; clear HB; have HO236 := n0_; have HB := n1_; clear n0_ n1_; clear hb ho5)); try go_wp2_with (first | ((with_reducible refine gate_dst (N := 9) rfl ?_); refine Kd.R_make (Kd.int .u64) _ 22 rfl (N := 9) rfl 80 _ _ rfl 17 rfl rfl Try.underlying80 (.int .u64 0) 8 info22 rfl (by decide) (by omega) 0 (ok := fun _ => True) (okp := fun _ => True) rfl (fun _ hk => hk) trivial (by omega) (by omega) (Below.refl _ _) (Nat.le_refl _) ?_; intro v235 w4 ho5 hb hg_ hnew_; clear hg_ hnew_; (first | rw [← Ny234.out] at ho5 | (simp only [Int.reduceToNat] at ho5; rw [← Ny234.out] at ho5)); have n0_ := Aside0.mk (Kd.R_lower ho5 (below_size (bw HB))); have n1_ := bs HB hb; clear HB; have HO236 := n0_; have HB := n1_; clear n0_ n1_; clear hb ho5)))
    go_loopg [6] k (fun kq v6 w' => ∃ (x5_1 : List Int) (x6_1 : Int), v6 = .int .i64 x6_1 ∧ Aside0 (turnstileref03_product.l0 kq l0 l1 x5_1 x6_1 = some r) ∧ Aside0 (kq ≤ k) ∧ Aside0 (Kd.R (Kd.int .u64) 22 w' w.heap.size (fun _ => True) v235 x5_1) ∧ Aside0 (Below w.heap.size w w'))
    case atStart => exact ⟨(y234), (0), rs, H', ⟨Nat.le_refl _⟩, ⟨by (with_reducible repeat (first | apply Kd.R_alloc | apply Kd.R_drewN | apply Kd.R_drew)); exact HO236.out⟩, ⟨bw HB⟩⟩
    case round =>
      clear H'
      try clear c1
      try clear p2
      try clear c3
      try clear c3b0
      try clear c3b1
      obtain ⟨x5_1, x6_1, rfl, HA, HK1, HO_5, HB⟩ := hrel
      cases gk with
      | zero => exact absurd HA.out (by simp [turnstileref03_product.l0])
      | succ k1 =>
        have H := HA.out
        clear HA
        simp only [turnstileref03_product.l0] at H
        by_cases c6 : x6_1 < 8
        · rw [if_pos c6] at H
          have c6b0 : decide (x6_1 < 8) = true := decide_eq_true c6
          clear c6
          have H' := Aside0.mk H
          clear H
          go_wp2
          repeat (go_quiet (fail); try go_wp2)
          go_loopg [7, 8] k1 (fun kq v7 v8 w' => ∃ (x5_2 : List Int) (x7_2 : Int) (x8_2 : Int), v7 = .int .u64 x7_2 ∧ v8 = .int .i64 x8_2 ∧ Aside0 (turnstileref03_product.l1 kq l0 l1 x5_2 x6_1 x7_2 x8_2 = some r) ∧ Aside0 (kq ≤ k1) ∧ Aside0 (Kd.R (Kd.int .u64) 22 w' w.heap.size (fun _ => True) v235 x5_2) ∧ Aside0 (Below w.heap.size w w'))
          case atStart => exact ⟨(x5_1), (0), (0), rs, rs, H', ⟨Nat.le_refl _⟩, ⟨by (with_reducible repeat (first | apply Kd.R_alloc | apply Kd.R_drewN | apply Kd.R_drew)); exact HO_5.out⟩, ⟨bw HB⟩⟩
          case round =>
            clear H'
            try clear c1
            try clear p2
            try clear c3
            try clear c3b0
            try clear c3b1
            try clear c6
            try clear c6b0
            try clear p2
            obtain ⟨x5_2, x7_2, x8_2, rfl, rfl, HA, HK2, HO_5, HB⟩ := hrel
            cases gk with
            | zero => exact absurd HA.out (by simp [turnstileref03_product.l1])
            | succ k2 =>
              have H := HA.out
              clear HA
              simp only [turnstileref03_product.l1] at H
              by_cases c7 : x8_2 < 8
              · rw [if_pos c7] at H
                have c7b0 : decide (x8_2 < 8) = true := decide_eq_true c7
                clear c7
                obtain ⟨ji8, hji8⟩ : ∃ j_ : Int, (wrap64 (x6_1 + x8_2)) = j_ := ⟨_, rfl⟩
                replace H : (if 0 ≤ (ji8) then (if (ji8) < (x5_2.length : Int) then (if 0 ≤ x6_1 then (if x6_1 < (l0.length : Int) then (if 0 ≤ x8_2 then (if x8_2 < (l1.length : Int) then (turnstileref03_product.l1 k2 l0 l1 (x5_2.set ((ji8) : Int).toNat (Int.tmod (IntKind.u64.wrap (x7_2 + (IntKind.u64.wrap ((rd x5_2 (ji8)) + (IntKind.u64.wrap ((rd l0 x6_1) * (rd l1 x8_2))))))) 65536)) x6_1 (IntKind.u64.wrap (Int.tdiv (IntKind.u64.wrap (x7_2 + (IntKind.u64.wrap ((rd x5_2 (ji8)) + (IntKind.u64.wrap ((rd l0 x6_1) * (rd l1 x8_2))))))) 65536)) (wrap64 (x8_2 + 1))) else (none)) else (none)) else (none)) else (none)) else (none)) else (none)) = some r := by first | (rw [hji8] at H; exact H) | (simp only [hji8] at H ⊢; exact H)
                have hji8w : (IntKind.i64.wrap (x6_1 + x8_2)) = ji8 := (i64_w _).trans hji8
                by_cases c9 : 0 ≤ (ji8)
                · rw [if_pos c9] at H
                  have c9b0 : decide (0 ≤ (ji8)) = true := decide_eq_true c9
                  clear c9
                  by_cases c10 : (ji8) < (x5_2.length : Int)
                  · rw [if_pos c10] at H
                    have c10b0 : decide ((ji8) < (x5_2.length : Int)) = true := decide_eq_true c10
                    clear c10
                    by_cases c11 : 0 ≤ x6_1
                    · rw [if_pos c11] at H
                      have c11b0 : decide (0 ≤ x6_1) = true := decide_eq_true c11
                      clear c11
                      by_cases c12 : x6_1 < (l0.length : Int)
                      · rw [if_pos c12] at H
                        have c12b0 : decide (x6_1 < (l0.length : Int)) = true := decide_eq_true c12
                        clear c12
                        by_cases c13 : 0 ≤ x8_2
                        · rw [if_pos c13] at H
                          have c13b0 : decide (0 ≤ x8_2) = true := decide_eq_true c13
                          clear c13
                          by_cases c14 : x8_2 < (l1.length : Int)
                          · rw [if_pos c14] at H
                            have c14b0 : decide (x8_2 < (l1.length : Int)) = true := decide_eq_true c14
                            clear c14
                            obtain ⟨y240, hy240⟩ : ∃ y_ : List Int, y_ = (x5_2.set ((ji8) : Int).toNat (Int.tmod (IntKind.u64.wrap (x7_2 + (IntKind.u64.wrap ((rd x5_2 (ji8)) + (IntKind.u64.wrap ((rd l0 x6_1) * (rd l1 x8_2))))))) 65536)) := ⟨_, rfl⟩
                            replace H : (turnstileref03_product.l1 k2 l0 l1 y240 x6_1 (IntKind.u64.wrap (Int.tdiv (IntKind.u64.wrap (x7_2 + (IntKind.u64.wrap ((rd x5_2 (ji8)) + (IntKind.u64.wrap ((rd l0 x6_1) * (rd l1 x8_2))))))) 65536)) (wrap64 (x8_2 + 1))) = some r := by first | (rw [hy240]; with_reducible exact H) | (have H2_ := (Option.bind_some _ _).symm.trans H; rw [hy240]; with_reducible exact H2_) | (have H2_ := (Option.bind_some _ _).symm.trans H; with_reducible exact H2_) | with_reducible exact H | (rw [hy240]; exact H) | exact H
                            have Ny240 := Aside0.mk hy240
                            clear hy240
                            have H' := Aside0.mk H
                            clear H
                            obtain ⟨Ao16, co16, eo16⟩ := Kd.R_slice HO_5.out
                            subst eo16
                            have p237 : 0 ≤ ((ji8) : Int) := of_decide_eq_true (by first | (with_reducible assumption) | assumption)
                            have q237 : (ji8) < (x5_2.length : Int) := of_decide_eq_true (by first | (with_reducible assumption) | assumption)
                            obtain ⟨ad237, e237, hx237_0⟩ := Kd.at_int (Kd.R_reads' HO_5.out).2.2 (ji8) p237 q237
                            cases e237
                            replace p237 := eq_true p237
                            replace q237 := eq_true q237
                            have p238 : 0 ≤ (x6_1 : Int) := of_decide_eq_true (by first | (with_reducible assumption) | assumption)
                            have q238 : x6_1 < (l0.length : Int) := of_decide_eq_true (by first | (with_reducible assumption) | assumption)
                            obtain ⟨ad238, e238, hx238_0⟩ := Kd.at_int HR0.out x6_1 p238 q238
                            cases e238
                            replace hx238_0 := (HB.out.cell (World.block_lt_of_cell? w _ hx238_0)).trans hx238_0
                            replace p238 := eq_true p238
                            replace q238 := eq_true q238
                            have p239 : 0 ≤ (x8_2 : Int) := of_decide_eq_true (by first | (with_reducible assumption) | assumption)
                            have q239 : x8_2 < (l1.length : Int) := of_decide_eq_true (by first | (with_reducible assumption) | assumption)
                            obtain ⟨ad239, e239, hx239_0⟩ := Kd.at_int HR1.out x8_2 p239 q239
                            cases e239
                            replace hx239_0 := (HB.out.cell (World.block_lt_of_cell? w _ hx239_0)).trans hx239_0
                            replace p239 := eq_true p239
                            replace q239 := eq_true q239
                            have p15 : 0 ≤ ((ji8) : Int) := of_decide_eq_true (by first | (with_reducible assumption) | assumption)
                            have q15 : ((ji8) : Int) < ((x5_2.length : Int) : Int) := of_decide_eq_true (by first | (with_reducible assumption) | assumption)
                            obtain ⟨go15, co15, eo15, gb15, gl15, cl15, HG15⟩ := Kd.R_form HO_5.out (by omega)
                            (first | cases eo15 | (injection eo15 with ea_ en_ ec_; (first | subst ea_ | (injection ea_ with ea_; subst ea_)); subst ec_; clear en_))
                            have GB15 := Aside0.mk gb15
                            have GG15 := Aside0.mk HG15
                            clear gb15 gl15 HG15
                            (first | simp only [add_plain] at hx237_0 | skip)
                            obtain ⟨hx15_0, hf15_0⟩ := Kd.R_celln 0 HO_5.out ((ji8) : Int) p15 q15
                            replace p15 := eq_true p15
                            replace q15 := eq_true q15
                            have HP17 := Kd.R_putg HO_5.out ((ji8) : Int) (Int.tmod (IntKind.u64.wrap (x7_2 + (IntKind.u64.wrap ((rd x5_2 (ji8)) + (IntKind.u64.wrap ((rd l0 x6_1) * (rd l1 x8_2))))))) 65536)
                            go_wp2_with (first | ((with_reducible refine gate_store (t := 22) (p := 42) rfl ?_); (try (rw [drewN_self wr]; generalize hq_ : World.drewN wr _ = wr; (try replace hx15_0 := pcell_at hq_ hx15_0); (try replace hf15_0 := pfrozen_at hq_ hf15_0); have n0_ := Aside0.mk (Kd.R_at hq_ HO_5.out); have n1_ := Aside0.mk (below_at hq_ HB.out); clear hq_ HO_5 HB; have HO_5 := n0_; have HB := n1_; clear n0_ n1_; (try (have HP17 := Kd.R_putg HO_5.out ((ji8) : Int) (Int.tmod (IntKind.u64.wrap (x7_2 + (IntKind.u64.wrap ((rd x5_2 (ji8)) + (IntKind.u64.wrap ((rd l0 x6_1) * (rd l1 x8_2))))))) 65536))))); refine store_event (t := 22) (p := 42) (v := ?vo_w18) (w1 := (wr.setCell ⟨go15, ((ji8) : Int).toNat, none⟩ (.int .u64 (Int.tmod (IntKind.u64.wrap (x7_2 + (IntKind.u64.wrap ((rd x5_2 (ji8)) + (IntKind.u64.wrap ((rd l0 x6_1) * (rd l1 x8_2))))))) 65536)))) ?hg ?ho ?hn ?hr ?_; (case ho => rfl); (case hg => rfl); (case hn => rfl); (case hr => first | (go_simp; done) | (go_simp; rfl)); intro w18 hw; have hg : wr.grownBy w18 (some go15) := (by rw [hw]; exact HP17.2); have hp_ : Kd.R (Kd.int .u64) 22 w18 w.heap.size (fun _ => True) (.slice (some ⟨go15, 0, none⟩) x5_2.length co16) y240 := (by rw [hw, Ny240.out]; exact HP17.1); clear HP17; have n0_ := Aside0.mk (hp_); have n1_ := Aside0.mk ((by rw [hw]; exact below_set (HB.out) GB15.out : Below w.heap.size w w18)); clear HO_5; clear HB; have HO_5 := n0_; have HB := n1_; clear n0_ n1_; clear hg hw hp_))
                            repeat (go_quiet (first | ((with_reducible refine gate_store (t := 22) (p := 42) rfl ?_); (try (rw [drewN_self wr]; generalize hq_ : World.drewN wr _ = wr; (try replace hx15_0 := pcell_at hq_ hx15_0); (try replace hf15_0 := pfrozen_at hq_ hf15_0); have n0_ := Aside0.mk (Kd.R_at hq_ HO_5.out); have n1_ := Aside0.mk (below_at hq_ HB.out); clear hq_ HO_5 HB; have HO_5 := n0_; have HB := n1_; clear n0_ n1_; (try (have HP17 := Kd.R_putg HO_5.out ((ji8) : Int) (Int.tmod (IntKind.u64.wrap (x7_2 + (IntKind.u64.wrap ((rd x5_2 (ji8)) + (IntKind.u64.wrap ((rd l0 x6_1) * (rd l1 x8_2))))))) 65536))))); refine store_event (t := 22) (p := 42) (v := ?vo_w18) (w1 := (wr.setCell ⟨go15, ((ji8) : Int).toNat, none⟩ (.int .u64 (Int.tmod (IntKind.u64.wrap (x7_2 + (IntKind.u64.wrap ((rd x5_2 (ji8)) + (IntKind.u64.wrap ((rd l0 x6_1) * (rd l1 x8_2))))))) 65536)))) ?hg ?ho ?hn ?hr ?_; (case ho => rfl); (case hg => rfl); (case hn => rfl); (case hr => first | (go_simp; done) | (go_simp; rfl)); intro w18 hw; have hg : wr.grownBy w18 (some go15) := (by rw [hw]; exact HP17.2); have hp_ : Kd.R (Kd.int .u64) 22 w18 w.heap.size (fun _ => True) (.slice (some ⟨go15, 0, none⟩) x5_2.length co16) y240 := (by rw [hw, Ny240.out]; exact HP17.1); clear HP17; have n0_ := Aside0.mk (hp_); have n1_ := Aside0.mk ((by rw [hw]; exact below_set (HB.out) GB15.out : Below w.heap.size w w18)); clear HO_5; clear HB; have HO_5 := n0_; have HB := n1_; clear n0_ n1_; clear hg hw hp_)); try go_wp2_with (first | ((with_reducible refine gate_store (t := 22) (p := 42) rfl ?_); (try (rw [drewN_self wr]; generalize hq_ : World.drewN wr _ = wr; (try replace hx15_0 := pcell_at hq_ hx15_0); (try replace hf15_0 := pfrozen_at hq_ hf15_0); have n0_ := Aside0.mk (Kd.R_at hq_ HO_5.out); have n1_ := Aside0.mk (below_at hq_ HB.out); clear hq_ HO_5 HB; have HO_5 := n0_; have HB := n1_; clear n0_ n1_; (try (have HP17 := Kd.R_putg HO_5.out ((ji8) : Int) (Int.tmod (IntKind.u64.wrap (x7_2 + (IntKind.u64.wrap ((rd x5_2 (ji8)) + (IntKind.u64.wrap ((rd l0 x6_1) * (rd l1 x8_2))))))) 65536))))); refine store_event (t := 22) (p := 42) (v := ?vo_w18) (w1 := (wr.setCell ⟨go15, ((ji8) : Int).toNat, none⟩ (.int .u64 (Int.tmod (IntKind.u64.wrap (x7_2 + (IntKind.u64.wrap ((rd x5_2 (ji8)) + (IntKind.u64.wrap ((rd l0 x6_1) * (rd l1 x8_2))))))) 65536)))) ?hg ?ho ?hn ?hr ?_; (case ho => rfl); (case hg => rfl); (case hn => rfl); (case hr => first | (go_simp; done) | (go_simp; rfl)); intro w18 hw; have hg : wr.grownBy w18 (some go15) := (by rw [hw]; exact HP17.2); have hp_ : Kd.R (Kd.int .u64) 22 w18 w.heap.size (fun _ => True) (.slice (some ⟨go15, 0, none⟩) x5_2.length co16) y240 := (by rw [hw, Ny240.out]; exact HP17.1); clear HP17; have n0_ := Aside0.mk (hp_); have n1_ := Aside0.mk ((by rw [hw]; exact below_set (HB.out) GB15.out : Below w.heap.size w w18)); clear HO_5; clear HB; have HO_5 := n0_; have HB := n1_; clear n0_ n1_; clear hg hw hp_)))
                            go_roundg k2
                            case measure => have := HK1.out; have := HK2.out; omega
                            case rel => exact ⟨(y240), (IntKind.u64.wrap (Int.tdiv (IntKind.u64.wrap (x7_2 + (IntKind.u64.wrap ((rd x5_2 (ji8)) + (IntKind.u64.wrap ((rd l0 x6_1) * (rd l1 x8_2))))))) 65536)), (wrap64 (x8_2 + 1)), (by first | rfl | (simp; done) | (simp only [← hji8] <;> (first | rfl | simp)) | (simp [*]; done)), rs, H', ⟨by have := HK1.out; have := HK2.out; omega⟩, ⟨by (with_reducible repeat (first | apply Kd.R_alloc | apply Kd.R_drewN | apply Kd.R_drew)); exact HO_5.out⟩, ⟨bw HB⟩⟩
                          · rw [if_neg c14] at H
                            exact absurd H (by simp)
                        · rw [if_neg c13] at H
                          exact absurd H (by simp)
                      · rw [if_neg c12] at H
                        exact absurd H (by simp)
                    · rw [if_neg c11] at H
                      exact absurd H (by simp)
                  · rw [if_neg c10] at H
                    exact absurd H (by simp)
                · rw [if_neg c9] at H
                  exact absurd H (by simp)
              · rw [if_neg c7] at H
                have c7b0 : decide (x8_2 < 8) = false := decide_eq_false c7
                clear c7
                obtain ⟨ji19, hji19⟩ : ∃ j_ : Int, (wrap64 (x6_1 + 8)) = j_ := ⟨_, rfl⟩
                replace H : (if 0 ≤ (ji19) then (if (ji19) < (x5_2.length : Int) then (turnstileref03_product.l0 k2 l0 l1 (x5_2.set ((ji19) : Int).toNat (IntKind.u64.wrap ((rd x5_2 (ji19)) + x7_2))) (wrap64 (x6_1 + 1))) else (none)) else (none)) = some r := by first | (rw [hji19] at H; exact H) | (simp only [hji19] at H ⊢; exact H)
                have hji19w : (IntKind.i64.wrap (x6_1 + 8)) = ji19 := (i64_w _).trans hji19
                by_cases c20 : 0 ≤ (ji19)
                · rw [if_pos c20] at H
                  have c20b0 : decide (0 ≤ (ji19)) = true := decide_eq_true c20
                  clear c20
                  by_cases c21 : (ji19) < (x5_2.length : Int)
                  · rw [if_pos c21] at H
                    have c21b0 : decide ((ji19) < (x5_2.length : Int)) = true := decide_eq_true c21
                    clear c21
                    obtain ⟨y242, hy242⟩ : ∃ y_ : List Int, y_ = (x5_2.set ((ji19) : Int).toNat (IntKind.u64.wrap ((rd x5_2 (ji19)) + x7_2))) := ⟨_, rfl⟩
                    replace H : (turnstileref03_product.l0 k2 l0 l1 y242 (wrap64 (x6_1 + 1))) = some r := by first | (rw [hy242]; with_reducible exact H) | (have H2_ := (Option.bind_some _ _).symm.trans H; rw [hy242]; with_reducible exact H2_) | (have H2_ := (Option.bind_some _ _).symm.trans H; with_reducible exact H2_) | with_reducible exact H | (rw [hy242]; exact H) | exact H
                    have Ny242 := Aside0.mk hy242
                    clear hy242
                    have H' := Aside0.mk H
                    clear H
                    obtain ⟨Ao23, co23, eo23⟩ := Kd.R_slice HO_5.out
                    subst eo23
                    have p241 : 0 ≤ ((ji19) : Int) := of_decide_eq_true (by first | (with_reducible assumption) | assumption)
                    have q241 : (ji19) < (x5_2.length : Int) := of_decide_eq_true (by first | (with_reducible assumption) | assumption)
                    obtain ⟨ad241, e241, hx241_0⟩ := Kd.at_int (Kd.R_reads' HO_5.out).2.2 (ji19) p241 q241
                    cases e241
                    replace p241 := eq_true p241
                    replace q241 := eq_true q241
                    have p22 : 0 ≤ ((ji19) : Int) := of_decide_eq_true (by first | (with_reducible assumption) | assumption)
                    have q22 : ((ji19) : Int) < ((x5_2.length : Int) : Int) := of_decide_eq_true (by first | (with_reducible assumption) | assumption)
                    obtain ⟨go22, co22, eo22, gb22, gl22, cl22, HG22⟩ := Kd.R_form HO_5.out (by omega)
                    (first | cases eo22 | (injection eo22 with ea_ en_ ec_; (first | subst ea_ | (injection ea_ with ea_; subst ea_)); subst ec_; clear en_))
                    have GB22 := Aside0.mk gb22
                    have GG22 := Aside0.mk HG22
                    clear gb22 gl22 HG22
                    (first | simp only [add_plain] at hx241_0 | skip)
                    obtain ⟨hx22_0, hf22_0⟩ := Kd.R_celln 0 HO_5.out ((ji19) : Int) p22 q22
                    replace p22 := eq_true p22
                    replace q22 := eq_true q22
                    have HP24 := Kd.R_putg HO_5.out ((ji19) : Int) (IntKind.u64.wrap ((rd x5_2 (ji19)) + x7_2))
                    go_wp2_with (first | ((with_reducible refine gate_store (t := 22) (p := 52) rfl ?_); (try (rw [drewN_self wr]; generalize hq_ : World.drewN wr _ = wr; (try replace hx22_0 := pcell_at hq_ hx22_0); (try replace hf22_0 := pfrozen_at hq_ hf22_0); have n0_ := Aside0.mk (Kd.R_at hq_ HO_5.out); have n1_ := Aside0.mk (below_at hq_ HB.out); clear hq_ HO_5 HB; have HO_5 := n0_; have HB := n1_; clear n0_ n1_; (try (have HP24 := Kd.R_putg HO_5.out ((ji19) : Int) (IntKind.u64.wrap ((rd x5_2 (ji19)) + x7_2)))))); refine store_event (t := 22) (p := 52) (v := ?vo_w25) (w1 := (wr.setCell ⟨go22, ((ji19) : Int).toNat, none⟩ (.int .u64 (IntKind.u64.wrap ((rd x5_2 (ji19)) + x7_2))))) ?hg ?ho ?hn ?hr ?_; (case ho => rfl); (case hg => rfl); (case hn => rfl); (case hr => first | (go_simp; done) | (go_simp; rfl)); intro w25 hw; have hg : wr.grownBy w25 (some go22) := (by rw [hw]; exact HP24.2); have hp_ : Kd.R (Kd.int .u64) 22 w25 w.heap.size (fun _ => True) (.slice (some ⟨go22, 0, none⟩) x5_2.length co23) y242 := (by rw [hw, Ny242.out]; exact HP24.1); clear HP24; have n0_ := Aside0.mk (hp_); have n1_ := Aside0.mk ((by rw [hw]; exact below_set (HB.out) GB22.out : Below w.heap.size w w25)); clear HO_5; clear HB; have HO_5 := n0_; have HB := n1_; clear n0_ n1_; clear hg hw hp_))
                    repeat (go_quiet (first | ((with_reducible refine gate_store (t := 22) (p := 52) rfl ?_); (try (rw [drewN_self wr]; generalize hq_ : World.drewN wr _ = wr; (try replace hx22_0 := pcell_at hq_ hx22_0); (try replace hf22_0 := pfrozen_at hq_ hf22_0); have n0_ := Aside0.mk (Kd.R_at hq_ HO_5.out); have n1_ := Aside0.mk (below_at hq_ HB.out); clear hq_ HO_5 HB; have HO_5 := n0_; have HB := n1_; clear n0_ n1_; (try (have HP24 := Kd.R_putg HO_5.out ((ji19) : Int) (IntKind.u64.wrap ((rd x5_2 (ji19)) + x7_2)))))); refine store_event (t := 22) (p := 52) (v := ?vo_w25) (w1 := (wr.setCell ⟨go22, ((ji19) : Int).toNat, none⟩ (.int .u64 (IntKind.u64.wrap ((rd x5_2 (ji19)) + x7_2))))) ?hg ?ho ?hn ?hr ?_; (case ho => rfl); (case hg => rfl); (case hn => rfl); (case hr => first | (go_simp; done) | (go_simp; rfl)); intro w25 hw; have hg : wr.grownBy w25 (some go22) := (by rw [hw]; exact HP24.2); have hp_ : Kd.R (Kd.int .u64) 22 w25 w.heap.size (fun _ => True) (.slice (some ⟨go22, 0, none⟩) x5_2.length co23) y242 := (by rw [hw, Ny242.out]; exact HP24.1); clear HP24; have n0_ := Aside0.mk (hp_); have n1_ := Aside0.mk ((by rw [hw]; exact below_set (HB.out) GB22.out : Below w.heap.size w w25)); clear HO_5; clear HB; have HO_5 := n0_; have HB := n1_; clear n0_ n1_; clear hg hw hp_)); try go_wp2_with (first | ((with_reducible refine gate_store (t := 22) (p := 52) rfl ?_); (try (rw [drewN_self wr]; generalize hq_ : World.drewN wr _ = wr; (try replace hx22_0 := pcell_at hq_ hx22_0); (try replace hf22_0 := pfrozen_at hq_ hf22_0); have n0_ := Aside0.mk (Kd.R_at hq_ HO_5.out); have n1_ := Aside0.mk (below_at hq_ HB.out); clear hq_ HO_5 HB; have HO_5 := n0_; have HB := n1_; clear n0_ n1_; (try (have HP24 := Kd.R_putg HO_5.out ((ji19) : Int) (IntKind.u64.wrap ((rd x5_2 (ji19)) + x7_2)))))); refine store_event (t := 22) (p := 52) (v := ?vo_w25) (w1 := (wr.setCell ⟨go22, ((ji19) : Int).toNat, none⟩ (.int .u64 (IntKind.u64.wrap ((rd x5_2 (ji19)) + x7_2))))) ?hg ?ho ?hn ?hr ?_; (case ho => rfl); (case hg => rfl); (case hn => rfl); (case hr => first | (go_simp; done) | (go_simp; rfl)); intro w25 hw; have hg : wr.grownBy w25 (some go22) := (by rw [hw]; exact HP24.2); have hp_ : Kd.R (Kd.int .u64) 22 w25 w.heap.size (fun _ => True) (.slice (some ⟨go22, 0, none⟩) x5_2.length co23) y242 := (by rw [hw, Ny242.out]; exact HP24.1); clear HP24; have n0_ := Aside0.mk (hp_); have n1_ := Aside0.mk ((by rw [hw]; exact below_set (HB.out) GB22.out : Below w.heap.size w w25)); clear HO_5; clear HB; have HO_5 := n0_; have HB := n1_; clear n0_ n1_; clear hg hw hp_)))
                    go_roundg k2
                    case measure => have := HK1.out; have := HK2.out; omega
                    case rel => exact ⟨(y242), (wrap64 (x6_1 + 1)), rs, H', ⟨by have := HK1.out; have := HK2.out; omega⟩, ⟨by (with_reducible repeat (first | apply Kd.R_alloc | apply Kd.R_drewN | apply Kd.R_drew)); exact HO_5.out⟩, ⟨bw HB⟩⟩
                  · rw [if_neg c21] at H
                    exact absurd H (by simp)
                · rw [if_neg c20] at H
                  exact absurd H (by simp)
        · rw [if_neg c6] at H
          have c6b0 : decide (x6_1 < 8) = false := decide_eq_false c6
          clear c6
          obtain rfl := Option.some.inj H
          go_wp2
          repeat (go_quiet (fail); try go_wp2)
          go_ret
          exact ⟨_, re, by (with_reducible repeat (first | apply Kd.R_alloc | apply Kd.R_drewN | apply Kd.R_drew)); exact HO_5.out, bw HB⟩
  · rw [if_neg c3] at H
    exact absurd H (by simp)

/-! ### turnstileref03_Product: function 48 -/
def turnstileref03_Product.f (k : Nat) (a0 : Int) (a1 : Int) : Option (Int × Int) := (turnstileref03_of.f k 0 a0).bind fun t244 => ((turnstileref03_of.f k 0 a1).bind fun t247 => ((turnstileref03_product.f k t244 t247).bind fun t250 => ((turnstileref03_number.f k t250).bind fun bt253 => (some (bt253.1, bt253.2)))))
theorem turnstileref03_Product.mono : ∀ a0 a1 k, LeO (turnstileref03_Product.f k a0 a1) (turnstileref03_Product.f (k + 1) a0 a1) := by
  intro a0 a1 k
  unfold turnstileref03_Product.f
  repeat' first
      | (with_reducible exact turnstileref03_number.mono _ _)
      | (with_reducible exact turnstileref03_of.mono _ _ _)
      | (with_reducible exact turnstileref03_product.mono _ _ _)
      | (with_reducible exact LeO.refl _)
      | (with_reducible exact LeO.none _)
      | (with_reducible refine LeO.ite ?_ ?_)
      | (with_reducible refine LeO.bind ?_ (fun _ => ?_))
      | exact turnstileref03_number.mono _ _
      | exact turnstileref03_of.mono _ _ _
      | exact turnstileref03_product.mono _ _ _
      | exact LeO.none _
      | refine LeO.ite ?_ ?_
      | refine LeO.bind ?_ (fun _ => ?_)
set_option maxHeartbeats 8000000 in
set_option maxRecDepth 100000 in
theorem turnstileref03_Product.calls (k : Nat) (a0 : Int) (a1 : Int) (r1 : Int) (r2 : Int) (w : World) (h : turnstileref03_Product.f k a0 a1 = some (r1, r2)) :
    Calls Try.prog 48 #[.int .u64 a0, .int .u64 a1] w fun e w' => e = .returned (.agg #[.int .u64 r1, .int .u64 r2]) ∧ Below w.heap.size w w' := by
  have hu66 := Try.underlying66
  have HB := Aside0.mk (Below.refl w.heap.size w)
  have H : ((turnstileref03_of.f k 0 a0).bind fun t244 => ((turnstileref03_of.f k 0 a1).bind fun t247 => ((turnstileref03_product.f k t244 t247).bind fun t250 => ((turnstileref03_number.f k t250).bind fun bt253 => (some (bt253.1, bt253.2)))))) = some (r1, r2) := h
  clear h
  replace H := Option.bind_eq_some_iff.mp H
  obtain ⟨t244, A30, H⟩ := H
  replace H : ((turnstileref03_of.f k 0 a1).bind fun t247 => ((turnstileref03_product.f k t244 t247).bind fun t250 => ((turnstileref03_number.f k t250).bind fun bt253 => (some (bt253.1, bt253.2))))) = some (r1, r2) := H
  have A3 := Aside0.mk A30
  clear A30
  replace H := Option.bind_eq_some_iff.mp H
  obtain ⟨t247, A40, H⟩ := H
  replace H : ((turnstileref03_product.f k t244 t247).bind fun t250 => ((turnstileref03_number.f k t250).bind fun bt253 => (some (bt253.1, bt253.2)))) = some (r1, r2) := H
  have A4 := Aside0.mk A40
  clear A40
  replace H := Option.bind_eq_some_iff.mp H
  obtain ⟨t250, A50, H⟩ := H
  replace H : ((turnstileref03_number.f k t250).bind fun bt253 => (some (bt253.1, bt253.2))) = some (r1, r2) := H
  have A5 := Aside0.mk A50
  clear A50
  replace H := Option.bind_eq_some_iff.mp H
  obtain ⟨⟨t253, t254⟩, A60, H⟩ := H
  replace H : (some (t253, t254)) = some (r1, r2) := H
  have A6 := Aside0.mk A60
  clear A60
  simp only [Option.some.injEq, Prod.mk.injEq] at H
  obtain ⟨rfl, rfl⟩ := H
  go_enter Try.func48, Try.ntmps48
  go_wp2_with (first | ((with_reducible refine gate_dst (N := 4) rfl ?_); refine bx 4 #[.int .u64 0, .int .u64 0] 66 ?_; intro gb243 hg w7 hbox hb; have n0_ := bs HB hb; have n1_ := Aside0.mk (hbox); have n2_ := sz HB hg; have n3_ := sz HB hg; clear HB; have HB := n0_; have BK243 := n1_; have GW243 := n2_; have GE243 := n3_; clear n0_ n1_ n2_ n3_; clear hb hbox hg) | ((with_reducible refine gate_callee (f := 61) rfl ?_); refine gl (some 6) Try.func61 #[.int .u64 0, .int .u64 a0] ?_; (with_reducible refine (turnstileref03_of.calls k 0 a0 t244 _ A3.out).mono ?_); rintro e w8 ⟨v245, rfl, ho0, hb⟩; refine ⟨_, rfl, ?_⟩; have n0_ := Aside0.mk (Kd.R_lower ho0 (below_size (bw HB))); have n1_ := bb BK243 hb; have n2_ := bs HB hb; clear BK243; clear HB; have HO246 := n0_; have BK243 := n1_; have HB := n2_; clear n0_ n1_ n2_; (try clear hb); (try clear hb2); (try clear hk); (try clear hi); (try clear ho0)) | ((with_reducible refine gate_callee (f := 61) rfl ?_); refine gl (some 8) Try.func61 #[.int .u64 0, .int .u64 a1] ?_; (with_reducible refine (turnstileref03_of.calls k 0 a1 t247 _ A4.out).mono ?_); rintro e w9 ⟨v248, rfl, ho0, hb⟩; refine ⟨_, rfl, ?_⟩; have n0_ := Aside0.mk (Kd.R_elder' (by (with_reducible repeat (first | apply Kd.R_alloc | apply Kd.R_drewN | apply Kd.R_drew)); exact HO246.out) (Kd.R_base ho0) hb); have n1_ := Aside0.mk (Kd.R_lower (Kd.R_new' ho0 (Kd.R_lt (by (with_reducible repeat (first | apply Kd.R_alloc | apply Kd.R_drewN | apply Kd.R_drew)); exact HO246.out))) (below_size (bw HB))); have n2_ := bb BK243 hb; have n3_ := bs HB hb; clear HO246; clear BK243; clear HB; have HO246 := n0_; have HO249 := n1_; have BK243 := n2_; have HB := n3_; clear n0_ n1_ n2_ n3_; (try clear hb); (try clear hb2); (try clear hk); (try clear hi); (try clear ho0); obtain ⟨Ao10, co10, eo10⟩ := Kd.R_slice HO246.out; subst eo10; obtain ⟨Ao11, co11, eo11⟩ := Kd.R_slice HO249.out; subst eo11) | ((with_reducible refine gate_callee (f := 62) rfl ?_); refine gl (some 9) Try.func62 #[.slice Ao10 t244.length co10, .slice Ao11 t247.length co11] ?_; (with_reducible refine (turnstileref03_product.calls k _ _ t244 _ _ t247 t250 _ ?side1 ?side2 ?side3 ?side4 A5.out).mono ?_); (case side1 => repeat (first | exact (Kd.R_reads' HO246.out).2.2 | (with_reducible refine Kd.C_alloc ?_ _) | (with_reducible refine Kd.C_drewN ?_ _) | (with_reducible refine Kd.C_drew ?_))); (case side2 => exact (Kd.R_reads' HO246.out).2.1); (case side3 => repeat (first | exact (Kd.R_reads' HO249.out).2.2 | (with_reducible refine Kd.C_alloc ?_ _) | (with_reducible refine Kd.C_drewN ?_ _) | (with_reducible refine Kd.C_drew ?_))); (case side4 => exact (Kd.R_reads' HO249.out).2.1); rintro e w12 ⟨v251, rfl, ho0, hb⟩; refine ⟨_, rfl, ?_⟩; have n0_ := Aside0.mk (Kd.R_elder' (by (with_reducible repeat (first | apply Kd.R_alloc | apply Kd.R_drewN | apply Kd.R_drew)); exact HO246.out) (Kd.R_base ho0) hb); have n1_ := Aside0.mk (Kd.R_elder' (by (with_reducible repeat (first | apply Kd.R_alloc | apply Kd.R_drewN | apply Kd.R_drew)); exact HO249.out) (Kd.R_base ho0) hb); have n2_ := Aside0.mk (Kd.R_lower (Kd.R_new' (Kd.R_new' ho0 (Kd.R_lt (by (with_reducible repeat (first | apply Kd.R_alloc | apply Kd.R_drewN | apply Kd.R_drew)); exact HO246.out))) (Kd.R_lt (by (with_reducible repeat (first | apply Kd.R_alloc | apply Kd.R_drewN | apply Kd.R_drew)); exact HO249.out))) (below_size (bw HB))); have n3_ := bb BK243 hb; have n4_ := bs HB hb; clear HO246; clear HO249; clear BK243; clear HB; have HO246 := n0_; have HO249 := n1_; have HO252 := n2_; have BK243 := n3_; have HB := n4_; clear n0_ n1_ n2_ n3_ n4_; (try clear hb); (try clear hb2); (try clear hk); (try clear hi); (try clear ho0); obtain ⟨Ao13, co13, eo13⟩ := Kd.R_slice HO252.out; subst eo13) | ((with_reducible refine gate_callee (f := 59) rfl ?_); refine gl (some 10) Try.func59 #[.slice Ao13 t250.length co13] ?_; (with_reducible refine (turnstileref03_number.calls k _ _ t250 t253 t254 _ ?side1 ?side2 A6.out).mono ?_); (case side1 => repeat (first | exact (Kd.R_reads' HO252.out).2.2 | (with_reducible refine Kd.C_alloc ?_ _) | (with_reducible refine Kd.C_drewN ?_ _) | (with_reducible refine Kd.C_drew ?_))); (case side2 => exact (Kd.R_reads' HO252.out).2.1); rintro e w14 ⟨rfl, hb⟩; refine ⟨_, rfl, ?_⟩; have n0_ := Aside0.mk (Kd.R_below (by (with_reducible repeat (first | apply Kd.R_alloc | apply Kd.R_drewN | apply Kd.R_drew)); exact HO246.out) hb); have n1_ := Aside0.mk (Kd.R_below (by (with_reducible repeat (first | apply Kd.R_alloc | apply Kd.R_drewN | apply Kd.R_drew)); exact HO249.out) hb); have n2_ := Aside0.mk (Kd.R_below (by (with_reducible repeat (first | apply Kd.R_alloc | apply Kd.R_drewN | apply Kd.R_drew)); exact HO252.out) hb); have n3_ := bb BK243 hb; have n4_ := bs HB hb; clear HO246; clear HO249; clear HO252; clear BK243; clear HB; have HO246 := n0_; have HO249 := n1_; have HO252 := n2_; have BK243 := n3_; have HB := n4_; clear n0_ n1_ n2_ n3_ n4_; (try clear hb); (try clear hb2); (try clear hk); (try clear hi); obtain ⟨hcz15_0, hcz15_1, hfz15_0, hfz15_1⟩ := bc2 BK243))
  refine bodyPost_ret (results_cell_row rfl _ _ gb243 66 #[.int .u64 t253, .int .u64 t254] (0, 0) _ rfl (bk BK243) Try.underlying66 rfl (by kernel_rfl)) rfl ?_
  exact ⟨re, bw HB⟩

/-! ### turnstileref03_Mul: function 45 -/
def turnstileref03_Mul.f (k : Nat) (a0 : Int) (a1 : Int) : Option (Int) := (turnstileref03_Product.f k a0 a1).bind fun bt255 => ((turnstileref03_low.f bt255.1 bt255.2).bind fun t257 => (some t257))
theorem turnstileref03_Mul.mono : ∀ a0 a1 k, LeO (turnstileref03_Mul.f k a0 a1) (turnstileref03_Mul.f (k + 1) a0 a1) := by
  intro a0 a1 k
  unfold turnstileref03_Mul.f
  repeat' first
      | (with_reducible exact turnstileref03_Product.mono _ _ _)
      | (with_reducible exact LeO.refl _)
      | (with_reducible exact LeO.none _)
      | (with_reducible refine LeO.ite ?_ ?_)
      | (with_reducible refine LeO.bind ?_ (fun _ => ?_))
      | exact turnstileref03_Product.mono _ _ _
      | exact LeO.none _
      | refine LeO.ite ?_ ?_
      | refine LeO.bind ?_ (fun _ => ?_)
set_option maxHeartbeats 8000000 in
set_option maxRecDepth 100000 in
theorem turnstileref03_Mul.calls (k : Nat) (a0 : Int) (a1 : Int) (r : Int) (w : World) (h : turnstileref03_Mul.f k a0 a1 = some r) :
    Calls Try.prog 45 #[.int .u64 a0, .int .u64 a1] w fun e w' => e = .returned (.int .u64 r) ∧ Below w.heap.size w w' := by
  have HB := Aside0.mk (Below.refl w.heap.size w)
  have H : ((turnstileref03_Product.f k a0 a1).bind fun bt255 => ((turnstileref03_low.f bt255.1 bt255.2).bind fun t257 => (some t257))) = some r := h
  clear h
  replace H := Option.bind_eq_some_iff.mp H
  obtain ⟨⟨t255, t256⟩, A30, H⟩ := H
  replace H : ((turnstileref03_low.f t255 t256).bind fun t257 => (some t257)) = some r := H
  have A3 := Aside0.mk A30
  clear A30
  replace H := Option.bind_eq_some_iff.mp H
  obtain ⟨t257, A40, H⟩ := H
  replace H : (some t257) = some r := H
  have A4 := Aside0.mk A40
  clear A40
  obtain rfl := Option.some.inj H
  go_enter Try.func45, Try.ntmps45
  go_wp2_with (first | ((with_reducible refine gate_callee (f := 48) rfl ?_); refine gm (some 7) Try.func48 #[.int .u64 a0, .int .u64 a1] (turnstileref03_Product.calls k a0 a1 t255 t256 _ A3.out) ?_; intro w5 hb; have n0_ := bs HB hb; clear HB; have HB := n0_; clear n0_; (try clear hb); (try clear hb2); (try clear hk); (try clear hi)) | ((with_reducible refine gate_callee (f := 58) rfl ?_); refine gm (some 8) Try.func58 #[.agg #[.int .u64 t255, .int .u64 t256]] (turnstileref03_low.calls t255 t256 t257 _ A4.out) ?_; intro w6 hb; have n0_ := bs HB hb; clear HB; have HB := n0_; clear n0_; (try clear hb); (try clear hb2); (try clear hk); (try clear hi)))
  go_ret
  exact ⟨re, bw HB⟩

/-! ### turnstilelaw03_wide: function 46 -/
def turnstilelaw03_wide.f (a0_0 : Int) (a0_1 : Int) : Option (Int × Int) := some (a0_0, a0_1)
set_option maxHeartbeats 8000000 in
set_option maxRecDepth 100000 in
theorem turnstilelaw03_wide.calls (a0_0 : Int) (a0_1 : Int) (r1 : Int) (r2 : Int) (w : World) (h : turnstilelaw03_wide.f a0_0 a0_1 = some (r1, r2)) :
    Calls Try.prog 46 #[.agg #[.int .u64 a0_0, .int .u64 a0_1]] w fun e w' => e = .returned (.agg #[.int .u64 r1, .int .u64 r2]) ∧ Below w.heap.size w w' := by
  have hu66 := Try.underlying66
  have hu24 := Try.underlying24
  have HB := Aside0.mk (Below.refl w.heap.size w)
  have H : (some (a0_0, a0_1)) = some (r1, r2) := h
  clear h
  simp only [Option.some.injEq, Prod.mk.injEq] at H
  obtain ⟨rfl, rfl⟩ := H
  go_enter Try.func46, Try.ntmps46
  go_wp2_with (first | ((with_reducible refine gate_dst (N := 1) rfl ?_); refine bx 1 #[.int .u64 a0_0, .int .u64 a0_1] 66 ?_; intro gb258 hg w2 hbox hb; have n0_ := bs HB hb; have n1_ := Aside0.mk (hbox); have n2_ := sz HB hg; have n3_ := sz HB hg; clear HB; have HB := n0_; have BK258 := n1_; have GW258 := n2_; have GE258 := n3_; clear n0_ n1_ n2_ n3_; clear hb hbox hg) | ((with_reducible refine gate_dst (N := 2) rfl ?_); refine bx 2 #[.int .u64 0, .int .u64 0] 24 ?_; intro gb259 hg w3 hbox hb; have n0_ := bb BK258 hb; have n1_ := bs HB hb; have n2_ := Aside0.mk (hbox); have n3_ := sz HB hg; have n4_ := sz HB hg; have n5_ := nl BK258 hg; have n6_ := nr BK258 hg; clear BK258; clear HB; have BK258 := n0_; have HB := n1_; have BK259 := n2_; have GW259 := n3_; have GE259 := n4_; have NB258_259 := n5_; have NB259_258 := n6_; clear n0_ n1_ n2_ n3_ n4_ n5_ n6_; clear hb hbox hg; have hnb4 := NB258_259.out; have hnc4 := NB259_258.out; obtain ⟨hcz5_0, hcz5_1, hfz5_0, hfz5_1⟩ := bc2 BK258; obtain ⟨hcz6_0, hcz6_1, hfz6_0, hfz6_1⟩ := bc2 BK259))
  refine bodyPost_ret (results_cell_row rfl _ _ gb259 24 #[.int .u64 a0_0, .int .u64 a0_1] (0, 0) _ rfl (bk BK259) Try.underlying24 rfl (by kernel_rfl)) rfl ?_
  exact ⟨re, bw HB⟩

/-! ### turnstileref03_Of: function 47 -/
def turnstileref03_Of.f (a0 : Int) : Option (Int × Int) := some (0, a0)
set_option maxHeartbeats 8000000 in
set_option maxRecDepth 100000 in
theorem turnstileref03_Of.calls (a0 : Int) (r1 : Int) (r2 : Int) (w : World) (h : turnstileref03_Of.f a0 = some (r1, r2)) :
    Calls Try.prog 47 #[.int .u64 a0] w fun e w' => e = .returned (.agg #[.int .u64 r1, .int .u64 r2]) ∧ Below w.heap.size w w' := by
  have hu66 := Try.underlying66
  have HB := Aside0.mk (Below.refl w.heap.size w)
  have H : (some (0, a0)) = some (r1, r2) := h
  clear h
  simp only [Option.some.injEq, Prod.mk.injEq] at H
  obtain ⟨rfl, rfl⟩ := H
  go_enter Try.func47, Try.ntmps47
  go_wp2_with (first | ((with_reducible refine gate_dst (N := 2) rfl ?_); refine bx 2 #[.int .u64 0, .int .u64 0] 66 ?_; intro gb260 hg w2 hbox hb; have n0_ := bs HB hb; have n1_ := Aside0.mk (hbox); have n2_ := sz HB hg; have n3_ := sz HB hg; clear HB; have HB := n0_; have BK260 := n1_; have GW260 := n2_; have GE260 := n3_; clear n0_ n1_ n2_ n3_; clear hb hbox hg; obtain ⟨hcz3_0, hcz3_1, hfz3_0, hfz3_1⟩ := bc2 BK260))
  refine bodyPost_ret (results_cell_row rfl _ _ gb260 66 #[.int .u64 0, .int .u64 a0] (0, 0) _ rfl (bk BK260) Try.underlying66 rfl (by kernel_rfl)) rfl ?_
  exact ⟨re, bw HB⟩

end Go.Proofs.Ythnpgilknoiaaaa.Q
