/- Written by the session's own program hyb.py: what functions of the program compute; Lean checks it. -/
import Derived.Test.YthnpgilknoiaaaaQx0
namespace Go.Proofs.Ythnpgilknoiaaaa.Q
open Go.RowKit Go.Proofs.YthnpgilknoiaaaaW.PrintWords Go.Proofs.YthnpgilknoiaaaaW.PrintLast Go.Proofs.YthnpgilknoiaaaaW.PrintMore Go.Proofs.YthnpgilknoiaaaaW.PrintShort
attribute [local go_sem] run_Add64 run_Sub64
attribute [local go_sem] max2_int min2_int max_two min_two max_three min_three max_four min_four   -- for this text's walks alone
set_option linter.unusedVariables false
set_option linter.unusedSimpArgs false

/-! ### turnstileref03_low: function 58 -/
def turnstileref03_low.f (a0_0 : Int) (a0_1 : Int) : Option (Int) := if a0_0 = 0 then (some a0_1) else (some 18446744073709551615)
set_option maxHeartbeats 8000000 in
set_option maxRecDepth 100000 in
theorem turnstileref03_low.calls (a0_0 : Int) (a0_1 : Int) (r : Int) (w : World) (h : turnstileref03_low.f a0_0 a0_1 = some r) :
    Calls Try.prog 58 #[.agg #[.int .u64 a0_0, .int .u64 a0_1]] w fun e w' => e = .returned (.int .u64 r) ∧ Below w.heap.size w w' := by
  have hu66 := Try.underlying66
  have HB := Aside0.mk (Below.refl w.heap.size w)
  have H : (if a0_0 = 0 then (some a0_1) else (some 18446744073709551615)) = some r := h
  clear h
  by_cases c2 : a0_0 = 0
  · rw [if_pos c2] at H
    have c2b0 : (a0_0 == 0) = true := beq_iff_eq.mpr c2
    have c2b1 : (a0_0 != 0) = false := bne_eq_false_iff_eq.mpr c2
    clear c2
    obtain rfl := Option.some.inj H
    go_enter Try.func58, Try.ntmps58
    go_wp2_with (first | ((with_reducible refine gate_dst (N := 1) rfl ?_); refine bx 1 #[.int .u64 a0_0, .int .u64 a0_1] 66 ?_; intro gb197 hg w3 hbox hb; have n0_ := bs HB hb; have n1_ := Aside0.mk (hbox); have n2_ := sz HB hg; have n3_ := sz HB hg; clear HB; have HB := n0_; have BK197 := n1_; have GW197 := n2_; have GE197 := n3_; clear n0_ n1_ n2_ n3_; clear hb hbox hg; obtain ⟨hcz4_0, hcz4_1, hfz4_0, hfz4_1⟩ := bc2 BK197))
    go_ret
    exact ⟨re, bw HB⟩
  · rw [if_neg c2] at H
    have c2b0 : (a0_0 == 0) = false := beq_eq_false_iff_ne.mpr c2
    have c2b1 : (a0_0 != 0) = true := bne_iff_ne.mpr c2
    obtain rfl := Option.some.inj H
    go_enter Try.func58, Try.ntmps58
    go_wp2_with (first | ((with_reducible refine gate_dst (N := 1) rfl ?_); refine bx 1 #[.int .u64 a0_0, .int .u64 a0_1] 66 ?_; intro gb197 hg w5 hbox hb; have n0_ := bs HB hb; have n1_ := Aside0.mk (hbox); have n2_ := sz HB hg; have n3_ := sz HB hg; clear HB; have HB := n0_; have BK197 := n1_; have GW197 := n2_; have GE197 := n3_; clear n0_ n1_ n2_ n3_; clear hb hbox hg; obtain ⟨hcz6_0, hcz6_1, hfz6_0, hfz6_1⟩ := bc2 BK197))
    go_ret
    exact ⟨re, bw HB⟩

/-! ### turnstileref03_number: function 59 -/
mutual
def turnstileref03_number.l0 : Nat → List Int → Int → Option (Int × Int)
  | 0, _, _ => none
  | k + 1, x0, x3 => if x3 < (x0.length : Int) then (if 0 ≤ x3 then (if (rd x0 x3) = 0 then (turnstileref03_number.l0 k x0 (wrap64 (x3 + 1))) else (some (18446744073709551615, 18446744073709551615))) else (none)) else (turnstileref03_number.l1 k x0 7 0 0)
def turnstileref03_number.l1 : Nat → List Int → Int → Int → Int → Option (Int × Int)
  | 0, _, _, _, _ => none
  | k + 1, x0, x5, x201000, x201001 => if x5 ≥ 0 then (if x5 < (x0.length : Int) then (if 0 ≤ x5 then (if x5 ≥ 4 then (turnstileref03_number.l1 k x0 (wrap64 (x5 - 1)) (IntKind.u64.wrap ((IntKind.u64.wrap (x201000 * 65536)) + (rd x0 x5))) x201001) else (turnstileref03_number.l1 k x0 (wrap64 (x5 - 1)) x201000 (IntKind.u64.wrap ((IntKind.u64.wrap (x201001 * 65536)) + (rd x0 x5))))) else (none)) else (if x5 ≥ 4 then (turnstileref03_number.l1 k x0 (wrap64 (x5 - 1)) (IntKind.u64.wrap ((IntKind.u64.wrap (x201000 * 65536)))) x201001) else (turnstileref03_number.l1 k x0 (wrap64 (x5 - 1)) x201000 (IntKind.u64.wrap ((IntKind.u64.wrap (x201001 * 65536))))))) else (some (x201000, x201001))
end
def turnstileref03_number.f (k : Nat) (l0 : List Int) : Option (Int × Int) := turnstileref03_number.l0 k l0 8
theorem turnstileref03_number.mono_l : ∀ k, (∀ y0 y1, LeO (turnstileref03_number.l0 k y0 y1) (turnstileref03_number.l0 (k + 1) y0 y1)) ∧ (∀ y0 y1 y2 y3, LeO (turnstileref03_number.l1 k y0 y1 y2 y3) (turnstileref03_number.l1 (k + 1) y0 y1 y2 y3))
  | 0 => ⟨fun _ _ r h => by simp [turnstileref03_number.l0] at h, fun _ _ _ _ r h => by simp [turnstileref03_number.l1] at h⟩
  | k + 1 => by
    obtain ⟨ih0, ih1⟩ := turnstileref03_number.mono_l k
    refine ⟨?_, ?_⟩
    · intro y0 y1
      unfold turnstileref03_number.l0
      repeat' first
      | (with_reducible exact ih0 _ _)
      | (with_reducible exact ih1 _ _ _ _)
      | (with_reducible exact LeO.refl _)
      | (with_reducible exact LeO.none _)
      | (with_reducible refine LeO.ite ?_ ?_)
      | (with_reducible refine LeO.bind ?_ (fun _ => ?_))
      | exact ih0 _ _
      | exact ih1 _ _ _ _
      | exact LeO.none _
      | refine LeO.ite ?_ ?_
      | refine LeO.bind ?_ (fun _ => ?_)
    · intro y0 y1 y2 y3
      unfold turnstileref03_number.l1
      repeat' first
      | (with_reducible exact ih0 _ _)
      | (with_reducible exact ih1 _ _ _ _)
      | (with_reducible exact LeO.refl _)
      | (with_reducible exact LeO.none _)
      | (with_reducible refine LeO.ite ?_ ?_)
      | (with_reducible refine LeO.bind ?_ (fun _ => ?_))
      | exact ih0 _ _
      | exact ih1 _ _ _ _
      | exact LeO.none _
      | refine LeO.ite ?_ ?_
      | refine LeO.bind ?_ (fun _ => ?_)
theorem turnstileref03_number.mono : ∀ a0 k, LeO (turnstileref03_number.f k a0) (turnstileref03_number.f (k + 1) a0) := by
  intro a0 k
  obtain ⟨ih0, ih1⟩ := turnstileref03_number.mono_l k
  unfold turnstileref03_number.f
  repeat' first
      | (with_reducible exact ih0 _ _)
      | (with_reducible exact ih1 _ _ _ _)
      | (with_reducible exact LeO.refl _)
      | (with_reducible exact LeO.none _)
      | (with_reducible refine LeO.ite ?_ ?_)
      | (with_reducible refine LeO.bind ?_ (fun _ => ?_))
      | exact ih0 _ _
      | exact ih1 _ _ _ _
      | exact LeO.none _
      | refine LeO.ite ?_ ?_
      | refine LeO.bind ?_ (fun _ => ?_)
set_option maxHeartbeats 8000000 in
set_option maxRecDepth 100000 in
theorem turnstileref03_number.calls (k : Nat) (A0 : Option Addr) (c0 : Nat) (l0 : List Int) (r1 : Int) (r2 : Int) (w : World) (hr0 : Kd.C (Kd.int .u64) w A0 l0.length l0) (hc0 : l0.length ≤ c0) (h : turnstileref03_number.f k l0 = some (r1, r2)) :
    Calls Try.prog 59 #[.slice A0 l0.length c0] w fun e w' => e = .returned (.agg #[.int .u64 r1, .int .u64 r2]) ∧ Below w.heap.size w w' := by
  have hu66 := Try.underlying66
  have HR0 := Aside0.mk hr0
  have HC0 := Aside0.mk hc0
  clear hr0 hc0
  have HB := Aside0.mk (Below.refl w.heap.size w)
  have H : (turnstileref03_number.l0 k l0 8) = some (r1, r2) := h
  clear h
  have H' := Aside0.mk H
  clear H
  go_enter Try.func59, Try.ntmps59
  go_wp2_with (first | ((with_reducible refine gate_dst (N := 2) rfl ?_); refine bx 2 #[.int .u64 0, .int .u64 0] 66 ?_; intro gb198 hg w2 hbox hb; have n0_ := bs HB hb; have n1_ := Aside0.mk (hbox); have n2_ := sz HB hg; have n3_ := sz HB hg; clear HB; have HB := n0_; have BK198 := n1_; have GW198 := n2_; have GE198 := n3_; clear n0_ n1_ n2_ n3_; clear hb hbox hg))
  go_loopg [3] k (fun kq v3 w' => ∃ (x3_1 : Int) (x199000_1 : Int) (x199001_1 : Int), v3 = .int .i64 x3_1 ∧ Aside0 (turnstileref03_number.l0 kq l0 x3_1 = some (r1, r2)) ∧ Aside0 (kq ≤ k) ∧ Aside0 (w'.heap[gb198]? = some (.cells #[.int .u64 x199000_1, .int .u64 x199001_1] 66 (0, 0))) ∧ Aside0 (Below w.heap.size w w'))
  case atStart => exact ⟨(8), (0), (0), rs, H', ⟨Nat.le_refl _⟩, ⟨bk BK198⟩, ⟨bw HB⟩⟩
  case round =>
    clear H'
    try clear p2
    obtain ⟨x3_1, x199000_1, x199001_1, rfl, HA, HK1, BK198, HB⟩ := hrel
    cases gk with
    | zero => exact absurd HA.out (by simp [turnstileref03_number.l0])
    | succ k1 =>
      have H := HA.out
      clear HA
      simp only [turnstileref03_number.l0] at H
      by_cases c3 : x3_1 < (l0.length : Int)
      · rw [if_pos c3] at H
        have c3b0 : decide (x3_1 < (l0.length : Int)) = true := decide_eq_true c3
        clear c3
        by_cases c4 : 0 ≤ x3_1
        · rw [if_pos c4] at H
          have c4b0 : decide (0 ≤ x3_1) = true := decide_eq_true c4
          clear c4
          by_cases c5 : (rd l0 x3_1) = 0
          · rw [if_pos c5] at H
            have c5b0 : ((rd l0 x3_1) == 0) = true := beq_iff_eq.mpr c5
            have c5b1 : ((rd l0 x3_1) != 0) = false := bne_eq_false_iff_eq.mpr c5
            clear c5
            have H' := Aside0.mk H
            clear H
            have p199 : 0 ≤ (x3_1 : Int) := of_decide_eq_true (by first | (with_reducible assumption) | assumption)
            have q199 : x3_1 < (l0.length : Int) := of_decide_eq_true (by first | (with_reducible assumption) | assumption)
            obtain ⟨ad199, e199, hx199_0⟩ := Kd.at_int HR0.out x3_1 p199 q199
            cases e199
            replace hx199_0 := (HB.out.cell (World.block_lt_of_cell? w _ hx199_0)).trans hx199_0
            replace p199 := eq_true p199
            replace q199 := eq_true q199
            go_wp2
            go_roundg k1
            case measure => have := HK1.out; omega
            case rel => exact ⟨(wrap64 (x3_1 + 1)), (x199000_1), (x199001_1), rs, H', ⟨by have := HK1.out; omega⟩, ⟨bk BK198⟩, ⟨bw HB⟩⟩
          · rw [if_neg c5] at H
            have c5b0 : ((rd l0 x3_1) == 0) = false := beq_eq_false_iff_ne.mpr c5
            have c5b1 : ((rd l0 x3_1) != 0) = true := bne_iff_ne.mpr c5
            simp only [Option.some.injEq, Prod.mk.injEq] at H
            obtain ⟨rfl, rfl⟩ := H
            have p199 : 0 ≤ (x3_1 : Int) := of_decide_eq_true (by first | (with_reducible assumption) | assumption)
            have q199 : x3_1 < (l0.length : Int) := of_decide_eq_true (by first | (with_reducible assumption) | assumption)
            obtain ⟨ad199, e199, hx199_0⟩ := Kd.at_int HR0.out x3_1 p199 q199
            cases e199
            replace hx199_0 := (HB.out.cell (World.block_lt_of_cell? w _ hx199_0)).trans hx199_0
            replace p199 := eq_true p199
            replace q199 := eq_true q199
            obtain ⟨hcz6_0, hcz6_1, hfz6_0, hfz6_1⟩ := bc2 BK198
            go_wp2
            refine bodyPost_ret (results_cell_row rfl _ _ gb198 66 #[.int .u64 18446744073709551615, .int .u64 18446744073709551615] (0, 0) _ rfl (bk BK198) Try.underlying66 rfl (by kernel_rfl)) rfl ?_
            exact ⟨re, bw HB⟩
        · rw [if_neg c4] at H
          exact absurd H (by simp)
      · rw [if_neg c3] at H
        have c3b0 : decide (x3_1 < (l0.length : Int)) = false := decide_eq_false c3
        clear c3
        have H' := Aside0.mk H
        clear H
        go_wp2_with (first | ((with_reducible refine gate_dst (N := 4) rfl ?_); refine bx 4 #[.int .u64 0, .int .u64 0] 66 ?_; intro gb200 hg w7 hbox hb; have n0_ := bb BK198 hb; have n1_ := bs HB hb; have n2_ := Aside0.mk (hbox); have n3_ := sz HB hg; have n4_ := sz HB hg; have n5_ := nl BK198 hg; have n6_ := nr BK198 hg; clear BK198; clear HB; have BK198 := n0_; have HB := n1_; have BK200 := n2_; have GW200 := n3_; have GE200 := n4_; have NB198_200 := n5_; have NB200_198 := n6_; clear n0_ n1_ n2_ n3_ n4_ n5_ n6_; clear hb hbox hg; have hnb8 := NB200_198.out; have hnc8 := NB198_200.out; obtain ⟨hcz9_0, hcz9_1, hfz9_0, hfz9_1⟩ := bc2 BK200))
        go_loopg [5] k1 (fun kq v5 w' => ∃ (x5_2 : Int) (x201000_2 : Int) (x201001_2 : Int), v5 = .int .i64 x5_2 ∧ Aside0 (turnstileref03_number.l1 kq l0 x5_2 x201000_2 x201001_2 = some (r1, r2)) ∧ Aside0 (kq ≤ k1) ∧ Aside0 (w'.heap[gb198]? = some (.cells #[.int .u64 x199000_1, .int .u64 x199001_1] 66 (0, 0))) ∧ Aside0 (w'.heap[gb200]? = some (.cells #[.int .u64 x201000_2, .int .u64 x201001_2] 66 (0, 0))) ∧ Aside0 (Below w.heap.size w w'))
        case atStart => exact ⟨(7), (0), (0), rs, H', ⟨Nat.le_refl _⟩, ⟨bk BK198⟩, ⟨bk BK200⟩, ⟨bw HB⟩⟩
        case round =>
          clear H'
          try clear p1
          try clear q1
          try clear hx1
          try clear p2
          try clear c3
          try clear c3b0
          try clear c4
          try clear c4b0
          try clear c5
          try clear c5b0
          try clear c5b1
          try clear p6
          try clear c8
          try clear hcz6_0
          try clear hcz6_1
          try clear hcz9_0
          try clear hcz9_1
          try clear hfz6_0
          try clear hfz6_1
          try clear hfz9_0
          try clear hfz9_1
          try clear hx199_0
          try clear p199
          try clear p2
          try clear q199
          obtain ⟨x5_2, x201000_2, x201001_2, rfl, HA, HK2, BK198, BK200, HB⟩ := hrel
          cases gk with
          | zero => exact absurd HA.out (by simp [turnstileref03_number.l1])
          | succ k2 =>
            have H := HA.out
            clear HA
            simp only [turnstileref03_number.l1] at H
            by_cases c10 : x5_2 ≥ 0
            · rw [if_pos c10] at H
              have c10b0 : decide (0 ≤ x5_2) = true := decide_eq_true c10
              clear c10
              by_cases c11 : x5_2 < (l0.length : Int)
              · rw [if_pos c11] at H
                have c11b0 : decide (x5_2 < (l0.length : Int)) = true := decide_eq_true c11
                clear c11
                by_cases c12 : 0 ≤ x5_2
                · rw [if_pos c12] at H
                  have c12b0 : decide (0 ≤ x5_2) = true := decide_eq_true c12
                  clear c12
                  by_cases c13 : x5_2 ≥ 4
                  · rw [if_pos c13] at H
                    have c13b0 : decide (4 ≤ x5_2) = true := decide_eq_true c13
                    clear c13
                    have H' := Aside0.mk H
                    clear H
                    have p201 : 0 ≤ (x5_2 : Int) := of_decide_eq_true (by first | (with_reducible assumption) | assumption)
                    have q201 : x5_2 < (l0.length : Int) := of_decide_eq_true (by first | (with_reducible assumption) | assumption)
                    obtain ⟨ad201, e201, hx201_0⟩ := Kd.at_int HR0.out x5_2 p201 q201
                    cases e201
                    replace hx201_0 := (HB.out.cell (World.block_lt_of_cell? w _ hx201_0)).trans hx201_0
                    replace p201 := eq_true p201
                    replace q201 := eq_true q201
                    have hnb14 := NB200_198.out
                    have hnc14 := NB198_200.out
                    obtain ⟨hcz15_0, hcz15_1, hfz15_0, hfz15_1⟩ := bc2 BK200
                    go_wp2
                    go_roundg k2
                    case measure => have := HK1.out; have := HK2.out; omega
                    case rel => exact ⟨(wrap64 (x5_2 - 1)), (IntKind.u64.wrap ((IntKind.u64.wrap (x201000_2 * 65536)) + (rd l0 x5_2))), (x201001_2), rs, H', ⟨by have := HK1.out; have := HK2.out; omega⟩, ⟨bk BK198⟩, ⟨bk BK200⟩, ⟨bw HB⟩⟩
                  · rw [if_neg c13] at H
                    have c13b0 : decide (4 ≤ x5_2) = false := decide_eq_false c13
                    clear c13
                    have H' := Aside0.mk H
                    clear H
                    have p201 : 0 ≤ (x5_2 : Int) := of_decide_eq_true (by first | (with_reducible assumption) | assumption)
                    have q201 : x5_2 < (l0.length : Int) := of_decide_eq_true (by first | (with_reducible assumption) | assumption)
                    obtain ⟨ad201, e201, hx201_0⟩ := Kd.at_int HR0.out x5_2 p201 q201
                    cases e201
                    replace hx201_0 := (HB.out.cell (World.block_lt_of_cell? w _ hx201_0)).trans hx201_0
                    replace p201 := eq_true p201
                    replace q201 := eq_true q201
                    have hnb16 := NB200_198.out
                    have hnc16 := NB198_200.out
                    obtain ⟨hcz17_0, hcz17_1, hfz17_0, hfz17_1⟩ := bc2 BK200
                    go_wp2
                    go_roundg k2
                    case measure => have := HK1.out; have := HK2.out; omega
                    case rel => exact ⟨(wrap64 (x5_2 - 1)), (x201000_2), (IntKind.u64.wrap ((IntKind.u64.wrap (x201001_2 * 65536)) + (rd l0 x5_2))), rs, H', ⟨by have := HK1.out; have := HK2.out; omega⟩, ⟨bk BK198⟩, ⟨bk BK200⟩, ⟨bw HB⟩⟩
                · rw [if_neg c12] at H
                  exact absurd H (by simp)
              · rw [if_neg c11] at H
                have c11b0 : decide (x5_2 < (l0.length : Int)) = false := decide_eq_false c11
                clear c11
                by_cases c18 : x5_2 ≥ 4
                · rw [if_pos c18] at H
                  have c18b0 : decide (4 ≤ x5_2) = true := decide_eq_true c18
                  clear c18
                  have H' := Aside0.mk H
                  clear H
                  have hnb19 := NB200_198.out
                  have hnc19 := NB198_200.out
                  obtain ⟨hcz20_0, hcz20_1, hfz20_0, hfz20_1⟩ := bc2 BK200
                  go_wp2
                  go_roundg k2
                  case measure => have := HK1.out; have := HK2.out; omega
                  case rel => exact ⟨(wrap64 (x5_2 - 1)), (IntKind.u64.wrap ((IntKind.u64.wrap (x201000_2 * 65536)))), (x201001_2), rs, H', ⟨by have := HK1.out; have := HK2.out; omega⟩, ⟨bk BK198⟩, ⟨bk BK200⟩, ⟨bw HB⟩⟩
                · rw [if_neg c18] at H
                  have c18b0 : decide (4 ≤ x5_2) = false := decide_eq_false c18
                  clear c18
                  have H' := Aside0.mk H
                  clear H
                  have hnb21 := NB200_198.out
                  have hnc21 := NB198_200.out
                  obtain ⟨hcz22_0, hcz22_1, hfz22_0, hfz22_1⟩ := bc2 BK200
                  go_wp2
                  go_roundg k2
                  case measure => have := HK1.out; have := HK2.out; omega
                  case rel => exact ⟨(wrap64 (x5_2 - 1)), (x201000_2), (IntKind.u64.wrap ((IntKind.u64.wrap (x201001_2 * 65536)))), rs, H', ⟨by have := HK1.out; have := HK2.out; omega⟩, ⟨bk BK198⟩, ⟨bk BK200⟩, ⟨bw HB⟩⟩
            · rw [if_neg c10] at H
              have c10b0 : decide (0 ≤ x5_2) = false := decide_eq_false c10
              clear c10
              simp only [Option.some.injEq, Prod.mk.injEq] at H
              obtain ⟨rfl, rfl⟩ := H
              have hnb23 := NB200_198.out
              have hnc23 := NB198_200.out
              obtain ⟨hcz24_0, hcz24_1, hfz24_0, hfz24_1⟩ := bc2 BK200
              obtain ⟨hcz25_0, hcz25_1, hfz25_0, hfz25_1⟩ := bc2 BK198
              go_wp2
              refine bodyPost_ret (results_cell_row rfl _ _ gb198 66 #[.int .u64 x201000_2, .int .u64 x201001_2] (0, 0) _ rfl (bk BK198) Try.underlying66 rfl (by kernel_rfl)) rfl ?_
              exact ⟨re, bw HB⟩

end Go.Proofs.Ythnpgilknoiaaaa.Q
