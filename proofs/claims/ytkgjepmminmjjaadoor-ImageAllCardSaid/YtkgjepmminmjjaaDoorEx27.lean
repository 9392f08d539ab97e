/- Written by the session's own program hyb.py: what functions of the program compute; Lean checks it. -/
import Derived.Test.YtkgjepmminmjjaaDoorEx0
namespace Go.Proofs.YtkgjepmminmjjaaDoor.E
open Go.RowKit Go.Proofs.YtkgjepmminmjjaaDoorW.PrintWords Go.Proofs.YtkgjepmminmjjaaDoorW.PrintLast Go.Proofs.YtkgjepmminmjjaaDoorW.PrintMore Go.Proofs.YtkgjepmminmjjaaDoorW.PrintShort
attribute [local go_sem] run_Add64 run_Sub64
attribute [local go_sem] max2_int min2_int max_two min_two max_three min_three max_four min_four   -- for this text's walks alone
set_option linter.unusedVariables false
set_option linter.unusedSimpArgs false

/-! ### turnstilelaw14_wide: function 23 -/
def turnstilelaw14_wide.l0 : Nat → Int → Int → Int → Int → List (S79) → Option (Bool)
  | 0, _, _, _, _, _ => none
  | k + 1, x3, x4, x353000, x353001, x353002 => if x4 < (x353002.length : Int) then (if x3 ≤ 16777216 then (if x4 ≤ 1048576 then (if 0 ≤ x4 then (turnstilelaw14_wide.l0 k (wrap64 (x3 + (((rd_T79 x353002 x4).f0).size : Int))) (wrap64 (x4 + 1)) x353000 x353001 x353002) else (none)) else (if (x353002.length : Int) > 1048576 then (some true) else (some (decide (x3 > 16777216))))) else (if (x353002.length : Int) > 1048576 then (some true) else (some (decide (x3 > 16777216))))) else (if (x353002.length : Int) > 1048576 then (some true) else (some (decide (x3 > 16777216))))
def turnstilelaw14_wide.f (k : Nat) (a0_0 : Int) (a0_1 : Int) (l0_2 : List (S79)) : Option (Bool) := turnstilelaw14_wide.l0 k 0 0 a0_0 a0_1 l0_2
set_option maxHeartbeats 8000000 in
set_option maxRecDepth 100000 in
theorem turnstilelaw14_wide.calls (k : Nat) (a0_0 : Int) (a0_1 : Int) (A0_2 : Option Addr) (c0_2 : Nat) (l0_2 : List (S79)) (r : Bool) (w : World) (hr0_2 : Kd.C k79 w A0_2 l0_2.length l0_2) (hc0_2 : l0_2.length ≤ c0_2) (h : turnstilelaw14_wide.f k a0_0 a0_1 l0_2 = some r) :
    Calls Tryd.prog 23 #[.agg #[.int .u64 a0_0, .int .u64 a0_1, .slice A0_2 l0_2.length c0_2]] w fun e w' => e = .returned (.bool r) ∧ Below w.heap.size w w' := by
  have hu51 := Tryd.underlying51
  have HR0_2 := Aside0.mk hr0_2
  have HC0_2 := Aside0.mk hc0_2
  clear hr0_2 hc0_2
  have HB := Aside0.mk (Below.refl w.heap.size w)
  have H : (turnstilelaw14_wide.l0 k 0 0 a0_0 a0_1 l0_2) = some r := h
  clear h
  have H' := Aside0.mk H
  clear H
  go_enter Tryd.func23, Tryd.ntmps23
  go_wp2_with (first | ((with_reducible refine gate_dst (N := 1) rfl ?_); refine bx 1 #[.int .u64 a0_0, .int .u64 a0_1, .slice A0_2 l0_2.length c0_2] 51 ?_; intro gb352 hg w2 hbox hb; have BK352 := Aside0.mk (hbox); have GW352 := sz HB hg; have GE352 := sz HB hg; replace HB := bs HB hb; clear hb hbox hg))
  go_loopg [3, 4] k (fun kq v3 v4 w' => ∃ (x3_1 : Int) (x4_1 : Int), v3 = .int .i64 x3_1 ∧ v4 = .int .i64 x4_1 ∧ Aside0 (turnstilelaw14_wide.l0 kq x3_1 x4_1 a0_0 a0_1 l0_2 = some r) ∧ Aside0 (kq ≤ k) ∧ Aside0 (w'.heap[gb352]? = some (.cells #[.int .u64 a0_0, .int .u64 a0_1, (.slice A0_2 l0_2.length c0_2)] 51 (0, 0))) ∧ Aside0 (Below w.heap.size w w'))
  case atStart => exact ⟨(0), (0), rs, rs, H', ⟨Nat.le_refl _⟩, ⟨bk BK352⟩, ⟨bw HB⟩⟩
  case round =>
    clear H'
    try clear c2
    try clear p2
    obtain ⟨x3_1, x4_1, rfl, rfl, HA, HK1, BK352, HB⟩ := hrel
    cases gk with
    | zero => exact absurd HA.out (by simp [turnstilelaw14_wide.l0])
    | succ k1 =>
      have H := HA.out
      clear HA
      simp only [turnstilelaw14_wide.l0] at H
      by_cases c3 : x4_1 < (l0_2.length : Int)
      · rw [if_pos c3] at H
        have c3b0 : decide (x4_1 < (l0_2.length : Int)) = true := decide_eq_true c3
        clear c3
        by_cases c4 : x3_1 ≤ 16777216
        · rw [if_pos c4] at H
          have c4b0 : decide (x3_1 ≤ 16777216) = true := decide_eq_true c4
          clear c4
          by_cases c5 : x4_1 ≤ 1048576
          · rw [if_pos c5] at H
            have c5b0 : decide (x4_1 ≤ 1048576) = true := decide_eq_true c5
            clear c5
            by_cases c6 : 0 ≤ x4_1
            · rw [if_pos c6] at H
              have c6b0 : decide (0 ≤ x4_1) = true := decide_eq_true c6
              clear c6
              have H' := Aside0.mk H
              clear H
              obtain ⟨hcz7_0, hcz7_1, hcz7_2, hfz7_0, hfz7_1, hfz7_2⟩ := bc3 BK352
              have p353 : 0 ≤ (x4_1 : Int) := of_decide_eq_true (by first | (with_reducible assumption) | assumption)
              have q353 : x4_1 < (l0_2.length : Int) := of_decide_eq_true (by first | (with_reducible assumption) | assumption)
              obtain ⟨ad353, e353, hx353_0, hx353_1, hx353_2, hx353_3, hx353_4, hx353_5, hx353_6, hx353_7, hx353_8⟩ := at_T79 HR0_2.out x4_1 p353 q353
              cases e353
              replace hx353_0 := (HB.out.cell (World.block_lt_of_cell? w _ hx353_0)).trans hx353_0
              replace hx353_1 := (HB.out.cell (World.block_lt_of_cell? w _ hx353_1)).trans hx353_1
              replace hx353_2 := (HB.out.cell (World.block_lt_of_cell? w _ hx353_2)).trans hx353_2
              replace hx353_3 := (HB.out.cell (World.block_lt_of_cell? w _ hx353_3)).trans hx353_3
              replace hx353_4 := (HB.out.cell (World.block_lt_of_cell? w _ hx353_4)).trans hx353_4
              replace hx353_5 := (HB.out.cell (World.block_lt_of_cell? w _ hx353_5)).trans hx353_5
              replace hx353_6 := (HB.out.cell (World.block_lt_of_cell? w _ hx353_6)).trans hx353_6
              replace hx353_7 := (HB.out.cell (World.block_lt_of_cell? w _ hx353_7)).trans hx353_7
              replace hx353_8 := (HB.out.cell (World.block_lt_of_cell? w _ hx353_8)).trans hx353_8
              replace p353 := eq_true p353
              replace q353 := eq_true q353
              go_wp2
              go_roundg k1
              case measure => have := HK1.out; omega
              case rel => exact ⟨(wrap64 (x3_1 + (((rd_T79 l0_2 x4_1).f0).size : Int))), (wrap64 (x4_1 + 1)), rs, rs, H', ⟨by have := HK1.out; omega⟩, ⟨bk BK352⟩, ⟨bw HB⟩⟩
            · rw [if_neg c6] at H
              exact absurd H (by simp)
          · rw [if_neg c5] at H
            have c5b0 : decide (x4_1 ≤ 1048576) = false := decide_eq_false c5
            clear c5
            by_cases c8 : (l0_2.length : Int) > 1048576
            · rw [if_pos c8] at H
              have c8b0 : decide (1048576 < (l0_2.length : Int)) = true := decide_eq_true c8
              have c8b1 : decide (1048576 < l0_2.length) = true := decide_eq_true (by omega)
              clear c8
              obtain rfl := Option.some.inj H
              obtain ⟨hcz9_0, hcz9_1, hcz9_2, hfz9_0, hfz9_1, hfz9_2⟩ := bc3 BK352
              go_wp2
              go_ret
              exact ⟨re, bw HB⟩
            · rw [if_neg c8] at H
              have c8b0 : decide (1048576 < (l0_2.length : Int)) = false := decide_eq_false c8
              have c8b1 : decide (1048576 < l0_2.length) = false := decide_eq_false (by omega)
              clear c8
              obtain rfl := Option.some.inj H
              obtain ⟨hcz10_0, hcz10_1, hcz10_2, hfz10_0, hfz10_1, hfz10_2⟩ := bc3 BK352
              go_wp2
              go_ret
              exact ⟨re, bw HB⟩
        · rw [if_neg c4] at H
          have c4b0 : decide (x3_1 ≤ 16777216) = false := decide_eq_false c4
          clear c4
          by_cases c11 : (l0_2.length : Int) > 1048576
          · rw [if_pos c11] at H
            have c11b0 : decide (1048576 < (l0_2.length : Int)) = true := decide_eq_true c11
            have c11b1 : decide (1048576 < l0_2.length) = true := decide_eq_true (by omega)
            clear c11
            obtain rfl := Option.some.inj H
            obtain ⟨hcz12_0, hcz12_1, hcz12_2, hfz12_0, hfz12_1, hfz12_2⟩ := bc3 BK352
            go_wp2
            go_ret
            exact ⟨re, bw HB⟩
          · rw [if_neg c11] at H
            have c11b0 : decide (1048576 < (l0_2.length : Int)) = false := decide_eq_false c11
            have c11b1 : decide (1048576 < l0_2.length) = false := decide_eq_false (by omega)
            clear c11
            obtain rfl := Option.some.inj H
            obtain ⟨hcz13_0, hcz13_1, hcz13_2, hfz13_0, hfz13_1, hfz13_2⟩ := bc3 BK352
            go_wp2
            go_ret
            exact ⟨re, bw HB⟩
      · rw [if_neg c3] at H
        have c3b0 : decide (x4_1 < (l0_2.length : Int)) = false := decide_eq_false c3
        clear c3
        by_cases c14 : (l0_2.length : Int) > 1048576
        · rw [if_pos c14] at H
          have c14b0 : decide (1048576 < (l0_2.length : Int)) = true := decide_eq_true c14
          have c14b1 : decide (1048576 < l0_2.length) = true := decide_eq_true (by omega)
          clear c14
          obtain rfl := Option.some.inj H
          obtain ⟨hcz15_0, hcz15_1, hcz15_2, hfz15_0, hfz15_1, hfz15_2⟩ := bc3 BK352
          go_wp2
          go_ret
          exact ⟨re, bw HB⟩
        · rw [if_neg c14] at H
          have c14b0 : decide (1048576 < (l0_2.length : Int)) = false := decide_eq_false c14
          have c14b1 : decide (1048576 < l0_2.length) = false := decide_eq_false (by omega)
          clear c14
          obtain rfl := Option.some.inj H
          obtain ⟨hcz16_0, hcz16_1, hcz16_2, hfz16_0, hfz16_1, hfz16_2⟩ := bc3 BK352
          go_wp2
          go_ret
          exact ⟨re, bw HB⟩

end Go.Proofs.YtkgjepmminmjjaaDoor.E
