/- Written by the session's own program hyb.py: what functions of the program compute; Lean checks it. -/
import Derived.Test.YtnhngjhodcikiaaDoorFx0
import Derived.Test.YtnhngjhodcikiaaDoorFx31
import Derived.Test.YtnhngjhodcikiaaDoorFx32
namespace Go.Proofs.YtnhngjhodcikiaaDoor.F
open Go.RowKit Go.Proofs.YtnhngjhodcikiaaDoorW.PrintWords Go.Proofs.YtnhngjhodcikiaaDoorW.PrintLast Go.Proofs.YtnhngjhodcikiaaDoorW.PrintMore Go.Proofs.YtnhngjhodcikiaaDoorW.PrintShort
attribute [local go_sem] run_Add64 run_Sub64
attribute [local go_sem] max2_int min2_int max_two min_two max_three min_three max_four min_four   -- for this text's walks alone
set_option linter.unusedVariables false
set_option linter.unusedSimpArgs false

/-! ### turnstileref13_Valid: function 9 -/
mutual
def turnstileref13_Valid.j0 : Nat → Bool → Int → Int → List (S56) → Option (Bool)
  | 0, _, _, _, _ => none
  | k + 1, x13, x259000, x259001, x259002 => if x13 = true then (some false) else (turnstileref13_Valid.l0 k 0 x259000 x259001 x259002)
def turnstileref13_Valid.l0 : Nat → Int → Int → Int → List (S56) → Option (Bool)
  | 0, _, _, _, _ => none
  | k + 1, x3, x259000, x259001, x259002 => if x3 < (x259002.length : Int) then (if 0 ≤ x3 then (if (((rd_T56 x259002 x3).f0).size : Int) < 1 then (turnstileref13_Valid.j2 k x3 true x259000 x259001 x259002 ((rd_T56 x259002 x3).f0) ((rd_T56 x259002 x3).f1.f0) ((rd_T56 x259002 x3).f1.f1) ((rd_T56 x259002 x3).f1.f2) ((rd_T56 x259002 x3).f1.f3) ((rd_T56 x259002 x3).f1.f4) ((rd_T56 x259002 x3).f2.f0) ((rd_T56 x259002 x3).f2.f1) ((rd_T56 x259002 x3).f2.f2)) else (if (((rd_T56 x259002 x3).f0).size : Int) > 64 then (turnstileref13_Valid.j2 k x3 true x259000 x259001 x259002 ((rd_T56 x259002 x3).f0) ((rd_T56 x259002 x3).f1.f0) ((rd_T56 x259002 x3).f1.f1) ((rd_T56 x259002 x3).f1.f2) ((rd_T56 x259002 x3).f1.f3) ((rd_T56 x259002 x3).f1.f4) ((rd_T56 x259002 x3).f2.f0) ((rd_T56 x259002 x3).f2.f1) ((rd_T56 x259002 x3).f2.f2)) else ((turnstileref06_Fits.f ((rd_T56 x259002 x3).f1.f0) ((rd_T56 x259002 x3).f1.f1) ((rd_T56 x259002 x3).f1.f2) ((rd_T56 x259002 x3).f1.f3) ((rd_T56 x259002 x3).f1.f4) ((rd_T56 x259002 x3).f2.f0) ((rd_T56 x259002 x3).f2.f1) ((rd_T56 x259002 x3).f2.f2)).bind fun t261 => (turnstileref13_Valid.j2 k x3 (!t261) x259000 x259001 x259002 ((rd_T56 x259002 x3).f0) ((rd_T56 x259002 x3).f1.f0) ((rd_T56 x259002 x3).f1.f1) ((rd_T56 x259002 x3).f1.f2) ((rd_T56 x259002 x3).f1.f3) ((rd_T56 x259002 x3).f1.f4) ((rd_T56 x259002 x3).f2.f0) ((rd_T56 x259002 x3).f2.f1) ((rd_T56 x259002 x3).f2.f2))))) else (none)) else (some true)
def turnstileref13_Valid.j2 : Nat → Int → Bool → Int → Int → List (S56) → ByteArray → Int → Int → Int → Int → Int → Int → Int → Int → Option (Bool)
  | 0, _, _, _, _, _, _, _, _, _, _, _, _, _, _ => none
  | k + 1, x3, x43, x259000, x259001, x259002, x261000, x261001, x261002, x261003, x261004, x261005, x261006, x261007, x261008 => if x43 = true then (some false) else (if x3 > 0 then (if 0 ≤ (wrap64 (x3 - 1)) then (if (wrap64 (x3 - 1)) < (x259002.length : Int) then ((turnstileref07_Before.f k ((rd_T56 x259002 (wrap64 (x3 - 1))).f0) x261000).bind fun t263 => (if t263 = true then (turnstileref13_Valid.l0 k (wrap64 (x3 + 1)) x259000 x259001 x259002) else (some false))) else (none)) else (none)) else (turnstileref13_Valid.l0 k (wrap64 (x3 + 1)) x259000 x259001 x259002))
end
def turnstileref13_Valid.f (k : Nat) (a0_0 : Int) (a0_1 : Int) (l0_2 : List (S56)) : Option (Bool) := if a0_0 > 4611686018427387904 then (turnstileref13_Valid.j0 k true a0_0 a0_1 l0_2) else (turnstileref13_Valid.j0 k (decide ((l0_2.length : Int) > 4096)) a0_0 a0_1 l0_2)
set_option maxHeartbeats 8000000 in
set_option maxRecDepth 100000 in
theorem turnstileref13_Valid.calls (k : Nat) (a0_0 : Int) (a0_1 : Int) (A0_2 : Option Addr) (c0_2 : Nat) (l0_2 : List (S56)) (r : Bool) (w : World) (hr0_2 : Kd.C k56 w A0_2 l0_2.length l0_2) (hc0_2 : l0_2.length ≤ c0_2) (h : turnstileref13_Valid.f k a0_0 a0_1 l0_2 = some r) :
    Calls Tryd.prog 9 #[.agg #[.int .u64 a0_0, .int .u64 a0_1, .slice A0_2 l0_2.length c0_2]] w fun e w' => e = .returned (.bool r) ∧ Below w.heap.size w w' := by
  have hu27 := Tryd.underlying27
  have hu56 := Tryd.underlying56
  have hu35 := Tryd.underlying35
  have hu37 := Tryd.underlying37
  have HR0_2 := Aside0.mk hr0_2
  have HC0_2 := Aside0.mk hc0_2
  clear hr0_2 hc0_2
  have HB := Aside0.mk (Below.refl w.heap.size w)
  have H : (if a0_0 > 4611686018427387904 then (turnstileref13_Valid.j0 k true a0_0 a0_1 l0_2) else (turnstileref13_Valid.j0 k (decide ((l0_2.length : Int) > 4096)) a0_0 a0_1 l0_2)) = some r := h
  clear h
  have HC2 := Aside0.mk H
  clear H
  go_enter Tryd.func9, Tryd.ntmps9
  go_upto_region 1 with (first | ((with_reducible refine gate_dst (N := 1) rfl ?_); (try (refine gate_guard (by rfl) ?_; dsimp only)); refine bx 1 #[.int .u64 a0_0, .int .u64 a0_1, .slice A0_2 l0_2.length c0_2] 27 ?_; intro gb258 hg w3 hbox hb; have n0_ := bs HB hb; have n1_ := Aside0.mk (hbox); have n2_ := sz HB hg; have n3_ := sz HB hg; clear HB; have HB := n0_; have BK258 := n1_; have GW258 := n2_; have GE258 := n3_; clear n0_ n1_ n2_ n3_; clear hb hbox hg))
  repeat (go_quiet (first | ((with_reducible refine gate_dst (N := 1) rfl ?_); (try (refine gate_guard (by rfl) ?_; dsimp only)); refine bx 1 #[.int .u64 a0_0, .int .u64 a0_1, .slice A0_2 l0_2.length c0_2] 27 ?_; intro gb258 hg w3 hbox hb; have n0_ := bs HB hb; have n1_ := Aside0.mk (hbox); have n2_ := sz HB hg; have n3_ := sz HB hg; clear HB; have HB := n0_; have BK258 := n1_; have GW258 := n2_; have GE258 := n3_; clear n0_ n1_ n2_ n3_; clear hb hbox hg)); go_upto_region 1 with (first | ((with_reducible refine gate_dst (N := 1) rfl ?_); (try (refine gate_guard (by rfl) ?_; dsimp only)); refine bx 1 #[.int .u64 a0_0, .int .u64 a0_1, .slice A0_2 l0_2.length c0_2] 27 ?_; intro gb258 hg w3 hbox hb; have n0_ := bs HB hb; have n1_ := Aside0.mk (hbox); have n2_ := sz HB hg; have n3_ := sz HB hg; clear HB; have HB := n0_; have BK258 := n1_; have GW258 := n2_; have GE258 := n3_; clear n0_ n1_ n2_ n3_; clear hb hbox hg)))
  (try simp only [Act.put, List.setIfInBounds_toArray, List.set_cons_zero, List.set_cons_succ])
  go_cut [13] (fun v13 wc => ∃ (kq : Nat) (x13_1 : Bool), v13 = .bool x13_1 ∧ Aside0 (turnstileref13_Valid.j0 kq x13_1 a0_0 a0_1 l0_2 = some r) ∧ Aside0 (kq ≤ k) ∧ Aside0 (wc.heap[gb258]? = some (.cells #[.int .u64 a0_0, .int .u64 a0_1, (.slice A0_2 l0_2.length c0_2)] 27 (0, 0))) ∧ Aside0 (Below w.heap.size w wc))
  case first =>
    have H := HC2.out
    clear HC2
    by_cases c4 : a0_0 > 4611686018427387904
    · rw [if_pos c4] at H
      have c4b0 : decide (4611686018427387904 < a0_0) = true := decide_eq_true c4
      clear c4
      (first | rw [c4b0] | (simp only [i64_w, i32_w]; rw [c4b0]) | skip)
      have H' := Aside0.mk H
      clear H
      obtain ⟨hcz5_0, hcz5_1, hcz5_2, hfz5_0, hfz5_1, hfz5_2⟩ := bc3 BK258
      go_wp2
      repeat (go_quiet (fail); try go_wp2)
      go_meet
      case rel => exact ⟨_, (true), rs, H', ⟨by first | omega | exact Nat.le_refl _⟩, ⟨bk BK258⟩, ⟨bw HB⟩⟩
    · rw [if_neg c4] at H
      have c4b0 : decide (4611686018427387904 < a0_0) = false := decide_eq_false c4
      clear c4
      (first | rw [c4b0] | (simp only [i64_w, i32_w]; rw [c4b0]) | skip)
      have H' := Aside0.mk H
      clear H
      obtain ⟨hcz6_0, hcz6_1, hcz6_2, hfz6_0, hfz6_1, hfz6_2⟩ := bc3 BK258
      go_wp2
      repeat (go_quiet (fail); try go_wp2)
      go_meet
      case rel => exact ⟨_, (decide ((l0_2.length : Int) > 4096)), rs, H', ⟨by first | omega | exact Nat.le_refl _⟩, ⟨bk BK258⟩, ⟨bw HB⟩⟩
  case rest =>
    clear HC2
    try clear p2
    try clear c4
    try clear c4b0
    try clear hcz5_0
    try clear hcz5_1
    try clear hcz5_2
    try clear hcz6_0
    try clear hcz6_1
    try clear hcz6_2
    try clear hfz5_0
    try clear hfz5_1
    try clear hfz5_2
    try clear hfz6_0
    try clear hfz6_1
    try clear hfz6_2
    obtain ⟨kq, x13_1, rfl, HA, HJ1, BK258, HB⟩ := hcut
    cases kq with
    | zero => exact absurd HA.out (by simp [turnstileref13_Valid.j0])
    | succ kj1 =>
      have H := HA.out
      clear HA
      simp only [turnstileref13_Valid.j0] at H
      by_cases c7 : x13_1 = true
      · subst c7
        have H1 : (some false) = some r := by rw [if_pos rfl] at H; exact H
        clear H
        have H := H1
        clear H1
        obtain rfl := Option.some.inj H
        go_wp2
        repeat (go_quiet (fail); try go_wp2)
        go_ret
        exact ⟨re, bw HB⟩
      · replace c7 := Bool.eq_false_iff.mpr c7
        subst c7
        have H1 : (turnstileref13_Valid.l0 kj1 0 a0_0 a0_1 l0_2) = some r := by rw [if_neg (show ¬ (false = true) by decide)] at H; exact H
        clear H
        have H := H1
        clear H1
        have H' := Aside0.mk H
        clear H
        go_wp2
        repeat (go_quiet (fail); try go_wp2)
        go_loopg [3] kj1 (fun kq v3 w' => ∃ (x3_2 : Int), v3 = .int .i64 x3_2 ∧ Aside0 (turnstileref13_Valid.l0 kq x3_2 a0_0 a0_1 l0_2 = some r) ∧ Aside0 (kq ≤ kj1) ∧ Aside0 (w'.heap[gb258]? = some (.cells #[.int .u64 a0_0, .int .u64 a0_1, (.slice A0_2 l0_2.length c0_2)] 27 (0, 0))) ∧ Aside0 (Below w.heap.size w w'))
        case atStart => exact ⟨(0), rs, H', ⟨Nat.le_refl _⟩, ⟨bk BK258⟩, ⟨bw HB⟩⟩
        case round =>
          clear H'
          try clear p2
          try clear c4
          try clear c4b0
          try clear c7
          try clear hcz5_0
          try clear hcz5_1
          try clear hcz5_2
          try clear hcz6_0
          try clear hcz6_1
          try clear hcz6_2
          try clear hfz5_0
          try clear hfz5_1
          try clear hfz5_2
          try clear hfz6_0
          try clear hfz6_1
          try clear hfz6_2
          try clear p2
          obtain ⟨x3_2, rfl, HA, HK2, BK258, HB⟩ := hrel
          cases gk with
          | zero => exact absurd HA.out (by simp [turnstileref13_Valid.l0])
          | succ k2 =>
            have H := HA.out
            clear HA
            simp only [turnstileref13_Valid.l0] at H
            by_cases c8 : x3_2 < (l0_2.length : Int)
            · rw [if_pos c8] at H
              have c8b0 : decide (x3_2 < (l0_2.length : Int)) = true := decide_eq_true c8
              clear c8
              by_cases c9 : 0 ≤ x3_2
              · rw [if_pos c9] at H
                have c9b0 : decide (0 ≤ x3_2) = true := decide_eq_true c9
                clear c9
                have HC10 := Aside0.mk H
                clear H
                obtain ⟨hcz11_0, hcz11_1, hcz11_2, hfz11_0, hfz11_1, hfz11_2⟩ := bc3 BK258
                have p259 : 0 ≤ (x3_2 : Int) := of_decide_eq_true (by first | (with_reducible assumption) | assumption)
                have q259 : x3_2 < (l0_2.length : Int) := of_decide_eq_true (by first | (with_reducible assumption) | assumption)
                obtain ⟨ad259, e259, hx259_0, hx259_1, hx259_2, hx259_3, hx259_4, hx259_5, hx259_6, hx259_7, hx259_8⟩ := at_T56 HR0_2.out x3_2 p259 q259
                cases e259
                replace hx259_0 := (HB.out.cell (World.block_lt_of_cell? w _ hx259_0)).trans hx259_0
                replace hx259_1 := (HB.out.cell (World.block_lt_of_cell? w _ hx259_1)).trans hx259_1
                replace hx259_2 := (HB.out.cell (World.block_lt_of_cell? w _ hx259_2)).trans hx259_2
                replace hx259_3 := (HB.out.cell (World.block_lt_of_cell? w _ hx259_3)).trans hx259_3
                replace hx259_4 := (HB.out.cell (World.block_lt_of_cell? w _ hx259_4)).trans hx259_4
                replace hx259_5 := (HB.out.cell (World.block_lt_of_cell? w _ hx259_5)).trans hx259_5
                replace hx259_6 := (HB.out.cell (World.block_lt_of_cell? w _ hx259_6)).trans hx259_6
                replace hx259_7 := (HB.out.cell (World.block_lt_of_cell? w _ hx259_7)).trans hx259_7
                replace hx259_8 := (HB.out.cell (World.block_lt_of_cell? w _ hx259_8)).trans hx259_8
                replace p259 := eq_true p259
                replace q259 := eq_true q259
                go_upto_region 7 with (first | ((with_reducible refine gate_dst (N := 4) rfl ?_); (try (refine gate_guard (by rfl) ?_; dsimp only)); refine bx 4 #[.string (⟨#[]⟩ : ByteArray), .int .i64 0, .int .u64 0, .int .u64 0, .int .u64 0, .int .u64 0, .int .u64 0, .int .u64 0, .int .u64 0] 56 ?_; intro gb260 hg w12 hbox hb; have n0_ := bb BK258 hb; have n1_ := bs HB hb; have n2_ := Aside0.mk (hbox); have n3_ := sz HB hg; have n4_ := sz HB hg; have n5_ := nl BK258 hg; have n6_ := nr BK258 hg; clear BK258; clear HB; have BK258 := n0_; have HB := n1_; have BK260 := n2_; have GW260 := n3_; have GE260 := n4_; have NB258_260 := n5_; have NB260_258 := n6_; clear n0_ n1_ n2_ n3_ n4_ n5_ n6_; clear hb hbox hg; have hnb13 := NB260_258.out; have hnc13 := NB258_260.out; have hcz14_0 : w12.cell? ⟨gb260, 0, none⟩ = some (.string (⟨#[]⟩ : ByteArray)) := (blk_cell BK260.out 0).trans rfl; have hcz14_1 : w12.cell? ⟨gb260, 1, none⟩ = some (.int .i64 0) := (blk_cell BK260.out 1).trans rfl; have hcz14_2 : w12.cell? ⟨gb260, 2, none⟩ = some (.int .u64 0) := (blk_cell BK260.out 2).trans rfl; have hcz14_3 : w12.cell? ⟨gb260, 3, none⟩ = some (.int .u64 0) := (blk_cell BK260.out 3).trans rfl; have hcz14_4 : w12.cell? ⟨gb260, 4, none⟩ = some (.int .u64 0) := (blk_cell BK260.out 4).trans rfl; have hcz14_5 : w12.cell? ⟨gb260, 5, none⟩ = some (.int .u64 0) := (blk_cell BK260.out 5).trans rfl; have hcz14_6 : w12.cell? ⟨gb260, 6, none⟩ = some (.int .u64 0) := (blk_cell BK260.out 6).trans rfl; have hcz14_7 : w12.cell? ⟨gb260, 7, none⟩ = some (.int .u64 0) := (blk_cell BK260.out 7).trans rfl; have hcz14_8 : w12.cell? ⟨gb260, 8, none⟩ = some (.int .u64 0) := (blk_cell BK260.out 8).trans rfl; have hfz14_0 := blk_frozen BK260.out 0; have hfz14_1 := blk_frozen BK260.out 1; have hfz14_2 := blk_frozen BK260.out 2; have hfz14_3 := blk_frozen BK260.out 3; have hfz14_4 := blk_frozen BK260.out 4; have hfz14_5 := blk_frozen BK260.out 5; have hfz14_6 := blk_frozen BK260.out 6; have hfz14_7 := blk_frozen BK260.out 7; have hfz14_8 := blk_frozen BK260.out 8))
                repeat (go_quiet (first | ((with_reducible refine gate_dst (N := 4) rfl ?_); (try (refine gate_guard (by rfl) ?_; dsimp only)); refine bx 4 #[.string (⟨#[]⟩ : ByteArray), .int .i64 0, .int .u64 0, .int .u64 0, .int .u64 0, .int .u64 0, .int .u64 0, .int .u64 0, .int .u64 0] 56 ?_; intro gb260 hg w12 hbox hb; have n0_ := bb BK258 hb; have n1_ := bs HB hb; have n2_ := Aside0.mk (hbox); have n3_ := sz HB hg; have n4_ := sz HB hg; have n5_ := nl BK258 hg; have n6_ := nr BK258 hg; clear BK258; clear HB; have BK258 := n0_; have HB := n1_; have BK260 := n2_; have GW260 := n3_; have GE260 := n4_; have NB258_260 := n5_; have NB260_258 := n6_; clear n0_ n1_ n2_ n3_ n4_ n5_ n6_; clear hb hbox hg; have hnb13 := NB260_258.out; have hnc13 := NB258_260.out; have hcz14_0 : w12.cell? ⟨gb260, 0, none⟩ = some (.string (⟨#[]⟩ : ByteArray)) := (blk_cell BK260.out 0).trans rfl; have hcz14_1 : w12.cell? ⟨gb260, 1, none⟩ = some (.int .i64 0) := (blk_cell BK260.out 1).trans rfl; have hcz14_2 : w12.cell? ⟨gb260, 2, none⟩ = some (.int .u64 0) := (blk_cell BK260.out 2).trans rfl; have hcz14_3 : w12.cell? ⟨gb260, 3, none⟩ = some (.int .u64 0) := (blk_cell BK260.out 3).trans rfl; have hcz14_4 : w12.cell? ⟨gb260, 4, none⟩ = some (.int .u64 0) := (blk_cell BK260.out 4).trans rfl; have hcz14_5 : w12.cell? ⟨gb260, 5, none⟩ = some (.int .u64 0) := (blk_cell BK260.out 5).trans rfl; have hcz14_6 : w12.cell? ⟨gb260, 6, none⟩ = some (.int .u64 0) := (blk_cell BK260.out 6).trans rfl; have hcz14_7 : w12.cell? ⟨gb260, 7, none⟩ = some (.int .u64 0) := (blk_cell BK260.out 7).trans rfl; have hcz14_8 : w12.cell? ⟨gb260, 8, none⟩ = some (.int .u64 0) := (blk_cell BK260.out 8).trans rfl; have hfz14_0 := blk_frozen BK260.out 0; have hfz14_1 := blk_frozen BK260.out 1; have hfz14_2 := blk_frozen BK260.out 2; have hfz14_3 := blk_frozen BK260.out 3; have hfz14_4 := blk_frozen BK260.out 4; have hfz14_5 := blk_frozen BK260.out 5; have hfz14_6 := blk_frozen BK260.out 6; have hfz14_7 := blk_frozen BK260.out 7; have hfz14_8 := blk_frozen BK260.out 8)); go_upto_region 7 with (first | ((with_reducible refine gate_dst (N := 4) rfl ?_); (try (refine gate_guard (by rfl) ?_; dsimp only)); refine bx 4 #[.string (⟨#[]⟩ : ByteArray), .int .i64 0, .int .u64 0, .int .u64 0, .int .u64 0, .int .u64 0, .int .u64 0, .int .u64 0, .int .u64 0] 56 ?_; intro gb260 hg w12 hbox hb; have n0_ := bb BK258 hb; have n1_ := bs HB hb; have n2_ := Aside0.mk (hbox); have n3_ := sz HB hg; have n4_ := sz HB hg; have n5_ := nl BK258 hg; have n6_ := nr BK258 hg; clear BK258; clear HB; have BK258 := n0_; have HB := n1_; have BK260 := n2_; have GW260 := n3_; have GE260 := n4_; have NB258_260 := n5_; have NB260_258 := n6_; clear n0_ n1_ n2_ n3_ n4_ n5_ n6_; clear hb hbox hg; have hnb13 := NB260_258.out; have hnc13 := NB258_260.out; have hcz14_0 : w12.cell? ⟨gb260, 0, none⟩ = some (.string (⟨#[]⟩ : ByteArray)) := (blk_cell BK260.out 0).trans rfl; have hcz14_1 : w12.cell? ⟨gb260, 1, none⟩ = some (.int .i64 0) := (blk_cell BK260.out 1).trans rfl; have hcz14_2 : w12.cell? ⟨gb260, 2, none⟩ = some (.int .u64 0) := (blk_cell BK260.out 2).trans rfl; have hcz14_3 : w12.cell? ⟨gb260, 3, none⟩ = some (.int .u64 0) := (blk_cell BK260.out 3).trans rfl; have hcz14_4 : w12.cell? ⟨gb260, 4, none⟩ = some (.int .u64 0) := (blk_cell BK260.out 4).trans rfl; have hcz14_5 : w12.cell? ⟨gb260, 5, none⟩ = some (.int .u64 0) := (blk_cell BK260.out 5).trans rfl; have hcz14_6 : w12.cell? ⟨gb260, 6, none⟩ = some (.int .u64 0) := (blk_cell BK260.out 6).trans rfl; have hcz14_7 : w12.cell? ⟨gb260, 7, none⟩ = some (.int .u64 0) := (blk_cell BK260.out 7).trans rfl; have hcz14_8 : w12.cell? ⟨gb260, 8, none⟩ = some (.int .u64 0) := (blk_cell BK260.out 8).trans rfl; have hfz14_0 := blk_frozen BK260.out 0; have hfz14_1 := blk_frozen BK260.out 1; have hfz14_2 := blk_frozen BK260.out 2; have hfz14_3 := blk_frozen BK260.out 3; have hfz14_4 := blk_frozen BK260.out 4; have hfz14_5 := blk_frozen BK260.out 5; have hfz14_6 := blk_frozen BK260.out 6; have hfz14_7 := blk_frozen BK260.out 7; have hfz14_8 := blk_frozen BK260.out 8)))
                (try simp only [Act.put, List.setIfInBounds_toArray, List.set_cons_zero, List.set_cons_succ])
                go_cut [43] (fun v43 wc => ∃ (kq : Nat) (x43_9 : Bool), v43 = .bool x43_9 ∧ Aside0 (turnstileref13_Valid.j2 kq x3_2 x43_9 a0_0 a0_1 l0_2 ((rd_T56 l0_2 x3_2).f0) ((rd_T56 l0_2 x3_2).f1.f0) ((rd_T56 l0_2 x3_2).f1.f1) ((rd_T56 l0_2 x3_2).f1.f2) ((rd_T56 l0_2 x3_2).f1.f3) ((rd_T56 l0_2 x3_2).f1.f4) ((rd_T56 l0_2 x3_2).f2.f0) ((rd_T56 l0_2 x3_2).f2.f1) ((rd_T56 l0_2 x3_2).f2.f2) = some r) ∧ Aside0 (kq ≤ k2) ∧ Aside0 (wc.heap[gb258]? = some (.cells #[.int .u64 a0_0, .int .u64 a0_1, (.slice (some ad259) l0_2.length c0_2)] 27 (0, 0))) ∧ Aside0 (wc.heap[gb260]? = some (.cells #[.string ((rd_T56 l0_2 x3_2).f0), .int .i64 ((rd_T56 l0_2 x3_2).f1.f0), .int .u64 ((rd_T56 l0_2 x3_2).f1.f1), .int .u64 ((rd_T56 l0_2 x3_2).f1.f2), .int .u64 ((rd_T56 l0_2 x3_2).f1.f3), .int .u64 ((rd_T56 l0_2 x3_2).f1.f4), .int .u64 ((rd_T56 l0_2 x3_2).f2.f0), .int .u64 ((rd_T56 l0_2 x3_2).f2.f1), .int .u64 ((rd_T56 l0_2 x3_2).f2.f2)] 56 (0, 0))) ∧ Aside0 (Below w.heap.size w wc))
                case first =>
                  have H := HC10.out
                  clear HC10
                  by_cases c15 : (((rd_T56 l0_2 x3_2).f0).size : Int) < 1
                  · rw [if_pos c15] at H
                    have c15b0 : decide ((((rd_T56 l0_2 x3_2).f0).size : Int) < 1) = true := decide_eq_true c15
                    have c15b1 : decide (((rd_T56 l0_2 x3_2).f0).size < 1) = true := decide_eq_true (by omega)
                    clear c15
                    (first | rw [c15b0] | (simp only [i64_w, i32_w]; rw [c15b0]) | skip)
                    have H' := Aside0.mk H
                    clear H
                    have hnb16 := NB260_258.out
                    have hnc16 := NB258_260.out
                    have hcz17_0 : w12.cell? ⟨gb260, 0, none⟩ = some (.string (⟨#[]⟩ : ByteArray)) := (blk_cell BK260.out 0).trans rfl
                    have hcz17_1 : w12.cell? ⟨gb260, 1, none⟩ = some (.int .i64 0) := (blk_cell BK260.out 1).trans rfl
                    have hcz17_2 : w12.cell? ⟨gb260, 2, none⟩ = some (.int .u64 0) := (blk_cell BK260.out 2).trans rfl
                    have hcz17_3 : w12.cell? ⟨gb260, 3, none⟩ = some (.int .u64 0) := (blk_cell BK260.out 3).trans rfl
                    have hcz17_4 : w12.cell? ⟨gb260, 4, none⟩ = some (.int .u64 0) := (blk_cell BK260.out 4).trans rfl
                    have hcz17_5 : w12.cell? ⟨gb260, 5, none⟩ = some (.int .u64 0) := (blk_cell BK260.out 5).trans rfl
                    have hcz17_6 : w12.cell? ⟨gb260, 6, none⟩ = some (.int .u64 0) := (blk_cell BK260.out 6).trans rfl
                    have hcz17_7 : w12.cell? ⟨gb260, 7, none⟩ = some (.int .u64 0) := (blk_cell BK260.out 7).trans rfl
                    have hcz17_8 : w12.cell? ⟨gb260, 8, none⟩ = some (.int .u64 0) := (blk_cell BK260.out 8).trans rfl
                    have hfz17_0 := blk_frozen BK260.out 0
                    have hfz17_1 := blk_frozen BK260.out 1
                    have hfz17_2 := blk_frozen BK260.out 2
                    have hfz17_3 := blk_frozen BK260.out 3
                    have hfz17_4 := blk_frozen BK260.out 4
                    have hfz17_5 := blk_frozen BK260.out 5
                    have hfz17_6 := blk_frozen BK260.out 6
                    have hfz17_7 := blk_frozen BK260.out 7
                    have hfz17_8 := blk_frozen BK260.out 8
                    go_wp2
                    repeat (go_quiet (fail); try go_wp2)
                    go_meet
                    case rel => exact ⟨_, (true), rs, H', ⟨by have := HJ1.out; have := HK2.out; first | omega | exact Nat.le_refl _⟩, ⟨bk BK258⟩, ⟨by (with_reducible repeat (first | refine blk_drewN ?_ _ | refine blk_drew ?_ | refine blk_alloc ?_ _)); refine blk_put (cs := #[.string ((rd_T56 l0_2 x3_2).f0), .int .i64 ((rd_T56 l0_2 x3_2).f1.f0), .int .u64 ((rd_T56 l0_2 x3_2).f1.f1), .int .u64 ((rd_T56 l0_2 x3_2).f1.f2), .int .u64 ((rd_T56 l0_2 x3_2).f1.f3), .int .u64 ((rd_T56 l0_2 x3_2).f1.f4), .int .u64 ((rd_T56 l0_2 x3_2).f2.f0), .int .u64 ((rd_T56 l0_2 x3_2).f2.f1), .int .u64 0]) ?_ 8 _ rfl; (with_reducible repeat (first | refine blk_drewN ?_ _ | refine blk_drew ?_ | refine blk_alloc ?_ _)); refine blk_put (cs := #[.string ((rd_T56 l0_2 x3_2).f0), .int .i64 ((rd_T56 l0_2 x3_2).f1.f0), .int .u64 ((rd_T56 l0_2 x3_2).f1.f1), .int .u64 ((rd_T56 l0_2 x3_2).f1.f2), .int .u64 ((rd_T56 l0_2 x3_2).f1.f3), .int .u64 ((rd_T56 l0_2 x3_2).f1.f4), .int .u64 ((rd_T56 l0_2 x3_2).f2.f0), .int .u64 0, .int .u64 0]) ?_ 7 _ rfl; (with_reducible repeat (first | refine blk_drewN ?_ _ | refine blk_drew ?_ | refine blk_alloc ?_ _)); refine blk_put (cs := #[.string ((rd_T56 l0_2 x3_2).f0), .int .i64 ((rd_T56 l0_2 x3_2).f1.f0), .int .u64 ((rd_T56 l0_2 x3_2).f1.f1), .int .u64 ((rd_T56 l0_2 x3_2).f1.f2), .int .u64 ((rd_T56 l0_2 x3_2).f1.f3), .int .u64 ((rd_T56 l0_2 x3_2).f1.f4), .int .u64 0, .int .u64 0, .int .u64 0]) ?_ 6 _ rfl; (with_reducible repeat (first | refine blk_drewN ?_ _ | refine blk_drew ?_ | refine blk_alloc ?_ _)); refine blk_put (cs := #[.string ((rd_T56 l0_2 x3_2).f0), .int .i64 ((rd_T56 l0_2 x3_2).f1.f0), .int .u64 ((rd_T56 l0_2 x3_2).f1.f1), .int .u64 ((rd_T56 l0_2 x3_2).f1.f2), .int .u64 ((rd_T56 l0_2 x3_2).f1.f3), .int .u64 0, .int .u64 0, .int .u64 0, .int .u64 0]) ?_ 5 _ rfl; (with_reducible repeat (first | refine blk_drewN ?_ _ | refine blk_drew ?_ | refine blk_alloc ?_ _)); refine blk_put (cs := #[.string ((rd_T56 l0_2 x3_2).f0), .int .i64 ((rd_T56 l0_2 x3_2).f1.f0), .int .u64 ((rd_T56 l0_2 x3_2).f1.f1), .int .u64 ((rd_T56 l0_2 x3_2).f1.f2), .int .u64 0, .int .u64 0, .int .u64 0, .int .u64 0, .int .u64 0]) ?_ 4 _ rfl; (with_reducible repeat (first | refine blk_drewN ?_ _ | refine blk_drew ?_ | refine blk_alloc ?_ _)); refine blk_put (cs := #[.string ((rd_T56 l0_2 x3_2).f0), .int .i64 ((rd_T56 l0_2 x3_2).f1.f0), .int .u64 ((rd_T56 l0_2 x3_2).f1.f1), .int .u64 0, .int .u64 0, .int .u64 0, .int .u64 0, .int .u64 0, .int .u64 0]) ?_ 3 _ rfl; (with_reducible repeat (first | refine blk_drewN ?_ _ | refine blk_drew ?_ | refine blk_alloc ?_ _)); refine blk_put (cs := #[.string ((rd_T56 l0_2 x3_2).f0), .int .i64 ((rd_T56 l0_2 x3_2).f1.f0), .int .u64 0, .int .u64 0, .int .u64 0, .int .u64 0, .int .u64 0, .int .u64 0, .int .u64 0]) ?_ 2 _ rfl; (with_reducible repeat (first | refine blk_drewN ?_ _ | refine blk_drew ?_ | refine blk_alloc ?_ _)); refine blk_put (cs := #[.string ((rd_T56 l0_2 x3_2).f0), .int .i64 0, .int .u64 0, .int .u64 0, .int .u64 0, .int .u64 0, .int .u64 0, .int .u64 0, .int .u64 0]) ?_ 1 _ rfl; (with_reducible repeat (first | refine blk_drewN ?_ _ | refine blk_drew ?_ | refine blk_alloc ?_ _)); refine blk_put (cs := #[.string (⟨#[]⟩ : ByteArray), .int .i64 0, .int .u64 0, .int .u64 0, .int .u64 0, .int .u64 0, .int .u64 0, .int .u64 0, .int .u64 0]) ?_ 0 _ rfl; (with_reducible repeat (first | refine blk_drewN ?_ _ | refine blk_drew ?_ | refine blk_alloc ?_ _)); exact BK260.out⟩, ⟨bw HB⟩⟩
                  · rw [if_neg c15] at H
                    have c15b0 : decide ((((rd_T56 l0_2 x3_2).f0).size : Int) < 1) = false := decide_eq_false c15
                    have c15b1 : decide (((rd_T56 l0_2 x3_2).f0).size < 1) = false := decide_eq_false (by omega)
                    clear c15
                    (first | rw [c15b0] | (simp only [i64_w, i32_w]; rw [c15b0]) | skip)
                    by_cases c18 : (((rd_T56 l0_2 x3_2).f0).size : Int) > 64
                    · rw [if_pos c18] at H
                      have c18b0 : decide (64 < (((rd_T56 l0_2 x3_2).f0).size : Int)) = true := decide_eq_true c18
                      have c18b1 : decide (64 < ((rd_T56 l0_2 x3_2).f0).size) = true := decide_eq_true (by omega)
                      clear c18
                      have H' := Aside0.mk H
                      clear H
                      have hnb19 := NB260_258.out
                      have hnc19 := NB258_260.out
                      have hcz20_0 : w12.cell? ⟨gb260, 0, none⟩ = some (.string (⟨#[]⟩ : ByteArray)) := (blk_cell BK260.out 0).trans rfl
                      have hcz20_1 : w12.cell? ⟨gb260, 1, none⟩ = some (.int .i64 0) := (blk_cell BK260.out 1).trans rfl
                      have hcz20_2 : w12.cell? ⟨gb260, 2, none⟩ = some (.int .u64 0) := (blk_cell BK260.out 2).trans rfl
                      have hcz20_3 : w12.cell? ⟨gb260, 3, none⟩ = some (.int .u64 0) := (blk_cell BK260.out 3).trans rfl
                      have hcz20_4 : w12.cell? ⟨gb260, 4, none⟩ = some (.int .u64 0) := (blk_cell BK260.out 4).trans rfl
                      have hcz20_5 : w12.cell? ⟨gb260, 5, none⟩ = some (.int .u64 0) := (blk_cell BK260.out 5).trans rfl
                      have hcz20_6 : w12.cell? ⟨gb260, 6, none⟩ = some (.int .u64 0) := (blk_cell BK260.out 6).trans rfl
                      have hcz20_7 : w12.cell? ⟨gb260, 7, none⟩ = some (.int .u64 0) := (blk_cell BK260.out 7).trans rfl
                      have hcz20_8 : w12.cell? ⟨gb260, 8, none⟩ = some (.int .u64 0) := (blk_cell BK260.out 8).trans rfl
                      have hfz20_0 := blk_frozen BK260.out 0
                      have hfz20_1 := blk_frozen BK260.out 1
                      have hfz20_2 := blk_frozen BK260.out 2
                      have hfz20_3 := blk_frozen BK260.out 3
                      have hfz20_4 := blk_frozen BK260.out 4
                      have hfz20_5 := blk_frozen BK260.out 5
                      have hfz20_6 := blk_frozen BK260.out 6
                      have hfz20_7 := blk_frozen BK260.out 7
                      have hfz20_8 := blk_frozen BK260.out 8
                      go_wp2
                      repeat (go_quiet (fail); try go_wp2)
                      go_meet
                      case rel => exact ⟨_, (true), rs, H', ⟨by have := HJ1.out; have := HK2.out; first | omega | exact Nat.le_refl _⟩, ⟨bk BK258⟩, ⟨by (with_reducible repeat (first | refine blk_drewN ?_ _ | refine blk_drew ?_ | refine blk_alloc ?_ _)); refine blk_put (cs := #[.string ((rd_T56 l0_2 x3_2).f0), .int .i64 ((rd_T56 l0_2 x3_2).f1.f0), .int .u64 ((rd_T56 l0_2 x3_2).f1.f1), .int .u64 ((rd_T56 l0_2 x3_2).f1.f2), .int .u64 ((rd_T56 l0_2 x3_2).f1.f3), .int .u64 ((rd_T56 l0_2 x3_2).f1.f4), .int .u64 ((rd_T56 l0_2 x3_2).f2.f0), .int .u64 ((rd_T56 l0_2 x3_2).f2.f1), .int .u64 0]) ?_ 8 _ rfl; (with_reducible repeat (first | refine blk_drewN ?_ _ | refine blk_drew ?_ | refine blk_alloc ?_ _)); refine blk_put (cs := #[.string ((rd_T56 l0_2 x3_2).f0), .int .i64 ((rd_T56 l0_2 x3_2).f1.f0), .int .u64 ((rd_T56 l0_2 x3_2).f1.f1), .int .u64 ((rd_T56 l0_2 x3_2).f1.f2), .int .u64 ((rd_T56 l0_2 x3_2).f1.f3), .int .u64 ((rd_T56 l0_2 x3_2).f1.f4), .int .u64 ((rd_T56 l0_2 x3_2).f2.f0), .int .u64 0, .int .u64 0]) ?_ 7 _ rfl; (with_reducible repeat (first | refine blk_drewN ?_ _ | refine blk_drew ?_ | refine blk_alloc ?_ _)); refine blk_put (cs := #[.string ((rd_T56 l0_2 x3_2).f0), .int .i64 ((rd_T56 l0_2 x3_2).f1.f0), .int .u64 ((rd_T56 l0_2 x3_2).f1.f1), .int .u64 ((rd_T56 l0_2 x3_2).f1.f2), .int .u64 ((rd_T56 l0_2 x3_2).f1.f3), .int .u64 ((rd_T56 l0_2 x3_2).f1.f4), .int .u64 0, .int .u64 0, .int .u64 0]) ?_ 6 _ rfl; (with_reducible repeat (first | refine blk_drewN ?_ _ | refine blk_drew ?_ | refine blk_alloc ?_ _)); refine blk_put (cs := #[.string ((rd_T56 l0_2 x3_2).f0), .int .i64 ((rd_T56 l0_2 x3_2).f1.f0), .int .u64 ((rd_T56 l0_2 x3_2).f1.f1), .int .u64 ((rd_T56 l0_2 x3_2).f1.f2), .int .u64 ((rd_T56 l0_2 x3_2).f1.f3), .int .u64 0, .int .u64 0, .int .u64 0, .int .u64 0]) ?_ 5 _ rfl; (with_reducible repeat (first | refine blk_drewN ?_ _ | refine blk_drew ?_ | refine blk_alloc ?_ _)); refine blk_put (cs := #[.string ((rd_T56 l0_2 x3_2).f0), .int .i64 ((rd_T56 l0_2 x3_2).f1.f0), .int .u64 ((rd_T56 l0_2 x3_2).f1.f1), .int .u64 ((rd_T56 l0_2 x3_2).f1.f2), .int .u64 0, .int .u64 0, .int .u64 0, .int .u64 0, .int .u64 0]) ?_ 4 _ rfl; (with_reducible repeat (first | refine blk_drewN ?_ _ | refine blk_drew ?_ | refine blk_alloc ?_ _)); refine blk_put (cs := #[.string ((rd_T56 l0_2 x3_2).f0), .int .i64 ((rd_T56 l0_2 x3_2).f1.f0), .int .u64 ((rd_T56 l0_2 x3_2).f1.f1), .int .u64 0, .int .u64 0, .int .u64 0, .int .u64 0, .int .u64 0, .int .u64 0]) ?_ 3 _ rfl; (with_reducible repeat (first | refine blk_drewN ?_ _ | refine blk_drew ?_ | refine blk_alloc ?_ _)); refine blk_put (cs := #[.string ((rd_T56 l0_2 x3_2).f0), .int .i64 ((rd_T56 l0_2 x3_2).f1.f0), .int .u64 0, .int .u64 0, .int .u64 0, .int .u64 0, .int .u64 0, .int .u64 0, .int .u64 0]) ?_ 2 _ rfl; (with_reducible repeat (first | refine blk_drewN ?_ _ | refine blk_drew ?_ | refine blk_alloc ?_ _)); refine blk_put (cs := #[.string ((rd_T56 l0_2 x3_2).f0), .int .i64 0, .int .u64 0, .int .u64 0, .int .u64 0, .int .u64 0, .int .u64 0, .int .u64 0, .int .u64 0]) ?_ 1 _ rfl; (with_reducible repeat (first | refine blk_drewN ?_ _ | refine blk_drew ?_ | refine blk_alloc ?_ _)); refine blk_put (cs := #[.string (⟨#[]⟩ : ByteArray), .int .i64 0, .int .u64 0, .int .u64 0, .int .u64 0, .int .u64 0, .int .u64 0, .int .u64 0, .int .u64 0]) ?_ 0 _ rfl; (with_reducible repeat (first | refine blk_drewN ?_ _ | refine blk_drew ?_ | refine blk_alloc ?_ _)); exact BK260.out⟩, ⟨bw HB⟩⟩
                    · rw [if_neg c18] at H
                      have c18b0 : decide (64 < (((rd_T56 l0_2 x3_2).f0).size : Int)) = false := decide_eq_false c18
                      have c18b1 : decide (64 < ((rd_T56 l0_2 x3_2).f0).size) = false := decide_eq_false (by omega)
                      clear c18
                      replace H := Option.bind_eq_some_iff.mp H
                      obtain ⟨t261, A210, H⟩ := H
                      replace H : (turnstileref13_Valid.j2 k2 x3_2 (!t261) a0_0 a0_1 l0_2 ((rd_T56 l0_2 x3_2).f0) ((rd_T56 l0_2 x3_2).f1.f0) ((rd_T56 l0_2 x3_2).f1.f1) ((rd_T56 l0_2 x3_2).f1.f2) ((rd_T56 l0_2 x3_2).f1.f3) ((rd_T56 l0_2 x3_2).f1.f4) ((rd_T56 l0_2 x3_2).f2.f0) ((rd_T56 l0_2 x3_2).f2.f1) ((rd_T56 l0_2 x3_2).f2.f2)) = some r := H
                      have A21 := Aside0.mk A210
                      clear A210
                      have H' := Aside0.mk H
                      clear H
                      have hnb22 := NB260_258.out
                      have hnc22 := NB258_260.out
                      have hcz23_0 : w12.cell? ⟨gb260, 0, none⟩ = some (.string (⟨#[]⟩ : ByteArray)) := (blk_cell BK260.out 0).trans rfl
                      have hcz23_1 : w12.cell? ⟨gb260, 1, none⟩ = some (.int .i64 0) := (blk_cell BK260.out 1).trans rfl
                      have hcz23_2 : w12.cell? ⟨gb260, 2, none⟩ = some (.int .u64 0) := (blk_cell BK260.out 2).trans rfl
                      have hcz23_3 : w12.cell? ⟨gb260, 3, none⟩ = some (.int .u64 0) := (blk_cell BK260.out 3).trans rfl
                      have hcz23_4 : w12.cell? ⟨gb260, 4, none⟩ = some (.int .u64 0) := (blk_cell BK260.out 4).trans rfl
                      have hcz23_5 : w12.cell? ⟨gb260, 5, none⟩ = some (.int .u64 0) := (blk_cell BK260.out 5).trans rfl
                      have hcz23_6 : w12.cell? ⟨gb260, 6, none⟩ = some (.int .u64 0) := (blk_cell BK260.out 6).trans rfl
                      have hcz23_7 : w12.cell? ⟨gb260, 7, none⟩ = some (.int .u64 0) := (blk_cell BK260.out 7).trans rfl
                      have hcz23_8 : w12.cell? ⟨gb260, 8, none⟩ = some (.int .u64 0) := (blk_cell BK260.out 8).trans rfl
                      have hfz23_0 := blk_frozen BK260.out 0
                      have hfz23_1 := blk_frozen BK260.out 1
                      have hfz23_2 := blk_frozen BK260.out 2
                      have hfz23_3 := blk_frozen BK260.out 3
                      have hfz23_4 := blk_frozen BK260.out 4
                      have hfz23_5 := blk_frozen BK260.out 5
                      have hfz23_6 := blk_frozen BK260.out 6
                      have hfz23_7 := blk_frozen BK260.out 7
                      have hfz23_8 := blk_frozen BK260.out 8
                      go_wp2_with (first | (go_at_call 26; (with_reducible refine (turnstileref06_Fits.calls ((rd_T56 l0_2 x3_2).f1.f0) ((rd_T56 l0_2 x3_2).f1.f1) ((rd_T56 l0_2 x3_2).f1.f2) ((rd_T56 l0_2 x3_2).f1.f3) ((rd_T56 l0_2 x3_2).f1.f4) ((rd_T56 l0_2 x3_2).f2.f0) ((rd_T56 l0_2 x3_2).f2.f1) ((rd_T56 l0_2 x3_2).f2.f2) t261 _ A21.out).mono ?_); rintro e w24 ⟨rfl, hb⟩; have n0_ := bb BK258 hb; have n1_ := Aside0.mk (blk_below (g := gb260) (o := .cells #[.string ((rd_T56 l0_2 x3_2).f0), .int .i64 ((rd_T56 l0_2 x3_2).f1.f0), .int .u64 ((rd_T56 l0_2 x3_2).f1.f1), .int .u64 ((rd_T56 l0_2 x3_2).f1.f2), .int .u64 ((rd_T56 l0_2 x3_2).f1.f3), .int .u64 ((rd_T56 l0_2 x3_2).f1.f4), .int .u64 ((rd_T56 l0_2 x3_2).f2.f0), .int .u64 ((rd_T56 l0_2 x3_2).f2.f1), .int .u64 ((rd_T56 l0_2 x3_2).f2.f2)] 56 (0, 0)) (by (with_reducible repeat (first | refine blk_drewN ?_ _ | refine blk_drew ?_ | refine blk_alloc ?_ _)); refine blk_put (cs := #[.string ((rd_T56 l0_2 x3_2).f0), .int .i64 ((rd_T56 l0_2 x3_2).f1.f0), .int .u64 ((rd_T56 l0_2 x3_2).f1.f1), .int .u64 ((rd_T56 l0_2 x3_2).f1.f2), .int .u64 ((rd_T56 l0_2 x3_2).f1.f3), .int .u64 ((rd_T56 l0_2 x3_2).f1.f4), .int .u64 ((rd_T56 l0_2 x3_2).f2.f0), .int .u64 ((rd_T56 l0_2 x3_2).f2.f1), .int .u64 0]) ?_ 8 _ rfl; (with_reducible repeat (first | refine blk_drewN ?_ _ | refine blk_drew ?_ | refine blk_alloc ?_ _)); refine blk_put (cs := #[.string ((rd_T56 l0_2 x3_2).f0), .int .i64 ((rd_T56 l0_2 x3_2).f1.f0), .int .u64 ((rd_T56 l0_2 x3_2).f1.f1), .int .u64 ((rd_T56 l0_2 x3_2).f1.f2), .int .u64 ((rd_T56 l0_2 x3_2).f1.f3), .int .u64 ((rd_T56 l0_2 x3_2).f1.f4), .int .u64 ((rd_T56 l0_2 x3_2).f2.f0), .int .u64 0, .int .u64 0]) ?_ 7 _ rfl; (with_reducible repeat (first | refine blk_drewN ?_ _ | refine blk_drew ?_ | refine blk_alloc ?_ _)); refine blk_put (cs := #[.string ((rd_T56 l0_2 x3_2).f0), .int .i64 ((rd_T56 l0_2 x3_2).f1.f0), .int .u64 ((rd_T56 l0_2 x3_2).f1.f1), .int .u64 ((rd_T56 l0_2 x3_2).f1.f2), .int .u64 ((rd_T56 l0_2 x3_2).f1.f3), .int .u64 ((rd_T56 l0_2 x3_2).f1.f4), .int .u64 0, .int .u64 0, .int .u64 0]) ?_ 6 _ rfl; (with_reducible repeat (first | refine blk_drewN ?_ _ | refine blk_drew ?_ | refine blk_alloc ?_ _)); refine blk_put (cs := #[.string ((rd_T56 l0_2 x3_2).f0), .int .i64 ((rd_T56 l0_2 x3_2).f1.f0), .int .u64 ((rd_T56 l0_2 x3_2).f1.f1), .int .u64 ((rd_T56 l0_2 x3_2).f1.f2), .int .u64 ((rd_T56 l0_2 x3_2).f1.f3), .int .u64 0, .int .u64 0, .int .u64 0, .int .u64 0]) ?_ 5 _ rfl; (with_reducible repeat (first | refine blk_drewN ?_ _ | refine blk_drew ?_ | refine blk_alloc ?_ _)); refine blk_put (cs := #[.string ((rd_T56 l0_2 x3_2).f0), .int .i64 ((rd_T56 l0_2 x3_2).f1.f0), .int .u64 ((rd_T56 l0_2 x3_2).f1.f1), .int .u64 ((rd_T56 l0_2 x3_2).f1.f2), .int .u64 0, .int .u64 0, .int .u64 0, .int .u64 0, .int .u64 0]) ?_ 4 _ rfl; (with_reducible repeat (first | refine blk_drewN ?_ _ | refine blk_drew ?_ | refine blk_alloc ?_ _)); refine blk_put (cs := #[.string ((rd_T56 l0_2 x3_2).f0), .int .i64 ((rd_T56 l0_2 x3_2).f1.f0), .int .u64 ((rd_T56 l0_2 x3_2).f1.f1), .int .u64 0, .int .u64 0, .int .u64 0, .int .u64 0, .int .u64 0, .int .u64 0]) ?_ 3 _ rfl; (with_reducible repeat (first | refine blk_drewN ?_ _ | refine blk_drew ?_ | refine blk_alloc ?_ _)); refine blk_put (cs := #[.string ((rd_T56 l0_2 x3_2).f0), .int .i64 ((rd_T56 l0_2 x3_2).f1.f0), .int .u64 0, .int .u64 0, .int .u64 0, .int .u64 0, .int .u64 0, .int .u64 0, .int .u64 0]) ?_ 2 _ rfl; (with_reducible repeat (first | refine blk_drewN ?_ _ | refine blk_drew ?_ | refine blk_alloc ?_ _)); refine blk_put (cs := #[.string ((rd_T56 l0_2 x3_2).f0), .int .i64 0, .int .u64 0, .int .u64 0, .int .u64 0, .int .u64 0, .int .u64 0, .int .u64 0, .int .u64 0]) ?_ 1 _ rfl; (with_reducible repeat (first | refine blk_drewN ?_ _ | refine blk_drew ?_ | refine blk_alloc ?_ _)); refine blk_put (cs := #[.string (⟨#[]⟩ : ByteArray), .int .i64 0, .int .u64 0, .int .u64 0, .int .u64 0, .int .u64 0, .int .u64 0, .int .u64 0, .int .u64 0]) ?_ 0 _ rfl; (with_reducible repeat (first | refine blk_drewN ?_ _ | refine blk_drew ?_ | refine blk_alloc ?_ _)); exact BK260.out) hb); have n2_ := bs HB hb; clear BK258; clear BK260; clear HB; have BK258 := n0_; have BK260 := n1_; have HB := n2_; clear n0_ n1_ n2_; (try clear hb); (try clear hb2); (try clear hk); (try clear hi)))
                      repeat (go_quiet (first | (go_at_call 26; (with_reducible refine (turnstileref06_Fits.calls ((rd_T56 l0_2 x3_2).f1.f0) ((rd_T56 l0_2 x3_2).f1.f1) ((rd_T56 l0_2 x3_2).f1.f2) ((rd_T56 l0_2 x3_2).f1.f3) ((rd_T56 l0_2 x3_2).f1.f4) ((rd_T56 l0_2 x3_2).f2.f0) ((rd_T56 l0_2 x3_2).f2.f1) ((rd_T56 l0_2 x3_2).f2.f2) t261 _ A21.out).mono ?_); rintro e w24 ⟨rfl, hb⟩; have n0_ := bb BK258 hb; have n1_ := Aside0.mk (blk_below (g := gb260) (o := .cells #[.string ((rd_T56 l0_2 x3_2).f0), .int .i64 ((rd_T56 l0_2 x3_2).f1.f0), .int .u64 ((rd_T56 l0_2 x3_2).f1.f1), .int .u64 ((rd_T56 l0_2 x3_2).f1.f2), .int .u64 ((rd_T56 l0_2 x3_2).f1.f3), .int .u64 ((rd_T56 l0_2 x3_2).f1.f4), .int .u64 ((rd_T56 l0_2 x3_2).f2.f0), .int .u64 ((rd_T56 l0_2 x3_2).f2.f1), .int .u64 ((rd_T56 l0_2 x3_2).f2.f2)] 56 (0, 0)) (by (with_reducible repeat (first | refine blk_drewN ?_ _ | refine blk_drew ?_ | refine blk_alloc ?_ _)); refine blk_put (cs := #[.string ((rd_T56 l0_2 x3_2).f0), .int .i64 ((rd_T56 l0_2 x3_2).f1.f0), .int .u64 ((rd_T56 l0_2 x3_2).f1.f1), .int .u64 ((rd_T56 l0_2 x3_2).f1.f2), .int .u64 ((rd_T56 l0_2 x3_2).f1.f3), .int .u64 ((rd_T56 l0_2 x3_2).f1.f4), .int .u64 ((rd_T56 l0_2 x3_2).f2.f0), .int .u64 ((rd_T56 l0_2 x3_2).f2.f1), .int .u64 0]) ?_ 8 _ rfl; (with_reducible repeat (first | refine blk_drewN ?_ _ | refine blk_drew ?_ | refine blk_alloc ?_ _)); refine blk_put (cs := #[.string ((rd_T56 l0_2 x3_2).f0), .int .i64 ((rd_T56 l0_2 x3_2).f1.f0), .int .u64 ((rd_T56 l0_2 x3_2).f1.f1), .int .u64 ((rd_T56 l0_2 x3_2).f1.f2), .int .u64 ((rd_T56 l0_2 x3_2).f1.f3), .int .u64 ((rd_T56 l0_2 x3_2).f1.f4), .int .u64 ((rd_T56 l0_2 x3_2).f2.f0), .int .u64 0, .int .u64 0]) ?_ 7 _ rfl; (with_reducible repeat (first | refine blk_drewN ?_ _ | refine blk_drew ?_ | refine blk_alloc ?_ _)); refine blk_put (cs := #[.string ((rd_T56 l0_2 x3_2).f0), .int .i64 ((rd_T56 l0_2 x3_2).f1.f0), .int .u64 ((rd_T56 l0_2 x3_2).f1.f1), .int .u64 ((rd_T56 l0_2 x3_2).f1.f2), .int .u64 ((rd_T56 l0_2 x3_2).f1.f3), .int .u64 ((rd_T56 l0_2 x3_2).f1.f4), .int .u64 0, .int .u64 0, .int .u64 0]) ?_ 6 _ rfl; (with_reducible repeat (first | refine blk_drewN ?_ _ | refine blk_drew ?_ | refine blk_alloc ?_ _)); refine blk_put (cs := #[.string ((rd_T56 l0_2 x3_2).f0), .int .i64 ((rd_T56 l0_2 x3_2).f1.f0), .int .u64 ((rd_T56 l0_2 x3_2).f1.f1), .int .u64 ((rd_T56 l0_2 x3_2).f1.f2), .int .u64 ((rd_T56 l0_2 x3_2).f1.f3), .int .u64 0, .int .u64 0, .int .u64 0, .int .u64 0]) ?_ 5 _ rfl; (with_reducible repeat (first | refine blk_drewN ?_ _ | refine blk_drew ?_ | refine blk_alloc ?_ _)); refine blk_put (cs := #[.string ((rd_T56 l0_2 x3_2).f0), .int .i64 ((rd_T56 l0_2 x3_2).f1.f0), .int .u64 ((rd_T56 l0_2 x3_2).f1.f1), .int .u64 ((rd_T56 l0_2 x3_2).f1.f2), .int .u64 0, .int .u64 0, .int .u64 0, .int .u64 0, .int .u64 0]) ?_ 4 _ rfl; (with_reducible repeat (first | refine blk_drewN ?_ _ | refine blk_drew ?_ | refine blk_alloc ?_ _)); refine blk_put (cs := #[.string ((rd_T56 l0_2 x3_2).f0), .int .i64 ((rd_T56 l0_2 x3_2).f1.f0), .int .u64 ((rd_T56 l0_2 x3_2).f1.f1), .int .u64 0, .int .u64 0, .int .u64 0, .int .u64 0, .int .u64 0, .int .u64 0]) ?_ 3 _ rfl; (with_reducible repeat (first | refine blk_drewN ?_ _ | refine blk_drew ?_ | refine blk_alloc ?_ _)); refine blk_put (cs := #[.string ((rd_T56 l0_2 x3_2).f0), .int .i64 ((rd_T56 l0_2 x3_2).f1.f0), .int .u64 0, .int .u64 0, .int .u64 0, .int .u64 0, .int .u64 0, .int .u64 0, .int .u64 0]) ?_ 2 _ rfl; (with_reducible repeat (first | refine blk_drewN ?_ _ | refine blk_drew ?_ | refine blk_alloc ?_ _)); refine blk_put (cs := #[.string ((rd_T56 l0_2 x3_2).f0), .int .i64 0, .int .u64 0, .int .u64 0, .int .u64 0, .int .u64 0, .int .u64 0, .int .u64 0, .int .u64 0]) ?_ 1 _ rfl; (with_reducible repeat (first | refine blk_drewN ?_ _ | refine blk_drew ?_ | refine blk_alloc ?_ _)); refine blk_put (cs := #[.string (⟨#[]⟩ : ByteArray), .int .i64 0, .int .u64 0, .int .u64 0, .int .u64 0, .int .u64 0, .int .u64 0, .int .u64 0, .int .u64 0]) ?_ 0 _ rfl; (with_reducible repeat (first | refine blk_drewN ?_ _ | refine blk_drew ?_ | refine blk_alloc ?_ _)); exact BK260.out) hb); have n2_ := bs HB hb; clear BK258; clear BK260; clear HB; have BK258 := n0_; have BK260 := n1_; have HB := n2_; clear n0_ n1_ n2_; (try clear hb); (try clear hb2); (try clear hk); (try clear hi))); try go_wp2_with (first | (go_at_call 26; (with_reducible refine (turnstileref06_Fits.calls ((rd_T56 l0_2 x3_2).f1.f0) ((rd_T56 l0_2 x3_2).f1.f1) ((rd_T56 l0_2 x3_2).f1.f2) ((rd_T56 l0_2 x3_2).f1.f3) ((rd_T56 l0_2 x3_2).f1.f4) ((rd_T56 l0_2 x3_2).f2.f0) ((rd_T56 l0_2 x3_2).f2.f1) ((rd_T56 l0_2 x3_2).f2.f2) t261 _ A21.out).mono ?_); rintro e w24 ⟨rfl, hb⟩; have n0_ := bb BK258 hb; have n1_ := Aside0.mk (blk_below (g := gb260) (o := .cells #[.string ((rd_T56 l0_2 x3_2).f0), .int .i64 ((rd_T56 l0_2 x3_2).f1.f0), .int .u64 ((rd_T56 l0_2 x3_2).f1.f1), .int .u64 ((rd_T56 l0_2 x3_2).f1.f2), .int .u64 ((rd_T56 l0_2 x3_2).f1.f3), .int .u64 ((rd_T56 l0_2 x3_2).f1.f4), .int .u64 ((rd_T56 l0_2 x3_2).f2.f0), .int .u64 ((rd_T56 l0_2 x3_2).f2.f1), .int .u64 ((rd_T56 l0_2 x3_2).f2.f2)] 56 (0, 0)) (by (with_reducible repeat (first | refine blk_drewN ?_ _ | refine blk_drew ?_ | refine blk_alloc ?_ _)); refine blk_put (cs := #[.string ((rd_T56 l0_2 x3_2).f0), .int .i64 ((rd_T56 l0_2 x3_2).f1.f0), .int .u64 ((rd_T56 l0_2 x3_2).f1.f1), .int .u64 ((rd_T56 l0_2 x3_2).f1.f2), .int .u64 ((rd_T56 l0_2 x3_2).f1.f3), .int .u64 ((rd_T56 l0_2 x3_2).f1.f4), .int .u64 ((rd_T56 l0_2 x3_2).f2.f0), .int .u64 ((rd_T56 l0_2 x3_2).f2.f1), .int .u64 0]) ?_ 8 _ rfl; (with_reducible repeat (first | refine blk_drewN ?_ _ | refine blk_drew ?_ | refine blk_alloc ?_ _)); refine blk_put (cs := #[.string ((rd_T56 l0_2 x3_2).f0), .int .i64 ((rd_T56 l0_2 x3_2).f1.f0), .int .u64 ((rd_T56 l0_2 x3_2).f1.f1), .int .u64 ((rd_T56 l0_2 x3_2).f1.f2), .int .u64 ((rd_T56 l0_2 x3_2).f1.f3), .int .u64 ((rd_T56 l0_2 x3_2).f1.f4), .int .u64 ((rd_T56 l0_2 x3_2).f2.f0), .int .u64 0, .int .u64 0]) ?_ 7 _ rfl; (with_reducible repeat (first | refine blk_drewN ?_ _ | refine blk_drew ?_ | refine blk_alloc ?_ _)); refine blk_put (cs := #[.string ((rd_T56 l0_2 x3_2).f0), .int .i64 ((rd_T56 l0_2 x3_2).f1.f0), .int .u64 ((rd_T56 l0_2 x3_2).f1.f1), .int .u64 ((rd_T56 l0_2 x3_2).f1.f2), .int .u64 ((rd_T56 l0_2 x3_2).f1.f3), .int .u64 ((rd_T56 l0_2 x3_2).f1.f4), .int .u64 0, .int .u64 0, .int .u64 0]) ?_ 6 _ rfl; (with_reducible repeat (first | refine blk_drewN ?_ _ | refine blk_drew ?_ | refine blk_alloc ?_ _)); refine blk_put (cs := #[.string ((rd_T56 l0_2 x3_2).f0), .int .i64 ((rd_T56 l0_2 x3_2).f1.f0), .int .u64 ((rd_T56 l0_2 x3_2).f1.f1), .int .u64 ((rd_T56 l0_2 x3_2).f1.f2), .int .u64 ((rd_T56 l0_2 x3_2).f1.f3), .int .u64 0, .int .u64 0, .int .u64 0, .int .u64 0]) ?_ 5 _ rfl; (with_reducible repeat (first | refine blk_drewN ?_ _ | refine blk_drew ?_ | refine blk_alloc ?_ _)); refine blk_put (cs := #[.string ((rd_T56 l0_2 x3_2).f0), .int .i64 ((rd_T56 l0_2 x3_2).f1.f0), .int .u64 ((rd_T56 l0_2 x3_2).f1.f1), .int .u64 ((rd_T56 l0_2 x3_2).f1.f2), .int .u64 0, .int .u64 0, .int .u64 0, .int .u64 0, .int .u64 0]) ?_ 4 _ rfl; (with_reducible repeat (first | refine blk_drewN ?_ _ | refine blk_drew ?_ | refine blk_alloc ?_ _)); refine blk_put (cs := #[.string ((rd_T56 l0_2 x3_2).f0), .int .i64 ((rd_T56 l0_2 x3_2).f1.f0), .int .u64 ((rd_T56 l0_2 x3_2).f1.f1), .int .u64 0, .int .u64 0, .int .u64 0, .int .u64 0, .int .u64 0, .int .u64 0]) ?_ 3 _ rfl; (with_reducible repeat (first | refine blk_drewN ?_ _ | refine blk_drew ?_ | refine blk_alloc ?_ _)); refine blk_put (cs := #[.string ((rd_T56 l0_2 x3_2).f0), .int .i64 ((rd_T56 l0_2 x3_2).f1.f0), .int .u64 0, .int .u64 0, .int .u64 0, .int .u64 0, .int .u64 0, .int .u64 0, .int .u64 0]) ?_ 2 _ rfl; (with_reducible repeat (first | refine blk_drewN ?_ _ | refine blk_drew ?_ | refine blk_alloc ?_ _)); refine blk_put (cs := #[.string ((rd_T56 l0_2 x3_2).f0), .int .i64 0, .int .u64 0, .int .u64 0, .int .u64 0, .int .u64 0, .int .u64 0, .int .u64 0, .int .u64 0]) ?_ 1 _ rfl; (with_reducible repeat (first | refine blk_drewN ?_ _ | refine blk_drew ?_ | refine blk_alloc ?_ _)); refine blk_put (cs := #[.string (⟨#[]⟩ : ByteArray), .int .i64 0, .int .u64 0, .int .u64 0, .int .u64 0, .int .u64 0, .int .u64 0, .int .u64 0, .int .u64 0]) ?_ 0 _ rfl; (with_reducible repeat (first | refine blk_drewN ?_ _ | refine blk_drew ?_ | refine blk_alloc ?_ _)); exact BK260.out) hb); have n2_ := bs HB hb; clear BK258; clear BK260; clear HB; have BK258 := n0_; have BK260 := n1_; have HB := n2_; clear n0_ n1_ n2_; (try clear hb); (try clear hb2); (try clear hk); (try clear hi))))
                      go_meet
                      case rel => exact ⟨_, (!t261), rs, H', ⟨by have := HJ1.out; have := HK2.out; first | omega | exact Nat.le_refl _⟩, ⟨bk BK258⟩, ⟨bk BK260⟩, ⟨bw HB⟩⟩
                case rest =>
                  clear HC10
                  try clear c1
                  try clear c2
                  try clear p2
                  try clear q2
                  try clear hx2
                  try clear c4
                  try clear c4b0
                  try clear c7
                  try clear c8
                  try clear c8b0
                  try clear c9
                  try clear c9b0
                  try clear c13
                  try clear c15
                  try clear c15b0
                  try clear c15b1
                  try clear c16
                  try clear c18
                  try clear c18b0
                  try clear c18b1
                  try clear c19
                  try clear c22
                  try clear hcz11_0
                  try clear hcz11_1
                  try clear hcz11_2
                  try clear hcz14_0
                  try clear hcz14_1
                  try clear hcz14_2
                  try clear hcz14_3
                  try clear hcz14_4
                  try clear hcz14_5
                  try clear hcz14_6
                  try clear hcz14_7
                  try clear hcz14_8
                  try clear hcz17_0
                  try clear hcz17_1
                  try clear hcz17_2
                  try clear hcz17_3
                  try clear hcz17_4
                  try clear hcz17_5
                  try clear hcz17_6
                  try clear hcz17_7
                  try clear hcz17_8
                  try clear hcz20_0
                  try clear hcz20_1
                  try clear hcz20_2
                  try clear hcz20_3
                  try clear hcz20_4
                  try clear hcz20_5
                  try clear hcz20_6
                  try clear hcz20_7
                  try clear hcz20_8
                  try clear hcz23_0
                  try clear hcz23_1
                  try clear hcz23_2
                  try clear hcz23_3
                  try clear hcz23_4
                  try clear hcz23_5
                  try clear hcz23_6
                  try clear hcz23_7
                  try clear hcz23_8
                  try clear hcz5_0
                  try clear hcz5_1
                  try clear hcz5_2
                  try clear hcz6_0
                  try clear hcz6_1
                  try clear hcz6_2
                  try clear hfz11_0
                  try clear hfz11_1
                  try clear hfz11_2
                  try clear hfz14_0
                  try clear hfz14_1
                  try clear hfz14_2
                  try clear hfz14_3
                  try clear hfz14_4
                  try clear hfz14_5
                  try clear hfz14_6
                  try clear hfz14_7
                  try clear hfz14_8
                  try clear hfz17_0
                  try clear hfz17_1
                  try clear hfz17_2
                  try clear hfz17_3
                  try clear hfz17_4
                  try clear hfz17_5
                  try clear hfz17_6
                  try clear hfz17_7
                  try clear hfz17_8
                  try clear hfz20_0
                  try clear hfz20_1
                  try clear hfz20_2
                  try clear hfz20_3
                  try clear hfz20_4
                  try clear hfz20_5
                  try clear hfz20_6
                  try clear hfz20_7
                  try clear hfz20_8
                  try clear hfz23_0
                  try clear hfz23_1
                  try clear hfz23_2
                  try clear hfz23_3
                  try clear hfz23_4
                  try clear hfz23_5
                  try clear hfz23_6
                  try clear hfz23_7
                  try clear hfz23_8
                  try clear hfz5_0
                  try clear hfz5_1
                  try clear hfz5_2
                  try clear hfz6_0
                  try clear hfz6_1
                  try clear hfz6_2
                  try clear hx259_0
                  try clear hx259_1
                  try clear hx259_2
                  try clear hx259_3
                  try clear hx259_4
                  try clear hx259_5
                  try clear hx259_6
                  try clear hx259_7
                  try clear hx259_8
                  try clear p2
                  try clear p259
                  try clear q259
                  obtain ⟨kq, x43_9, rfl, HA, HJ9, BK258, BK260, HB⟩ := hcut
                  cases kq with
                  | zero => exact absurd HA.out (by simp [turnstileref13_Valid.j2])
                  | succ kj9 =>
                    have H := HA.out
                    clear HA
                    simp only [turnstileref13_Valid.j2] at H
                    by_cases c25 : x43_9 = true
                    · subst c25
                      have H1 : (some false) = some r := by rw [if_pos rfl] at H; exact H
                      clear H
                      have H := H1
                      clear H1
                      obtain rfl := Option.some.inj H
                      go_wp2
                      repeat (go_quiet (fail); try go_wp2)
                      go_ret
                      exact ⟨re, bw HB⟩
                    · replace c25 := Bool.eq_false_iff.mpr c25
                      subst c25
                      have H1 : (if x3_2 > 0 then (if 0 ≤ (wrap64 (x3_2 - 1)) then (if (wrap64 (x3_2 - 1)) < (l0_2.length : Int) then ((turnstileref07_Before.f kj9 ((rd_T56 l0_2 (wrap64 (x3_2 - 1))).f0) ((rd_T56 l0_2 x3_2).f0)).bind fun t263 => (if t263 = true then (turnstileref13_Valid.l0 kj9 (wrap64 (x3_2 + 1)) a0_0 a0_1 l0_2) else (some false))) else (none)) else (none)) else (turnstileref13_Valid.l0 kj9 (wrap64 (x3_2 + 1)) a0_0 a0_1 l0_2)) = some r := by rw [if_neg (show ¬ (false = true) by decide)] at H; exact H
                      clear H
                      have H := H1
                      clear H1
                      by_cases c26 : x3_2 > 0
                      · rw [if_pos c26] at H
                        have c26b0 : decide (0 < x3_2) = true := decide_eq_true c26
                        clear c26
                        obtain ⟨ji27, hji27⟩ : ∃ j_ : Int, (wrap64 (x3_2 - 1)) = j_ := ⟨_, rfl⟩
                        replace H : (if 0 ≤ (ji27) then (if (ji27) < (l0_2.length : Int) then ((turnstileref07_Before.f kj9 ((rd_T56 l0_2 (ji27)).f0) ((rd_T56 l0_2 x3_2).f0)).bind fun t263 => (if t263 = true then (turnstileref13_Valid.l0 kj9 (wrap64 (x3_2 + 1)) a0_0 a0_1 l0_2) else (some false))) else (none)) else (none)) = some r := by first | (rw [hji27] at H; exact H) | (simp only [hji27] at H ⊢; exact H)
                        have hji27w : (IntKind.i64.wrap (x3_2 - 1)) = ji27 := (i64_w _).trans hji27
                        by_cases c28 : 0 ≤ (ji27)
                        · rw [if_pos c28] at H
                          have c28b0 : decide (0 ≤ (ji27)) = true := decide_eq_true c28
                          clear c28
                          by_cases c29 : (ji27) < (l0_2.length : Int)
                          · rw [if_pos c29] at H
                            have c29b0 : decide ((ji27) < (l0_2.length : Int)) = true := decide_eq_true c29
                            clear c29
                            replace H := Option.bind_eq_some_iff.mp H
                            obtain ⟨t263, A300, H⟩ := H
                            replace H : (if t263 = true then (turnstileref13_Valid.l0 kj9 (wrap64 (x3_2 + 1)) a0_0 a0_1 l0_2) else (some false)) = some r := H
                            have A30 := Aside0.mk A300
                            clear A300
                            by_cases c31 : t263 = true
                            · subst c31
                              have H1 : (turnstileref13_Valid.l0 kj9 (wrap64 (x3_2 + 1)) a0_0 a0_1 l0_2) = some r := by rw [if_pos rfl] at H; exact H
                              clear H
                              have H := H1
                              clear H1
                              have H' := Aside0.mk H
                              clear H
                              have hnb32 := NB258_260.out
                              have hnc32 := NB260_258.out
                              obtain ⟨hcz33_0, hcz33_1, hcz33_2, hfz33_0, hfz33_1, hfz33_2⟩ := bc3 BK258
                              have p262 : 0 ≤ ((ji27) : Int) := of_decide_eq_true (by first | (with_reducible assumption) | assumption)
                              have q262 : (ji27) < (l0_2.length : Int) := of_decide_eq_true (by first | (with_reducible assumption) | assumption)
                              obtain ⟨ad262, e262, hx262_0, hx262_1, hx262_2, hx262_3, hx262_4, hx262_5, hx262_6, hx262_7, hx262_8⟩ := at_T56 HR0_2.out (ji27) p262 q262
                              obtain rfl : ad259 = ad262 := (by injection e262)
                              replace hx262_0 := (HB.out.cell (World.block_lt_of_cell? w _ hx262_0)).trans hx262_0
                              replace hx262_1 := (HB.out.cell (World.block_lt_of_cell? w _ hx262_1)).trans hx262_1
                              replace hx262_2 := (HB.out.cell (World.block_lt_of_cell? w _ hx262_2)).trans hx262_2
                              replace hx262_3 := (HB.out.cell (World.block_lt_of_cell? w _ hx262_3)).trans hx262_3
                              replace hx262_4 := (HB.out.cell (World.block_lt_of_cell? w _ hx262_4)).trans hx262_4
                              replace hx262_5 := (HB.out.cell (World.block_lt_of_cell? w _ hx262_5)).trans hx262_5
                              replace hx262_6 := (HB.out.cell (World.block_lt_of_cell? w _ hx262_6)).trans hx262_6
                              replace hx262_7 := (HB.out.cell (World.block_lt_of_cell? w _ hx262_7)).trans hx262_7
                              replace hx262_8 := (HB.out.cell (World.block_lt_of_cell? w _ hx262_8)).trans hx262_8
                              replace p262 := eq_true p262
                              replace q262 := eq_true q262
                              have hcz34_0 : wc.cell? ⟨gb260, 0, none⟩ = some (.string ((rd_T56 l0_2 x3_2).f0)) := (blk_cell BK260.out 0).trans rfl
                              have hcz34_1 : wc.cell? ⟨gb260, 1, none⟩ = some (.int .i64 ((rd_T56 l0_2 x3_2).f1.f0)) := (blk_cell BK260.out 1).trans rfl
                              have hcz34_2 : wc.cell? ⟨gb260, 2, none⟩ = some (.int .u64 ((rd_T56 l0_2 x3_2).f1.f1)) := (blk_cell BK260.out 2).trans rfl
                              have hcz34_3 : wc.cell? ⟨gb260, 3, none⟩ = some (.int .u64 ((rd_T56 l0_2 x3_2).f1.f2)) := (blk_cell BK260.out 3).trans rfl
                              have hcz34_4 : wc.cell? ⟨gb260, 4, none⟩ = some (.int .u64 ((rd_T56 l0_2 x3_2).f1.f3)) := (blk_cell BK260.out 4).trans rfl
                              have hcz34_5 : wc.cell? ⟨gb260, 5, none⟩ = some (.int .u64 ((rd_T56 l0_2 x3_2).f1.f4)) := (blk_cell BK260.out 5).trans rfl
                              have hcz34_6 : wc.cell? ⟨gb260, 6, none⟩ = some (.int .u64 ((rd_T56 l0_2 x3_2).f2.f0)) := (blk_cell BK260.out 6).trans rfl
                              have hcz34_7 : wc.cell? ⟨gb260, 7, none⟩ = some (.int .u64 ((rd_T56 l0_2 x3_2).f2.f1)) := (blk_cell BK260.out 7).trans rfl
                              have hcz34_8 : wc.cell? ⟨gb260, 8, none⟩ = some (.int .u64 ((rd_T56 l0_2 x3_2).f2.f2)) := (blk_cell BK260.out 8).trans rfl
                              have hfz34_0 := blk_frozen BK260.out 0
                              have hfz34_1 := blk_frozen BK260.out 1
                              have hfz34_2 := blk_frozen BK260.out 2
                              have hfz34_3 := blk_frozen BK260.out 3
                              have hfz34_4 := blk_frozen BK260.out 4
                              have hfz34_5 := blk_frozen BK260.out 5
                              have hfz34_6 := blk_frozen BK260.out 6
                              have hfz34_7 := blk_frozen BK260.out 7
                              have hfz34_8 := blk_frozen BK260.out 8
                              go_wp2_with (first | (go_at_call 27; (with_reducible refine (turnstileref07_Before.calls kj9 ((rd_T56 l0_2 (ji27)).f0) ((rd_T56 l0_2 x3_2).f0) true _ A30.out).mono ?_); rintro e w' ⟨rfl, ⟨nd, rfl⟩⟩; (try first | exact ⟨rfl, _, World.drewN_drewN _ _ _⟩ | exact ⟨rfl, _, Eq.trans (World.drewN_drewN _ _ _) (congrArg (World.drewN _) (Nat.add_assoc _ _ _))⟩)))
                              repeat (go_quiet (first | (go_at_call 27; (with_reducible refine (turnstileref07_Before.calls kj9 ((rd_T56 l0_2 (ji27)).f0) ((rd_T56 l0_2 x3_2).f0) true _ A30.out).mono ?_); rintro e w' ⟨rfl, ⟨nd, rfl⟩⟩; (try first | exact ⟨rfl, _, World.drewN_drewN _ _ _⟩ | exact ⟨rfl, _, Eq.trans (World.drewN_drewN _ _ _) (congrArg (World.drewN _) (Nat.add_assoc _ _ _))⟩))); try go_wp2_with (first | (go_at_call 27; (with_reducible refine (turnstileref07_Before.calls kj9 ((rd_T56 l0_2 (ji27)).f0) ((rd_T56 l0_2 x3_2).f0) true _ A30.out).mono ?_); rintro e w' ⟨rfl, ⟨nd, rfl⟩⟩; (try first | exact ⟨rfl, _, World.drewN_drewN _ _ _⟩ | exact ⟨rfl, _, Eq.trans (World.drewN_drewN _ _ _) (congrArg (World.drewN _) (Nat.add_assoc _ _ _))⟩))))
                              go_roundg kj9
                              case measure => have := HJ1.out; have := HK2.out; have := HJ9.out; omega
                              case rel => exact ⟨(wrap64 (x3_2 + 1)), rs, H', ⟨by have := HJ1.out; have := HK2.out; have := HJ9.out; omega⟩, ⟨bk BK258⟩, ⟨bw HB⟩⟩
                            · replace c31 := Bool.eq_false_iff.mpr c31
                              subst c31
                              have H1 : (some false) = some r := by rw [if_neg (show ¬ (false = true) by decide)] at H; exact H
                              clear H
                              have H := H1
                              clear H1
                              obtain rfl := Option.some.inj H
                              have hnb35 := NB258_260.out
                              have hnc35 := NB260_258.out
                              obtain ⟨hcz36_0, hcz36_1, hcz36_2, hfz36_0, hfz36_1, hfz36_2⟩ := bc3 BK258
                              have p262 : 0 ≤ ((ji27) : Int) := of_decide_eq_true (by first | (with_reducible assumption) | assumption)
                              have q262 : (ji27) < (l0_2.length : Int) := of_decide_eq_true (by first | (with_reducible assumption) | assumption)
                              obtain ⟨ad262, e262, hx262_0, hx262_1, hx262_2, hx262_3, hx262_4, hx262_5, hx262_6, hx262_7, hx262_8⟩ := at_T56 HR0_2.out (ji27) p262 q262
                              obtain rfl : ad259 = ad262 := (by injection e262)
                              replace hx262_0 := (HB.out.cell (World.block_lt_of_cell? w _ hx262_0)).trans hx262_0
                              replace hx262_1 := (HB.out.cell (World.block_lt_of_cell? w _ hx262_1)).trans hx262_1
                              replace hx262_2 := (HB.out.cell (World.block_lt_of_cell? w _ hx262_2)).trans hx262_2
                              replace hx262_3 := (HB.out.cell (World.block_lt_of_cell? w _ hx262_3)).trans hx262_3
                              replace hx262_4 := (HB.out.cell (World.block_lt_of_cell? w _ hx262_4)).trans hx262_4
                              replace hx262_5 := (HB.out.cell (World.block_lt_of_cell? w _ hx262_5)).trans hx262_5
                              replace hx262_6 := (HB.out.cell (World.block_lt_of_cell? w _ hx262_6)).trans hx262_6
                              replace hx262_7 := (HB.out.cell (World.block_lt_of_cell? w _ hx262_7)).trans hx262_7
                              replace hx262_8 := (HB.out.cell (World.block_lt_of_cell? w _ hx262_8)).trans hx262_8
                              replace p262 := eq_true p262
                              replace q262 := eq_true q262
                              have hcz37_0 : wc.cell? ⟨gb260, 0, none⟩ = some (.string ((rd_T56 l0_2 x3_2).f0)) := (blk_cell BK260.out 0).trans rfl
                              have hcz37_1 : wc.cell? ⟨gb260, 1, none⟩ = some (.int .i64 ((rd_T56 l0_2 x3_2).f1.f0)) := (blk_cell BK260.out 1).trans rfl
                              have hcz37_2 : wc.cell? ⟨gb260, 2, none⟩ = some (.int .u64 ((rd_T56 l0_2 x3_2).f1.f1)) := (blk_cell BK260.out 2).trans rfl
                              have hcz37_3 : wc.cell? ⟨gb260, 3, none⟩ = some (.int .u64 ((rd_T56 l0_2 x3_2).f1.f2)) := (blk_cell BK260.out 3).trans rfl
                              have hcz37_4 : wc.cell? ⟨gb260, 4, none⟩ = some (.int .u64 ((rd_T56 l0_2 x3_2).f1.f3)) := (blk_cell BK260.out 4).trans rfl
                              have hcz37_5 : wc.cell? ⟨gb260, 5, none⟩ = some (.int .u64 ((rd_T56 l0_2 x3_2).f1.f4)) := (blk_cell BK260.out 5).trans rfl
                              have hcz37_6 : wc.cell? ⟨gb260, 6, none⟩ = some (.int .u64 ((rd_T56 l0_2 x3_2).f2.f0)) := (blk_cell BK260.out 6).trans rfl
                              have hcz37_7 : wc.cell? ⟨gb260, 7, none⟩ = some (.int .u64 ((rd_T56 l0_2 x3_2).f2.f1)) := (blk_cell BK260.out 7).trans rfl
                              have hcz37_8 : wc.cell? ⟨gb260, 8, none⟩ = some (.int .u64 ((rd_T56 l0_2 x3_2).f2.f2)) := (blk_cell BK260.out 8).trans rfl
                              have hfz37_0 := blk_frozen BK260.out 0
                              have hfz37_1 := blk_frozen BK260.out 1
                              have hfz37_2 := blk_frozen BK260.out 2
                              have hfz37_3 := blk_frozen BK260.out 3
                              have hfz37_4 := blk_frozen BK260.out 4
                              have hfz37_5 := blk_frozen BK260.out 5
                              have hfz37_6 := blk_frozen BK260.out 6
                              have hfz37_7 := blk_frozen BK260.out 7
                              have hfz37_8 := blk_frozen BK260.out 8
                              go_wp2_with (first | (go_at_call 27; (with_reducible refine (turnstileref07_Before.calls kj9 ((rd_T56 l0_2 (ji27)).f0) ((rd_T56 l0_2 x3_2).f0) false _ A30.out).mono ?_); rintro e w' ⟨rfl, ⟨nd, rfl⟩⟩; (try first | exact ⟨rfl, _, World.drewN_drewN _ _ _⟩ | exact ⟨rfl, _, Eq.trans (World.drewN_drewN _ _ _) (congrArg (World.drewN _) (Nat.add_assoc _ _ _))⟩)))
                              repeat (go_quiet (first | (go_at_call 27; (with_reducible refine (turnstileref07_Before.calls kj9 ((rd_T56 l0_2 (ji27)).f0) ((rd_T56 l0_2 x3_2).f0) false _ A30.out).mono ?_); rintro e w' ⟨rfl, ⟨nd, rfl⟩⟩; (try first | exact ⟨rfl, _, World.drewN_drewN _ _ _⟩ | exact ⟨rfl, _, Eq.trans (World.drewN_drewN _ _ _) (congrArg (World.drewN _) (Nat.add_assoc _ _ _))⟩))); try go_wp2_with (first | (go_at_call 27; (with_reducible refine (turnstileref07_Before.calls kj9 ((rd_T56 l0_2 (ji27)).f0) ((rd_T56 l0_2 x3_2).f0) false _ A30.out).mono ?_); rintro e w' ⟨rfl, ⟨nd, rfl⟩⟩; (try first | exact ⟨rfl, _, World.drewN_drewN _ _ _⟩ | exact ⟨rfl, _, Eq.trans (World.drewN_drewN _ _ _) (congrArg (World.drewN _) (Nat.add_assoc _ _ _))⟩))))
                              go_ret
                              exact ⟨by first | rfl | (simp [errW_none, errW_some] <;> rfl) | (simp only [← hji27]; first | rfl | (simp [errW_none, errW_some] <;> rfl)) | (simp [*, errW_none, errW_some] <;> rfl), bw HB⟩
                          · rw [if_neg c29] at H
                            exact absurd H (by simp)
                        · rw [if_neg c28] at H
                          exact absurd H (by simp)
                      · rw [if_neg c26] at H
                        have c26b0 : decide (0 < x3_2) = false := decide_eq_false c26
                        clear c26
                        have H' := Aside0.mk H
                        clear H
                        go_wp2
                        repeat (go_quiet (fail); try go_wp2)
                        go_roundg kj9
                        case measure => have := HJ1.out; have := HK2.out; have := HJ9.out; omega
                        case rel => exact ⟨(wrap64 (x3_2 + 1)), rs, H', ⟨by have := HJ1.out; have := HK2.out; have := HJ9.out; omega⟩, ⟨bk BK258⟩, ⟨bw HB⟩⟩
              · rw [if_neg c9] at H
                exact absurd H (by simp)
            · rw [if_neg c8] at H
              have c8b0 : decide (x3_2 < (l0_2.length : Int)) = false := decide_eq_false c8
              clear c8
              obtain rfl := Option.some.inj H
              obtain ⟨hcz38_0, hcz38_1, hcz38_2, hfz38_0, hfz38_1, hfz38_2⟩ := bc3 BK258
              go_wp2
              repeat (go_quiet (fail); try go_wp2)
              go_ret
              exact ⟨re, bw HB⟩

end Go.Proofs.YtnhngjhodcikiaaDoor.F
