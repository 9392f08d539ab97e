/- Written by the session's own program hyb.py: what functions of the program compute; Lean checks it. -/
import Derived.Test.YtnhngjhodcikiaaDoorFx0
import Derived.Test.YtnhngjhodcikiaaDoorFx3
namespace Go.Proofs.YtnhngjhodcikiaaDoor.F
open Go.RowKit Go.Proofs.YtnhngjhodcikiaaDoorW.PrintWords Go.Proofs.YtnhngjhodcikiaaDoorW.PrintLast Go.Proofs.YtnhngjhodcikiaaDoorW.PrintMore Go.Proofs.YtnhngjhodcikiaaDoorW.PrintShort
attribute [local go_sem] run_Add64 run_Sub64
attribute [local go_sem] max2_int min2_int max_two min_two max_three min_three max_four min_four   -- for this text's walks alone
set_option linter.unusedVariables false
set_option linter.unusedSimpArgs false

attribute [local go_sem high] eqA56
/-! ### turnstileref13_Equal: function 14 -/
mutual
def turnstileref13_Equal.j0 : Nat → Bool → Int → Int → List (S56) → Int → Int → List (S56) → Option (Bool)
  | 0, _, _, _, _, _, _, _ => none
  | k + 1, x26, x269000, x269001, x269002, x270000, x270001, x270002 => if x26 = true then (some false) else (turnstileref13_Equal.l0 k 0 x269000 x269001 x269002 x270000 x270001 x270002)
def turnstileref13_Equal.l0 : Nat → Int → Int → Int → List (S56) → Int → Int → List (S56) → Option (Bool)
  | 0, _, _, _, _, _, _, _ => none
  | k + 1, x5, x269000, x269001, x269002, x270000, x270001, x270002 => if x5 < (x269002.length : Int) then (if 0 ≤ x5 then (if x5 < (x270002.length : Int) then (if (!((((rd_T56 x269002 x5).f0).toList) == (((rd_T56 x270002 x5).f0).toList)) || ((!(((rd_T56 x269002 x5).f1.f0) == ((rd_T56 x270002 x5).f1.f0)) || (!(((rd_T56 x269002 x5).f1.f1) == ((rd_T56 x270002 x5).f1.f1)) || (!(((rd_T56 x269002 x5).f1.f2) == ((rd_T56 x270002 x5).f1.f2)) || (!(((rd_T56 x269002 x5).f1.f3) == ((rd_T56 x270002 x5).f1.f3)) || (!(((rd_T56 x269002 x5).f1.f4) == ((rd_T56 x270002 x5).f1.f4))))))) || ((!(((rd_T56 x269002 x5).f2.f0) == ((rd_T56 x270002 x5).f2.f0)) || (!(((rd_T56 x269002 x5).f2.f1) == ((rd_T56 x270002 x5).f2.f1)) || (!(((rd_T56 x269002 x5).f2.f2) == ((rd_T56 x270002 x5).f2.f2)))))))) = true then (some false) else (turnstileref13_Equal.l0 k (wrap64 (x5 + 1)) x269000 x269001 x269002 x270000 x270001 x270002)) else (none)) else (none)) else (some true)
end
def turnstileref13_Equal.f (k : Nat) (a0_0 : Int) (a0_1 : Int) (l0_2 : List (S56)) (a1_0 : Int) (a1_1 : Int) (l1_2 : List (S56)) : Option (Bool) := if a0_0 = a1_0 then (if a0_1 = a1_1 then (turnstileref13_Equal.j0 k ((l0_2.length : Int) != (l1_2.length : Int)) a0_0 a0_1 l0_2 a1_0 a1_1 l1_2) else (turnstileref13_Equal.j0 k true a0_0 a0_1 l0_2 a1_0 a1_1 l1_2)) else (turnstileref13_Equal.j0 k true a0_0 a0_1 l0_2 a1_0 a1_1 l1_2)
set_option maxHeartbeats 8000000 in
set_option maxRecDepth 100000 in
theorem turnstileref13_Equal.calls (k : Nat) (a0_0 : Int) (a0_1 : Int) (A0_2 : Option Addr) (c0_2 : Nat) (l0_2 : List (S56)) (a1_0 : Int) (a1_1 : Int) (A1_2 : Option Addr) (c1_2 : Nat) (l1_2 : List (S56)) (r : Bool) (w : World) (hr0_2 : Kd.C k56 w A0_2 l0_2.length l0_2) (hc0_2 : l0_2.length ≤ c0_2) (hr1_2 : Kd.C k56 w A1_2 l1_2.length l1_2) (hc1_2 : l1_2.length ≤ c1_2) (h : turnstileref13_Equal.f k a0_0 a0_1 l0_2 a1_0 a1_1 l1_2 = some r) :
    Calls Tryd.prog 14 #[.agg #[.int .u64 a0_0, .int .u64 a0_1, .slice A0_2 l0_2.length c0_2], .agg #[.int .u64 a1_0, .int .u64 a1_1, .slice A1_2 l1_2.length c1_2]] w fun e w' => e = .returned (.bool r) ∧ Below w.heap.size w w' := by
  have hu27 := Tryd.underlying27
  have hu56 := Tryd.underlying56
  have HR0_2 := Aside0.mk hr0_2
  have HC0_2 := Aside0.mk hc0_2
  clear hr0_2 hc0_2
  have HR1_2 := Aside0.mk hr1_2
  have HC1_2 := Aside0.mk hc1_2
  clear hr1_2 hc1_2
  have HB := Aside0.mk (Below.refl w.heap.size w)
  have H : (if a0_0 = a1_0 then (if a0_1 = a1_1 then (turnstileref13_Equal.j0 k ((l0_2.length : Int) != (l1_2.length : Int)) a0_0 a0_1 l0_2 a1_0 a1_1 l1_2) else (turnstileref13_Equal.j0 k true a0_0 a0_1 l0_2 a1_0 a1_1 l1_2)) else (turnstileref13_Equal.j0 k true a0_0 a0_1 l0_2 a1_0 a1_1 l1_2)) = some r := h
  clear h
  have HC3 := Aside0.mk H
  clear H
  go_enter Tryd.func14, Tryd.ntmps14
  go_upto_region 1 with (first | ((with_reducible refine gate_dst (N := 2) rfl ?_); (try (refine gate_guard (by rfl) ?_; dsimp only)); refine bx 2 #[.int .u64 a0_0, .int .u64 a0_1, .slice A0_2 l0_2.length c0_2] 27 ?_; intro gb268 hg w4 hbox hb; have n0_ := bs HB hb; have n1_ := Aside0.mk (hbox); have n2_ := sz HB hg; have n3_ := sz HB hg; clear HB; have HB := n0_; have BK268 := n1_; have GW268 := n2_; have GE268 := n3_; clear n0_ n1_ n2_ n3_; clear hb hbox hg) | ((with_reducible refine gate_dst (N := 3) rfl ?_); (try (refine gate_guard (by rfl) ?_; dsimp only)); refine bx 3 #[.int .u64 a1_0, .int .u64 a1_1, .slice A1_2 l1_2.length c1_2] 27 ?_; intro gb269 hg w5 hbox hb; have n0_ := bb BK268 hb; have n1_ := bs HB hb; have n2_ := Aside0.mk (hbox); have n3_ := sz HB hg; have n4_ := sz HB hg; have n5_ := nl BK268 hg; have n6_ := nr BK268 hg; clear BK268; clear HB; have BK268 := n0_; have HB := n1_; have BK269 := n2_; have GW269 := n3_; have GE269 := n4_; have NB268_269 := n5_; have NB269_268 := n6_; clear n0_ n1_ n2_ n3_ n4_ n5_ n6_; clear hb hbox hg))
  repeat (go_quiet (first | ((with_reducible refine gate_dst (N := 2) rfl ?_); (try (refine gate_guard (by rfl) ?_; dsimp only)); refine bx 2 #[.int .u64 a0_0, .int .u64 a0_1, .slice A0_2 l0_2.length c0_2] 27 ?_; intro gb268 hg w4 hbox hb; have n0_ := bs HB hb; have n1_ := Aside0.mk (hbox); have n2_ := sz HB hg; have n3_ := sz HB hg; clear HB; have HB := n0_; have BK268 := n1_; have GW268 := n2_; have GE268 := n3_; clear n0_ n1_ n2_ n3_; clear hb hbox hg) | ((with_reducible refine gate_dst (N := 3) rfl ?_); (try (refine gate_guard (by rfl) ?_; dsimp only)); refine bx 3 #[.int .u64 a1_0, .int .u64 a1_1, .slice A1_2 l1_2.length c1_2] 27 ?_; intro gb269 hg w5 hbox hb; have n0_ := bb BK268 hb; have n1_ := bs HB hb; have n2_ := Aside0.mk (hbox); have n3_ := sz HB hg; have n4_ := sz HB hg; have n5_ := nl BK268 hg; have n6_ := nr BK268 hg; clear BK268; clear HB; have BK268 := n0_; have HB := n1_; have BK269 := n2_; have GW269 := n3_; have GE269 := n4_; have NB268_269 := n5_; have NB269_268 := n6_; clear n0_ n1_ n2_ n3_ n4_ n5_ n6_; clear hb hbox hg)); go_upto_region 1 with (first | ((with_reducible refine gate_dst (N := 2) rfl ?_); (try (refine gate_guard (by rfl) ?_; dsimp only)); refine bx 2 #[.int .u64 a0_0, .int .u64 a0_1, .slice A0_2 l0_2.length c0_2] 27 ?_; intro gb268 hg w4 hbox hb; have n0_ := bs HB hb; have n1_ := Aside0.mk (hbox); have n2_ := sz HB hg; have n3_ := sz HB hg; clear HB; have HB := n0_; have BK268 := n1_; have GW268 := n2_; have GE268 := n3_; clear n0_ n1_ n2_ n3_; clear hb hbox hg) | ((with_reducible refine gate_dst (N := 3) rfl ?_); (try (refine gate_guard (by rfl) ?_; dsimp only)); refine bx 3 #[.int .u64 a1_0, .int .u64 a1_1, .slice A1_2 l1_2.length c1_2] 27 ?_; intro gb269 hg w5 hbox hb; have n0_ := bb BK268 hb; have n1_ := bs HB hb; have n2_ := Aside0.mk (hbox); have n3_ := sz HB hg; have n4_ := sz HB hg; have n5_ := nl BK268 hg; have n6_ := nr BK268 hg; clear BK268; clear HB; have BK268 := n0_; have HB := n1_; have BK269 := n2_; have GW269 := n3_; have GE269 := n4_; have NB268_269 := n5_; have NB269_268 := n6_; clear n0_ n1_ n2_ n3_ n4_ n5_ n6_; clear hb hbox hg)))
  (try simp only [Act.put, List.setIfInBounds_toArray, List.set_cons_zero, List.set_cons_succ])
  go_cut [26] (fun v26 wc => ∃ (kq : Nat) (x26_2 : Bool), v26 = .bool x26_2 ∧ Aside0 (turnstileref13_Equal.j0 kq x26_2 a0_0 a0_1 l0_2 a1_0 a1_1 l1_2 = some r) ∧ Aside0 (kq ≤ k) ∧ Aside0 (wc.heap[gb268]? = some (.cells #[.int .u64 a0_0, .int .u64 a0_1, (.slice A0_2 l0_2.length c0_2)] 27 (0, 0))) ∧ Aside0 (wc.heap[gb269]? = some (.cells #[.int .u64 a1_0, .int .u64 a1_1, (.slice A1_2 l1_2.length c1_2)] 27 (0, 0))) ∧ Aside0 (Below w.heap.size w wc))
  case first =>
    have H := HC3.out
    clear HC3
    by_cases c6 : a0_0 = a1_0
    · rw [if_pos c6] at H
      have c6b0 : (a0_0 == a1_0) = true := beq_iff_eq.mpr c6
      have c6b1 : (a0_0 != a1_0) = false := bne_eq_false_iff_eq.mpr c6
      clear c6
      (first | rw [c6b0] | (simp only [i64_w, i32_w]; rw [c6b0]) | skip)
      by_cases c7 : a0_1 = a1_1
      · rw [if_pos c7] at H
        have c7b0 : (a0_1 == a1_1) = true := beq_iff_eq.mpr c7
        have c7b1 : (a0_1 != a1_1) = false := bne_eq_false_iff_eq.mpr c7
        clear c7
        have H' := Aside0.mk H
        clear H
        have hnb8 := NB268_269.out
        have hnc8 := NB269_268.out
        obtain ⟨hcz9_0, hcz9_1, hcz9_2, hfz9_0, hfz9_1, hfz9_2⟩ := bc3 BK268
        obtain ⟨hcz10_0, hcz10_1, hcz10_2, hfz10_0, hfz10_1, hfz10_2⟩ := bc3 BK269
        go_wp2
        repeat (go_quiet (fail); try go_wp2)
        go_meet
        case rel => exact ⟨_, (((l0_2.length : Int) != (l1_2.length : Int))), rs, H', ⟨by first | omega | exact Nat.le_refl _⟩, ⟨bk BK268⟩, ⟨bk BK269⟩, ⟨bw HB⟩⟩
      · rw [if_neg c7] at H
        have c7b0 : (a0_1 == a1_1) = false := beq_eq_false_iff_ne.mpr c7
        have c7b1 : (a0_1 != a1_1) = true := bne_iff_ne.mpr c7
        have H' := Aside0.mk H
        clear H
        have hnb11 := NB268_269.out
        have hnc11 := NB269_268.out
        obtain ⟨hcz12_0, hcz12_1, hcz12_2, hfz12_0, hfz12_1, hfz12_2⟩ := bc3 BK268
        obtain ⟨hcz13_0, hcz13_1, hcz13_2, hfz13_0, hfz13_1, hfz13_2⟩ := bc3 BK269
        go_wp2
        repeat (go_quiet (fail); try go_wp2)
        go_meet
        case rel => exact ⟨_, (true), rs, H', ⟨by first | omega | exact Nat.le_refl _⟩, ⟨bk BK268⟩, ⟨bk BK269⟩, ⟨bw HB⟩⟩
    · rw [if_neg c6] at H
      have c6b0 : (a0_0 == a1_0) = false := beq_eq_false_iff_ne.mpr c6
      have c6b1 : (a0_0 != a1_0) = true := bne_iff_ne.mpr c6
      (first | rw [c6b0] | (simp only [i64_w, i32_w]; rw [c6b0]) | skip)
      have H' := Aside0.mk H
      clear H
      have hnb14 := NB268_269.out
      have hnc14 := NB269_268.out
      obtain ⟨hcz15_0, hcz15_1, hcz15_2, hfz15_0, hfz15_1, hfz15_2⟩ := bc3 BK268
      obtain ⟨hcz16_0, hcz16_1, hcz16_2, hfz16_0, hfz16_1, hfz16_2⟩ := bc3 BK269
      go_wp2
      repeat (go_quiet (fail); try go_wp2)
      go_meet
      case rel => exact ⟨_, (true), rs, H', ⟨by first | omega | exact Nat.le_refl _⟩, ⟨bk BK268⟩, ⟨bk BK269⟩, ⟨bw HB⟩⟩
  case rest =>
    clear HC3
    try clear c1
    try clear p2
    try clear c6
    try clear c6b0
    try clear c6b1
    try clear c7
    try clear c7b0
    try clear c7b1
    try clear c8
    try clear c11
    try clear c14
    try clear hcz10_0
    try clear hcz10_1
    try clear hcz10_2
    try clear hcz12_0
    try clear hcz12_1
    try clear hcz12_2
    try clear hcz13_0
    try clear hcz13_1
    try clear hcz13_2
    try clear hcz15_0
    try clear hcz15_1
    try clear hcz15_2
    try clear hcz16_0
    try clear hcz16_1
    try clear hcz16_2
    try clear hcz9_0
    try clear hcz9_1
    try clear hcz9_2
    try clear hfz10_0
    try clear hfz10_1
    try clear hfz10_2
    try clear hfz12_0
    try clear hfz12_1
    try clear hfz12_2
    try clear hfz13_0
    try clear hfz13_1
    try clear hfz13_2
    try clear hfz15_0
    try clear hfz15_1
    try clear hfz15_2
    try clear hfz16_0
    try clear hfz16_1
    try clear hfz16_2
    try clear hfz9_0
    try clear hfz9_1
    try clear hfz9_2
    obtain ⟨kq, x26_2, rfl, HA, HJ2, BK268, BK269, HB⟩ := hcut
    cases kq with
    | zero => exact absurd HA.out (by simp [turnstileref13_Equal.j0])
    | succ kj2 =>
      have H := HA.out
      clear HA
      simp only [turnstileref13_Equal.j0] at H
      by_cases c17 : x26_2 = true
      · subst c17
        have H1 : (some false) = some r := by rw [if_pos rfl] at H; exact H
        clear H
        have H := H1
        clear H1
        obtain rfl := Option.some.inj H
        go_wp2
        repeat (go_quiet (fail); try go_wp2)
        go_ret
        exact ⟨re, bw HB⟩
      · replace c17 := Bool.eq_false_iff.mpr c17
        subst c17
        have H1 : (turnstileref13_Equal.l0 kj2 0 a0_0 a0_1 l0_2 a1_0 a1_1 l1_2) = some r := by rw [if_neg (show ¬ (false = true) by decide)] at H; exact H
        clear H
        have H := H1
        clear H1
        have H' := Aside0.mk H
        clear H
        go_wp2
        repeat (go_quiet (fail); try go_wp2)
        go_loopg [5] kj2 (fun kq v5 w' => ∃ (x5_2 : Int), v5 = .int .i64 x5_2 ∧ Aside0 (turnstileref13_Equal.l0 kq x5_2 a0_0 a0_1 l0_2 a1_0 a1_1 l1_2 = some r) ∧ Aside0 (kq ≤ kj2) ∧ Aside0 (w'.heap[gb268]? = some (.cells #[.int .u64 a0_0, .int .u64 a0_1, (.slice A0_2 l0_2.length c0_2)] 27 (0, 0))) ∧ Aside0 (w'.heap[gb269]? = some (.cells #[.int .u64 a1_0, .int .u64 a1_1, (.slice A1_2 l1_2.length c1_2)] 27 (0, 0))) ∧ Aside0 (Below w.heap.size w w'))
        case atStart => exact ⟨(0), rs, H', ⟨Nat.le_refl _⟩, ⟨bk BK268⟩, ⟨bk BK269⟩, ⟨bw HB⟩⟩
        case round =>
          clear H'
          try clear c1
          try clear p2
          try clear c6
          try clear c6b0
          try clear c6b1
          try clear c7
          try clear c7b0
          try clear c7b1
          try clear c8
          try clear c11
          try clear c14
          try clear c17
          try clear hcz10_0
          try clear hcz10_1
          try clear hcz10_2
          try clear hcz12_0
          try clear hcz12_1
          try clear hcz12_2
          try clear hcz13_0
          try clear hcz13_1
          try clear hcz13_2
          try clear hcz15_0
          try clear hcz15_1
          try clear hcz15_2
          try clear hcz16_0
          try clear hcz16_1
          try clear hcz16_2
          try clear hcz9_0
          try clear hcz9_1
          try clear hcz9_2
          try clear hfz10_0
          try clear hfz10_1
          try clear hfz10_2
          try clear hfz12_0
          try clear hfz12_1
          try clear hfz12_2
          try clear hfz13_0
          try clear hfz13_1
          try clear hfz13_2
          try clear hfz15_0
          try clear hfz15_1
          try clear hfz15_2
          try clear hfz16_0
          try clear hfz16_1
          try clear hfz16_2
          try clear hfz9_0
          try clear hfz9_1
          try clear hfz9_2
          try clear p2
          obtain ⟨x5_2, rfl, HA, HK2, BK268, BK269, HB⟩ := hrel
          cases gk with
          | zero => exact absurd HA.out (by simp [turnstileref13_Equal.l0])
          | succ k2 =>
            have H := HA.out
            clear HA
            simp only [turnstileref13_Equal.l0] at H
            by_cases c18 : x5_2 < (l0_2.length : Int)
            · rw [if_pos c18] at H
              have c18b0 : decide (x5_2 < (l0_2.length : Int)) = true := decide_eq_true c18
              clear c18
              by_cases c19 : 0 ≤ x5_2
              · rw [if_pos c19] at H
                have c19b0 : decide (0 ≤ x5_2) = true := decide_eq_true c19
                clear c19
                by_cases c20 : x5_2 < (l1_2.length : Int)
                · rw [if_pos c20] at H
                  have c20b0 : decide (x5_2 < (l1_2.length : Int)) = true := decide_eq_true c20
                  clear c20
                  by_cases c21 : (!((((rd_T56 l0_2 x5_2).f0).toList) == (((rd_T56 l1_2 x5_2).f0).toList)) || ((!(((rd_T56 l0_2 x5_2).f1.f0) == ((rd_T56 l1_2 x5_2).f1.f0)) || (!(((rd_T56 l0_2 x5_2).f1.f1) == ((rd_T56 l1_2 x5_2).f1.f1)) || (!(((rd_T56 l0_2 x5_2).f1.f2) == ((rd_T56 l1_2 x5_2).f1.f2)) || (!(((rd_T56 l0_2 x5_2).f1.f3) == ((rd_T56 l1_2 x5_2).f1.f3)) || (!(((rd_T56 l0_2 x5_2).f1.f4) == ((rd_T56 l1_2 x5_2).f1.f4))))))) || ((!(((rd_T56 l0_2 x5_2).f2.f0) == ((rd_T56 l1_2 x5_2).f2.f0)) || (!(((rd_T56 l0_2 x5_2).f2.f1) == ((rd_T56 l1_2 x5_2).f2.f1)) || (!(((rd_T56 l0_2 x5_2).f2.f2) == ((rd_T56 l1_2 x5_2).f2.f2)))))))) = true
                  · rw [if_pos c21] at H
                    have c21b0 : (!((((rd_T56 l0_2 x5_2).f0).toList) == (((rd_T56 l1_2 x5_2).f0).toList)) || ((!(((rd_T56 l0_2 x5_2).f1.f0) == ((rd_T56 l1_2 x5_2).f1.f0)) || (!(((rd_T56 l0_2 x5_2).f1.f1) == ((rd_T56 l1_2 x5_2).f1.f1)) || (!(((rd_T56 l0_2 x5_2).f1.f2) == ((rd_T56 l1_2 x5_2).f1.f2)) || (!(((rd_T56 l0_2 x5_2).f1.f3) == ((rd_T56 l1_2 x5_2).f1.f3)) || (!(((rd_T56 l0_2 x5_2).f1.f4) == ((rd_T56 l1_2 x5_2).f1.f4))))))) || ((!(((rd_T56 l0_2 x5_2).f2.f0) == ((rd_T56 l1_2 x5_2).f2.f0)) || (!(((rd_T56 l0_2 x5_2).f2.f1) == ((rd_T56 l1_2 x5_2).f2.f1)) || (!(((rd_T56 l0_2 x5_2).f2.f2) == ((rd_T56 l1_2 x5_2).f2.f2)))))))) = true := c21
                    clear c21
                    obtain rfl := Option.some.inj H
                    have hnb22 := NB268_269.out
                    have hnc22 := NB269_268.out
                    obtain ⟨hcz23_0, hcz23_1, hcz23_2, hfz23_0, hfz23_1, hfz23_2⟩ := bc3 BK268
                    have p270 : 0 ≤ (x5_2 : Int) := of_decide_eq_true (by first | (with_reducible assumption) | assumption)
                    have q270 : x5_2 < (l0_2.length : Int) := of_decide_eq_true (by first | (with_reducible assumption) | assumption)
                    obtain ⟨ad270, e270, hx270_0, hx270_1, hx270_2, hx270_3, hx270_4, hx270_5, hx270_6, hx270_7, hx270_8⟩ := at_T56 HR0_2.out x5_2 p270 q270
                    cases e270
                    replace hx270_0 := (HB.out.cell (World.block_lt_of_cell? w _ hx270_0)).trans hx270_0
                    replace hx270_1 := (HB.out.cell (World.block_lt_of_cell? w _ hx270_1)).trans hx270_1
                    replace hx270_2 := (HB.out.cell (World.block_lt_of_cell? w _ hx270_2)).trans hx270_2
                    replace hx270_3 := (HB.out.cell (World.block_lt_of_cell? w _ hx270_3)).trans hx270_3
                    replace hx270_4 := (HB.out.cell (World.block_lt_of_cell? w _ hx270_4)).trans hx270_4
                    replace hx270_5 := (HB.out.cell (World.block_lt_of_cell? w _ hx270_5)).trans hx270_5
                    replace hx270_6 := (HB.out.cell (World.block_lt_of_cell? w _ hx270_6)).trans hx270_6
                    replace hx270_7 := (HB.out.cell (World.block_lt_of_cell? w _ hx270_7)).trans hx270_7
                    replace hx270_8 := (HB.out.cell (World.block_lt_of_cell? w _ hx270_8)).trans hx270_8
                    replace p270 := eq_true p270
                    replace q270 := eq_true q270
                    obtain ⟨hcz24_0, hcz24_1, hcz24_2, hfz24_0, hfz24_1, hfz24_2⟩ := bc3 BK269
                    have p271 : 0 ≤ (x5_2 : Int) := of_decide_eq_true (by first | (with_reducible assumption) | assumption)
                    have q271 : x5_2 < (l1_2.length : Int) := of_decide_eq_true (by first | (with_reducible assumption) | assumption)
                    obtain ⟨ad271, e271, hx271_0, hx271_1, hx271_2, hx271_3, hx271_4, hx271_5, hx271_6, hx271_7, hx271_8⟩ := at_T56 HR1_2.out x5_2 p271 q271
                    cases e271
                    replace hx271_0 := (HB.out.cell (World.block_lt_of_cell? w _ hx271_0)).trans hx271_0
                    replace hx271_1 := (HB.out.cell (World.block_lt_of_cell? w _ hx271_1)).trans hx271_1
                    replace hx271_2 := (HB.out.cell (World.block_lt_of_cell? w _ hx271_2)).trans hx271_2
                    replace hx271_3 := (HB.out.cell (World.block_lt_of_cell? w _ hx271_3)).trans hx271_3
                    replace hx271_4 := (HB.out.cell (World.block_lt_of_cell? w _ hx271_4)).trans hx271_4
                    replace hx271_5 := (HB.out.cell (World.block_lt_of_cell? w _ hx271_5)).trans hx271_5
                    replace hx271_6 := (HB.out.cell (World.block_lt_of_cell? w _ hx271_6)).trans hx271_6
                    replace hx271_7 := (HB.out.cell (World.block_lt_of_cell? w _ hx271_7)).trans hx271_7
                    replace hx271_8 := (HB.out.cell (World.block_lt_of_cell? w _ hx271_8)).trans hx271_8
                    replace p271 := eq_true p271
                    replace q271 := eq_true q271
                    go_wp2
                    repeat (go_quiet (fail); try go_wp2)
                    go_ret
                    exact ⟨re, bw HB⟩
                  · rw [if_neg c21] at H
                    have c21b0 : (!((((rd_T56 l0_2 x5_2).f0).toList) == (((rd_T56 l1_2 x5_2).f0).toList)) || ((!(((rd_T56 l0_2 x5_2).f1.f0) == ((rd_T56 l1_2 x5_2).f1.f0)) || (!(((rd_T56 l0_2 x5_2).f1.f1) == ((rd_T56 l1_2 x5_2).f1.f1)) || (!(((rd_T56 l0_2 x5_2).f1.f2) == ((rd_T56 l1_2 x5_2).f1.f2)) || (!(((rd_T56 l0_2 x5_2).f1.f3) == ((rd_T56 l1_2 x5_2).f1.f3)) || (!(((rd_T56 l0_2 x5_2).f1.f4) == ((rd_T56 l1_2 x5_2).f1.f4))))))) || ((!(((rd_T56 l0_2 x5_2).f2.f0) == ((rd_T56 l1_2 x5_2).f2.f0)) || (!(((rd_T56 l0_2 x5_2).f2.f1) == ((rd_T56 l1_2 x5_2).f2.f1)) || (!(((rd_T56 l0_2 x5_2).f2.f2) == ((rd_T56 l1_2 x5_2).f2.f2)))))))) = false := by simpa using c21
                    clear c21
                    have H' := Aside0.mk H
                    clear H
                    have hnb25 := NB268_269.out
                    have hnc25 := NB269_268.out
                    obtain ⟨hcz26_0, hcz26_1, hcz26_2, hfz26_0, hfz26_1, hfz26_2⟩ := bc3 BK268
                    have p270 : 0 ≤ (x5_2 : Int) := of_decide_eq_true (by first | (with_reducible assumption) | assumption)
                    have q270 : x5_2 < (l0_2.length : Int) := of_decide_eq_true (by first | (with_reducible assumption) | assumption)
                    obtain ⟨ad270, e270, hx270_0, hx270_1, hx270_2, hx270_3, hx270_4, hx270_5, hx270_6, hx270_7, hx270_8⟩ := at_T56 HR0_2.out x5_2 p270 q270
                    cases e270
                    replace hx270_0 := (HB.out.cell (World.block_lt_of_cell? w _ hx270_0)).trans hx270_0
                    replace hx270_1 := (HB.out.cell (World.block_lt_of_cell? w _ hx270_1)).trans hx270_1
                    replace hx270_2 := (HB.out.cell (World.block_lt_of_cell? w _ hx270_2)).trans hx270_2
                    replace hx270_3 := (HB.out.cell (World.block_lt_of_cell? w _ hx270_3)).trans hx270_3
                    replace hx270_4 := (HB.out.cell (World.block_lt_of_cell? w _ hx270_4)).trans hx270_4
                    replace hx270_5 := (HB.out.cell (World.block_lt_of_cell? w _ hx270_5)).trans hx270_5
                    replace hx270_6 := (HB.out.cell (World.block_lt_of_cell? w _ hx270_6)).trans hx270_6
                    replace hx270_7 := (HB.out.cell (World.block_lt_of_cell? w _ hx270_7)).trans hx270_7
                    replace hx270_8 := (HB.out.cell (World.block_lt_of_cell? w _ hx270_8)).trans hx270_8
                    replace p270 := eq_true p270
                    replace q270 := eq_true q270
                    obtain ⟨hcz27_0, hcz27_1, hcz27_2, hfz27_0, hfz27_1, hfz27_2⟩ := bc3 BK269
                    have p271 : 0 ≤ (x5_2 : Int) := of_decide_eq_true (by first | (with_reducible assumption) | assumption)
                    have q271 : x5_2 < (l1_2.length : Int) := of_decide_eq_true (by first | (with_reducible assumption) | assumption)
                    obtain ⟨ad271, e271, hx271_0, hx271_1, hx271_2, hx271_3, hx271_4, hx271_5, hx271_6, hx271_7, hx271_8⟩ := at_T56 HR1_2.out x5_2 p271 q271
                    cases e271
                    replace hx271_0 := (HB.out.cell (World.block_lt_of_cell? w _ hx271_0)).trans hx271_0
                    replace hx271_1 := (HB.out.cell (World.block_lt_of_cell? w _ hx271_1)).trans hx271_1
                    replace hx271_2 := (HB.out.cell (World.block_lt_of_cell? w _ hx271_2)).trans hx271_2
                    replace hx271_3 := (HB.out.cell (World.block_lt_of_cell? w _ hx271_3)).trans hx271_3
                    replace hx271_4 := (HB.out.cell (World.block_lt_of_cell? w _ hx271_4)).trans hx271_4
                    replace hx271_5 := (HB.out.cell (World.block_lt_of_cell? w _ hx271_5)).trans hx271_5
                    replace hx271_6 := (HB.out.cell (World.block_lt_of_cell? w _ hx271_6)).trans hx271_6
                    replace hx271_7 := (HB.out.cell (World.block_lt_of_cell? w _ hx271_7)).trans hx271_7
                    replace hx271_8 := (HB.out.cell (World.block_lt_of_cell? w _ hx271_8)).trans hx271_8
                    replace p271 := eq_true p271
                    replace q271 := eq_true q271
                    go_wp2
                    repeat (go_quiet (fail); try go_wp2)
                    go_roundg k2
                    case measure => have := HJ2.out; have := HK2.out; omega
                    case rel => exact ⟨(wrap64 (x5_2 + 1)), rs, H', ⟨by have := HJ2.out; have := HK2.out; omega⟩, ⟨bk BK268⟩, ⟨bk BK269⟩, ⟨bw HB⟩⟩
                · rw [if_neg c20] at H
                  exact absurd H (by simp)
              · rw [if_neg c19] at H
                exact absurd H (by simp)
            · rw [if_neg c18] at H
              have c18b0 : decide (x5_2 < (l0_2.length : Int)) = false := decide_eq_false c18
              clear c18
              obtain rfl := Option.some.inj H
              have hnb28 := NB268_269.out
              have hnc28 := NB269_268.out
              obtain ⟨hcz29_0, hcz29_1, hcz29_2, hfz29_0, hfz29_1, hfz29_2⟩ := bc3 BK268
              go_wp2
              repeat (go_quiet (fail); try go_wp2)
              go_ret
              exact ⟨re, bw HB⟩

end Go.Proofs.YtnhngjhodcikiaaDoor.F
