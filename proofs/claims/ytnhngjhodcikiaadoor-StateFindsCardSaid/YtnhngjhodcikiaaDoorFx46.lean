/- Written by the session's own program hyb.py: what functions of the program compute; Lean checks it. -/
import Derived.Test.YtnhngjhodcikiaaDoorFx0
import Derived.Test.YtnhngjhodcikiaaDoorFx18
import Derived.Test.YtnhngjhodcikiaaDoorFx30
import Derived.Laws.Cover1
import Derived.Test.YtnhngjhodcikiaaDoorWErr
namespace Go.Proofs.YtnhngjhodcikiaaDoor.F
open Go.RowKit Go.Proofs.YtnhngjhodcikiaaDoorW.PrintWords Go.Proofs.YtnhngjhodcikiaaDoorW.PrintLast Go.Proofs.YtnhngjhodcikiaaDoorW.PrintMore Go.Proofs.YtnhngjhodcikiaaDoorW.PrintShort
attribute [local go_sem] run_Add64 run_Sub64
attribute [local go_sem] max2_int min2_int max_two min_two max_three min_three max_four min_four   -- for this text's walks alone
set_option linter.unusedVariables false
set_option linter.unusedSimpArgs false

/-! ### turnstilelaw13_StateFinds: function 7 -/
mutual
def turnstilelaw13_StateFinds.l0 : Nat → ByteArray → Int → Bool → Int → Int → Int → List (S56) → Option (Bool)
  | 0, _, _, _, _, _, _, _ => none
  | k + 1, x1, x5, x6, x7, x370000, x370001, x370002 => if x7 < (x370002.length : Int) then (if x7 > 0 then (if 0 ≤ (wrap64 (x7 - 1)) then (if (wrap64 (x7 - 1)) < (x370002.length : Int) then (if 0 ≤ x7 then (turnstilelaw13_StateFinds.j1 k x1 x5 x6 x7 (!(Op.bytesLess (((rd_T56 x370002 (wrap64 (x7 - 1))).f0).toList) (((rd_T56 x370002 x7).f0).toList))) x370000 x370001 x370002) else (none)) else (none)) else (none)) else (turnstilelaw13_StateFinds.j1 k x1 x5 x6 x7 false x370000 x370001 x370002)) else ((state_Find.f x370000 x370001 x370002 x1).bind fun bt371 => (if bt371.1 = x5 then (some (bt371.2 == x6)) else (some false)))
def turnstilelaw13_StateFinds.j1 : Nat → ByteArray → Int → Bool → Int → Bool → Int → Int → List (S56) → Option (Bool)
  | 0, _, _, _, _, _, _, _, _ => none
  | k + 1, x1, x5, x6, x7, x36, x370000, x370001, x370002 => if x36 = true then (some true) else (if 0 ≤ x7 then (if x7 < (x370002.length : Int) then (if (Op.bytesLess (((rd_T56 x370002 x7).f0).toList) x1.toList) = true then (if x6 = true then (turnstilelaw13_StateFinds.l0 k x1 (wrap64 (x5 + 1)) true (wrap64 (x7 + 1)) x370000 x370001 x370002) else (turnstilelaw13_StateFinds.l0 k x1 (wrap64 (x5 + 1)) (((rd_T56 x370002 x7).f0).toList == x1.toList) (wrap64 (x7 + 1)) x370000 x370001 x370002)) else (if x6 = true then (turnstilelaw13_StateFinds.l0 k x1 x5 true (wrap64 (x7 + 1)) x370000 x370001 x370002) else (turnstilelaw13_StateFinds.l0 k x1 x5 (((rd_T56 x370002 x7).f0).toList == x1.toList) (wrap64 (x7 + 1)) x370000 x370001 x370002))) else (none)) else (none))
end
def turnstilelaw13_StateFinds.f (k : Nat) (a0_0 : Int) (a0_1 : Int) (l0_2 : List (S56)) (a1 : ByteArray) : Option (Bool) := (turnstilelaw13_lives.f).bind fun t370 => (if t370 = true then (turnstilelaw13_StateFinds.l0 k a1 0 false 0 a0_0 a0_1 l0_2) else (some false))
set_option maxHeartbeats 8000000 in
set_option maxRecDepth 100000 in
theorem turnstilelaw13_StateFinds.calls (k : Nat) [Errs] (a0_0 : Int) (a0_1 : Int) (A0_2 : Option Addr) (c0_2 : Nat) (l0_2 : List (S56)) (a1 : ByteArray) (r : Bool) (w : World) (hE : Sent w) (hr0_2 : Kd.C k56 w A0_2 l0_2.length l0_2) (hc0_2 : l0_2.length ≤ c0_2) (h : turnstilelaw13_StateFinds.f k a0_0 a0_1 l0_2 a1 = some r) :
    Calls Tryd.prog 7 #[.agg #[.int .u64 a0_0, .int .u64 a0_1, .slice A0_2 l0_2.length c0_2], .string a1] w fun e w' => e = .returned (.bool r) ∧ Below w.heap.size w w' := by
  have hu27 := Tryd.underlying27
  have HR0_2 := Aside0.mk hr0_2
  have HC0_2 := Aside0.mk hc0_2
  clear hr0_2 hc0_2
  have HERR := Aside0.mk hE
  clear hE
  have HB := Aside0.mk (Below.refl w.heap.size w)
  have H : ((turnstilelaw13_lives.f).bind fun t370 => (if t370 = true then (turnstilelaw13_StateFinds.l0 k a1 0 false 0 a0_0 a0_1 l0_2) else (some false))) = some r := h
  clear h
  replace H := Option.bind_eq_some_iff.mp H
  obtain ⟨t370, A30, H⟩ := H
  replace H : (if t370 = true then (turnstilelaw13_StateFinds.l0 k a1 0 false 0 a0_0 a0_1 l0_2) else (some false)) = some r := H
  have A3 := Aside0.mk A30
  clear A30
  by_cases c4 : t370 = true
  · subst c4
    have H1 : (turnstilelaw13_StateFinds.l0 k a1 0 false 0 a0_0 a0_1 l0_2) = some r := by rw [if_pos rfl] at H; exact H
    clear H
    have H := H1
    clear H1
    have H' := Aside0.mk H
    clear H
    go_enter Tryd.func7, Tryd.ntmps7
    go_wp2_with (first | ((with_reducible refine gate_dst (N := 2) rfl ?_); refine bx 2 #[.int .u64 a0_0, .int .u64 a0_1, .slice A0_2 l0_2.length c0_2] 27 ?_; intro gb369 hg w5 hbox hb; have n0_ := bs HB hb; have n1_ := Aside0.mk (hbox); have n2_ := sz HB hg; have n3_ := sz HB hg; clear HB; have HB := n0_; have BK369 := n1_; have GW369 := n2_; have GE369 := n3_; clear n0_ n1_ n2_ n3_; clear hb hbox hg) | (go_at_call 8; (with_reducible refine (turnstilelaw13_lives.calls  true _ ?side1 A3.out).mono ?_); (case side1 => exact (HERR.out.below (bw HB))); rintro e w6 ⟨rfl, hb⟩; have n0_ := bb BK369 hb; have n1_ := bs HB hb; clear BK369; clear HB; have BK369 := n0_; have HB := n1_; clear n0_ n1_; (try clear hb); (try clear hb2); (try clear hk); (try clear hi)))
    repeat (go_quiet (first | ((with_reducible refine gate_dst (N := 2) rfl ?_); refine bx 2 #[.int .u64 a0_0, .int .u64 a0_1, .slice A0_2 l0_2.length c0_2] 27 ?_; intro gb369 hg w5 hbox hb; have n0_ := bs HB hb; have n1_ := Aside0.mk (hbox); have n2_ := sz HB hg; have n3_ := sz HB hg; clear HB; have HB := n0_; have BK369 := n1_; have GW369 := n2_; have GE369 := n3_; clear n0_ n1_ n2_ n3_; clear hb hbox hg) | (go_at_call 8; (with_reducible refine (turnstilelaw13_lives.calls  true _ ?side1 A3.out).mono ?_); (case side1 => exact (HERR.out.below (bw HB))); rintro e w6 ⟨rfl, hb⟩; have n0_ := bb BK369 hb; have n1_ := bs HB hb; clear BK369; clear HB; have BK369 := n0_; have HB := n1_; clear n0_ n1_; (try clear hb); (try clear hb2); (try clear hk); (try clear hi))); try go_wp2_with (first | ((with_reducible refine gate_dst (N := 2) rfl ?_); refine bx 2 #[.int .u64 a0_0, .int .u64 a0_1, .slice A0_2 l0_2.length c0_2] 27 ?_; intro gb369 hg w5 hbox hb; have n0_ := bs HB hb; have n1_ := Aside0.mk (hbox); have n2_ := sz HB hg; have n3_ := sz HB hg; clear HB; have HB := n0_; have BK369 := n1_; have GW369 := n2_; have GE369 := n3_; clear n0_ n1_ n2_ n3_; clear hb hbox hg) | (go_at_call 8; (with_reducible refine (turnstilelaw13_lives.calls  true _ ?side1 A3.out).mono ?_); (case side1 => exact (HERR.out.below (bw HB))); rintro e w6 ⟨rfl, hb⟩; have n0_ := bb BK369 hb; have n1_ := bs HB hb; clear BK369; clear HB; have BK369 := n0_; have HB := n1_; clear n0_ n1_; (try clear hb); (try clear hb2); (try clear hk); (try clear hi))))
    go_loopg [5, 6, 7] k (fun kq v5 v6 v7 w' => ∃ (x5_1 : Int) (x6_1 : Bool) (x7_1 : Int), v5 = .int .i64 x5_1 ∧ v6 = .bool x6_1 ∧ v7 = .int .i64 x7_1 ∧ Aside0 (turnstilelaw13_StateFinds.l0 kq a1 x5_1 x6_1 x7_1 a0_0 a0_1 l0_2 = some r) ∧ Aside0 (kq ≤ k) ∧ Aside0 (w'.heap[gb369]? = some (.cells #[.int .u64 a0_0, .int .u64 a0_1, (.slice A0_2 l0_2.length c0_2)] 27 (0, 0))) ∧ Aside0 (Below w.heap.size w w'))
    case atStart => exact ⟨(0), (false), (0), rs, rs, rs, H', ⟨Nat.le_refl _⟩, ⟨bk BK369⟩, ⟨bw HB⟩⟩
    case round =>
      clear H'
      try clear p2
      try clear c4
      obtain ⟨x5_1, x6_1, x7_1, rfl, rfl, rfl, HA, HK1, BK369, HB⟩ := hrel
      cases gk with
      | zero => exact absurd HA.out (by simp [turnstilelaw13_StateFinds.l0])
      | succ k1 =>
        have H := HA.out
        clear HA
        simp only [turnstilelaw13_StateFinds.l0] at H
        by_cases c7 : x7_1 < (l0_2.length : Int)
        · rw [if_pos c7] at H
          have c7b0 : decide (x7_1 < (l0_2.length : Int)) = true := decide_eq_true c7
          clear c7
          have HC8 := Aside0.mk H
          clear H
          obtain ⟨hcz9_0, hcz9_1, hcz9_2, hfz9_0, hfz9_1, hfz9_2⟩ := bc3 BK369
          go_upto_region 8 with (fail)
          repeat (go_quiet (fail); go_upto_region 8 with (fail))
          go_cut [36] (fun v36 wc => ∃ (kq : Nat) (x36_7 : Bool), v36 = .bool x36_7 ∧ Aside0 (turnstilelaw13_StateFinds.j1 kq a1 x5_1 x6_1 x7_1 x36_7 a0_0 a0_1 l0_2 = some r) ∧ Aside0 (kq ≤ k1) ∧ Aside0 (wc.heap[gb369]? = some (.cells #[.int .u64 a0_0, .int .u64 a0_1, (.slice A0_2 l0_2.length c0_2)] 27 (0, 0))) ∧ Aside0 (Below w.heap.size w wc))
          case first =>
            have H := HC8.out
            clear HC8
            by_cases c10 : x7_1 > 0
            · rw [if_pos c10] at H
              have c10b0 : decide (0 < x7_1) = true := decide_eq_true c10
              clear c10
              (first | rw [c10b0] | (simp only [i64_w, i32_w]; rw [c10b0]) | skip)
              obtain ⟨ji11, hji11⟩ : ∃ j_ : Int, (wrap64 (x7_1 - 1)) = j_ := ⟨_, rfl⟩
              replace H : (if 0 ≤ (ji11) then (if (ji11) < (l0_2.length : Int) then (if 0 ≤ x7_1 then (turnstilelaw13_StateFinds.j1 k1 a1 x5_1 x6_1 x7_1 (!(Op.bytesLess (((rd_T56 l0_2 (ji11)).f0).toList) (((rd_T56 l0_2 x7_1).f0).toList))) a0_0 a0_1 l0_2) else (none)) else (none)) else (none)) = some r := by first | (rw [hji11] at H; exact H) | (simp only [hji11] at H ⊢; exact H)
              have hji11w : (IntKind.i64.wrap (x7_1 - 1)) = ji11 := (i64_w _).trans hji11
              by_cases c12 : 0 ≤ (ji11)
              · rw [if_pos c12] at H
                have c12b0 : decide (0 ≤ (ji11)) = true := decide_eq_true c12
                clear c12
                by_cases c13 : (ji11) < (l0_2.length : Int)
                · rw [if_pos c13] at H
                  have c13b0 : decide ((ji11) < (l0_2.length : Int)) = true := decide_eq_true c13
                  clear c13
                  by_cases c14 : 0 ≤ x7_1
                  · rw [if_pos c14] at H
                    have c14b0 : decide (0 ≤ x7_1) = true := decide_eq_true c14
                    clear c14
                    have H' := Aside0.mk H
                    clear H
                    obtain ⟨hcz15_0, hcz15_1, hcz15_2, hfz15_0, hfz15_1, hfz15_2⟩ := bc3 BK369
                    have p373 : 0 ≤ ((ji11) : Int) := of_decide_eq_true (by first | (with_reducible assumption) | assumption)
                    have q373 : (ji11) < (l0_2.length : Int) := of_decide_eq_true (by first | (with_reducible assumption) | assumption)
                    obtain ⟨ad373, e373, hx373_0, hx373_1, hx373_2, hx373_3, hx373_4, hx373_5, hx373_6, hx373_7, hx373_8⟩ := at_T56 HR0_2.out (ji11) p373 q373
                    cases e373
                    replace hx373_0 := (HB.out.cell (World.block_lt_of_cell? w _ hx373_0)).trans hx373_0
                    replace hx373_1 := (HB.out.cell (World.block_lt_of_cell? w _ hx373_1)).trans hx373_1
                    replace hx373_2 := (HB.out.cell (World.block_lt_of_cell? w _ hx373_2)).trans hx373_2
                    replace hx373_3 := (HB.out.cell (World.block_lt_of_cell? w _ hx373_3)).trans hx373_3
                    replace hx373_4 := (HB.out.cell (World.block_lt_of_cell? w _ hx373_4)).trans hx373_4
                    replace hx373_5 := (HB.out.cell (World.block_lt_of_cell? w _ hx373_5)).trans hx373_5
                    replace hx373_6 := (HB.out.cell (World.block_lt_of_cell? w _ hx373_6)).trans hx373_6
                    replace hx373_7 := (HB.out.cell (World.block_lt_of_cell? w _ hx373_7)).trans hx373_7
                    replace hx373_8 := (HB.out.cell (World.block_lt_of_cell? w _ hx373_8)).trans hx373_8
                    replace p373 := eq_true p373
                    replace q373 := eq_true q373
                    have p374 : 0 ≤ (x7_1 : Int) := of_decide_eq_true (by first | (with_reducible assumption) | assumption)
                    have q374 : x7_1 < (l0_2.length : Int) := of_decide_eq_true (by first | (with_reducible assumption) | assumption)
                    obtain ⟨ad374, e374, hx374_0, hx374_1, hx374_2, hx374_3, hx374_4, hx374_5, hx374_6, hx374_7, hx374_8⟩ := at_T56 HR0_2.out x7_1 p374 q374
                    obtain rfl : ad373 = ad374 := (by injection e374)
                    replace hx374_0 := (HB.out.cell (World.block_lt_of_cell? w _ hx374_0)).trans hx374_0
                    replace hx374_1 := (HB.out.cell (World.block_lt_of_cell? w _ hx374_1)).trans hx374_1
                    replace hx374_2 := (HB.out.cell (World.block_lt_of_cell? w _ hx374_2)).trans hx374_2
                    replace hx374_3 := (HB.out.cell (World.block_lt_of_cell? w _ hx374_3)).trans hx374_3
                    replace hx374_4 := (HB.out.cell (World.block_lt_of_cell? w _ hx374_4)).trans hx374_4
                    replace hx374_5 := (HB.out.cell (World.block_lt_of_cell? w _ hx374_5)).trans hx374_5
                    replace hx374_6 := (HB.out.cell (World.block_lt_of_cell? w _ hx374_6)).trans hx374_6
                    replace hx374_7 := (HB.out.cell (World.block_lt_of_cell? w _ hx374_7)).trans hx374_7
                    replace hx374_8 := (HB.out.cell (World.block_lt_of_cell? w _ hx374_8)).trans hx374_8
                    replace p374 := eq_true p374
                    replace q374 := eq_true q374
                    go_wp2
                    repeat (go_quiet (fail); try go_wp2)
                    go_meet
                    case rel => exact ⟨_, (!(Op.bytesLess (((rd_T56 l0_2 (ji11)).f0).toList) (((rd_T56 l0_2 x7_1).f0).toList))), (by first | rfl | (simp; done) | (simp only [← hji11] <;> (first | rfl | simp)) | (simp [*]; done)), H', ⟨by have := HK1.out; first | omega | exact Nat.le_refl _⟩, ⟨bk BK369⟩, ⟨bw HB⟩⟩
                  · rw [if_neg c14] at H
                    exact absurd H (by simp)
                · rw [if_neg c13] at H
                  exact absurd H (by simp)
              · rw [if_neg c12] at H
                exact absurd H (by simp)
            · rw [if_neg c10] at H
              have c10b0 : decide (0 < x7_1) = false := decide_eq_false c10
              clear c10
              (first | rw [c10b0] | (simp only [i64_w, i32_w]; rw [c10b0]) | skip)
              have H' := Aside0.mk H
              clear H
              go_wp2
              repeat (go_quiet (fail); try go_wp2)
              go_meet
              case rel => exact ⟨_, (false), rs, H', ⟨by have := HK1.out; first | omega | exact Nat.le_refl _⟩, ⟨bk BK369⟩, ⟨bw HB⟩⟩
          case rest =>
            clear HC8
            try clear c1
            try clear p2
            try clear p3
            try clear q3
            try clear hx3
            try clear c4
            try clear p6
            try clear c7
            try clear c7b0
            try clear c10
            try clear c10b0
            try clear c12
            try clear c12b0
            try clear c13
            try clear c13b0
            try clear c14
            try clear c14b0
            try clear hcz15_0
            try clear hcz15_1
            try clear hcz15_2
            try clear hcz9_0
            try clear hcz9_1
            try clear hcz9_2
            try clear hfz15_0
            try clear hfz15_1
            try clear hfz15_2
            try clear hfz9_0
            try clear hfz9_1
            try clear hfz9_2
            try clear hx373_0
            try clear hx373_1
            try clear hx373_2
            try clear hx373_3
            try clear hx373_4
            try clear hx373_5
            try clear hx373_6
            try clear hx373_7
            try clear hx373_8
            try clear hx374_0
            try clear hx374_1
            try clear hx374_2
            try clear hx374_3
            try clear hx374_4
            try clear hx374_5
            try clear hx374_6
            try clear hx374_7
            try clear hx374_8
            try clear p2
            try clear p373
            try clear p374
            try clear q373
            try clear q374
            obtain ⟨kq, x36_7, rfl, HA, HJ7, BK369, HB⟩ := hcut
            cases kq with
            | zero => exact absurd HA.out (by simp [turnstilelaw13_StateFinds.j1])
            | succ kj7 =>
              have H := HA.out
              clear HA
              simp only [turnstilelaw13_StateFinds.j1] at H
              by_cases c16 : x36_7 = true
              · subst c16
                have H1 : (some true) = some r := by rw [if_pos rfl] at H; exact H
                clear H
                have H := H1
                clear H1
                obtain rfl := Option.some.inj H
                go_wp2
                repeat (go_quiet (fail); try go_wp2)
                go_ret
                exact ⟨re, bw HB⟩
              · replace c16 := Bool.eq_false_iff.mpr c16
                subst c16
                have H1 : (if 0 ≤ x7_1 then (if x7_1 < (l0_2.length : Int) then (if (Op.bytesLess (((rd_T56 l0_2 x7_1).f0).toList) a1.toList) = true then (if x6_1 = true then (turnstilelaw13_StateFinds.l0 kj7 a1 (wrap64 (x5_1 + 1)) true (wrap64 (x7_1 + 1)) a0_0 a0_1 l0_2) else (turnstilelaw13_StateFinds.l0 kj7 a1 (wrap64 (x5_1 + 1)) (((rd_T56 l0_2 x7_1).f0).toList == a1.toList) (wrap64 (x7_1 + 1)) a0_0 a0_1 l0_2)) else (if x6_1 = true then (turnstilelaw13_StateFinds.l0 kj7 a1 x5_1 true (wrap64 (x7_1 + 1)) a0_0 a0_1 l0_2) else (turnstilelaw13_StateFinds.l0 kj7 a1 x5_1 (((rd_T56 l0_2 x7_1).f0).toList == a1.toList) (wrap64 (x7_1 + 1)) a0_0 a0_1 l0_2))) else (none)) else (none)) = some r := by rw [if_neg (show ¬ (false = true) by decide)] at H; exact H
                clear H
                have H := H1
                clear H1
                by_cases c17 : 0 ≤ x7_1
                · rw [if_pos c17] at H
                  have c17b0 : decide (0 ≤ x7_1) = true := decide_eq_true c17
                  clear c17
                  by_cases c18 : x7_1 < (l0_2.length : Int)
                  · rw [if_pos c18] at H
                    have c18b0 : decide (x7_1 < (l0_2.length : Int)) = true := decide_eq_true c18
                    clear c18
                    by_cases c19 : (Op.bytesLess (((rd_T56 l0_2 x7_1).f0).toList) a1.toList) = true
                    · rw [if_pos c19] at H
                      have c19b0 : (Op.bytesLess (((rd_T56 l0_2 x7_1).f0).toList) a1.toList) = true := c19
                      clear c19
                      by_cases c20 : x6_1 = true
                      · subst c20
                        have H1 : (turnstilelaw13_StateFinds.l0 kj7 a1 (wrap64 (x5_1 + 1)) true (wrap64 (x7_1 + 1)) a0_0 a0_1 l0_2) = some r := by rw [if_pos rfl] at H; exact H
                        clear H
                        have H := H1
                        clear H1
                        have H' := Aside0.mk H
                        clear H
                        obtain ⟨hcz21_0, hcz21_1, hcz21_2, hfz21_0, hfz21_1, hfz21_2⟩ := bc3 BK369
                        have p375 : 0 ≤ (x7_1 : Int) := of_decide_eq_true (by first | (with_reducible assumption) | assumption)
                        have q375 : x7_1 < (l0_2.length : Int) := of_decide_eq_true (by first | (with_reducible assumption) | assumption)
                        obtain ⟨ad375, e375, hx375_0, hx375_1, hx375_2, hx375_3, hx375_4, hx375_5, hx375_6, hx375_7, hx375_8⟩ := at_T56 HR0_2.out x7_1 p375 q375
                        cases e375
                        replace hx375_0 := (HB.out.cell (World.block_lt_of_cell? w _ hx375_0)).trans hx375_0
                        replace hx375_1 := (HB.out.cell (World.block_lt_of_cell? w _ hx375_1)).trans hx375_1
                        replace hx375_2 := (HB.out.cell (World.block_lt_of_cell? w _ hx375_2)).trans hx375_2
                        replace hx375_3 := (HB.out.cell (World.block_lt_of_cell? w _ hx375_3)).trans hx375_3
                        replace hx375_4 := (HB.out.cell (World.block_lt_of_cell? w _ hx375_4)).trans hx375_4
                        replace hx375_5 := (HB.out.cell (World.block_lt_of_cell? w _ hx375_5)).trans hx375_5
                        replace hx375_6 := (HB.out.cell (World.block_lt_of_cell? w _ hx375_6)).trans hx375_6
                        replace hx375_7 := (HB.out.cell (World.block_lt_of_cell? w _ hx375_7)).trans hx375_7
                        replace hx375_8 := (HB.out.cell (World.block_lt_of_cell? w _ hx375_8)).trans hx375_8
                        replace p375 := eq_true p375
                        replace q375 := eq_true q375
                        go_wp2
                        repeat (go_quiet (fail); try go_wp2)
                        go_roundg kj7
                        case measure => have := HK1.out; have := HJ7.out; omega
                        case rel => exact ⟨(wrap64 (x5_1 + 1)), (true), (wrap64 (x7_1 + 1)), rs, rs, rs, H', ⟨by have := HK1.out; have := HJ7.out; omega⟩, ⟨bk BK369⟩, ⟨bw HB⟩⟩
                      · replace c20 := Bool.eq_false_iff.mpr c20
                        subst c20
                        have H1 : (turnstilelaw13_StateFinds.l0 kj7 a1 (wrap64 (x5_1 + 1)) (((rd_T56 l0_2 x7_1).f0).toList == a1.toList) (wrap64 (x7_1 + 1)) a0_0 a0_1 l0_2) = some r := by rw [if_neg (show ¬ (false = true) by decide)] at H; exact H
                        clear H
                        have H := H1
                        clear H1
                        have H' := Aside0.mk H
                        clear H
                        obtain ⟨hcz22_0, hcz22_1, hcz22_2, hfz22_0, hfz22_1, hfz22_2⟩ := bc3 BK369
                        have p375 : 0 ≤ (x7_1 : Int) := of_decide_eq_true (by first | (with_reducible assumption) | assumption)
                        have q375 : x7_1 < (l0_2.length : Int) := of_decide_eq_true (by first | (with_reducible assumption) | assumption)
                        obtain ⟨ad375, e375, hx375_0, hx375_1, hx375_2, hx375_3, hx375_4, hx375_5, hx375_6, hx375_7, hx375_8⟩ := at_T56 HR0_2.out x7_1 p375 q375
                        cases e375
                        replace hx375_0 := (HB.out.cell (World.block_lt_of_cell? w _ hx375_0)).trans hx375_0
                        replace hx375_1 := (HB.out.cell (World.block_lt_of_cell? w _ hx375_1)).trans hx375_1
                        replace hx375_2 := (HB.out.cell (World.block_lt_of_cell? w _ hx375_2)).trans hx375_2
                        replace hx375_3 := (HB.out.cell (World.block_lt_of_cell? w _ hx375_3)).trans hx375_3
                        replace hx375_4 := (HB.out.cell (World.block_lt_of_cell? w _ hx375_4)).trans hx375_4
                        replace hx375_5 := (HB.out.cell (World.block_lt_of_cell? w _ hx375_5)).trans hx375_5
                        replace hx375_6 := (HB.out.cell (World.block_lt_of_cell? w _ hx375_6)).trans hx375_6
                        replace hx375_7 := (HB.out.cell (World.block_lt_of_cell? w _ hx375_7)).trans hx375_7
                        replace hx375_8 := (HB.out.cell (World.block_lt_of_cell? w _ hx375_8)).trans hx375_8
                        replace p375 := eq_true p375
                        replace q375 := eq_true q375
                        have p376 : 0 ≤ (x7_1 : Int) := of_decide_eq_true (by first | (with_reducible assumption) | assumption)
                        have q376 : x7_1 < (l0_2.length : Int) := of_decide_eq_true (by first | (with_reducible assumption) | assumption)
                        obtain ⟨ad376, e376, hx376_0, hx376_1, hx376_2, hx376_3, hx376_4, hx376_5, hx376_6, hx376_7, hx376_8⟩ := at_T56 HR0_2.out x7_1 p376 q376
                        obtain rfl : ad375 = ad376 := (by injection e376)
                        replace hx376_0 := (HB.out.cell (World.block_lt_of_cell? w _ hx376_0)).trans hx376_0
                        replace hx376_1 := (HB.out.cell (World.block_lt_of_cell? w _ hx376_1)).trans hx376_1
                        replace hx376_2 := (HB.out.cell (World.block_lt_of_cell? w _ hx376_2)).trans hx376_2
                        replace hx376_3 := (HB.out.cell (World.block_lt_of_cell? w _ hx376_3)).trans hx376_3
                        replace hx376_4 := (HB.out.cell (World.block_lt_of_cell? w _ hx376_4)).trans hx376_4
                        replace hx376_5 := (HB.out.cell (World.block_lt_of_cell? w _ hx376_5)).trans hx376_5
                        replace hx376_6 := (HB.out.cell (World.block_lt_of_cell? w _ hx376_6)).trans hx376_6
                        replace hx376_7 := (HB.out.cell (World.block_lt_of_cell? w _ hx376_7)).trans hx376_7
                        replace hx376_8 := (HB.out.cell (World.block_lt_of_cell? w _ hx376_8)).trans hx376_8
                        replace p376 := eq_true p376
                        replace q376 := eq_true q376
                        go_wp2
                        repeat (go_quiet (fail); try go_wp2)
                        go_roundg kj7
                        case measure => have := HK1.out; have := HJ7.out; omega
                        case rel => exact ⟨(wrap64 (x5_1 + 1)), ((((rd_T56 l0_2 x7_1).f0).toList == a1.toList)), (wrap64 (x7_1 + 1)), rs, rs, rs, H', ⟨by have := HK1.out; have := HJ7.out; omega⟩, ⟨bk BK369⟩, ⟨bw HB⟩⟩
                    · rw [if_neg c19] at H
                      have c19b0 : (Op.bytesLess (((rd_T56 l0_2 x7_1).f0).toList) a1.toList) = false := by simpa using c19
                      clear c19
                      by_cases c23 : x6_1 = true
                      · subst c23
                        have H1 : (turnstilelaw13_StateFinds.l0 kj7 a1 x5_1 true (wrap64 (x7_1 + 1)) a0_0 a0_1 l0_2) = some r := by rw [if_pos rfl] at H; exact H
                        clear H
                        have H := H1
                        clear H1
                        have H' := Aside0.mk H
                        clear H
                        obtain ⟨hcz24_0, hcz24_1, hcz24_2, hfz24_0, hfz24_1, hfz24_2⟩ := bc3 BK369
                        have p375 : 0 ≤ (x7_1 : Int) := of_decide_eq_true (by first | (with_reducible assumption) | assumption)
                        have q375 : x7_1 < (l0_2.length : Int) := of_decide_eq_true (by first | (with_reducible assumption) | assumption)
                        obtain ⟨ad375, e375, hx375_0, hx375_1, hx375_2, hx375_3, hx375_4, hx375_5, hx375_6, hx375_7, hx375_8⟩ := at_T56 HR0_2.out x7_1 p375 q375
                        cases e375
                        replace hx375_0 := (HB.out.cell (World.block_lt_of_cell? w _ hx375_0)).trans hx375_0
                        replace hx375_1 := (HB.out.cell (World.block_lt_of_cell? w _ hx375_1)).trans hx375_1
                        replace hx375_2 := (HB.out.cell (World.block_lt_of_cell? w _ hx375_2)).trans hx375_2
                        replace hx375_3 := (HB.out.cell (World.block_lt_of_cell? w _ hx375_3)).trans hx375_3
                        replace hx375_4 := (HB.out.cell (World.block_lt_of_cell? w _ hx375_4)).trans hx375_4
                        replace hx375_5 := (HB.out.cell (World.block_lt_of_cell? w _ hx375_5)).trans hx375_5
                        replace hx375_6 := (HB.out.cell (World.block_lt_of_cell? w _ hx375_6)).trans hx375_6
                        replace hx375_7 := (HB.out.cell (World.block_lt_of_cell? w _ hx375_7)).trans hx375_7
                        replace hx375_8 := (HB.out.cell (World.block_lt_of_cell? w _ hx375_8)).trans hx375_8
                        replace p375 := eq_true p375
                        replace q375 := eq_true q375
                        go_wp2
                        repeat (go_quiet (fail); try go_wp2)
                        go_roundg kj7
                        case measure => have := HK1.out; have := HJ7.out; omega
                        case rel => exact ⟨(x5_1), (true), (wrap64 (x7_1 + 1)), rs, rs, rs, H', ⟨by have := HK1.out; have := HJ7.out; omega⟩, ⟨bk BK369⟩, ⟨bw HB⟩⟩
                      · replace c23 := Bool.eq_false_iff.mpr c23
                        subst c23
                        have H1 : (turnstilelaw13_StateFinds.l0 kj7 a1 x5_1 (((rd_T56 l0_2 x7_1).f0).toList == a1.toList) (wrap64 (x7_1 + 1)) a0_0 a0_1 l0_2) = some r := by rw [if_neg (show ¬ (false = true) by decide)] at H; exact H
                        clear H
                        have H := H1
                        clear H1
                        have H' := Aside0.mk H
                        clear H
                        obtain ⟨hcz25_0, hcz25_1, hcz25_2, hfz25_0, hfz25_1, hfz25_2⟩ := bc3 BK369
                        have p375 : 0 ≤ (x7_1 : Int) := of_decide_eq_true (by first | (with_reducible assumption) | assumption)
                        have q375 : x7_1 < (l0_2.length : Int) := of_decide_eq_true (by first | (with_reducible assumption) | assumption)
                        obtain ⟨ad375, e375, hx375_0, hx375_1, hx375_2, hx375_3, hx375_4, hx375_5, hx375_6, hx375_7, hx375_8⟩ := at_T56 HR0_2.out x7_1 p375 q375
                        cases e375
                        replace hx375_0 := (HB.out.cell (World.block_lt_of_cell? w _ hx375_0)).trans hx375_0
                        replace hx375_1 := (HB.out.cell (World.block_lt_of_cell? w _ hx375_1)).trans hx375_1
                        replace hx375_2 := (HB.out.cell (World.block_lt_of_cell? w _ hx375_2)).trans hx375_2
                        replace hx375_3 := (HB.out.cell (World.block_lt_of_cell? w _ hx375_3)).trans hx375_3
                        replace hx375_4 := (HB.out.cell (World.block_lt_of_cell? w _ hx375_4)).trans hx375_4
                        replace hx375_5 := (HB.out.cell (World.block_lt_of_cell? w _ hx375_5)).trans hx375_5
                        replace hx375_6 := (HB.out.cell (World.block_lt_of_cell? w _ hx375_6)).trans hx375_6
                        replace hx375_7 := (HB.out.cell (World.block_lt_of_cell? w _ hx375_7)).trans hx375_7
                        replace hx375_8 := (HB.out.cell (World.block_lt_of_cell? w _ hx375_8)).trans hx375_8
                        replace p375 := eq_true p375
                        replace q375 := eq_true q375
                        have p377 : 0 ≤ (x7_1 : Int) := of_decide_eq_true (by first | (with_reducible assumption) | assumption)
                        have q377 : x7_1 < (l0_2.length : Int) := of_decide_eq_true (by first | (with_reducible assumption) | assumption)
                        obtain ⟨ad377, e377, hx377_0, hx377_1, hx377_2, hx377_3, hx377_4, hx377_5, hx377_6, hx377_7, hx377_8⟩ := at_T56 HR0_2.out x7_1 p377 q377
                        obtain rfl : ad375 = ad377 := (by injection e377)
                        replace hx377_0 := (HB.out.cell (World.block_lt_of_cell? w _ hx377_0)).trans hx377_0
                        replace hx377_1 := (HB.out.cell (World.block_lt_of_cell? w _ hx377_1)).trans hx377_1
                        replace hx377_2 := (HB.out.cell (World.block_lt_of_cell? w _ hx377_2)).trans hx377_2
                        replace hx377_3 := (HB.out.cell (World.block_lt_of_cell? w _ hx377_3)).trans hx377_3
                        replace hx377_4 := (HB.out.cell (World.block_lt_of_cell? w _ hx377_4)).trans hx377_4
                        replace hx377_5 := (HB.out.cell (World.block_lt_of_cell? w _ hx377_5)).trans hx377_5
                        replace hx377_6 := (HB.out.cell (World.block_lt_of_cell? w _ hx377_6)).trans hx377_6
                        replace hx377_7 := (HB.out.cell (World.block_lt_of_cell? w _ hx377_7)).trans hx377_7
                        replace hx377_8 := (HB.out.cell (World.block_lt_of_cell? w _ hx377_8)).trans hx377_8
                        replace p377 := eq_true p377
                        replace q377 := eq_true q377
                        go_wp2
                        repeat (go_quiet (fail); try go_wp2)
                        go_roundg kj7
                        case measure => have := HK1.out; have := HJ7.out; omega
                        case rel => exact ⟨(x5_1), ((((rd_T56 l0_2 x7_1).f0).toList == a1.toList)), (wrap64 (x7_1 + 1)), rs, rs, rs, H', ⟨by have := HK1.out; have := HJ7.out; omega⟩, ⟨bk BK369⟩, ⟨bw HB⟩⟩
                  · rw [if_neg c18] at H
                    exact absurd H (by simp)
                · rw [if_neg c17] at H
                  exact absurd H (by simp)
        · rw [if_neg c7] at H
          have c7b0 : decide (x7_1 < (l0_2.length : Int)) = false := decide_eq_false c7
          clear c7
          replace H := Option.bind_eq_some_iff.mp H
          obtain ⟨⟨t371, t372⟩, A260, H⟩ := H
          replace H : (if t371 = x5_1 then (some (t372 == x6_1)) else (some false)) = some r := H
          have A26 := Aside0.mk A260
          clear A260
          by_cases c27 : t371 = x5_1
          · rw [if_pos c27] at H
            have c27b0 : (t371 == x5_1) = true := beq_iff_eq.mpr c27
            have c27b1 : (t371 != x5_1) = false := bne_eq_false_iff_eq.mpr c27
            clear c27
            obtain rfl := Option.some.inj H
            obtain ⟨hcz28_0, hcz28_1, hcz28_2, hfz28_0, hfz28_1, hfz28_2⟩ := bc3 BK369
            go_wp2_with (first | (go_at_call 11; (with_reducible refine (state_Find.calls a0_0 a0_1 _ _ l0_2 a1 t371 t372 _ ?side1 ?side2 A26.out).mono ?_); (case side1 => exact co (Kd.C_below HR0_2.out HB.out)); (case side2 => exact HC0_2.out); rintro e w29 ⟨rfl, hb⟩; have n0_ := bb BK369 hb; have n1_ := bs HB hb; clear BK369; clear HB; have BK369 := n0_; have HB := n1_; clear n0_ n1_; (try clear hb); (try clear hb2); (try clear hk); (try clear hi)))
            repeat (go_quiet (first | (go_at_call 11; (with_reducible refine (state_Find.calls a0_0 a0_1 _ _ l0_2 a1 t371 t372 _ ?side1 ?side2 A26.out).mono ?_); (case side1 => exact co (Kd.C_below HR0_2.out HB.out)); (case side2 => exact HC0_2.out); rintro e w29 ⟨rfl, hb⟩; have n0_ := bb BK369 hb; have n1_ := bs HB hb; clear BK369; clear HB; have BK369 := n0_; have HB := n1_; clear n0_ n1_; (try clear hb); (try clear hb2); (try clear hk); (try clear hi))); try go_wp2_with (first | (go_at_call 11; (with_reducible refine (state_Find.calls a0_0 a0_1 _ _ l0_2 a1 t371 t372 _ ?side1 ?side2 A26.out).mono ?_); (case side1 => exact co (Kd.C_below HR0_2.out HB.out)); (case side2 => exact HC0_2.out); rintro e w29 ⟨rfl, hb⟩; have n0_ := bb BK369 hb; have n1_ := bs HB hb; clear BK369; clear HB; have BK369 := n0_; have HB := n1_; clear n0_ n1_; (try clear hb); (try clear hb2); (try clear hk); (try clear hi))))
            go_ret
            exact ⟨re, bw HB⟩
          · rw [if_neg c27] at H
            have c27b0 : (t371 == x5_1) = false := beq_eq_false_iff_ne.mpr c27
            have c27b1 : (t371 != x5_1) = true := bne_iff_ne.mpr c27
            obtain rfl := Option.some.inj H
            obtain ⟨hcz30_0, hcz30_1, hcz30_2, hfz30_0, hfz30_1, hfz30_2⟩ := bc3 BK369
            go_wp2_with (first | (go_at_call 11; (with_reducible refine (state_Find.calls a0_0 a0_1 _ _ l0_2 a1 t371 t372 _ ?side1 ?side2 A26.out).mono ?_); (case side1 => exact co (Kd.C_below HR0_2.out HB.out)); (case side2 => exact HC0_2.out); rintro e w31 ⟨rfl, hb⟩; have n0_ := bb BK369 hb; have n1_ := bs HB hb; clear BK369; clear HB; have BK369 := n0_; have HB := n1_; clear n0_ n1_; (try clear hb); (try clear hb2); (try clear hk); (try clear hi)))
            repeat (go_quiet (first | (go_at_call 11; (with_reducible refine (state_Find.calls a0_0 a0_1 _ _ l0_2 a1 t371 t372 _ ?side1 ?side2 A26.out).mono ?_); (case side1 => exact co (Kd.C_below HR0_2.out HB.out)); (case side2 => exact HC0_2.out); rintro e w31 ⟨rfl, hb⟩; have n0_ := bb BK369 hb; have n1_ := bs HB hb; clear BK369; clear HB; have BK369 := n0_; have HB := n1_; clear n0_ n1_; (try clear hb); (try clear hb2); (try clear hk); (try clear hi))); try go_wp2_with (first | (go_at_call 11; (with_reducible refine (state_Find.calls a0_0 a0_1 _ _ l0_2 a1 t371 t372 _ ?side1 ?side2 A26.out).mono ?_); (case side1 => exact co (Kd.C_below HR0_2.out HB.out)); (case side2 => exact HC0_2.out); rintro e w31 ⟨rfl, hb⟩; have n0_ := bb BK369 hb; have n1_ := bs HB hb; clear BK369; clear HB; have BK369 := n0_; have HB := n1_; clear n0_ n1_; (try clear hb); (try clear hb2); (try clear hk); (try clear hi))))
            go_ret
            exact ⟨re, bw HB⟩
  · replace c4 := Bool.eq_false_iff.mpr c4
    subst c4
    have H1 : (some false) = some r := by rw [if_neg (show ¬ (false = true) by decide)] at H; exact H
    clear H
    have H := H1
    clear H1
    obtain rfl := Option.some.inj H
    go_enter Tryd.func7, Tryd.ntmps7
    go_wp2_with (first | ((with_reducible refine gate_dst (N := 2) rfl ?_); refine bx 2 #[.int .u64 a0_0, .int .u64 a0_1, .slice A0_2 l0_2.length c0_2] 27 ?_; intro gb369 hg w32 hbox hb; have n0_ := bs HB hb; have n1_ := Aside0.mk (hbox); have n2_ := sz HB hg; have n3_ := sz HB hg; clear HB; have HB := n0_; have BK369 := n1_; have GW369 := n2_; have GE369 := n3_; clear n0_ n1_ n2_ n3_; clear hb hbox hg) | (go_at_call 8; (with_reducible refine (turnstilelaw13_lives.calls  false _ ?side1 A3.out).mono ?_); (case side1 => exact (HERR.out.below (bw HB))); rintro e w33 ⟨rfl, hb⟩; have n0_ := bb BK369 hb; have n1_ := bs HB hb; clear BK369; clear HB; have BK369 := n0_; have HB := n1_; clear n0_ n1_; (try clear hb); (try clear hb2); (try clear hk); (try clear hi)))
    repeat (go_quiet (first | ((with_reducible refine gate_dst (N := 2) rfl ?_); refine bx 2 #[.int .u64 a0_0, .int .u64 a0_1, .slice A0_2 l0_2.length c0_2] 27 ?_; intro gb369 hg w32 hbox hb; have n0_ := bs HB hb; have n1_ := Aside0.mk (hbox); have n2_ := sz HB hg; have n3_ := sz HB hg; clear HB; have HB := n0_; have BK369 := n1_; have GW369 := n2_; have GE369 := n3_; clear n0_ n1_ n2_ n3_; clear hb hbox hg) | (go_at_call 8; (with_reducible refine (turnstilelaw13_lives.calls  false _ ?side1 A3.out).mono ?_); (case side1 => exact (HERR.out.below (bw HB))); rintro e w33 ⟨rfl, hb⟩; have n0_ := bb BK369 hb; have n1_ := bs HB hb; clear BK369; clear HB; have BK369 := n0_; have HB := n1_; clear n0_ n1_; (try clear hb); (try clear hb2); (try clear hk); (try clear hi))); try go_wp2_with (first | ((with_reducible refine gate_dst (N := 2) rfl ?_); refine bx 2 #[.int .u64 a0_0, .int .u64 a0_1, .slice A0_2 l0_2.length c0_2] 27 ?_; intro gb369 hg w32 hbox hb; have n0_ := bs HB hb; have n1_ := Aside0.mk (hbox); have n2_ := sz HB hg; have n3_ := sz HB hg; clear HB; have HB := n0_; have BK369 := n1_; have GW369 := n2_; have GE369 := n3_; clear n0_ n1_ n2_ n3_; clear hb hbox hg) | (go_at_call 8; (with_reducible refine (turnstilelaw13_lives.calls  false _ ?side1 A3.out).mono ?_); (case side1 => exact (HERR.out.below (bw HB))); rintro e w33 ⟨rfl, hb⟩; have n0_ := bb BK369 hb; have n1_ := bs HB hb; clear BK369; clear HB; have BK369 := n0_; have HB := n1_; clear n0_ n1_; (try clear hb); (try clear hb2); (try clear hk); (try clear hi))))
    go_ret
    exact ⟨re, bw HB⟩


end Go.Proofs.YtnhngjhodcikiaaDoor.F
