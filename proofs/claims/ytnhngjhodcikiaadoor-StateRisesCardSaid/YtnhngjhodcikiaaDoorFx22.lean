/- Written by the session's own program hyb.py: what functions of the program compute; Lean checks it. -/
import Derived.Test.YtnhngjhodcikiaaDoorFx0
import Derived.Test.YtnhngjhodcikiaaDoorFx1
import Derived.Test.YtnhngjhodcikiaaDoorFx2
import Derived.Test.YtnhngjhodcikiaaDoorFx14
namespace Go.Proofs.YtnhngjhodcikiaaDoor.F
open Go.RowKit Go.Proofs.YtnhngjhodcikiaaDoorW.PrintWords Go.Proofs.YtnhngjhodcikiaaDoorW.PrintLast Go.Proofs.YtnhngjhodcikiaaDoorW.PrintMore Go.Proofs.YtnhngjhodcikiaaDoorW.PrintShort
attribute [local go_sem] run_Add64 run_Sub64
attribute [local go_sem] max2_int min2_int max_two min_two max_three min_three max_four min_four   -- for this text's walks alone
set_option linter.unusedVariables false
set_option linter.unusedSimpArgs false

attribute [local go_sem high] eqA35 eqA37
/-! ### record_Valid: function 44 -/
def record_Valid.j0 : Nat → Bool → Int → Int → ByteArray → Int → Int → Int → Int → Int → Int → Int → Int → Option (Bool)
  | 0, _, _, _, _, _, _, _, _, _, _, _, _ => none
  | k + 1, x14, x222000, x222001, x222002, x222003, x222004, x222005, x222006, x222007, x222008, x222009, x222010 => if x14 = true then (some false) else (if x222000 = 1 then ((policy_Valid.f x222003 x222004 x222005 x222006 x222007).bind fun t222 => (if t222 = true then (some (x222008 == 0 && (x222009 == 0 && (x222010 == 0)))) else (some false))) else (if x222000 = 2 then (if (x222003 == 0 && (x222004 == 0 && (x222005 == 0 && (x222006 == 0 && (x222007 == 0))))) = true then (some (x222008 == 0 && (x222009 == 0 && (x222010 == 0)))) else (some false)) else (if x222000 = 3 then (if (x222003 == 0 && (x222004 == 0 && (x222005 == 0 && (x222006 == 0 && (x222007 == 0))))) = true then (if x222008 = 0 then (some true) else (if x222009 = 0 then (some (x222010 == 0)) else (some false))) else (some false)) else (some false))))
def record_Valid.f (k : Nat) (a0_0 : Int) (a0_1 : Int) (a0_2 : ByteArray) (a0_3 : Int) (a0_4 : Int) (a0_5 : Int) (a0_6 : Int) (a0_7 : Int) (a0_8 : Int) (a0_9 : Int) (a0_10 : Int) : Option (Bool) := if (a0_2.size : Int) < 1 then (record_Valid.j0 k true a0_0 a0_1 a0_2 a0_3 a0_4 a0_5 a0_6 a0_7 a0_8 a0_9 a0_10) else (record_Valid.j0 k (decide ((a0_2.size : Int) > 64)) a0_0 a0_1 a0_2 a0_3 a0_4 a0_5 a0_6 a0_7 a0_8 a0_9 a0_10)
theorem record_Valid.mono_l : ∀ k, (∀ y0 y1 y2 y3 y4 y5 y6 y7 y8 y9 y10 y11, LeO (record_Valid.j0 k y0 y1 y2 y3 y4 y5 y6 y7 y8 y9 y10 y11) (record_Valid.j0 (k + 1) y0 y1 y2 y3 y4 y5 y6 y7 y8 y9 y10 y11))
  | 0 => fun _ _ _ _ _ _ _ _ _ _ _ _ r h => by simp [record_Valid.j0] at h
  | k + 1 => by
    have ih0 := record_Valid.mono_l k
    · intro y0 y1 y2 y3 y4 y5 y6 y7 y8 y9 y10 y11
      unfold record_Valid.j0
      repeat' first
      | (with_reducible exact ih0 _ _ _ _ _ _ _ _ _ _ _ _)
      | (with_reducible exact LeO.refl _)
      | (with_reducible exact LeO.none _)
      | (with_reducible refine LeO.ite ?_ ?_)
      | (with_reducible refine LeO.bind ?_ (fun _ => ?_))
      | exact ih0 _ _ _ _ _ _ _ _ _ _ _ _
      | exact LeO.none _
      | refine LeO.ite ?_ ?_
      | refine LeO.bind ?_ (fun _ => ?_)
theorem record_Valid.mono : ∀ a0 a1 a2 a3 a4 a5 a6 a7 a8 a9 a10 k, LeO (record_Valid.f k a0 a1 a2 a3 a4 a5 a6 a7 a8 a9 a10) (record_Valid.f (k + 1) a0 a1 a2 a3 a4 a5 a6 a7 a8 a9 a10) := by
  intro a0 a1 a2 a3 a4 a5 a6 a7 a8 a9 a10 k
  have ih0 := record_Valid.mono_l k
  unfold record_Valid.f
  repeat' first
      | (with_reducible exact ih0 _ _ _ _ _ _ _ _ _ _ _ _)
      | (with_reducible exact LeO.refl _)
      | (with_reducible exact LeO.none _)
      | (with_reducible refine LeO.ite ?_ ?_)
      | (with_reducible refine LeO.bind ?_ (fun _ => ?_))
      | exact ih0 _ _ _ _ _ _ _ _ _ _ _ _
      | exact LeO.none _
      | refine LeO.ite ?_ ?_
      | refine LeO.bind ?_ (fun _ => ?_)
set_option maxHeartbeats 8000000 in
set_option maxRecDepth 100000 in
theorem record_Valid.calls (k : Nat) (a0_0 : Int) (a0_1 : Int) (a0_2 : ByteArray) (a0_3 : Int) (a0_4 : Int) (a0_5 : Int) (a0_6 : Int) (a0_7 : Int) (a0_8 : Int) (a0_9 : Int) (a0_10 : Int) (r : Bool) (w : World) (h : record_Valid.f k a0_0 a0_1 a0_2 a0_3 a0_4 a0_5 a0_6 a0_7 a0_8 a0_9 a0_10 = some r) :
    Calls Tryd.prog 44 #[.agg #[.int .i64 a0_0, .int .u64 a0_1, .string a0_2, .int .i64 a0_3, .int .u64 a0_4, .int .u64 a0_5, .int .u64 a0_6, .int .u64 a0_7, .int .u64 a0_8, .int .u64 a0_9, .int .u64 a0_10]] w fun e w' => e = .returned (.bool r) ∧ Below w.heap.size w w' := by
  have hu39 := Tryd.underlying39
  have hu37 := Tryd.underlying37
  have hu35 := Tryd.underlying35
  have HB := Aside0.mk (Below.refl w.heap.size w)
  have H : (if (a0_2.size : Int) < 1 then (record_Valid.j0 k true a0_0 a0_1 a0_2 a0_3 a0_4 a0_5 a0_6 a0_7 a0_8 a0_9 a0_10) else (record_Valid.j0 k (decide ((a0_2.size : Int) > 64)) a0_0 a0_1 a0_2 a0_3 a0_4 a0_5 a0_6 a0_7 a0_8 a0_9 a0_10)) = some r := h
  clear h
  have HC2 := Aside0.mk H
  clear H
  go_enter Tryd.func44, Tryd.ntmps44
  go_upto_region 1 with (first | ((with_reducible refine gate_dst (N := 1) rfl ?_); (try (refine gate_guard (by rfl) ?_; dsimp only)); refine bx 1 #[.int .i64 a0_0, .int .u64 a0_1, .string a0_2, .int .i64 a0_3, .int .u64 a0_4, .int .u64 a0_5, .int .u64 a0_6, .int .u64 a0_7, .int .u64 a0_8, .int .u64 a0_9, .int .u64 a0_10] 39 ?_; intro gb221 hg w3 hbox hb; have n0_ := bs HB hb; have n1_ := Aside0.mk (hbox); have n2_ := sz HB hg; have n3_ := sz HB hg; clear HB; have HB := n0_; have BK221 := n1_; have GW221 := n2_; have GE221 := n3_; clear n0_ n1_ n2_ n3_; clear hb hbox hg))
  (try simp only [Act.put, List.setIfInBounds_toArray, List.set_cons_zero, List.set_cons_succ])
  go_cut [14] (fun v14 wc => ∃ (kq : Nat) (x14_1 : Bool), v14 = .bool x14_1 ∧ Aside0 (record_Valid.j0 kq x14_1 a0_0 a0_1 a0_2 a0_3 a0_4 a0_5 a0_6 a0_7 a0_8 a0_9 a0_10 = some r) ∧ Aside0 (kq ≤ k) ∧ Aside0 (wc.heap[gb221]? = some (.cells #[.int .i64 a0_0, .int .u64 a0_1, .string a0_2, .int .i64 a0_3, .int .u64 a0_4, .int .u64 a0_5, .int .u64 a0_6, .int .u64 a0_7, .int .u64 a0_8, .int .u64 a0_9, .int .u64 a0_10] 39 (0, 0))) ∧ Aside0 (Below w.heap.size w wc))
  case first =>
    have H := HC2.out
    clear HC2
    by_cases c4 : (a0_2.size : Int) < 1
    · rw [if_pos c4] at H
      have c4b0 : decide ((a0_2.size : Int) < 1) = true := decide_eq_true c4
      have c4b1 : decide (a0_2.size < 1) = true := decide_eq_true (by omega)
      clear c4
      (first | rw [c4b0] | (simp only [i64_w, i32_w]; rw [c4b0]) | skip)
      have H' := Aside0.mk H
      clear H
      obtain ⟨hcz5_0, hcz5_1, hcz5_2, hcz5_3, hcz5_4, hcz5_5, hcz5_6, hcz5_7, hcz5_8, hcz5_9, hcz5_10, hfz5_0, hfz5_1, hfz5_2, hfz5_3, hfz5_4, hfz5_5, hfz5_6, hfz5_7, hfz5_8, hfz5_9, hfz5_10⟩ := bc11 BK221
      go_wp2
      go_meet
      case rel => exact ⟨_, (true), rs, H', ⟨by first | omega | exact Nat.le_refl _⟩, ⟨bk BK221⟩, ⟨bw HB⟩⟩
    · rw [if_neg c4] at H
      have c4b0 : decide ((a0_2.size : Int) < 1) = false := decide_eq_false c4
      have c4b1 : decide (a0_2.size < 1) = false := decide_eq_false (by omega)
      clear c4
      (first | rw [c4b0] | (simp only [i64_w, i32_w]; rw [c4b0]) | skip)
      have H' := Aside0.mk H
      clear H
      obtain ⟨hcz6_0, hcz6_1, hcz6_2, hcz6_3, hcz6_4, hcz6_5, hcz6_6, hcz6_7, hcz6_8, hcz6_9, hcz6_10, hfz6_0, hfz6_1, hfz6_2, hfz6_3, hfz6_4, hfz6_5, hfz6_6, hfz6_7, hfz6_8, hfz6_9, hfz6_10⟩ := bc11 BK221
      go_wp2
      go_meet
      case rel => exact ⟨_, (decide ((a0_2.size : Int) > 64)), rs, H', ⟨by first | omega | exact Nat.le_refl _⟩, ⟨bk BK221⟩, ⟨bw HB⟩⟩
  case rest =>
    clear HC2
    try clear p2
    try clear c4
    try clear c4b0
    try clear c4b1
    try clear hcz5_0
    try clear hcz5_1
    try clear hcz5_10
    try clear hcz5_2
    try clear hcz5_3
    try clear hcz5_4
    try clear hcz5_5
    try clear hcz5_6
    try clear hcz5_7
    try clear hcz5_8
    try clear hcz5_9
    try clear hcz6_0
    try clear hcz6_1
    try clear hcz6_10
    try clear hcz6_2
    try clear hcz6_3
    try clear hcz6_4
    try clear hcz6_5
    try clear hcz6_6
    try clear hcz6_7
    try clear hcz6_8
    try clear hcz6_9
    try clear hfz5_0
    try clear hfz5_1
    try clear hfz5_10
    try clear hfz5_2
    try clear hfz5_3
    try clear hfz5_4
    try clear hfz5_5
    try clear hfz5_6
    try clear hfz5_7
    try clear hfz5_8
    try clear hfz5_9
    try clear hfz6_0
    try clear hfz6_1
    try clear hfz6_10
    try clear hfz6_2
    try clear hfz6_3
    try clear hfz6_4
    try clear hfz6_5
    try clear hfz6_6
    try clear hfz6_7
    try clear hfz6_8
    try clear hfz6_9
    obtain ⟨kq, x14_1, rfl, HA, HJ1, BK221, HB⟩ := hcut
    cases kq with
    | zero => exact absurd HA.out (by simp [record_Valid.j0])
    | succ kj1 =>
      have H := HA.out
      clear HA
      simp only [record_Valid.j0] at H
      by_cases c7 : x14_1 = true
      · subst c7
        have H1 : (some false) = some r := by rw [if_pos rfl] at H; exact H
        clear H
        have H := H1
        clear H1
        obtain rfl := Option.some.inj H
        go_wp2
        go_ret
        exact ⟨re, bw HB⟩
      · replace c7 := Bool.eq_false_iff.mpr c7
        subst c7
        have H1 : (if a0_0 = 1 then ((policy_Valid.f a0_3 a0_4 a0_5 a0_6 a0_7).bind fun t222 => (if t222 = true then (some (a0_8 == 0 && (a0_9 == 0 && (a0_10 == 0)))) else (some false))) else (if a0_0 = 2 then (if (a0_3 == 0 && (a0_4 == 0 && (a0_5 == 0 && (a0_6 == 0 && (a0_7 == 0))))) = true then (some (a0_8 == 0 && (a0_9 == 0 && (a0_10 == 0)))) else (some false)) else (if a0_0 = 3 then (if (a0_3 == 0 && (a0_4 == 0 && (a0_5 == 0 && (a0_6 == 0 && (a0_7 == 0))))) = true then (if a0_8 = 0 then (some true) else (if a0_9 = 0 then (some (a0_10 == 0)) else (some false))) else (some false)) else (some false)))) = some r := by rw [if_neg (show ¬ (false = true) by decide)] at H; exact H
        clear H
        have H := H1
        clear H1
        by_cases c8 : a0_0 = 1
        · rw [if_pos c8] at H
          have c8b0 : (a0_0 == 1) = true := beq_iff_eq.mpr c8
          have c8b1 : (a0_0 != 1) = false := bne_eq_false_iff_eq.mpr c8
          clear c8
          replace H := Option.bind_eq_some_iff.mp H
          obtain ⟨t222, A90, H⟩ := H
          replace H : (if t222 = true then (some (a0_8 == 0 && (a0_9 == 0 && (a0_10 == 0)))) else (some false)) = some r := H
          have A9 := Aside0.mk A90
          clear A90
          by_cases c10 : t222 = true
          · subst c10
            have H1 : (some (a0_8 == 0 && (a0_9 == 0 && (a0_10 == 0)))) = some r := by rw [if_pos rfl] at H; exact H
            clear H
            have H := H1
            clear H1
            obtain rfl := Option.some.inj H
            obtain ⟨hcz11_0, hcz11_1, hcz11_2, hcz11_3, hcz11_4, hcz11_5, hcz11_6, hcz11_7, hcz11_8, hcz11_9, hcz11_10, hfz11_0, hfz11_1, hfz11_2, hfz11_3, hfz11_4, hfz11_5, hfz11_6, hfz11_7, hfz11_8, hfz11_9, hfz11_10⟩ := bc11 BK221
            go_wp2_with (first | ((with_reducible refine gate_callee (f := 28) rfl ?_); refine gm (some 29) Tryd.func28 #[.agg #[.int .i64 a0_3, .int .u64 a0_4, .int .u64 a0_5, .int .u64 a0_6, .int .u64 a0_7]] (policy_Valid.calls a0_3 a0_4 a0_5 a0_6 a0_7 true _ A9.out) ?_; intro w12 hb; have n0_ := bb BK221 hb; have n1_ := bs HB hb; clear BK221; clear HB; have BK221 := n0_; have HB := n1_; clear n0_ n1_; (try clear hb); (try clear hb2); (try clear hk); (try clear hi)))
            go_ret
            exact ⟨re, bw HB⟩
          · replace c10 := Bool.eq_false_iff.mpr c10
            subst c10
            have H1 : (some false) = some r := by rw [if_neg (show ¬ (false = true) by decide)] at H; exact H
            clear H
            have H := H1
            clear H1
            obtain rfl := Option.some.inj H
            obtain ⟨hcz13_0, hcz13_1, hcz13_2, hcz13_3, hcz13_4, hcz13_5, hcz13_6, hcz13_7, hcz13_8, hcz13_9, hcz13_10, hfz13_0, hfz13_1, hfz13_2, hfz13_3, hfz13_4, hfz13_5, hfz13_6, hfz13_7, hfz13_8, hfz13_9, hfz13_10⟩ := bc11 BK221
            go_wp2_with (first | ((with_reducible refine gate_callee (f := 28) rfl ?_); refine gm (some 29) Tryd.func28 #[.agg #[.int .i64 a0_3, .int .u64 a0_4, .int .u64 a0_5, .int .u64 a0_6, .int .u64 a0_7]] (policy_Valid.calls a0_3 a0_4 a0_5 a0_6 a0_7 false _ A9.out) ?_; intro w14 hb; have n0_ := bb BK221 hb; have n1_ := bs HB hb; clear BK221; clear HB; have BK221 := n0_; have HB := n1_; clear n0_ n1_; (try clear hb); (try clear hb2); (try clear hk); (try clear hi)))
            go_ret
            exact ⟨re, bw HB⟩
        · rw [if_neg c8] at H
          have c8b0 : (a0_0 == 1) = false := beq_eq_false_iff_ne.mpr c8
          have c8b1 : (a0_0 != 1) = true := bne_iff_ne.mpr c8
          by_cases c15 : a0_0 = 2
          · rw [if_pos c15] at H
            have c15b0 : (a0_0 == 2) = true := beq_iff_eq.mpr c15
            have c15b1 : (a0_0 != 2) = false := bne_eq_false_iff_eq.mpr c15
            clear c15
            by_cases c16 : (a0_3 == 0 && (a0_4 == 0 && (a0_5 == 0 && (a0_6 == 0 && (a0_7 == 0))))) = true
            · rw [if_pos c16] at H
              have c16b0 : (a0_3 == 0 && (a0_4 == 0 && (a0_5 == 0 && (a0_6 == 0 && (a0_7 == 0))))) = true := c16
              (try (have c16b1 : decide (a0_3 = 0 && (a0_4 == 0 && (a0_5 == 0 && (a0_6 == 0 && (a0_7 == 0))))) = true := by simpa using c16))
              (try (have c16b2 : (a0_3 == 0 && (a0_4 == 0 && (a0_5 == 0 && (a0_6 == 0 && (a0_7 == 0))))) = true := by simpa using c16))
              clear c16
              obtain rfl := Option.some.inj H
              obtain ⟨hcz17_0, hcz17_1, hcz17_2, hcz17_3, hcz17_4, hcz17_5, hcz17_6, hcz17_7, hcz17_8, hcz17_9, hcz17_10, hfz17_0, hfz17_1, hfz17_2, hfz17_3, hfz17_4, hfz17_5, hfz17_6, hfz17_7, hfz17_8, hfz17_9, hfz17_10⟩ := bc11 BK221
              go_wp2
              go_ret
              exact ⟨re, bw HB⟩
            · rw [if_neg c16] at H
              have c16b0 : (a0_3 == 0 && (a0_4 == 0 && (a0_5 == 0 && (a0_6 == 0 && (a0_7 == 0))))) = false := by simpa using c16
              (try (have c16b1 : decide (a0_3 = 0 && (a0_4 == 0 && (a0_5 == 0 && (a0_6 == 0 && (a0_7 == 0))))) = false := by simpa using c16))
              (try (have c16b2 : (a0_3 == 0 && (a0_4 == 0 && (a0_5 == 0 && (a0_6 == 0 && (a0_7 == 0))))) = false := by simpa using c16))
              (try (have c16b3 : ¬ (a0_3 = 0 && (a0_4 == 0 && (a0_5 == 0 && (a0_6 == 0 && (a0_7 == 0))))) := by simpa using c16))
              clear c16
              obtain rfl := Option.some.inj H
              obtain ⟨hcz18_0, hcz18_1, hcz18_2, hcz18_3, hcz18_4, hcz18_5, hcz18_6, hcz18_7, hcz18_8, hcz18_9, hcz18_10, hfz18_0, hfz18_1, hfz18_2, hfz18_3, hfz18_4, hfz18_5, hfz18_6, hfz18_7, hfz18_8, hfz18_9, hfz18_10⟩ := bc11 BK221
              go_wp2
              go_ret
              exact ⟨re, bw HB⟩
          · rw [if_neg c15] at H
            have c15b0 : (a0_0 == 2) = false := beq_eq_false_iff_ne.mpr c15
            have c15b1 : (a0_0 != 2) = true := bne_iff_ne.mpr c15
            by_cases c19 : a0_0 = 3
            · rw [if_pos c19] at H
              have c19b0 : (a0_0 == 3) = true := beq_iff_eq.mpr c19
              have c19b1 : (a0_0 != 3) = false := bne_eq_false_iff_eq.mpr c19
              clear c19
              by_cases c20 : (a0_3 == 0 && (a0_4 == 0 && (a0_5 == 0 && (a0_6 == 0 && (a0_7 == 0))))) = true
              · rw [if_pos c20] at H
                have c20b0 : (a0_3 == 0 && (a0_4 == 0 && (a0_5 == 0 && (a0_6 == 0 && (a0_7 == 0))))) = true := c20
                (try (have c20b1 : decide (a0_3 = 0 && (a0_4 == 0 && (a0_5 == 0 && (a0_6 == 0 && (a0_7 == 0))))) = true := by simpa using c20))
                (try (have c20b2 : (a0_3 == 0 && (a0_4 == 0 && (a0_5 == 0 && (a0_6 == 0 && (a0_7 == 0))))) = true := by simpa using c20))
                clear c20
                by_cases c21 : a0_8 = 0
                · rw [if_pos c21] at H
                  have c21b0 : (a0_8 == 0) = true := beq_iff_eq.mpr c21
                  have c21b1 : (a0_8 != 0) = false := bne_eq_false_iff_eq.mpr c21
                  clear c21
                  (try (have hd22 := c20b0; rw [c21b0] at hd22; (first | rw [Bool.true_and] at hd22 | rw [Bool.and_true] at hd22 | (rw [Bool.not_true] at hd22; rw [Bool.false_or] at hd22) | skip)))
                  (try (have hd23 := c20b1; rw [c21b0] at hd23; (first | rw [Bool.true_and] at hd23 | rw [Bool.and_true] at hd23 | (rw [Bool.not_true] at hd23; rw [Bool.false_or] at hd23) | skip)))
                  (try (have hd24 := c20b2; rw [c21b0] at hd24; (first | rw [Bool.true_and] at hd24 | rw [Bool.and_true] at hd24 | (rw [Bool.not_true] at hd24; rw [Bool.false_or] at hd24) | skip)))
                  obtain rfl := Option.some.inj H
                  obtain ⟨hcz25_0, hcz25_1, hcz25_2, hcz25_3, hcz25_4, hcz25_5, hcz25_6, hcz25_7, hcz25_8, hcz25_9, hcz25_10, hfz25_0, hfz25_1, hfz25_2, hfz25_3, hfz25_4, hfz25_5, hfz25_6, hfz25_7, hfz25_8, hfz25_9, hfz25_10⟩ := bc11 BK221
                  go_wp2
                  go_ret
                  exact ⟨re, bw HB⟩
                · rw [if_neg c21] at H
                  have c21b0 : (a0_8 == 0) = false := beq_eq_false_iff_ne.mpr c21
                  have c21b1 : (a0_8 != 0) = true := bne_iff_ne.mpr c21
                  (try (have hd26 := c20b0; rw [c21b0] at hd26; (first | rw [Bool.true_and] at hd26 | rw [Bool.and_true] at hd26 | (rw [Bool.not_true] at hd26; rw [Bool.false_or] at hd26) | skip)))
                  (try (have hd27 := c20b1; rw [c21b0] at hd27; (first | rw [Bool.true_and] at hd27 | rw [Bool.and_true] at hd27 | (rw [Bool.not_true] at hd27; rw [Bool.false_or] at hd27) | skip)))
                  (try (have hd28 := c20b2; rw [c21b0] at hd28; (first | rw [Bool.true_and] at hd28 | rw [Bool.and_true] at hd28 | (rw [Bool.not_true] at hd28; rw [Bool.false_or] at hd28) | skip)))
                  by_cases c29 : a0_9 = 0
                  · rw [if_pos c29] at H
                    have c29b0 : (a0_9 == 0) = true := beq_iff_eq.mpr c29
                    have c29b1 : (a0_9 != 0) = false := bne_eq_false_iff_eq.mpr c29
                    clear c29
                    (try (have hd30 := c20b0; rw [c29b0] at hd30; (first | rw [Bool.true_and] at hd30 | rw [Bool.and_true] at hd30 | (rw [Bool.not_true] at hd30; rw [Bool.false_or] at hd30) | skip)))
                    (try (have hd31 := c20b1; rw [c29b0] at hd31; (first | rw [Bool.true_and] at hd31 | rw [Bool.and_true] at hd31 | (rw [Bool.not_true] at hd31; rw [Bool.false_or] at hd31) | skip)))
                    (try (have hd32 := c20b2; rw [c29b0] at hd32; (first | rw [Bool.true_and] at hd32 | rw [Bool.and_true] at hd32 | (rw [Bool.not_true] at hd32; rw [Bool.false_or] at hd32) | skip)))
                    (try (have hd33 := hd26; rw [c29b0] at hd33; (first | rw [Bool.true_and] at hd33 | rw [Bool.and_true] at hd33 | (rw [Bool.not_true] at hd33; rw [Bool.false_or] at hd33) | skip)))
                    (try (have hd34 := hd27; rw [c29b0] at hd34; (first | rw [Bool.true_and] at hd34 | rw [Bool.and_true] at hd34 | (rw [Bool.not_true] at hd34; rw [Bool.false_or] at hd34) | skip)))
                    (try (have hd35 := hd28; rw [c29b0] at hd35; (first | rw [Bool.true_and] at hd35 | rw [Bool.and_true] at hd35 | (rw [Bool.not_true] at hd35; rw [Bool.false_or] at hd35) | skip)))
                    obtain rfl := Option.some.inj H
                    obtain ⟨hcz36_0, hcz36_1, hcz36_2, hcz36_3, hcz36_4, hcz36_5, hcz36_6, hcz36_7, hcz36_8, hcz36_9, hcz36_10, hfz36_0, hfz36_1, hfz36_2, hfz36_3, hfz36_4, hfz36_5, hfz36_6, hfz36_7, hfz36_8, hfz36_9, hfz36_10⟩ := bc11 BK221
                    go_wp2
                    go_ret
                    exact ⟨re, bw HB⟩
                  · rw [if_neg c29] at H
                    have c29b0 : (a0_9 == 0) = false := beq_eq_false_iff_ne.mpr c29
                    have c29b1 : (a0_9 != 0) = true := bne_iff_ne.mpr c29
                    (try (have hd37 := c20b0; rw [c29b0] at hd37; (first | rw [Bool.true_and] at hd37 | rw [Bool.and_true] at hd37 | (rw [Bool.not_true] at hd37; rw [Bool.false_or] at hd37) | skip)))
                    (try (have hd38 := c20b1; rw [c29b0] at hd38; (first | rw [Bool.true_and] at hd38 | rw [Bool.and_true] at hd38 | (rw [Bool.not_true] at hd38; rw [Bool.false_or] at hd38) | skip)))
                    (try (have hd39 := c20b2; rw [c29b0] at hd39; (first | rw [Bool.true_and] at hd39 | rw [Bool.and_true] at hd39 | (rw [Bool.not_true] at hd39; rw [Bool.false_or] at hd39) | skip)))
                    (try (have hd40 := hd26; rw [c29b0] at hd40; (first | rw [Bool.true_and] at hd40 | rw [Bool.and_true] at hd40 | (rw [Bool.not_true] at hd40; rw [Bool.false_or] at hd40) | skip)))
                    (try (have hd41 := hd27; rw [c29b0] at hd41; (first | rw [Bool.true_and] at hd41 | rw [Bool.and_true] at hd41 | (rw [Bool.not_true] at hd41; rw [Bool.false_or] at hd41) | skip)))
                    (try (have hd42 := hd28; rw [c29b0] at hd42; (first | rw [Bool.true_and] at hd42 | rw [Bool.and_true] at hd42 | (rw [Bool.not_true] at hd42; rw [Bool.false_or] at hd42) | skip)))
                    obtain rfl := Option.some.inj H
                    obtain ⟨hcz43_0, hcz43_1, hcz43_2, hcz43_3, hcz43_4, hcz43_5, hcz43_6, hcz43_7, hcz43_8, hcz43_9, hcz43_10, hfz43_0, hfz43_1, hfz43_2, hfz43_3, hfz43_4, hfz43_5, hfz43_6, hfz43_7, hfz43_8, hfz43_9, hfz43_10⟩ := bc11 BK221
                    go_wp2
                    go_ret
                    exact ⟨re, bw HB⟩
              · rw [if_neg c20] at H
                have c20b0 : (a0_3 == 0 && (a0_4 == 0 && (a0_5 == 0 && (a0_6 == 0 && (a0_7 == 0))))) = false := by simpa using c20
                (try (have c20b1 : decide (a0_3 = 0 && (a0_4 == 0 && (a0_5 == 0 && (a0_6 == 0 && (a0_7 == 0))))) = false := by simpa using c20))
                (try (have c20b2 : (a0_3 == 0 && (a0_4 == 0 && (a0_5 == 0 && (a0_6 == 0 && (a0_7 == 0))))) = false := by simpa using c20))
                (try (have c20b3 : ¬ (a0_3 = 0 && (a0_4 == 0 && (a0_5 == 0 && (a0_6 == 0 && (a0_7 == 0))))) := by simpa using c20))
                clear c20
                obtain rfl := Option.some.inj H
                obtain ⟨hcz44_0, hcz44_1, hcz44_2, hcz44_3, hcz44_4, hcz44_5, hcz44_6, hcz44_7, hcz44_8, hcz44_9, hcz44_10, hfz44_0, hfz44_1, hfz44_2, hfz44_3, hfz44_4, hfz44_5, hfz44_6, hfz44_7, hfz44_8, hfz44_9, hfz44_10⟩ := bc11 BK221
                go_wp2
                go_ret
                exact ⟨re, bw HB⟩
            · rw [if_neg c19] at H
              have c19b0 : (a0_0 == 3) = false := beq_eq_false_iff_ne.mpr c19
              have c19b1 : (a0_0 != 3) = true := bne_iff_ne.mpr c19
              obtain rfl := Option.some.inj H
              obtain ⟨hcz45_0, hcz45_1, hcz45_2, hcz45_3, hcz45_4, hcz45_5, hcz45_6, hcz45_7, hcz45_8, hcz45_9, hcz45_10, hfz45_0, hfz45_1, hfz45_2, hfz45_3, hfz45_4, hfz45_5, hfz45_6, hfz45_7, hfz45_8, hfz45_9, hfz45_10⟩ := bc11 BK221
              go_wp2
              go_ret
              exact ⟨re, bw HB⟩

end Go.Proofs.YtnhngjhodcikiaaDoor.F
