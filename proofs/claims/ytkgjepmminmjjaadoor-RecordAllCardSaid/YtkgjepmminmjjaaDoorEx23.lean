/- Written by the session's own program hyb.py: what functions of the program compute; Lean checks it. -/
import Derived.Test.YtkgjepmminmjjaaDoorEx0
import Derived.Test.YtkgjepmminmjjaaDoorEx1
import Derived.Test.YtkgjepmminmjjaaDoorEx2
import Derived.Test.YtkgjepmminmjjaaDoorEx22
namespace Go.Proofs.YtkgjepmminmjjaaDoor.E
open Go.RowKit Go.Proofs.YtkgjepmminmjjaaDoorW.PrintWords Go.Proofs.YtkgjepmminmjjaaDoorW.PrintLast Go.Proofs.YtkgjepmminmjjaaDoorW.PrintMore Go.Proofs.YtkgjepmminmjjaaDoorW.PrintShort
attribute [local go_sem] run_Add64 run_Sub64
attribute [local go_sem] max2_int min2_int max_two min_two max_three min_three max_four min_four   -- for this text's walks alone
set_option linter.unusedVariables false
set_option linter.unusedSimpArgs false

attribute [local go_sem high] eqA28 eqA30
/-! ### turnstileref11_Valid: function 31 -/
def turnstileref11_Valid.j0 : Nat → Bool → Int → Int → ByteArray → Int → Int → Int → Int → Int → Int → Int → Int → Option (Bool)
  | 0, _, _, _, _, _, _, _, _, _, _, _, _ => none
  | k + 1, x12, x326000, x326001, x326002, x326003, x326004, x326005, x326006, x326007, x326008, x326009, x326010 => if x12 = true then (some false) else (if x326000 = 1 then ((turnstileref06_Valid.f x326003 x326004 x326005 x326006 x326007).bind fun t326 => (if t326 = true then (some (x326008 == 0 && (x326009 == 0 && (x326010 == 0)))) else (some false))) else (if x326000 = 2 then (if (x326003 == 0 && (x326004 == 0 && (x326005 == 0 && (x326006 == 0 && (x326007 == 0))))) = true then (some (x326008 == 0 && (x326009 == 0 && (x326010 == 0)))) else (some false)) else (if x326000 = 3 then (if (x326003 == 0 && (x326004 == 0 && (x326005 == 0 && (x326006 == 0 && (x326007 == 0))))) = true then (if x326008 = 0 then (some true) else (if x326009 = 0 then (some (x326010 == 0)) else (some false))) else (some false)) else (some false))))
def turnstileref11_Valid.f (k : Nat) (a0_0 : Int) (a0_1 : Int) (a0_2 : ByteArray) (a0_3 : Int) (a0_4 : Int) (a0_5 : Int) (a0_6 : Int) (a0_7 : Int) (a0_8 : Int) (a0_9 : Int) (a0_10 : Int) : Option (Bool) := if (a0_2.size : Int) < 1 then (turnstileref11_Valid.j0 k true a0_0 a0_1 a0_2 a0_3 a0_4 a0_5 a0_6 a0_7 a0_8 a0_9 a0_10) else (turnstileref11_Valid.j0 k (decide ((a0_2.size : Int) > 64)) a0_0 a0_1 a0_2 a0_3 a0_4 a0_5 a0_6 a0_7 a0_8 a0_9 a0_10)
theorem turnstileref11_Valid.mono_l : ∀ k, (∀ y0 y1 y2 y3 y4 y5 y6 y7 y8 y9 y10 y11, LeO (turnstileref11_Valid.j0 k y0 y1 y2 y3 y4 y5 y6 y7 y8 y9 y10 y11) (turnstileref11_Valid.j0 (k + 1) y0 y1 y2 y3 y4 y5 y6 y7 y8 y9 y10 y11))
  | 0 => fun _ _ _ _ _ _ _ _ _ _ _ _ r h => by simp [turnstileref11_Valid.j0] at h
  | k + 1 => by
    have ih0 := turnstileref11_Valid.mono_l k
    · intro y0 y1 y2 y3 y4 y5 y6 y7 y8 y9 y10 y11
      unfold turnstileref11_Valid.j0
      repeat' first
      | (with_reducible exact ih0 _ _ _ _ _ _ _ _ _ _ _ _)
      | (with_reducible exact LeO.refl _)
      | (with_reducible exact LeO.none _)
      | (with_reducible refine LeO.ite ?_ ?_)
      | (with_reducible refine LeO.bind ?_ (fun _ => ?_))
      | exact ih0 _ _ _ _ _ _ _ _ _ _ _ _
      | exact LeO.none _
      | refine LeO.ite ?_ ?_
      | refine LeO.bind ?_ (fun _ => ?_)
theorem turnstileref11_Valid.mono : ∀ a0 a1 a2 a3 a4 a5 a6 a7 a8 a9 a10 k, LeO (turnstileref11_Valid.f k a0 a1 a2 a3 a4 a5 a6 a7 a8 a9 a10) (turnstileref11_Valid.f (k + 1) a0 a1 a2 a3 a4 a5 a6 a7 a8 a9 a10) := by
  intro a0 a1 a2 a3 a4 a5 a6 a7 a8 a9 a10 k
  have ih0 := turnstileref11_Valid.mono_l k
  unfold turnstileref11_Valid.f
  repeat' first
      | (with_reducible exact ih0 _ _ _ _ _ _ _ _ _ _ _ _)
      | (with_reducible exact LeO.refl _)
      | (with_reducible exact LeO.none _)
      | (with_reducible refine LeO.ite ?_ ?_)
      | (with_reducible refine LeO.bind ?_ (fun _ => ?_))
      | exact ih0 _ _ _ _ _ _ _ _ _ _ _ _
      | exact LeO.none _
      | refine LeO.ite ?_ ?_
      | refine LeO.bind ?_ (fun _ => ?_)
set_option maxHeartbeats 8000000 in
set_option maxRecDepth 100000 in
theorem turnstileref11_Valid.calls (k : Nat) (a0_0 : Int) (a0_1 : Int) (a0_2 : ByteArray) (a0_3 : Int) (a0_4 : Int) (a0_5 : Int) (a0_6 : Int) (a0_7 : Int) (a0_8 : Int) (a0_9 : Int) (a0_10 : Int) (r : Bool) (w : World) (h : turnstileref11_Valid.f k a0_0 a0_1 a0_2 a0_3 a0_4 a0_5 a0_6 a0_7 a0_8 a0_9 a0_10 = some r) :
    Calls Tryd.prog 31 #[.agg #[.int .i64 a0_0, .int .u64 a0_1, .string a0_2, .int .i64 a0_3, .int .u64 a0_4, .int .u64 a0_5, .int .u64 a0_6, .int .u64 a0_7, .int .u64 a0_8, .int .u64 a0_9, .int .u64 a0_10]] w fun e w' => e = .returned (.bool r) ∧ Below w.heap.size w w' := by
  have hu32 := Tryd.underlying32
  have hu28 := Tryd.underlying28
  have hu30 := Tryd.underlying30
  have HB := Aside0.mk (Below.refl w.heap.size w)
  have H : (if (a0_2.size : Int) < 1 then (turnstileref11_Valid.j0 k true a0_0 a0_1 a0_2 a0_3 a0_4 a0_5 a0_6 a0_7 a0_8 a0_9 a0_10) else (turnstileref11_Valid.j0 k (decide ((a0_2.size : Int) > 64)) a0_0 a0_1 a0_2 a0_3 a0_4 a0_5 a0_6 a0_7 a0_8 a0_9 a0_10)) = some r := h
  clear h
  have HC2 := Aside0.mk H
  clear H
  go_enter Tryd.func31, Tryd.ntmps31
  go_upto_region 1 with (first | ((with_reducible refine gate_dst (N := 1) rfl ?_); (try (refine gate_guard (by rfl) ?_; dsimp only)); refine bx 1 #[.int .i64 a0_0, .int .u64 a0_1, .string a0_2, .int .i64 a0_3, .int .u64 a0_4, .int .u64 a0_5, .int .u64 a0_6, .int .u64 a0_7, .int .u64 a0_8, .int .u64 a0_9, .int .u64 a0_10] 32 ?_; intro gb325 hg w3 hbox hb; have n0_ := bs HB hb; have n1_ := Aside0.mk (hbox); have n2_ := sz HB hg; have n3_ := sz HB hg; clear HB; have HB := n0_; have BK325 := n1_; have GW325 := n2_; have GE325 := n3_; clear n0_ n1_ n2_ n3_; clear hb hbox hg))
  (try simp only [Act.put, List.setIfInBounds_toArray, List.set_cons_zero, List.set_cons_succ])
  go_cut [12] (fun v12 wc => ∃ (kq : Nat) (x12_1 : Bool), v12 = .bool x12_1 ∧ Aside0 (turnstileref11_Valid.j0 kq x12_1 a0_0 a0_1 a0_2 a0_3 a0_4 a0_5 a0_6 a0_7 a0_8 a0_9 a0_10 = some r) ∧ Aside0 (kq ≤ k) ∧ Aside0 (wc.heap[gb325]? = some (.cells #[.int .i64 a0_0, .int .u64 a0_1, .string a0_2, .int .i64 a0_3, .int .u64 a0_4, .int .u64 a0_5, .int .u64 a0_6, .int .u64 a0_7, .int .u64 a0_8, .int .u64 a0_9, .int .u64 a0_10] 32 (0, 0))) ∧ Aside0 (Below w.heap.size w wc))
  case first =>
    have H := HC2.out
    clear HC2
    by_cases c4 : (a0_2.size : Int) < 1
    · rw [if_pos c4] at H
      have c4b0 : decide ((a0_2.size : Int) < 1) = true := decide_eq_true c4
      have c4b1 : decide (a0_2.size < 1) = true := decide_eq_true (by omega)
      clear c4
      (first | rw [c4b0] | (simp only [i64_w, i32_w]; rw [c4b0]) | skip)
      have H' := Aside0.mk H
      clear H
      obtain ⟨hcz5_0, hcz5_1, hcz5_2, hcz5_3, hcz5_4, hcz5_5, hcz5_6, hcz5_7, hcz5_8, hcz5_9, hcz5_10, hfz5_0, hfz5_1, hfz5_2, hfz5_3, hfz5_4, hfz5_5, hfz5_6, hfz5_7, hfz5_8, hfz5_9, hfz5_10⟩ := bc11 BK325
      go_wp2
      go_meet
      case rel => exact ⟨_, (true), rs, H', ⟨by first | omega | exact Nat.le_refl _⟩, ⟨bk BK325⟩, ⟨bw HB⟩⟩
    · rw [if_neg c4] at H
      have c4b0 : decide ((a0_2.size : Int) < 1) = false := decide_eq_false c4
      have c4b1 : decide (a0_2.size < 1) = false := decide_eq_false (by omega)
      clear c4
      (first | rw [c4b0] | (simp only [i64_w, i32_w]; rw [c4b0]) | skip)
      have H' := Aside0.mk H
      clear H
      obtain ⟨hcz6_0, hcz6_1, hcz6_2, hcz6_3, hcz6_4, hcz6_5, hcz6_6, hcz6_7, hcz6_8, hcz6_9, hcz6_10, hfz6_0, hfz6_1, hfz6_2, hfz6_3, hfz6_4, hfz6_5, hfz6_6, hfz6_7, hfz6_8, hfz6_9, hfz6_10⟩ := bc11 BK325
      go_wp2
      go_meet
      case rel => exact ⟨_, (decide ((a0_2.size : Int) > 64)), rs, H', ⟨by first | omega | exact Nat.le_refl _⟩, ⟨bk BK325⟩, ⟨bw HB⟩⟩
  case rest =>
    clear HC2
    try clear p2
    try clear c3
    try clear c4
    try clear c4b0
    try clear c4b1
    try clear hcz5_0
    try clear hcz5_1
    try clear hcz5_10
    try clear hcz5_2
    try clear hcz5_3
    try clear hcz5_4
    try clear hcz5_5
    try clear hcz5_6
    try clear hcz5_7
    try clear hcz5_8
    try clear hcz5_9
    try clear hcz6_0
    try clear hcz6_1
    try clear hcz6_10
    try clear hcz6_2
    try clear hcz6_3
    try clear hcz6_4
    try clear hcz6_5
    try clear hcz6_6
    try clear hcz6_7
    try clear hcz6_8
    try clear hcz6_9
    try clear hfz5_0
    try clear hfz5_1
    try clear hfz5_10
    try clear hfz5_2
    try clear hfz5_3
    try clear hfz5_4
    try clear hfz5_5
    try clear hfz5_6
    try clear hfz5_7
    try clear hfz5_8
    try clear hfz5_9
    try clear hfz6_0
    try clear hfz6_1
    try clear hfz6_10
    try clear hfz6_2
    try clear hfz6_3
    try clear hfz6_4
    try clear hfz6_5
    try clear hfz6_6
    try clear hfz6_7
    try clear hfz6_8
    try clear hfz6_9
    obtain ⟨kq, x12_1, rfl, HA, HJ1, BK325, HB⟩ := hcut
    cases kq with
    | zero => exact absurd HA.out (by simp [turnstileref11_Valid.j0])
    | succ kj1 =>
      have H := HA.out
      clear HA
      simp only [turnstileref11_Valid.j0] at H
      by_cases c7 : x12_1 = true
      · subst c7
        have H1 : (some false) = some r := by rw [if_pos rfl] at H; exact H
        clear H
        have H := H1
        clear H1
        obtain rfl := Option.some.inj H
        go_wp2
        go_ret
        exact ⟨re, bw HB⟩
      · replace c7 := Bool.eq_false_iff.mpr c7
        subst c7
        have H1 : (if a0_0 = 1 then ((turnstileref06_Valid.f a0_3 a0_4 a0_5 a0_6 a0_7).bind fun t326 => (if t326 = true then (some (a0_8 == 0 && (a0_9 == 0 && (a0_10 == 0)))) else (some false))) else (if a0_0 = 2 then (if (a0_3 == 0 && (a0_4 == 0 && (a0_5 == 0 && (a0_6 == 0 && (a0_7 == 0))))) = true then (some (a0_8 == 0 && (a0_9 == 0 && (a0_10 == 0)))) else (some false)) else (if a0_0 = 3 then (if (a0_3 == 0 && (a0_4 == 0 && (a0_5 == 0 && (a0_6 == 0 && (a0_7 == 0))))) = true then (if a0_8 = 0 then (some true) else (if a0_9 = 0 then (some (a0_10 == 0)) else (some false))) else (some false)) else (some false)))) = some r := by rw [if_neg (show ¬ (false = true) by decide)] at H; exact H
        clear H
        have H := H1
        clear H1
        by_cases c8 : a0_0 = 1
        · rw [if_pos c8] at H
          have c8b0 : (a0_0 == 1) = true := beq_iff_eq.mpr c8
          have c8b1 : (a0_0 != 1) = false := bne_eq_false_iff_eq.mpr c8
          clear c8
          replace H := Option.bind_eq_some_iff.mp H
          obtain ⟨t326, A90, H⟩ := H
          replace H : (if t326 = true then (some (a0_8 == 0 && (a0_9 == 0 && (a0_10 == 0)))) else (some false)) = some r := H
          have A9 := Aside0.mk A90
          clear A90
          by_cases c10 : t326 = true
          · subst c10
            have H1 : (some (a0_8 == 0 && (a0_9 == 0 && (a0_10 == 0)))) = some r := by rw [if_pos rfl] at H; exact H
            clear H
            have H := H1
            clear H1
            obtain rfl := Option.some.inj H
            obtain ⟨hcz11_0, hcz11_1, hcz11_2, hcz11_3, hcz11_4, hcz11_5, hcz11_6, hcz11_7, hcz11_8, hcz11_9, hcz11_10, hfz11_0, hfz11_1, hfz11_2, hfz11_3, hfz11_4, hfz11_5, hfz11_6, hfz11_7, hfz11_8, hfz11_9, hfz11_10⟩ := bc11 BK325
            go_wp2_with (first | ((with_reducible refine gate_callee (f := 52) rfl ?_); refine gm (some 19) Tryd.func52 #[.agg #[.int .i64 a0_3, .int .u64 a0_4, .int .u64 a0_5, .int .u64 a0_6, .int .u64 a0_7]] (turnstileref06_Valid.calls a0_3 a0_4 a0_5 a0_6 a0_7 true _ A9.out) ?_; intro w12 hb; have n0_ := bb BK325 hb; have n1_ := bs HB hb; clear BK325; clear HB; have BK325 := n0_; have HB := n1_; clear n0_ n1_; (try clear hb); (try clear hb2); (try clear hk); (try clear hi); obtain ⟨hcz13_0, hcz13_1, hcz13_2, hcz13_3, hcz13_4, hcz13_5, hcz13_6, hcz13_7, hcz13_8, hcz13_9, hcz13_10, hfz13_0, hfz13_1, hfz13_2, hfz13_3, hfz13_4, hfz13_5, hfz13_6, hfz13_7, hfz13_8, hfz13_9, hfz13_10⟩ := bc11 BK325))
            go_ret
            exact ⟨re, bw HB⟩
          · replace c10 := Bool.eq_false_iff.mpr c10
            subst c10
            have H1 : (some false) = some r := by rw [if_neg (show ¬ (false = true) by decide)] at H; exact H
            clear H
            have H := H1
            clear H1
            obtain rfl := Option.some.inj H
            obtain ⟨hcz14_0, hcz14_1, hcz14_2, hcz14_3, hcz14_4, hcz14_5, hcz14_6, hcz14_7, hcz14_8, hcz14_9, hcz14_10, hfz14_0, hfz14_1, hfz14_2, hfz14_3, hfz14_4, hfz14_5, hfz14_6, hfz14_7, hfz14_8, hfz14_9, hfz14_10⟩ := bc11 BK325
            go_wp2_with (first | ((with_reducible refine gate_callee (f := 52) rfl ?_); refine gm (some 19) Tryd.func52 #[.agg #[.int .i64 a0_3, .int .u64 a0_4, .int .u64 a0_5, .int .u64 a0_6, .int .u64 a0_7]] (turnstileref06_Valid.calls a0_3 a0_4 a0_5 a0_6 a0_7 false _ A9.out) ?_; intro w15 hb; have n0_ := bb BK325 hb; have n1_ := bs HB hb; clear BK325; clear HB; have BK325 := n0_; have HB := n1_; clear n0_ n1_; (try clear hb); (try clear hb2); (try clear hk); (try clear hi)))
            go_ret
            exact ⟨re, bw HB⟩
        · rw [if_neg c8] at H
          have c8b0 : (a0_0 == 1) = false := beq_eq_false_iff_ne.mpr c8
          have c8b1 : (a0_0 != 1) = true := bne_iff_ne.mpr c8
          by_cases c16 : a0_0 = 2
          · rw [if_pos c16] at H
            have c16b0 : (a0_0 == 2) = true := beq_iff_eq.mpr c16
            have c16b1 : (a0_0 != 2) = false := bne_eq_false_iff_eq.mpr c16
            clear c16
            by_cases c17 : (a0_3 == 0 && (a0_4 == 0 && (a0_5 == 0 && (a0_6 == 0 && (a0_7 == 0))))) = true
            · rw [if_pos c17] at H
              have c17b0 : (a0_3 == 0 && (a0_4 == 0 && (a0_5 == 0 && (a0_6 == 0 && (a0_7 == 0))))) = true := c17
              (try (have c17b1 : decide (a0_3 = 0 && (a0_4 == 0 && (a0_5 == 0 && (a0_6 == 0 && (a0_7 == 0))))) = true := by simpa using c17))
              (try (have c17b2 : (a0_3 == 0 && (a0_4 == 0 && (a0_5 == 0 && (a0_6 == 0 && (a0_7 == 0))))) = true := by simpa using c17))
              clear c17
              obtain rfl := Option.some.inj H
              obtain ⟨hcz18_0, hcz18_1, hcz18_2, hcz18_3, hcz18_4, hcz18_5, hcz18_6, hcz18_7, hcz18_8, hcz18_9, hcz18_10, hfz18_0, hfz18_1, hfz18_2, hfz18_3, hfz18_4, hfz18_5, hfz18_6, hfz18_7, hfz18_8, hfz18_9, hfz18_10⟩ := bc11 BK325
              go_wp2
              go_ret
              exact ⟨re, bw HB⟩
            · rw [if_neg c17] at H
              have c17b0 : (a0_3 == 0 && (a0_4 == 0 && (a0_5 == 0 && (a0_6 == 0 && (a0_7 == 0))))) = false := by simpa using c17
              (try (have c17b1 : decide (a0_3 = 0 && (a0_4 == 0 && (a0_5 == 0 && (a0_6 == 0 && (a0_7 == 0))))) = false := by simpa using c17))
              (try (have c17b2 : (a0_3 == 0 && (a0_4 == 0 && (a0_5 == 0 && (a0_6 == 0 && (a0_7 == 0))))) = false := by simpa using c17))
              (try (have c17b3 : ¬ (a0_3 = 0 && (a0_4 == 0 && (a0_5 == 0 && (a0_6 == 0 && (a0_7 == 0))))) := by simpa using c17))
              clear c17
              obtain rfl := Option.some.inj H
              obtain ⟨hcz19_0, hcz19_1, hcz19_2, hcz19_3, hcz19_4, hcz19_5, hcz19_6, hcz19_7, hcz19_8, hcz19_9, hcz19_10, hfz19_0, hfz19_1, hfz19_2, hfz19_3, hfz19_4, hfz19_5, hfz19_6, hfz19_7, hfz19_8, hfz19_9, hfz19_10⟩ := bc11 BK325
              go_wp2
              go_ret
              exact ⟨re, bw HB⟩
          · rw [if_neg c16] at H
            have c16b0 : (a0_0 == 2) = false := beq_eq_false_iff_ne.mpr c16
            have c16b1 : (a0_0 != 2) = true := bne_iff_ne.mpr c16
            by_cases c20 : a0_0 = 3
            · rw [if_pos c20] at H
              have c20b0 : (a0_0 == 3) = true := beq_iff_eq.mpr c20
              have c20b1 : (a0_0 != 3) = false := bne_eq_false_iff_eq.mpr c20
              clear c20
              by_cases c21 : (a0_3 == 0 && (a0_4 == 0 && (a0_5 == 0 && (a0_6 == 0 && (a0_7 == 0))))) = true
              · rw [if_pos c21] at H
                have c21b0 : (a0_3 == 0 && (a0_4 == 0 && (a0_5 == 0 && (a0_6 == 0 && (a0_7 == 0))))) = true := c21
                (try (have c21b1 : decide (a0_3 = 0 && (a0_4 == 0 && (a0_5 == 0 && (a0_6 == 0 && (a0_7 == 0))))) = true := by simpa using c21))
                (try (have c21b2 : (a0_3 == 0 && (a0_4 == 0 && (a0_5 == 0 && (a0_6 == 0 && (a0_7 == 0))))) = true := by simpa using c21))
                clear c21
                by_cases c22 : a0_8 = 0
                · rw [if_pos c22] at H
                  have c22b0 : (a0_8 == 0) = true := beq_iff_eq.mpr c22
                  have c22b1 : (a0_8 != 0) = false := bne_eq_false_iff_eq.mpr c22
                  clear c22
                  (try (have hd23 := c21b0; rw [c22b0] at hd23; (first | rw [Bool.true_and] at hd23 | rw [Bool.and_true] at hd23 | (rw [Bool.not_true] at hd23; rw [Bool.false_or] at hd23) | skip)))
                  (try (have hd24 := c21b1; rw [c22b0] at hd24; (first | rw [Bool.true_and] at hd24 | rw [Bool.and_true] at hd24 | (rw [Bool.not_true] at hd24; rw [Bool.false_or] at hd24) | skip)))
                  (try (have hd25 := c21b2; rw [c22b0] at hd25; (first | rw [Bool.true_and] at hd25 | rw [Bool.and_true] at hd25 | (rw [Bool.not_true] at hd25; rw [Bool.false_or] at hd25) | skip)))
                  obtain rfl := Option.some.inj H
                  obtain ⟨hcz26_0, hcz26_1, hcz26_2, hcz26_3, hcz26_4, hcz26_5, hcz26_6, hcz26_7, hcz26_8, hcz26_9, hcz26_10, hfz26_0, hfz26_1, hfz26_2, hfz26_3, hfz26_4, hfz26_5, hfz26_6, hfz26_7, hfz26_8, hfz26_9, hfz26_10⟩ := bc11 BK325
                  go_wp2
                  go_ret
                  exact ⟨re, bw HB⟩
                · rw [if_neg c22] at H
                  have c22b0 : (a0_8 == 0) = false := beq_eq_false_iff_ne.mpr c22
                  have c22b1 : (a0_8 != 0) = true := bne_iff_ne.mpr c22
                  (try (have hd27 := c21b0; rw [c22b0] at hd27; (first | rw [Bool.true_and] at hd27 | rw [Bool.and_true] at hd27 | (rw [Bool.not_true] at hd27; rw [Bool.false_or] at hd27) | skip)))
                  (try (have hd28 := c21b1; rw [c22b0] at hd28; (first | rw [Bool.true_and] at hd28 | rw [Bool.and_true] at hd28 | (rw [Bool.not_true] at hd28; rw [Bool.false_or] at hd28) | skip)))
                  (try (have hd29 := c21b2; rw [c22b0] at hd29; (first | rw [Bool.true_and] at hd29 | rw [Bool.and_true] at hd29 | (rw [Bool.not_true] at hd29; rw [Bool.false_or] at hd29) | skip)))
                  by_cases c30 : a0_9 = 0
                  · rw [if_pos c30] at H
                    have c30b0 : (a0_9 == 0) = true := beq_iff_eq.mpr c30
                    have c30b1 : (a0_9 != 0) = false := bne_eq_false_iff_eq.mpr c30
                    clear c30
                    (try (have hd31 := c21b0; rw [c30b0] at hd31; (first | rw [Bool.true_and] at hd31 | rw [Bool.and_true] at hd31 | (rw [Bool.not_true] at hd31; rw [Bool.false_or] at hd31) | skip)))
                    (try (have hd32 := c21b1; rw [c30b0] at hd32; (first | rw [Bool.true_and] at hd32 | rw [Bool.and_true] at hd32 | (rw [Bool.not_true] at hd32; rw [Bool.false_or] at hd32) | skip)))
                    (try (have hd33 := c21b2; rw [c30b0] at hd33; (first | rw [Bool.true_and] at hd33 | rw [Bool.and_true] at hd33 | (rw [Bool.not_true] at hd33; rw [Bool.false_or] at hd33) | skip)))
                    (try (have hd34 := hd27; rw [c30b0] at hd34; (first | rw [Bool.true_and] at hd34 | rw [Bool.and_true] at hd34 | (rw [Bool.not_true] at hd34; rw [Bool.false_or] at hd34) | skip)))
                    (try (have hd35 := hd28; rw [c30b0] at hd35; (first | rw [Bool.true_and] at hd35 | rw [Bool.and_true] at hd35 | (rw [Bool.not_true] at hd35; rw [Bool.false_or] at hd35) | skip)))
                    (try (have hd36 := hd29; rw [c30b0] at hd36; (first | rw [Bool.true_and] at hd36 | rw [Bool.and_true] at hd36 | (rw [Bool.not_true] at hd36; rw [Bool.false_or] at hd36) | skip)))
                    obtain rfl := Option.some.inj H
                    obtain ⟨hcz37_0, hcz37_1, hcz37_2, hcz37_3, hcz37_4, hcz37_5, hcz37_6, hcz37_7, hcz37_8, hcz37_9, hcz37_10, hfz37_0, hfz37_1, hfz37_2, hfz37_3, hfz37_4, hfz37_5, hfz37_6, hfz37_7, hfz37_8, hfz37_9, hfz37_10⟩ := bc11 BK325
                    go_wp2
                    go_ret
                    exact ⟨re, bw HB⟩
                  · rw [if_neg c30] at H
                    have c30b0 : (a0_9 == 0) = false := beq_eq_false_iff_ne.mpr c30
                    have c30b1 : (a0_9 != 0) = true := bne_iff_ne.mpr c30
                    (try (have hd38 := c21b0; rw [c30b0] at hd38; (first | rw [Bool.true_and] at hd38 | rw [Bool.and_true] at hd38 | (rw [Bool.not_true] at hd38; rw [Bool.false_or] at hd38) | skip)))
                    (try (have hd39 := c21b1; rw [c30b0] at hd39; (first | rw [Bool.true_and] at hd39 | rw [Bool.and_true] at hd39 | (rw [Bool.not_true] at hd39; rw [Bool.false_or] at hd39) | skip)))
                    (try (have hd40 := c21b2; rw [c30b0] at hd40; (first | rw [Bool.true_and] at hd40 | rw [Bool.and_true] at hd40 | (rw [Bool.not_true] at hd40; rw [Bool.false_or] at hd40) | skip)))
                    (try (have hd41 := hd27; rw [c30b0] at hd41; (first | rw [Bool.true_and] at hd41 | rw [Bool.and_true] at hd41 | (rw [Bool.not_true] at hd41; rw [Bool.false_or] at hd41) | skip)))
                    (try (have hd42 := hd28; rw [c30b0] at hd42; (first | rw [Bool.true_and] at hd42 | rw [Bool.and_true] at hd42 | (rw [Bool.not_true] at hd42; rw [Bool.false_or] at hd42) | skip)))
                    (try (have hd43 := hd29; rw [c30b0] at hd43; (first | rw [Bool.true_and] at hd43 | rw [Bool.and_true] at hd43 | (rw [Bool.not_true] at hd43; rw [Bool.false_or] at hd43) | skip)))
                    obtain rfl := Option.some.inj H
                    obtain ⟨hcz44_0, hcz44_1, hcz44_2, hcz44_3, hcz44_4, hcz44_5, hcz44_6, hcz44_7, hcz44_8, hcz44_9, hcz44_10, hfz44_0, hfz44_1, hfz44_2, hfz44_3, hfz44_4, hfz44_5, hfz44_6, hfz44_7, hfz44_8, hfz44_9, hfz44_10⟩ := bc11 BK325
                    go_wp2
                    go_ret
                    exact ⟨re, bw HB⟩
              · rw [if_neg c21] at H
                have c21b0 : (a0_3 == 0 && (a0_4 == 0 && (a0_5 == 0 && (a0_6 == 0 && (a0_7 == 0))))) = false := by simpa using c21
                (try (have c21b1 : decide (a0_3 = 0 && (a0_4 == 0 && (a0_5 == 0 && (a0_6 == 0 && (a0_7 == 0))))) = false := by simpa using c21))
                (try (have c21b2 : (a0_3 == 0 && (a0_4 == 0 && (a0_5 == 0 && (a0_6 == 0 && (a0_7 == 0))))) = false := by simpa using c21))
                (try (have c21b3 : ¬ (a0_3 = 0 && (a0_4 == 0 && (a0_5 == 0 && (a0_6 == 0 && (a0_7 == 0))))) := by simpa using c21))
                clear c21
                obtain rfl := Option.some.inj H
                obtain ⟨hcz45_0, hcz45_1, hcz45_2, hcz45_3, hcz45_4, hcz45_5, hcz45_6, hcz45_7, hcz45_8, hcz45_9, hcz45_10, hfz45_0, hfz45_1, hfz45_2, hfz45_3, hfz45_4, hfz45_5, hfz45_6, hfz45_7, hfz45_8, hfz45_9, hfz45_10⟩ := bc11 BK325
                go_wp2
                go_ret
                exact ⟨re, bw HB⟩
            · rw [if_neg c20] at H
              have c20b0 : (a0_0 == 3) = false := beq_eq_false_iff_ne.mpr c20
              have c20b1 : (a0_0 != 3) = true := bne_iff_ne.mpr c20
              obtain rfl := Option.some.inj H
              obtain ⟨hcz46_0, hcz46_1, hcz46_2, hcz46_3, hcz46_4, hcz46_5, hcz46_6, hcz46_7, hcz46_8, hcz46_9, hcz46_10, hfz46_0, hfz46_1, hfz46_2, hfz46_3, hfz46_4, hfz46_5, hfz46_6, hfz46_7, hfz46_8, hfz46_9, hfz46_10⟩ := bc11 BK325
              go_wp2
              go_ret
              exact ⟨re, bw HB⟩

end Go.Proofs.YtkgjepmminmjjaaDoor.E
