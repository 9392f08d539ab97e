/- Written by the session's own program hyb.py: what functions of the program compute; Lean checks it. -/
import Derived.Test.YtdoifmefhofnnaaDx0
import Derived.Test.YtdoifmefhofnnaaDx13
import Derived.Test.YtdoifmefhofnnaaWMaps
namespace Go.Proofs.Ytdoifmefhofnnaa.D
open Go.RowKit Go.Proofs.YtdoifmefhofnnaaW.PrintWords Go.Proofs.YtdoifmefhofnnaaW.PrintLast Go.Proofs.YtdoifmefhofnnaaW.PrintMore Go.Proofs.YtdoifmefhofnnaaW.PrintShort
attribute [local go_sem] run_Add64 run_Sub64
attribute [local go_sem] max2_int min2_int max_two min_two max_three min_three max_four min_four   -- for this text's walks alone
set_option linter.unusedVariables false
set_option linter.unusedSimpArgs false

/-! ### window_Retry: function 70 -/
-- NEEDS WMaps
def window_Retry.try_ (k : Nat) (a0 a1 a2 a3 a4 a5 x : Int) : Option (Option Int) := (window_start.f a1 x).bind fun s => (if s.2 = true then (if x < a2 then (some none) else (if s.1 < a4 then (some none) else ((window_Admit.f k a0 a1 a2 a3 s.1 a5).bind fun t => (if t.2.2 = true then (some (some s.1)) else (some none))))) else (some none))
def window_Retry.last (o : Option Int) : Option Int := match o with | some t => some t | none => some 18446744073709551615
def window_Retry.rem1 (k : Nat) (a0 a1 a2 a3 a4 a5 x : Int) : Option Int := (window_Retry.try_ k a0 a1 a2 a3 a4 a5 x).bind fun o => window_Retry.last o
def window_Retry.then_ (k : Nat) (a0 a1 a2 a3 a4 a5 x : Int) (o : Option Int) : Option Int := match o with | some t => some t | none => window_Retry.rem1 k a0 a1 a2 a3 a4 a5 x
def window_Retry.rem0 (k : Nat) (a0 a1 a2 a3 a4 a5 x : Int) : Option Int := (window_Retry.try_ k a0 a1 a2 a3 a4 a5 a2).bind fun o => window_Retry.then_ k a0 a1 a2 a3 a4 a5 x o
def window_Retry.f (k : Nat) (a0 : Int) (a1 : Int) (a2 : Int) (a3 : Int) (a4 : Int) (a5 : Int) : Option (Int) := (window_Admit.f k a0 a1 a2 a3 a4 a5).bind fun t => (if t.2.2 = true then (some a4) else (if a1 = 0 then (some 18446744073709551615) else (window_Retry.rem0 k a0 a1 a2 a3 a4 a5 (IntKind.u64.wrap (a2 + 1)))))
theorem window_Retry.try_mono (a0 a1 a2 a3 a4 a5 x : Int) (k : Nat) : LeO (window_Retry.try_ k a0 a1 a2 a3 a4 a5 x) (window_Retry.try_ (k + 1) a0 a1 a2 a3 a4 a5 x) := by
  unfold window_Retry.try_
  exact LeO.bind (LeO.refl _) (fun s => LeO.ite (LeO.ite (LeO.refl _) (LeO.ite (LeO.refl _) (LeO.bind (window_Admit.mono _ _ _ _ _ _ _) (fun _ => LeO.refl _)))) (LeO.refl _))
theorem window_Retry.mono : ∀ a0 a1 a2 a3 a4 a5 k, LeO (window_Retry.f k a0 a1 a2 a3 a4 a5) (window_Retry.f (k + 1) a0 a1 a2 a3 a4 a5) := by
  intro a0 a1 a2 a3 a4 a5 k
  unfold window_Retry.f
  refine LeO.bind (window_Admit.mono _ _ _ _ _ _ _) (fun t => LeO.ite (LeO.refl _) (LeO.ite (LeO.refl _) ?_))
  unfold window_Retry.rem0
  refine LeO.bind (window_Retry.try_mono _ _ _ _ _ _ _ _) (fun o => ?_)
  cases o with
  | some t => exact LeO.refl _
  | none =>
    show LeO (window_Retry.rem1 _ _ _ _ _ _ _ _) (window_Retry.rem1 _ _ _ _ _ _ _ _)
    unfold window_Retry.rem1
    exact LeO.bind (window_Retry.try_mono _ _ _ _ _ _ _ _) (fun o => LeO.refl _)
set_option maxHeartbeats 1600000 in
set_option maxRecDepth 100000 in
theorem window_Retry.calls (k : Nat) (a0 : Int) (a1 : Int) (a2 : Int) (a3 : Int) (a4 : Int) (a5 : Int) (r : Int) (w : World) (h : window_Retry.f k a0 a1 a2 a3 a4 a5 = some r) :
    Calls Try.prog 70 #[.int .u64 a0, .int .u64 a1, .int .u64 a2, .int .u64 a3, .int .u64 a4, .int .u64 a5] w fun e w' => e = .returned (.int .u64 r) ∧ Drawn0 w w' := by
  unfold window_Retry.f at h
  obtain ⟨⟨t1, t2, t3⟩, A0, H⟩ := Option.bind_eq_some_iff.mp h
  dsimp only at H
  clear h
  have A := Aside0.mk A0
  clear A0
  cases t3 with
  | true =>
    rw [if_pos rfl] at H
    obtain rfl := Option.some.inj H
    clear H
    go_enter Try.func70, Try.ntmps70
    go_wp2_with (first | (go_at_call 68; (with_reducible refine (window_Admit.calls k a0 a1 a2 a3 a4 a5 t1 t2 true _ A.out).mono ?_); rintro e w' ⟨rfl, ⟨nd, rfl⟩⟩))
    go_ret
    exact ⟨rfl, by repeat (first | exact Drawn0.refl _ | apply Drawn0.step)⟩
  | false =>
    rw [if_neg (by decide)] at H
    by_cases c1 : a1 = 0
    · rw [if_pos c1] at H
      obtain rfl := Option.some.inj H
      clear H
      have c1b : (a1 == 0) = true := beq_iff_eq.mpr c1
      clear c1
      go_enter Try.func70, Try.ntmps70
      go_wp2_with (first | (go_at_call 68; (with_reducible refine (window_Admit.calls k a0 a1 a2 a3 a4 a5 t1 t2 false _ A.out).mono ?_); rintro e w' ⟨rfl, ⟨nd, rfl⟩⟩))
      go_ret
      exact ⟨rfl, by repeat (first | exact Drawn0.refl _ | apply Drawn0.step)⟩
    · rw [if_neg c1] at H
      have c1b : (a1 == 0) = false := beq_eq_false_iff_ne.mpr c1
      clear c1
      have H := Aside0.mk H
      go_enter Try.func70, Try.ntmps70
      go_wp2_with (first | (go_at_call 68; (with_reducible refine (window_Admit.calls k a0 a1 a2 a3 a4 a5 t1 t2 false _ A.out).mono ?_); rintro e w' ⟨rfl, ⟨nd, rfl⟩⟩))
      clear c1b A
      generalize IntKind.u64.wrap (a2 + 1) = x1 at *
      go_loopw [42] (fun v42 wr => ∃ j : Nat, v42 = .int .i64 (j : Int) ∧ j ≤ 2 ∧ Aside0 ((match j with | 0 => window_Retry.rem0 k a0 a1 a2 a3 a4 a5 x1 | 1 => window_Retry.rem1 k a0 a1 a2 a3 a4 a5 x1 | _ => some 18446744073709551615) = some r) ∧ Drawn0 w wr) (fun v42 _ => 2 - (intOf v42).toNat)
      case atStart => exact ⟨0, rfl, by omega, H, by repeat (first | exact Drawn0.refl _ | apply Drawn0.step)⟩
      case round =>
        obtain ⟨j, rfl, hj, HR, hd⟩ := hrel
        obtain rfl | rfl | rfl : j = 0 ∨ j = 1 ∨ j = 2 := by omega
        · have i0 : ∀ w, (Instr.index 137 (.agg #[.int .u64 a2, .int .u64 x1]) (.int .i64 0)).run Try.prog w = .ok (.int .u64 a2) w := fun _ => by kernel_rfl
          have H := HR.out
          clear HR
          change window_Retry.rem0 k a0 a1 a2 a3 a4 a5 x1 = some r at H
          unfold window_Retry.rem0 window_Retry.try_ at H
          obtain ⟨o, H, H2⟩ := Option.bind_eq_some_iff.mp H
          obtain ⟨⟨s1, s2⟩, AS, H⟩ := Option.bind_eq_some_iff.mp H
          dsimp only at H
          have AS := Aside0.mk AS
          cases s2 with
          | false =>
            rw [if_neg (by decide)] at H
            obtain rfl := Option.some.inj H
            have H2 := Aside0.mk H2
            clear H
            go_wp2_with (first | (go_at_call 78; (with_reducible refine (window_start.calls a1 a2 s1 false _ AS.out).mono ?_); rintro e w' ⟨rfl, ⟨nd, rfl⟩⟩))
            go_roundw
            case rel => exact ⟨1, rfl, by omega, ⟨H2.out⟩, by repeat (first | exact hd | apply Drawn0.step)⟩
            case measure => simp [intOf]
          | true =>
            rw [if_pos rfl] at H
            by_cases c2 : a2 < a2
            · rw [if_pos c2] at H
              omega
            · rw [if_neg c2] at H
              have c2b : decide (a2 < a2) = false := decide_eq_false c2
              clear c2
              by_cases c3 : s1 < a4
              · rw [if_pos c3] at H
                obtain rfl := Option.some.inj H
                have H2 := Aside0.mk H2
                clear H
                have c3b : decide (s1 < a4) = true := decide_eq_true c3
                clear c3
                go_wp2_with (first | (go_at_call 78; (with_reducible refine (window_start.calls a1 a2 s1 true _ AS.out).mono ?_); rintro e w' ⟨rfl, ⟨nd, rfl⟩⟩))
                go_roundw
                case rel => exact ⟨1, rfl, by omega, ⟨H2.out⟩, by repeat (first | exact hd | apply Drawn0.step)⟩
                case measure => simp [intOf]
              · rw [if_neg c3] at H
                have c3b : decide (s1 < a4) = false := decide_eq_false c3
                clear c3
                obtain ⟨⟨m1, m2, m3⟩, AM, H⟩ := Option.bind_eq_some_iff.mp H
                dsimp only at H
                have AM := Aside0.mk AM
                cases m3 with
                | true =>
                  rw [if_pos rfl] at H
                  obtain rfl := Option.some.inj H
                  change some s1 = some r at H2
                  obtain rfl := Option.some.inj H2
                  clear H H2
                  go_wp2_with (first | (go_at_call 78; (with_reducible refine (window_start.calls a1 a2 s1 true _ AS.out).mono ?_); rintro e w' ⟨rfl, ⟨nd, rfl⟩⟩) | (go_at_call 68; (with_reducible refine (window_Admit.calls k a0 a1 a2 a3 s1 a5 m1 m2 true _ AM.out).mono ?_); rintro e w' ⟨rfl, ⟨nd, rfl⟩⟩))
                  go_ret
                  exact ⟨rfl, by repeat (first | exact hd | apply Drawn0.step)⟩
                | false =>
                  rw [if_neg (by decide)] at H
                  obtain rfl := Option.some.inj H
                  have H2 := Aside0.mk H2
                  clear H
                  go_wp2_with (first | (go_at_call 78; (with_reducible refine (window_start.calls a1 a2 s1 true _ AS.out).mono ?_); rintro e w' ⟨rfl, ⟨nd, rfl⟩⟩) | (go_at_call 68; (with_reducible refine (window_Admit.calls k a0 a1 a2 a3 s1 a5 m1 m2 false _ AM.out).mono ?_); rintro e w' ⟨rfl, ⟨nd, rfl⟩⟩))
                  go_roundw
                  case rel => exact ⟨1, rfl, by omega, ⟨H2.out⟩, by repeat (first | exact hd | apply Drawn0.step)⟩
                  case measure => simp [intOf]
        · have i0 : ∀ w, (Instr.index 137 (.agg #[.int .u64 a2, .int .u64 x1]) (.int .i64 1)).run Try.prog w = .ok (.int .u64 x1) w := fun _ => by kernel_rfl
          have H := HR.out
          clear HR
          change window_Retry.rem1 k a0 a1 a2 a3 a4 a5 x1 = some r at H
          unfold window_Retry.rem1 window_Retry.try_ at H
          obtain ⟨o, H, H2⟩ := Option.bind_eq_some_iff.mp H
          obtain ⟨⟨s1, s2⟩, AS, H⟩ := Option.bind_eq_some_iff.mp H
          dsimp only at H
          have AS := Aside0.mk AS
          cases s2 with
          | false =>
            rw [if_neg (by decide)] at H
            obtain rfl := Option.some.inj H
            have H2 := Aside0.mk H2
            clear H
            go_wp2_with (first | (go_at_call 78; (with_reducible refine (window_start.calls a1 x1 s1 false _ AS.out).mono ?_); rintro e w' ⟨rfl, ⟨nd, rfl⟩⟩))
            go_roundw
            case rel => exact ⟨2, rfl, by omega, ⟨H2.out⟩, by repeat (first | exact hd | apply Drawn0.step)⟩
            case measure => simp [intOf]
          | true =>
            rw [if_pos rfl] at H
            by_cases c2 : x1 < a2
            · rw [if_pos c2] at H
              obtain rfl := Option.some.inj H
              have H2 := Aside0.mk H2
              clear H
              have c2b : decide (x1 < a2) = true := decide_eq_true c2
              clear c2
              go_wp2_with (first | (go_at_call 78; (with_reducible refine (window_start.calls a1 x1 s1 true _ AS.out).mono ?_); rintro e w' ⟨rfl, ⟨nd, rfl⟩⟩))
              go_roundw
              case rel => exact ⟨2, rfl, by omega, ⟨H2.out⟩, by repeat (first | exact hd | apply Drawn0.step)⟩
              case measure => simp [intOf]
            · rw [if_neg c2] at H
              have c2b : decide (x1 < a2) = false := decide_eq_false c2
              clear c2
              by_cases c3 : s1 < a4
              · rw [if_pos c3] at H
                obtain rfl := Option.some.inj H
                have H2 := Aside0.mk H2
                clear H
                have c3b : decide (s1 < a4) = true := decide_eq_true c3
                clear c3
                go_wp2_with (first | (go_at_call 78; (with_reducible refine (window_start.calls a1 x1 s1 true _ AS.out).mono ?_); rintro e w' ⟨rfl, ⟨nd, rfl⟩⟩))
                go_roundw
                case rel => exact ⟨2, rfl, by omega, ⟨H2.out⟩, by repeat (first | exact hd | apply Drawn0.step)⟩
                case measure => simp [intOf]
              · rw [if_neg c3] at H
                have c3b : decide (s1 < a4) = false := decide_eq_false c3
                clear c3
                obtain ⟨⟨m1, m2, m3⟩, AM, H⟩ := Option.bind_eq_some_iff.mp H
                dsimp only at H
                have AM := Aside0.mk AM
                cases m3 with
                | true =>
                  rw [if_pos rfl] at H
                  obtain rfl := Option.some.inj H
                  change some s1 = some r at H2
                  obtain rfl := Option.some.inj H2
                  clear H H2
                  go_wp2_with (first | (go_at_call 78; (with_reducible refine (window_start.calls a1 x1 s1 true _ AS.out).mono ?_); rintro e w' ⟨rfl, ⟨nd, rfl⟩⟩) | (go_at_call 68; (with_reducible refine (window_Admit.calls k a0 a1 a2 a3 s1 a5 m1 m2 true _ AM.out).mono ?_); rintro e w' ⟨rfl, ⟨nd, rfl⟩⟩))
                  go_ret
                  exact ⟨rfl, by repeat (first | exact hd | apply Drawn0.step)⟩
                | false =>
                  rw [if_neg (by decide)] at H
                  obtain rfl := Option.some.inj H
                  have H2 := Aside0.mk H2
                  clear H
                  go_wp2_with (first | (go_at_call 78; (with_reducible refine (window_start.calls a1 x1 s1 true _ AS.out).mono ?_); rintro e w' ⟨rfl, ⟨nd, rfl⟩⟩) | (go_at_call 68; (with_reducible refine (window_Admit.calls k a0 a1 a2 a3 s1 a5 m1 m2 false _ AM.out).mono ?_); rintro e w' ⟨rfl, ⟨nd, rfl⟩⟩))
                  go_roundw
                  case rel => exact ⟨2, rfl, by omega, ⟨H2.out⟩, by repeat (first | exact hd | apply Drawn0.step)⟩
                  case measure => simp [intOf]
        · have H := HR.out
          change some 18446744073709551615 = some r at H
          obtain rfl := Option.some.inj H
          clear H HR
          go_wp2
          go_ret
          exact ⟨rfl, by repeat (first | exact hd | apply Drawn0.step)⟩

/-! ### policy_rules_10: function 69 -/
def policy_rules_10.f (k : Nat) (a0_0 : Int) (a0_1 : Int) (a0_2 : Int) (a0_3 : Int) (a0_4 : Int) (a1_0 : Int) (a1_1 : Int) (a1_2 : Int) (a2 : Int) (a3 : Int) : Option (Int) := (window_Retry.f k a0_3 a0_4 a1_1 a1_2 a2 a3).bind fun t210 => (some t210)
theorem policy_rules_10.mono : ∀ a0 a1 a2 a3 a4 a5 a6 a7 a8 a9 k, LeO (policy_rules_10.f k a0 a1 a2 a3 a4 a5 a6 a7 a8 a9) (policy_rules_10.f (k + 1) a0 a1 a2 a3 a4 a5 a6 a7 a8 a9) := by
  intro a0 a1 a2 a3 a4 a5 a6 a7 a8 a9 k
  unfold policy_rules_10.f
  repeat' first
      | (with_reducible exact window_Retry.mono _ _ _ _ _ _ _)
      | (with_reducible exact LeO.refl _)
      | (with_reducible exact LeO.none _)
      | (with_reducible refine LeO.ite ?_ ?_)
      | (with_reducible refine LeO.bind ?_ (fun _ => ?_))
      | exact window_Retry.mono _ _ _ _ _ _ _
      | exact LeO.none _
      | refine LeO.ite ?_ ?_
      | refine LeO.bind ?_ (fun _ => ?_)
set_option maxHeartbeats 8000000 in
set_option maxRecDepth 100000 in
theorem policy_rules_10.calls (k : Nat) (a0_0 : Int) (a0_1 : Int) (a0_2 : Int) (a0_3 : Int) (a0_4 : Int) (a1_0 : Int) (a1_1 : Int) (a1_2 : Int) (a2 : Int) (a3 : Int) (r : Int) (w : World) (h : policy_rules_10.f k a0_0 a0_1 a0_2 a0_3 a0_4 a1_0 a1_1 a1_2 a2 a3 = some r) :
    Calls Try.prog 69 #[.agg #[.int .i64 a0_0, .int .u64 a0_1, .int .u64 a0_2, .int .u64 a0_3, .int .u64 a0_4], .agg #[.int .u64 a1_0, .int .u64 a1_1, .int .u64 a1_2], .int .u64 a2, .int .u64 a3] w fun e w' => e = .returned (.int .u64 r) ∧ Below w.heap.size w w' := by
  have hu24 := Try.underlying24
  have hu40 := Try.underlying40
  have HB := Aside0.mk (Below.refl w.heap.size w)
  have H : ((window_Retry.f k a0_3 a0_4 a1_1 a1_2 a2 a3).bind fun t210 => (some t210)) = some r := h
  clear h
  replace H := Option.bind_eq_some_iff.mp H
  obtain ⟨t210, A50, H⟩ := H
  replace H : (some t210) = some r := H
  have A5 := Aside0.mk A50
  clear A50
  obtain rfl := Option.some.inj H
  go_enter Try.func69, Try.ntmps69
  go_wp2_with (first | ((with_reducible refine gate_dst (N := 4) rfl ?_); refine bx 4 #[.int .i64 a0_0, .int .u64 a0_1, .int .u64 a0_2, .int .u64 a0_3, .int .u64 a0_4] 24 ?_; intro gb208 hg w6 hbox hb; have n0_ := bs HB hb; have n1_ := Aside0.mk (hbox); have n2_ := sz HB hg; have n3_ := sz HB hg; clear HB; have HB := n0_; have BK208 := n1_; have GW208 := n2_; have GE208 := n3_; clear n0_ n1_ n2_ n3_; clear hb hbox hg) | ((with_reducible refine gate_dst (N := 5) rfl ?_); refine bx 5 #[.int .u64 a1_0, .int .u64 a1_1, .int .u64 a1_2] 40 ?_; intro gb209 hg w7 hbox hb; have n0_ := bb BK208 hb; have n1_ := bs HB hb; have n2_ := Aside0.mk (hbox); have n3_ := sz HB hg; have n4_ := sz HB hg; have n5_ := nl BK208 hg; have n6_ := nr BK208 hg; clear BK208; clear HB; have BK208 := n0_; have HB := n1_; have BK209 := n2_; have GW209 := n3_; have GE209 := n4_; have NB208_209 := n5_; have NB209_208 := n6_; clear n0_ n1_ n2_ n3_ n4_ n5_ n6_; clear hb hbox hg; have hnb8 := NB208_209.out; have hnc8 := NB209_208.out; obtain ⟨hcz9_0, hcz9_1, hcz9_2, hcz9_3, hcz9_4, hfz9_0, hfz9_1, hfz9_2, hfz9_3, hfz9_4⟩ := bc5 BK208; obtain ⟨hcz10_0, hcz10_1, hcz10_2, hfz10_0, hfz10_1, hfz10_2⟩ := bc3 BK209) | ((with_reducible refine gate_callee (f := 70) rfl ?_); refine gl (some 19) Try.func70 #[.int .u64 a0_3, .int .u64 a0_4, .int .u64 a1_1, .int .u64 a1_2, .int .u64 a2, .int .u64 a3] ?_; (with_reducible refine (window_Retry.calls k a0_3 a0_4 a1_1 a1_2 a2 a3 t210 _ A5.out).mono ?_); rintro e w' ⟨rfl, ⟨nd, rfl⟩⟩; refine ⟨_, rfl, ?_⟩))
  go_ret
  exact ⟨re, bw HB⟩

/-! ### policy_rules_11: function 71 -/
def policy_rules_11.f (a0_0 : Int) (a0_1 : Int) (a0_2 : Int) (a0_3 : Int) (a0_4 : Int) (a1_0 : Int) (a1_1 : Int) (a1_2 : Int) (a2 : Int) : Option (Int) := (window_Left.f a0_3 a0_4 a1_1 a1_2 a2).bind fun t213 => (some t213)
set_option maxHeartbeats 8000000 in
set_option maxRecDepth 100000 in
theorem policy_rules_11.calls (a0_0 : Int) (a0_1 : Int) (a0_2 : Int) (a0_3 : Int) (a0_4 : Int) (a1_0 : Int) (a1_1 : Int) (a1_2 : Int) (a2 : Int) (r : Int) (w : World) (h : policy_rules_11.f a0_0 a0_1 a0_2 a0_3 a0_4 a1_0 a1_1 a1_2 a2 = some r) :
    Calls Try.prog 71 #[.agg #[.int .i64 a0_0, .int .u64 a0_1, .int .u64 a0_2, .int .u64 a0_3, .int .u64 a0_4], .agg #[.int .u64 a1_0, .int .u64 a1_1, .int .u64 a1_2], .int .u64 a2] w fun e w' => e = .returned (.int .u64 r) ∧ Below w.heap.size w w' := by
  have hu24 := Try.underlying24
  have hu40 := Try.underlying40
  have HB := Aside0.mk (Below.refl w.heap.size w)
  have H : ((window_Left.f a0_3 a0_4 a1_1 a1_2 a2).bind fun t213 => (some t213)) = some r := h
  clear h
  replace H := Option.bind_eq_some_iff.mp H
  obtain ⟨t213, A40, H⟩ := H
  replace H : (some t213) = some r := H
  have A4 := Aside0.mk A40
  clear A40
  obtain rfl := Option.some.inj H
  go_enter Try.func71, Try.ntmps71
  go_wp2_with (first | ((with_reducible refine gate_dst (N := 3) rfl ?_); refine bx 3 #[.int .i64 a0_0, .int .u64 a0_1, .int .u64 a0_2, .int .u64 a0_3, .int .u64 a0_4] 24 ?_; intro gb211 hg w5 hbox hb; have n0_ := bs HB hb; have n1_ := Aside0.mk (hbox); have n2_ := sz HB hg; have n3_ := sz HB hg; clear HB; have HB := n0_; have BK211 := n1_; have GW211 := n2_; have GE211 := n3_; clear n0_ n1_ n2_ n3_; clear hb hbox hg) | ((with_reducible refine gate_dst (N := 4) rfl ?_); refine bx 4 #[.int .u64 a1_0, .int .u64 a1_1, .int .u64 a1_2] 40 ?_; intro gb212 hg w6 hbox hb; have n0_ := bb BK211 hb; have n1_ := bs HB hb; have n2_ := Aside0.mk (hbox); have n3_ := sz HB hg; have n4_ := sz HB hg; have n5_ := nl BK211 hg; have n6_ := nr BK211 hg; clear BK211; clear HB; have BK211 := n0_; have HB := n1_; have BK212 := n2_; have GW212 := n3_; have GE212 := n4_; have NB211_212 := n5_; have NB212_211 := n6_; clear n0_ n1_ n2_ n3_ n4_ n5_ n6_; clear hb hbox hg; have hnb7 := NB211_212.out; have hnc7 := NB212_211.out; obtain ⟨hcz8_0, hcz8_1, hcz8_2, hcz8_3, hcz8_4, hfz8_0, hfz8_1, hfz8_2, hfz8_3, hfz8_4⟩ := bc5 BK211; obtain ⟨hcz9_0, hcz9_1, hcz9_2, hfz9_0, hfz9_1, hfz9_2⟩ := bc3 BK212) | ((with_reducible refine gate_callee (f := 72) rfl ?_); refine gl (some 16) Try.func72 #[.int .u64 a0_3, .int .u64 a0_4, .int .u64 a1_1, .int .u64 a1_2, .int .u64 a2] ?_; (with_reducible refine (window_Left.calls a0_3 a0_4 a1_1 a1_2 a2 t213 _ A4.out).mono ?_); rintro e w' ⟨rfl, ⟨nd, rfl⟩⟩; refine ⟨_, rfl, ?_⟩))
  go_ret
  exact ⟨re, bw HB⟩

/-! ### policy_rules_12: function 73 -/
def policy_rules_12.f (a0_0 : Int) (a0_1 : Int) (a0_2 : Int) (a1_0 : Int) (a1_1 : Int) (a1_2 : Int) : Option (Bool) := if a1_1 < a0_1 then (some true) else (if a1_1 = a0_1 then (some (decide (a1_2 ≤ a0_2))) else (some false))
set_option maxHeartbeats 8000000 in
set_option maxRecDepth 100000 in
theorem policy_rules_12.calls (a0_0 : Int) (a0_1 : Int) (a0_2 : Int) (a1_0 : Int) (a1_1 : Int) (a1_2 : Int) (r : Bool) (w : World) (h : policy_rules_12.f a0_0 a0_1 a0_2 a1_0 a1_1 a1_2 = some r) :
    Calls Try.prog 73 #[.agg #[.int .u64 a0_0, .int .u64 a0_1, .int .u64 a0_2], .agg #[.int .u64 a1_0, .int .u64 a1_1, .int .u64 a1_2]] w fun e w' => e = .returned (.bool r) ∧ Below w.heap.size w w' := by
  have hu40 := Try.underlying40
  have HB := Aside0.mk (Below.refl w.heap.size w)
  have H : (if a1_1 < a0_1 then (some true) else (if a1_1 = a0_1 then (some (decide (a1_2 ≤ a0_2))) else (some false))) = some r := h
  clear h
  by_cases c3 : a1_1 < a0_1
  · rw [if_pos c3] at H
    have c3b0 : decide (a1_1 < a0_1) = true := decide_eq_true c3
    clear c3
    obtain rfl := Option.some.inj H
    go_enter Try.func73, Try.ntmps73
    go_wp2_with (first | ((with_reducible refine gate_dst (N := 2) rfl ?_); refine bx 2 #[.int .u64 a0_0, .int .u64 a0_1, .int .u64 a0_2] 40 ?_; intro gb214 hg w4 hbox hb; have n0_ := bs HB hb; have n1_ := Aside0.mk (hbox); have n2_ := sz HB hg; have n3_ := sz HB hg; clear HB; have HB := n0_; have BK214 := n1_; have GW214 := n2_; have GE214 := n3_; clear n0_ n1_ n2_ n3_; clear hb hbox hg) | ((with_reducible refine gate_dst (N := 3) rfl ?_); refine bx 3 #[.int .u64 a1_0, .int .u64 a1_1, .int .u64 a1_2] 40 ?_; intro gb215 hg w5 hbox hb; have n0_ := bb BK214 hb; have n1_ := bs HB hb; have n2_ := Aside0.mk (hbox); have n3_ := sz HB hg; have n4_ := sz HB hg; have n5_ := nl BK214 hg; have n6_ := nr BK214 hg; clear BK214; clear HB; have BK214 := n0_; have HB := n1_; have BK215 := n2_; have GW215 := n3_; have GE215 := n4_; have NB214_215 := n5_; have NB215_214 := n6_; clear n0_ n1_ n2_ n3_ n4_ n5_ n6_; clear hb hbox hg; have hnb6 := NB215_214.out; have hnc6 := NB214_215.out; obtain ⟨hcz7_0, hcz7_1, hcz7_2, hfz7_0, hfz7_1, hfz7_2⟩ := bc3 BK215; obtain ⟨hcz8_0, hcz8_1, hcz8_2, hfz8_0, hfz8_1, hfz8_2⟩ := bc3 BK214))
    go_ret
    exact ⟨re, bw HB⟩
  · rw [if_neg c3] at H
    have c3b0 : decide (a1_1 < a0_1) = false := decide_eq_false c3
    clear c3
    by_cases c9 : a1_1 = a0_1
    · rw [if_pos c9] at H
      have c9b0 : (a1_1 == a0_1) = true := beq_iff_eq.mpr c9
      have c9b1 : (a1_1 != a0_1) = false := bne_eq_false_iff_eq.mpr c9
      clear c9
      obtain rfl := Option.some.inj H
      go_enter Try.func73, Try.ntmps73
      go_wp2_with (first | ((with_reducible refine gate_dst (N := 2) rfl ?_); refine bx 2 #[.int .u64 a0_0, .int .u64 a0_1, .int .u64 a0_2] 40 ?_; intro gb214 hg w10 hbox hb; have n0_ := bs HB hb; have n1_ := Aside0.mk (hbox); have n2_ := sz HB hg; have n3_ := sz HB hg; clear HB; have HB := n0_; have BK214 := n1_; have GW214 := n2_; have GE214 := n3_; clear n0_ n1_ n2_ n3_; clear hb hbox hg) | ((with_reducible refine gate_dst (N := 3) rfl ?_); refine bx 3 #[.int .u64 a1_0, .int .u64 a1_1, .int .u64 a1_2] 40 ?_; intro gb215 hg w11 hbox hb; have n0_ := bb BK214 hb; have n1_ := bs HB hb; have n2_ := Aside0.mk (hbox); have n3_ := sz HB hg; have n4_ := sz HB hg; have n5_ := nl BK214 hg; have n6_ := nr BK214 hg; clear BK214; clear HB; have BK214 := n0_; have HB := n1_; have BK215 := n2_; have GW215 := n3_; have GE215 := n4_; have NB214_215 := n5_; have NB215_214 := n6_; clear n0_ n1_ n2_ n3_ n4_ n5_ n6_; clear hb hbox hg; have hnb12 := NB215_214.out; have hnc12 := NB214_215.out; obtain ⟨hcz13_0, hcz13_1, hcz13_2, hfz13_0, hfz13_1, hfz13_2⟩ := bc3 BK215; obtain ⟨hcz14_0, hcz14_1, hcz14_2, hfz14_0, hfz14_1, hfz14_2⟩ := bc3 BK214))
      go_ret
      exact ⟨re, bw HB⟩
    · rw [if_neg c9] at H
      have c9b0 : (a1_1 == a0_1) = false := beq_eq_false_iff_ne.mpr c9
      have c9b1 : (a1_1 != a0_1) = true := bne_iff_ne.mpr c9
      obtain rfl := Option.some.inj H
      go_enter Try.func73, Try.ntmps73
      go_wp2_with (first | ((with_reducible refine gate_dst (N := 2) rfl ?_); refine bx 2 #[.int .u64 a0_0, .int .u64 a0_1, .int .u64 a0_2] 40 ?_; intro gb214 hg w15 hbox hb; have n0_ := bs HB hb; have n1_ := Aside0.mk (hbox); have n2_ := sz HB hg; have n3_ := sz HB hg; clear HB; have HB := n0_; have BK214 := n1_; have GW214 := n2_; have GE214 := n3_; clear n0_ n1_ n2_ n3_; clear hb hbox hg) | ((with_reducible refine gate_dst (N := 3) rfl ?_); refine bx 3 #[.int .u64 a1_0, .int .u64 a1_1, .int .u64 a1_2] 40 ?_; intro gb215 hg w16 hbox hb; have n0_ := bb BK214 hb; have n1_ := bs HB hb; have n2_ := Aside0.mk (hbox); have n3_ := sz HB hg; have n4_ := sz HB hg; have n5_ := nl BK214 hg; have n6_ := nr BK214 hg; clear BK214; clear HB; have BK214 := n0_; have HB := n1_; have BK215 := n2_; have GW215 := n3_; have GE215 := n4_; have NB214_215 := n5_; have NB215_214 := n6_; clear n0_ n1_ n2_ n3_ n4_ n5_ n6_; clear hb hbox hg; have hnb17 := NB215_214.out; have hnc17 := NB214_215.out; obtain ⟨hcz18_0, hcz18_1, hcz18_2, hfz18_0, hfz18_1, hfz18_2⟩ := bc3 BK215; obtain ⟨hcz19_0, hcz19_1, hcz19_2, hfz19_0, hfz19_1, hfz19_2⟩ := bc3 BK214))
      go_ret
      exact ⟨re, bw HB⟩

/-! ### policy_rules: function 48 -/
-- NEEDS WMaps
def policy_rules.map : Array MapEntry := #[⟨.int .i64 1, .agg #[.func (.func 56) #[] #[], .func (.func 57) #[] #[], .func (.func 58) #[] #[], .func (.func 60) #[] #[], .func (.func 62) #[] #[], .func (.func 64) #[] #[]], 0⟩, ⟨.int .i64 2, .agg #[.func (.func 65) #[] #[], .func (.func 66) #[] #[], .func (.func 67) #[] #[], .func (.func 69) #[] #[], .func (.func 71) #[] #[], .func (.func 73) #[] #[]], 1⟩]
set_option maxHeartbeats 1600000 in
set_option maxRecDepth 100000 in
theorem policy_rules.calls (w : World) : Calls Try.prog 48 #[] w fun e w' => ∃ g, e = .returned (.map (some g)) ∧ w.heap.size ≤ g ∧ w'.heap[g]? = some (.map policy_rules.map 2) ∧ Below w.heap.size w w' := by
  have hu82 := Try.underlying102
  have HB := Aside0.mk (Below.refl w.heap.size w)
  go_enter Try.func48, Try.ntmps48
  go_wp2_with (first | (with_reducible refine map_event 1 (t := 119) rfl ?_; intro g hg w1 hm hb; have GE : w.heap.size ≤ g := (by rw [hg]; exact Nat.le_refl _); clear hg) | (refine insert_event (w0 := w) (g := g) (t := 119) 1 rfl Try.underlying119 Try.underlying3 rfl rfl hm rfl hb GE ?_; intro w2 hm2 hb2) | (refine insert_event (w0 := w) (g := g) (t := 119) 2 rfl Try.underlying119 Try.underlying3 rfl rfl hm2 rfl hb2 GE ?_; intro w3 hm3 hb3))
  go_ret
  exact ⟨g, rfl, GE, hm3, hb3⟩
theorem policy_rules.look1 {w : World} {g : Nat} (hm : w.heap[g]? = some (.map policy_rules.map 2)) : (Instr.lookup 119 (.map (some g)) (.int .i64 1) true).run Try.prog w = .ok (.tuple #[.agg #[.func (.func 56) #[] #[], .func (.func 57) #[] #[], .func (.func 58) #[] #[], .func (.func 60) #[] #[], .func (.func 62) #[] #[], .func (.func 64) #[] #[]], .bool true]) w :=
  run_lookup_int Try.underlying119 Try.underlying3 hm 1 (i := 0) (by rfl)
theorem policy_rules.look2 {w : World} {g : Nat} (hm : w.heap[g]? = some (.map policy_rules.map 2)) : (Instr.lookup 119 (.map (some g)) (.int .i64 2) true).run Try.prog w = .ok (.tuple #[.agg #[.func (.func 65) #[] #[], .func (.func 66) #[] #[], .func (.func 67) #[] #[], .func (.func 69) #[] #[], .func (.func 71) #[] #[], .func (.func 73) #[] #[]], .bool true]) w :=
  run_lookup_int Try.underlying119 Try.underlying3 hm 2 (i := 1) (by rfl)
theorem policy_rules.look0 {w : World} {g : Nat} (hm : w.heap[g]? = some (.map policy_rules.map 2)) {n : Int} (h1 : n ≠ 1) (h2 : n ≠ 2) : (Instr.lookup 119 (.map (some g)) (.int .i64 n) true).run Try.prog w = .ok (.tuple #[.agg #[.nilFunc, .nilFunc, .nilFunc, .nilFunc, .nilFunc, .nilFunc], .bool false]) w :=
  run_lookup_int_none Try.underlying119 Try.underlying3 hm n (by kernel_rfl) (by
    have e1 : (n == 1) = false := by simpa using h1
    have e2 : (n == 2) = false := by simpa using h2
    show (match some (n == 1) with
      | some true => some (some (0, (Value.agg #[.func (.func 56) #[] #[], .func (.func 57) #[] #[], .func (.func 58) #[] #[], .func (.func 60) #[] #[], .func (.func 62) #[] #[], .func (.func 64) #[] #[]])))
      | some false => (match some (n == 2) with
        | some true => some (some (1, (Value.agg #[.func (.func 65) #[] #[], .func (.func 66) #[] #[], .func (.func 67) #[] #[], .func (.func 69) #[] #[], .func (.func 71) #[] #[], .func (.func 73) #[] #[]])))
        | some false => some none
        | none => none)
      | none => none) = some none
    rw [e1]
    show (match some (n == 2) with
        | some true => some (some (1, (Value.agg #[.func (.func 65) #[] #[], .func (.func 66) #[] #[], .func (.func 67) #[] #[], .func (.func 69) #[] #[], .func (.func 71) #[] #[], .func (.func 73) #[] #[]])))
        | some false => some none
        | none => none) = some none
    rw [e2])
theorem bc6_ {w : World} {g : Nat} {t : TypeId} {a b c d e f : Value} (B : w.heap[g]? = some (.cells #[a, b, c, d, e, f] t (0, 0))) : w.cell? ⟨g, 0, none⟩ = some a ∧ w.cell? ⟨g, 1, none⟩ = some b ∧ w.cell? ⟨g, 2, none⟩ = some c ∧ w.cell? ⟨g, 3, none⟩ = some d ∧ w.cell? ⟨g, 4, none⟩ = some e ∧ w.cell? ⟨g, 5, none⟩ = some f :=
  ⟨(blk_cell B 0).trans rfl, (blk_cell B 1).trans rfl, (blk_cell B 2).trans rfl, (blk_cell B 3).trans rfl, (blk_cell B 4).trans rfl, (blk_cell B 5).trans rfl⟩
theorem bc5_ {w : World} {g : Nat} {t : TypeId} {a b c d e : Value} (B : w.heap[g]? = some (.cells #[a, b, c, d, e] t (0, 0))) : w.cell? ⟨g, 0, none⟩ = some a ∧ w.cell? ⟨g, 1, none⟩ = some b ∧ w.cell? ⟨g, 2, none⟩ = some c ∧ w.cell? ⟨g, 3, none⟩ = some d ∧ w.cell? ⟨g, 4, none⟩ = some e :=
  ⟨(blk_cell B 0).trans rfl, (blk_cell B 1).trans rfl, (blk_cell B 2).trans rfl, (blk_cell B 3).trans rfl, (blk_cell B 4).trans rfl⟩
theorem put6_ {w : World} {g : Nat} {t : TypeId} {a b c d e f a' b' c' d' e' f' : Value} (B : w.heap[g]? = some (.cells #[a, b, c, d, e, f] t (0, 0))) :
    ((((((w.setCell ⟨g, 0, none⟩ a').setCell ⟨g, 1, none⟩ b').setCell ⟨g, 2, none⟩ c').setCell ⟨g, 3, none⟩ d').setCell ⟨g, 4, none⟩ e').setCell ⟨g, 5, none⟩ f').heap[g]? = some (.cells #[a', b', c', d', e', f'] t (0, 0)) :=
  blk_put (blk_put (blk_put (blk_put (blk_put (blk_put B 0 a' rfl) 1 b' rfl) 2 c' rfl) 3 d' rfl) 4 e' rfl) 5 f' rfl
theorem far6_ {w : World} {g g' : Nat} {t : TypeId} {cs : Array Value} {a' b' c' d' e' f' : Value} (B : w.heap[g]? = some (.cells cs t (0, 0))) (h : g ≠ g') :
    ((((((w.setCell ⟨g', 0, none⟩ a').setCell ⟨g', 1, none⟩ b').setCell ⟨g', 2, none⟩ c').setCell ⟨g', 3, none⟩ d').setCell ⟨g', 4, none⟩ e').setCell ⟨g', 5, none⟩ f').heap[g]? = some (.cells cs t (0, 0)) :=
  blk_far (blk_far (blk_far (blk_far (blk_far (blk_far B h _) h _) h _) h _) h _) h _
theorem set6_ {w W : World} {g : Nat} {a' b' c' d' e' f' : Value} (h : Below w.heap.size w W) (hg : w.heap.size ≤ g) :
    Below w.heap.size w ((((((W.setCell ⟨g, 0, none⟩ a').setCell ⟨g, 1, none⟩ b').setCell ⟨g, 2, none⟩ c').setCell ⟨g, 3, none⟩ d').setCell ⟨g, 4, none⟩ e').setCell ⟨g, 5, none⟩ f') :=
  below_set (below_set (below_set (below_set (below_set (below_set h hg) hg) hg) hg) hg) hg
theorem put3_ {w : World} {g : Nat} {t : TypeId} {a b c a' b' c' : Value} (B : w.heap[g]? = some (.cells #[a, b, c] t (0, 0))) : (((w.setCell ⟨g, 0, none⟩ a').setCell ⟨g, 1, none⟩ b').setCell ⟨g, 2, none⟩ c').heap[g]? = some (.cells #[a', b', c'] t (0, 0)) :=
  blk_put (blk_put (blk_put B 0 a' rfl) 1 b' rfl) 2 c' rfl
theorem far3_ {w : World} {g g' : Nat} {t : TypeId} {cs : Array Value} {a' b' c' : Value} (B : w.heap[g]? = some (.cells cs t (0, 0))) (h : g ≠ g') : (((w.setCell ⟨g', 0, none⟩ a').setCell ⟨g', 1, none⟩ b').setCell ⟨g', 2, none⟩ c').heap[g]? = some (.cells cs t (0, 0)) :=
  blk_far (blk_far (blk_far B h _) h _) h _
theorem set3_ {w W : World} {g : Nat} {a' b' c' : Value} (h : Below w.heap.size w W) (hg : w.heap.size ≤ g) : Below w.heap.size w (((W.setCell ⟨g, 0, none⟩ a').setCell ⟨g, 1, none⟩ b').setCell ⟨g, 2, none⟩ c') :=
  below_set (below_set (below_set h hg) hg) hg

end Go.Proofs.Ytdoifmefhofnnaa.D
