/- Written by the session's own program hyb.py: what functions of the program compute; Lean checks it. -/
import Derived.Test.YtkgjepmminmjjaaDoorEx0
import Derived.Test.YtkgjepmminmjjaaDoorEx17
import Derived.Test.YtkgjepmminmjjaaDoorEx25
import Derived.Test.YtkgjepmminmjjaaDoorEx26
import Derived.Test.YtkgjepmminmjjaaDoorEx27
import Derived.Test.YtkgjepmminmjjaaDoorEx29
import Derived.Test.YtkgjepmminmjjaaDoorWErr
namespace Go.Proofs.YtkgjepmminmjjaaDoor.E
open Go.RowKit Go.Proofs.YtkgjepmminmjjaaDoorW.PrintWords Go.Proofs.YtkgjepmminmjjaaDoorW.PrintLast Go.Proofs.YtkgjepmminmjjaaDoorW.PrintMore Go.Proofs.YtkgjepmminmjjaaDoorW.PrintShort
attribute [local go_sem] run_Add64 run_Sub64
attribute [local go_sem] max2_int min2_int max_two min_two max_three min_three max_four min_four   -- for this text's walks alone
set_option linter.unusedVariables false
set_option linter.unusedSimpArgs false

/-! ### turnstilelaw14_ImageUnlike: function 12 -/
mutual
def turnstilelaw14_ImageUnlike.j0 : Nat → Bool → Bool → Int → Int → List (S79) → Int → Int → List (S79) → Option (Bool)
  | 0, _, _, _, _, _, _, _, _ => none
  | k + 1, x5, x20, x419000, x419001, x419002, x420000, x420001, x420002 => if x20 = true then (some x5) else ((turnstilelaw14_copied.f x419000 x419001 x419002).bind fun bt423 => ((image_Encode.f k bt423.1 bt423.2.1 bt423.2.2).bind fun bt428 => ((turnstilelaw14_copied.f x420000 x420001 x420002).bind fun bt432 => ((image_Encode.f k bt432.1 bt432.2.1 bt432.2.2).bind fun bt437 => (if 0 ≤ bt428.2 then (if bt428.2 = 0 then (if 0 ≤ bt437.2 then (turnstilelaw14_ImageUnlike.j1 k bt428.1 bt437.1 (bt437.2 != 0) x419000 x419001 x419002 x420000 x420001 x420002) else (none)) else (turnstilelaw14_ImageUnlike.j1 k bt428.1 bt437.1 true x419000 x419001 x419002 x420000 x420001 x420002)) else (none))))))
def turnstilelaw14_ImageUnlike.j1 : Nat → List Int → List Int → Bool → Int → Int → List (S79) → Int → Int → List (S79) → Option (Bool)
  | 0, _, _, _, _, _, _, _, _, _ => none
  | k + 1, x6, x8, x39, x419000, x419001, x419002, x420000, x420001, x420002 => if x39 = true then (some true) else ((turnstilelaw14_same.f k x6 x8).bind fun t441 => ((turnstilelaw14_alike.f k x419000 x419001 x419002 x420000 x420001 x420002).bind fun t442 => (some (t441 == t442))))
end
def turnstilelaw14_ImageUnlike.f (k : Nat) (a0_0 : Int) (a0_1 : Int) (l0_2 : List (S79)) (a1_0 : Int) (a1_1 : Int) (l1_2 : List (S79)) : Option (Bool) := (turnstilelaw14_awake.f k).bind fun t420 => (if t420 = true then ((turnstilelaw14_wide.f k a0_0 a0_1 l0_2).bind fun t421 => (if t421 = true then (turnstilelaw14_ImageUnlike.j0 k t420 true a0_0 a0_1 l0_2 a1_0 a1_1 l1_2) else ((turnstilelaw14_wide.f k a1_0 a1_1 l1_2).bind fun t422 => (turnstilelaw14_ImageUnlike.j0 k t420 t422 a0_0 a0_1 l0_2 a1_0 a1_1 l1_2)))) else (turnstilelaw14_ImageUnlike.j0 k t420 true a0_0 a0_1 l0_2 a1_0 a1_1 l1_2))
def turnstilelaw14_ImageUnlike.T8 : Bool × List (List Nat × List Nat) := (true, [([], []), ([], []), ([0, 1], [0, 1]), ([], []), ([], []), ([3, 4, 2], [3, 4]), ([2, 5], [2, 5]), ([6, 5, 0, 1, 2, 3, 4, 5, 6], [6])])
def turnstilelaw14_ImageUnlike.B8 : List Nat := [0, 0, 3, 0, 0, 31, 63, 127]
theorem turnstilelaw14_ImageUnlike.tab8 : rtab .any (opsOf Tryd.f12 8) = turnstilelaw14_ImageUnlike.T8 := by kernel_rfl
theorem turnstilelaw14_ImageUnlike.bits8 : waitsOk turnstilelaw14_ImageUnlike.T8.2 turnstilelaw14_ImageUnlike.B8 = true := by kernel_rfl
set_option maxHeartbeats 8000000 in
set_option maxRecDepth 100000 in
theorem turnstilelaw14_ImageUnlike.calls (k : Nat) [Errs] (a0_0 : Int) (a0_1 : Int) (A0_2 : Option Addr) (c0_2 : Nat) (l0_2 : List (S79)) (a1_0 : Int) (a1_1 : Int) (A1_2 : Option Addr) (c1_2 : Nat) (l1_2 : List (S79)) (r : Bool) (w : World) (hE : Sent w) (hr0_2 : Kd.C k79 w A0_2 l0_2.length l0_2) (hc0_2 : l0_2.length ≤ c0_2) (hr1_2 : Kd.C k79 w A1_2 l1_2.length l1_2) (hc1_2 : l1_2.length ≤ c1_2) (h : turnstilelaw14_ImageUnlike.f k a0_0 a0_1 l0_2 a1_0 a1_1 l1_2 = some r) :
    Calls Tryd.prog 12 #[.agg #[.int .u64 a0_0, .int .u64 a0_1, .slice A0_2 l0_2.length c0_2], .agg #[.int .u64 a1_0, .int .u64 a1_1, .slice A1_2 l1_2.length c1_2]] w fun e w' => e = .returned (.bool r) ∧ Below w.heap.size w w' := by
  have hu51 := Tryd.underlying51
  have hu37 := Tryd.underlying37
  have HR0_2 := Aside0.mk hr0_2
  have HC0_2 := Aside0.mk hc0_2
  clear hr0_2 hc0_2
  have HR1_2 := Aside0.mk hr1_2
  have HC1_2 := Aside0.mk hc1_2
  clear hr1_2 hc1_2
  have HERR := Aside0.mk hE
  clear hE
  have HB := Aside0.mk (Below.refl w.heap.size w)
  have H : ((turnstilelaw14_awake.f k).bind fun t420 => (if t420 = true then ((turnstilelaw14_wide.f k a0_0 a0_1 l0_2).bind fun t421 => (if t421 = true then (turnstilelaw14_ImageUnlike.j0 k t420 true a0_0 a0_1 l0_2 a1_0 a1_1 l1_2) else ((turnstilelaw14_wide.f k a1_0 a1_1 l1_2).bind fun t422 => (turnstilelaw14_ImageUnlike.j0 k t420 t422 a0_0 a0_1 l0_2 a1_0 a1_1 l1_2)))) else (turnstilelaw14_ImageUnlike.j0 k t420 true a0_0 a0_1 l0_2 a1_0 a1_1 l1_2))) = some r := h
  clear h
  replace H := Option.bind_eq_some_iff.mp H
  obtain ⟨t420, A30, H⟩ := H
  replace H : (if t420 = true then ((turnstilelaw14_wide.f k a0_0 a0_1 l0_2).bind fun t421 => (if t421 = true then (turnstilelaw14_ImageUnlike.j0 k t420 true a0_0 a0_1 l0_2 a1_0 a1_1 l1_2) else ((turnstilelaw14_wide.f k a1_0 a1_1 l1_2).bind fun t422 => (turnstilelaw14_ImageUnlike.j0 k t420 t422 a0_0 a0_1 l0_2 a1_0 a1_1 l1_2)))) else (turnstilelaw14_ImageUnlike.j0 k t420 true a0_0 a0_1 l0_2 a1_0 a1_1 l1_2)) = some r := H
  have A3 := Aside0.mk A30
  clear A30
  have HC4 := Aside0.mk H
  clear H
  go_enter Tryd.func12, Tryd.ntmps12
  go_upto_region 2 with (first | ((with_reducible refine gate_dst (N := 2) rfl ?_); (try (refine gate_guard (by rfl) ?_; dsimp only)); refine bx 2 #[.int .u64 a0_0, .int .u64 a0_1, .slice A0_2 l0_2.length c0_2] 51 ?_; intro gb418 hg w5 hbox hb; have n0_ := bs HB hb; have n1_ := Aside0.mk (hbox); have n2_ := sz HB hg; have n3_ := sz HB hg; clear HB; have HB := n0_; have BK418 := n1_; have GW418 := n2_; have GE418 := n3_; clear n0_ n1_ n2_ n3_; clear hb hbox hg) | ((with_reducible refine gate_dst (N := 3) rfl ?_); (try (refine gate_guard (by rfl) ?_; dsimp only)); refine bx 3 #[.int .u64 a1_0, .int .u64 a1_1, .slice A1_2 l1_2.length c1_2] 51 ?_; intro gb419 hg w6 hbox hb; have n0_ := bb BK418 hb; have n1_ := bs HB hb; have n2_ := Aside0.mk (hbox); have n3_ := sz HB hg; have n4_ := sz HB hg; have n5_ := nl BK418 hg; have n6_ := nr BK418 hg; clear BK418; clear HB; have BK418 := n0_; have HB := n1_; have BK419 := n2_; have GW419 := n3_; have GE419 := n4_; have NB418_419 := n5_; have NB419_418 := n6_; clear n0_ n1_ n2_ n3_ n4_ n5_ n6_; clear hb hbox hg) | ((with_reducible refine gate_callee (f := 20) rfl ?_); refine gl (some 10) Tryd.func20 #[] ?_; (with_reducible refine (turnstilelaw14_awake.calls k  t420 _ ?side1 A3.out).mono ?_); (case side1 => exact (HERR.out.below (bw HB))); rintro e w7 ⟨rfl, hb⟩; refine ⟨_, rfl, ?_⟩; have n0_ := bb BK418 hb; have n1_ := bb BK419 hb; have n2_ := bs HB hb; clear BK418; clear BK419; clear HB; have BK418 := n0_; have BK419 := n1_; have HB := n2_; clear n0_ n1_ n2_; (try clear hb); (try clear hb2); (try clear hk); (try clear hi)))
  (try simp only [Act.put, List.setIfInBounds_toArray, List.set_cons_zero, List.set_cons_succ])
  go_cut [20] (fun v20 wc => ∃ (kq : Nat) (x20_3 : Bool), v20 = .bool x20_3 ∧ Aside0 (turnstilelaw14_ImageUnlike.j0 kq t420 x20_3 a0_0 a0_1 l0_2 a1_0 a1_1 l1_2 = some r) ∧ Aside0 (kq ≤ k) ∧ Aside0 (wc.heap[gb418]? = some (.cells #[.int .u64 a0_0, .int .u64 a0_1, (.slice A0_2 l0_2.length c0_2)] 51 (0, 0))) ∧ Aside0 (wc.heap[gb419]? = some (.cells #[.int .u64 a1_0, .int .u64 a1_1, (.slice A1_2 l1_2.length c1_2)] 51 (0, 0))) ∧ Aside0 (Below w.heap.size w wc))
  case first =>
    have H := HC4.out
    clear HC4
    by_cases c8 : t420 = true
    · subst c8
      have H1 : ((turnstilelaw14_wide.f k a0_0 a0_1 l0_2).bind fun t421 => (if t421 = true then (turnstilelaw14_ImageUnlike.j0 k true true a0_0 a0_1 l0_2 a1_0 a1_1 l1_2) else ((turnstilelaw14_wide.f k a1_0 a1_1 l1_2).bind fun t422 => (turnstilelaw14_ImageUnlike.j0 k true t422 a0_0 a0_1 l0_2 a1_0 a1_1 l1_2)))) = some r := by rw [if_pos rfl] at H; exact H
      clear H
      have H := H1
      clear H1
      replace H := Option.bind_eq_some_iff.mp H
      obtain ⟨t421, A90, H⟩ := H
      replace H : (if t421 = true then (turnstilelaw14_ImageUnlike.j0 k true true a0_0 a0_1 l0_2 a1_0 a1_1 l1_2) else ((turnstilelaw14_wide.f k a1_0 a1_1 l1_2).bind fun t422 => (turnstilelaw14_ImageUnlike.j0 k true t422 a0_0 a0_1 l0_2 a1_0 a1_1 l1_2))) = some r := H
      have A9 := Aside0.mk A90
      clear A90
      by_cases c10 : t421 = true
      · subst c10
        have H1 : (turnstilelaw14_ImageUnlike.j0 k true true a0_0 a0_1 l0_2 a1_0 a1_1 l1_2) = some r := by rw [if_pos rfl] at H; exact H
        clear H
        have H := H1
        clear H1
        have H' := Aside0.mk H
        clear H
        have hnb11 := NB418_419.out
        have hnc11 := NB419_418.out
        obtain ⟨hcz12_0, hcz12_1, hcz12_2, hfz12_0, hfz12_1, hfz12_2⟩ := bc3 BK418
        go_wp2_with (first | (go_at_call 23; (with_reducible refine (turnstilelaw14_wide.calls k a0_0 a0_1 _ _ l0_2 true _ ?side1 ?side2 A9.out).mono ?_); (case side1 => exact co (Kd.C_below HR0_2.out HB.out)); (case side2 => exact HC0_2.out); rintro e w13 ⟨rfl, hb⟩; have n0_ := bb BK418 hb; have n1_ := bb BK419 hb; have n2_ := bs HB hb; clear BK418; clear BK419; clear HB; have BK418 := n0_; have BK419 := n1_; have HB := n2_; clear n0_ n1_ n2_; (try clear hb); (try clear hb2); (try clear hk); (try clear hi)))
        go_meet
        case rel => exact ⟨_, (true), rs, H', ⟨by first | omega | exact Nat.le_refl _⟩, ⟨bk BK418⟩, ⟨bk BK419⟩, ⟨bw HB⟩⟩
      · replace c10 := Bool.eq_false_iff.mpr c10
        subst c10
        have H1 : ((turnstilelaw14_wide.f k a1_0 a1_1 l1_2).bind fun t422 => (turnstilelaw14_ImageUnlike.j0 k true t422 a0_0 a0_1 l0_2 a1_0 a1_1 l1_2)) = some r := by rw [if_neg (show ¬ (false = true) by decide)] at H; exact H
        clear H
        have H := H1
        clear H1
        replace H := Option.bind_eq_some_iff.mp H
        obtain ⟨t422, A140, H⟩ := H
        replace H : (turnstilelaw14_ImageUnlike.j0 k true t422 a0_0 a0_1 l0_2 a1_0 a1_1 l1_2) = some r := H
        have A14 := Aside0.mk A140
        clear A140
        have H' := Aside0.mk H
        clear H
        have hnb15 := NB418_419.out
        have hnc15 := NB419_418.out
        obtain ⟨hcz16_0, hcz16_1, hcz16_2, hfz16_0, hfz16_1, hfz16_2⟩ := bc3 BK418
        go_wp2_with (first | (go_at_call 23; (with_reducible refine (turnstilelaw14_wide.calls k a0_0 a0_1 _ _ l0_2 false _ ?side1 ?side2 A9.out).mono ?_); (case side1 => exact co (Kd.C_below HR0_2.out HB.out)); (case side2 => exact HC0_2.out); rintro e w17 ⟨rfl, hb⟩; have n0_ := bb BK418 hb; have n1_ := bb BK419 hb; have n2_ := bs HB hb; clear BK418; clear BK419; clear HB; have BK418 := n0_; have BK419 := n1_; have HB := n2_; clear n0_ n1_ n2_; (try clear hb); (try clear hb2); (try clear hk); (try clear hi); obtain ⟨hcz18_0, hcz18_1, hcz18_2, hfz18_0, hfz18_1, hfz18_2⟩ := bc3 BK419) | (go_at_call 23; (with_reducible refine (turnstilelaw14_wide.calls k a1_0 a1_1 _ _ l1_2 t422 _ ?side1 ?side2 A14.out).mono ?_); (case side1 => exact co (Kd.C_below HR1_2.out HB.out)); (case side2 => exact HC1_2.out); rintro e w19 ⟨rfl, hb⟩; have n0_ := bb BK418 hb; have n1_ := bb BK419 hb; have n2_ := bs HB hb; clear BK418; clear BK419; clear HB; have BK418 := n0_; have BK419 := n1_; have HB := n2_; clear n0_ n1_ n2_; (try clear hb); (try clear hb2); (try clear hk); (try clear hi)))
        go_meet
        case rel => exact ⟨_, (t422), rs, H', ⟨by first | omega | exact Nat.le_refl _⟩, ⟨bk BK418⟩, ⟨bk BK419⟩, ⟨bw HB⟩⟩
    · replace c8 := Bool.eq_false_iff.mpr c8
      subst c8
      have H1 : (turnstilelaw14_ImageUnlike.j0 k false true a0_0 a0_1 l0_2 a1_0 a1_1 l1_2) = some r := by rw [if_neg (show ¬ (false = true) by decide)] at H; exact H
      clear H
      have H := H1
      clear H1
      have H' := Aside0.mk H
      clear H
      go_wp2
      go_meet
      case rel => exact ⟨_, (true), rs, H', ⟨by first | omega | exact Nat.le_refl _⟩, ⟨bk BK418⟩, ⟨bk BK419⟩, ⟨bw HB⟩⟩
  case rest =>
    clear HC4
    try clear c1
    try clear c2
    try clear p2
    try clear c8
    try clear c10
    try clear c11
    try clear c12
    try clear c15
    try clear hcz12_0
    try clear hcz12_1
    try clear hcz12_2
    try clear hcz16_0
    try clear hcz16_1
    try clear hcz16_2
    try clear hcz18_0
    try clear hcz18_1
    try clear hcz18_2
    try clear hfz12_0
    try clear hfz12_1
    try clear hfz12_2
    try clear hfz16_0
    try clear hfz16_1
    try clear hfz16_2
    try clear hfz18_0
    try clear hfz18_1
    try clear hfz18_2
    obtain ⟨kq, x20_3, rfl, HA, HJ3, BK418, BK419, HB⟩ := hcut
    cases kq with
    | zero => exact absurd HA.out (by simp [turnstilelaw14_ImageUnlike.j0])
    | succ kj3 =>
      have H := HA.out
      clear HA
      simp only [turnstilelaw14_ImageUnlike.j0] at H
      by_cases c20 : x20_3 = true
      · subst c20
        have H1 : (some t420) = some r := by rw [if_pos rfl] at H; exact H
        clear H
        have H := H1
        clear H1
        obtain rfl := Option.some.inj H
        go_wp2
        go_ret
        exact ⟨re, bw HB⟩
      · replace c20 := Bool.eq_false_iff.mpr c20
        subst c20
        have H1 : ((turnstilelaw14_copied.f a0_0 a0_1 l0_2).bind fun bt423 => ((image_Encode.f kj3 bt423.1 bt423.2.1 bt423.2.2).bind fun bt428 => ((turnstilelaw14_copied.f a1_0 a1_1 l1_2).bind fun bt432 => ((image_Encode.f kj3 bt432.1 bt432.2.1 bt432.2.2).bind fun bt437 => (if 0 ≤ bt428.2 then (if bt428.2 = 0 then (if 0 ≤ bt437.2 then (turnstilelaw14_ImageUnlike.j1 kj3 bt428.1 bt437.1 (bt437.2 != 0) a0_0 a0_1 l0_2 a1_0 a1_1 l1_2) else (none)) else (turnstilelaw14_ImageUnlike.j1 kj3 bt428.1 bt437.1 true a0_0 a0_1 l0_2 a1_0 a1_1 l1_2)) else (none)))))) = some r := by rw [if_neg (show ¬ (false = true) by decide)] at H; exact H
        clear H
        have H := H1
        clear H1
        replace H := Option.bind_eq_some_iff.mp H
        obtain ⟨⟨t423, t424, t425⟩, A210, H⟩ := H
        replace H : ((image_Encode.f kj3 t423 t424 t425).bind fun bt428 => ((turnstilelaw14_copied.f a1_0 a1_1 l1_2).bind fun bt432 => ((image_Encode.f kj3 bt432.1 bt432.2.1 bt432.2.2).bind fun bt437 => (if 0 ≤ bt428.2 then (if bt428.2 = 0 then (if 0 ≤ bt437.2 then (turnstilelaw14_ImageUnlike.j1 kj3 bt428.1 bt437.1 (bt437.2 != 0) a0_0 a0_1 l0_2 a1_0 a1_1 l1_2) else (none)) else (turnstilelaw14_ImageUnlike.j1 kj3 bt428.1 bt437.1 true a0_0 a0_1 l0_2 a1_0 a1_1 l1_2)) else (none))))) = some r := H
        have A21 := Aside0.mk A210
        clear A210
        replace H := Option.bind_eq_some_iff.mp H
        obtain ⟨⟨t428, t431⟩, A220, H⟩ := H
        replace H : ((turnstilelaw14_copied.f a1_0 a1_1 l1_2).bind fun bt432 => ((image_Encode.f kj3 bt432.1 bt432.2.1 bt432.2.2).bind fun bt437 => (if 0 ≤ t431 then (if t431 = 0 then (if 0 ≤ bt437.2 then (turnstilelaw14_ImageUnlike.j1 kj3 t428 bt437.1 (bt437.2 != 0) a0_0 a0_1 l0_2 a1_0 a1_1 l1_2) else (none)) else (turnstilelaw14_ImageUnlike.j1 kj3 t428 bt437.1 true a0_0 a0_1 l0_2 a1_0 a1_1 l1_2)) else (none)))) = some r := H
        have A22 := Aside0.mk A220
        clear A220
        replace H := Option.bind_eq_some_iff.mp H
        obtain ⟨⟨t432, t433, t434⟩, A230, H⟩ := H
        replace H : ((image_Encode.f kj3 t432 t433 t434).bind fun bt437 => (if 0 ≤ t431 then (if t431 = 0 then (if 0 ≤ bt437.2 then (turnstilelaw14_ImageUnlike.j1 kj3 t428 bt437.1 (bt437.2 != 0) a0_0 a0_1 l0_2 a1_0 a1_1 l1_2) else (none)) else (turnstilelaw14_ImageUnlike.j1 kj3 t428 bt437.1 true a0_0 a0_1 l0_2 a1_0 a1_1 l1_2)) else (none))) = some r := H
        have A23 := Aside0.mk A230
        clear A230
        replace H := Option.bind_eq_some_iff.mp H
        obtain ⟨⟨t437, t440⟩, A240, H⟩ := H
        replace H : (if 0 ≤ t431 then (if t431 = 0 then (if 0 ≤ t440 then (turnstilelaw14_ImageUnlike.j1 kj3 t428 t437 (t440 != 0) a0_0 a0_1 l0_2 a1_0 a1_1 l1_2) else (none)) else (turnstilelaw14_ImageUnlike.j1 kj3 t428 t437 true a0_0 a0_1 l0_2 a1_0 a1_1 l1_2)) else (none)) = some r := H
        have A24 := Aside0.mk A240
        clear A240
        have HC25 := Aside0.mk H
        clear H
        have hnb26 := NB418_419.out
        have hnc26 := NB419_418.out
        obtain ⟨hcz27_0, hcz27_1, hcz27_2, hfz27_0, hfz27_1, hfz27_2⟩ := bc3 BK418
        go_upto_region 6 with (first | ((with_reducible refine gate_callee (f := 25) rfl ?_); refine gl (some 24) Tryd.func25 #[.agg #[.int .u64 a0_0, .int .u64 a0_1, .slice A0_2 l0_2.length c0_2]] ?_; (with_reducible refine (turnstilelaw14_copied.calls a0_0 a0_1 _ _ l0_2 t423 t424 t425 _ ?side1 ?side2 A21.out).mono ?_); (case side1 => exact co (Kd.C_below HR0_2.out HB.out)); (case side2 => exact HC0_2.out); rintro e w28 ⟨v426, rfl, ho0, hb⟩; refine ⟨_, rfl, ?_⟩; have n0_ := Aside0.mk (Kd.R_lower ho0 (below_size (bw HB))); have n1_ := bb BK418 hb; have n2_ := bb BK419 hb; have n3_ := bs HB hb; clear BK418; clear BK419; clear HB; have HO427 := n0_; have BK418 := n1_; have BK419 := n2_; have HB := n3_; clear n0_ n1_ n2_ n3_; (try clear hb); (try clear hb2); (try clear hk); (try clear hi); (try clear ho0); obtain ⟨Ao29, co29, eo29⟩ := Kd.R_slice HO427.out; subst eo29) | ((with_reducible refine gate_callee (f := 24) rfl ?_); refine gl (some 25) Tryd.func24 #[.agg #[.int .u64 t423, .int .u64 t424, .slice Ao29 t425.length co29]] ?_; (with_reducible refine (image_Encode.calls kj3 t423 t424 _ _ t425 t428 t431 _ ?side3 ?side1 ?side2 A22.out).mono ?_); (case side1 => exact co (Kd.R_reads' HO427.out).2.2); (case side2 => exact (Kd.R_reads' HO427.out).2.1); (case side3 => exact (HERR.out.below (bw HB))); rintro e w30 ⟨v429, rfl, ho0, hb⟩; refine ⟨_, rfl, ?_⟩; have n0_ := Aside0.mk (Kd.R_below (ro HO427) hb); have n1_ := Aside0.mk (Kd.R_lower ho0 (below_size (bw HB))); have n2_ := bb BK418 hb; have n3_ := bb BK419 hb; have n4_ := bs HB hb; clear HO427; clear BK418; clear BK419; clear HB; have HO427 := n0_; have HO430 := n1_; have BK418 := n2_; have BK419 := n3_; have HB := n4_; clear n0_ n1_ n2_ n3_ n4_; (try clear hb); (try clear hb2); (try clear hk); (try clear hi); (try clear ho0); obtain ⟨hcz31_0, hcz31_1, hcz31_2, hfz31_0, hfz31_1, hfz31_2⟩ := bc3 BK419) | ((with_reducible refine gate_callee (f := 25) rfl ?_); refine gl (some 30) Tryd.func25 #[.agg #[.int .u64 a1_0, .int .u64 a1_1, .slice A1_2 l1_2.length c1_2]] ?_; (with_reducible refine (turnstilelaw14_copied.calls a1_0 a1_1 _ _ l1_2 t432 t433 t434 _ ?side1 ?side2 A23.out).mono ?_); (case side1 => exact co (Kd.C_below HR1_2.out HB.out)); (case side2 => exact HC1_2.out); rintro e w32 ⟨v435, rfl, ho0, hb⟩; refine ⟨_, rfl, ?_⟩; have n0_ := Aside0.mk (Kd.R_elder' (ro HO427) (Kd.R_base ho0) hb); have n1_ := Aside0.mk (Kd.R_below (ro HO430) hb); have n2_ := Aside0.mk (Kd.R_lower (Kd.R_new' ho0 (Kd.R_lt (ro HO427))) (below_size (bw HB))); have n3_ := bb BK418 hb; have n4_ := bb BK419 hb; have n5_ := bs HB hb; clear HO427; clear HO430; clear BK418; clear BK419; clear HB; have HO427 := n0_; have HO430 := n1_; have HO436 := n2_; have BK418 := n3_; have BK419 := n4_; have HB := n5_; clear n0_ n1_ n2_ n3_ n4_ n5_; (try clear hb); (try clear hb2); (try clear hk); (try clear hi); (try clear ho0); obtain ⟨Ao33, co33, eo33⟩ := Kd.R_slice HO436.out; subst eo33) | ((with_reducible refine gate_callee (f := 24) rfl ?_); refine gl (some 31) Tryd.func24 #[.agg #[.int .u64 t432, .int .u64 t433, .slice Ao33 t434.length co33]] ?_; (with_reducible refine (image_Encode.calls kj3 t432 t433 _ _ t434 t437 t440 _ ?side3 ?side1 ?side2 A24.out).mono ?_); (case side1 => exact co (Kd.R_reads' HO436.out).2.2); (case side2 => exact (Kd.R_reads' HO436.out).2.1); (case side3 => exact (HERR.out.below (bw HB))); rintro e w34 ⟨v438, rfl, ho0, hb⟩; refine ⟨_, rfl, ?_⟩; have n0_ := Aside0.mk (Kd.R_below (ro HO427) hb); have n1_ := Aside0.mk (Kd.R_elder' (ro HO430) (Kd.R_base ho0) hb); have n2_ := Aside0.mk (Kd.R_below (ro HO436) hb); have n3_ := Aside0.mk (Kd.R_lower (Kd.R_new' ho0 (Kd.R_lt (ro HO430))) (below_size (bw HB))); have n4_ := bb BK418 hb; have n5_ := bb BK419 hb; have n6_ := bs HB hb; clear HO427; clear HO430; clear HO436; clear BK418; clear BK419; clear HB; have HO427 := n0_; have HO430 := n1_; have HO436 := n2_; have HO439 := n3_; have BK418 := n4_; have BK419 := n5_; have HB := n6_; clear n0_ n1_ n2_ n3_ n4_ n5_ n6_; (try clear hb); (try clear hb2); (try clear hk); (try clear hi); (try clear ho0)))
        (try simp only [Act.put, List.setIfInBounds_toArray, List.set_cons_zero, List.set_cons_succ])
        go_cut [39] (fun v39 wc => ∃ (kq : Nat) (x39_24 : Bool), v39 = .bool x39_24 ∧ Aside0 (turnstilelaw14_ImageUnlike.j1 kq t428 t437 x39_24 a0_0 a0_1 l0_2 a1_0 a1_1 l1_2 = some r) ∧ Aside0 (kq ≤ kj3) ∧ Aside0 (Kd.R (Kd.int .u8) 5 wc w.heap.size (fun k_ => some k_ ≠ (v438 : Value).ownBlock) v429 t428) ∧ Aside0 (Kd.R (Kd.int .u8) 5 wc w.heap.size (fun k_ => some k_ ≠ (v429 : Value).ownBlock) v438 t437) ∧ Aside0 (wc.heap[gb418]? = some (.cells #[.int .u64 a0_0, .int .u64 a0_1, (.slice A0_2 l0_2.length c0_2)] 51 (0, 0))) ∧ Aside0 (wc.heap[gb419]? = some (.cells #[.int .u64 a1_0, .int .u64 a1_1, (.slice A1_2 l1_2.length c1_2)] 51 (0, 0))) ∧ Aside0 (Below w.heap.size w wc))
        case first =>
          have H := HC25.out
          clear HC25
          by_cases c35 : 0 ≤ t431
          · rw [if_pos c35] at H
            have c35b0 := eq_true c35
            have c35b1 : decide (0 ≤ t431) = true := decide_eq_true c35
            clear c35
            by_cases c36 : t431 = 0
            · rw [if_pos c36] at H
              have c36b0 : (t431 == 0) = true := beq_iff_eq.mpr c36
              have c36b1 : (t431 != 0) = false := bne_eq_false_iff_eq.mpr c36
              clear c36
              (first | rw [c36b0] | (simp only [i64_w, i32_w]; rw [c36b0]) | skip)
              by_cases c37 : 0 ≤ t440
              · rw [if_pos c37] at H
                have c37b0 := eq_true c37
                have c37b1 : decide (0 ≤ t440) = true := decide_eq_true c37
                clear c37
                have H' := Aside0.mk H
                clear H
                go_wp2_with (first | ((with_reducible refine gate_dst (N := 35) rfl ?_); (try (refine gate_guard (by rfl) ?_; dsimp only)); refine nen_err t431 (b := (t431 != 0)) ?_ rfl (of_decide_eq_true (by first | (with_reducible assumption) | assumption))) | ((with_reducible refine gate_dst (N := 38) rfl ?_); (try (refine gate_guard (by rfl) ?_; dsimp only)); refine nen_err t440 (b := (t440 != 0)) ?_ rfl (of_decide_eq_true (by first | (with_reducible assumption) | assumption))))
                go_meet
                case rel => exact ⟨_, ((t440 != 0)), rs, H', ⟨by have := HJ3.out; first | omega | exact Nat.le_refl _⟩, ⟨by (with_reducible repeat (first | apply Kd.R_alloc | apply Kd.R_drewN | apply Kd.R_drew)); exact Kd.R_mono HO430.out (fun _ hk => hk.2)⟩, ⟨by (with_reducible repeat (first | apply Kd.R_alloc | apply Kd.R_drewN | apply Kd.R_drew)); exact Kd.R_mono HO439.out (fun _ hk => hk.2)⟩, ⟨bk BK418⟩, ⟨bk BK419⟩, ⟨bw HB⟩⟩
              · rw [if_neg c37] at H
                exact absurd H (by simp)
            · rw [if_neg c36] at H
              have c36b0 : (t431 == 0) = false := beq_eq_false_iff_ne.mpr c36
              have c36b1 : (t431 != 0) = true := bne_iff_ne.mpr c36
              (first | rw [c36b0] | (simp only [i64_w, i32_w]; rw [c36b0]) | skip)
              have H' := Aside0.mk H
              clear H
              go_wp2_with (first | ((with_reducible refine gate_dst (N := 35) rfl ?_); (try (refine gate_guard (by rfl) ?_; dsimp only)); refine nen_err t431 (b := (t431 != 0)) ?_ rfl (of_decide_eq_true (by first | (with_reducible assumption) | assumption))))
              go_meet
              case rel => exact ⟨_, (true), rs, H', ⟨by have := HJ3.out; first | omega | exact Nat.le_refl _⟩, ⟨by (with_reducible repeat (first | apply Kd.R_alloc | apply Kd.R_drewN | apply Kd.R_drew)); exact Kd.R_mono HO430.out (fun _ hk => hk.2)⟩, ⟨by (with_reducible repeat (first | apply Kd.R_alloc | apply Kd.R_drewN | apply Kd.R_drew)); exact Kd.R_mono HO439.out (fun _ hk => hk.2)⟩, ⟨bk BK418⟩, ⟨bk BK419⟩, ⟨bw HB⟩⟩
          · rw [if_neg c35] at H
            exact absurd H (by simp)
        case rest =>
          clear HC25
          try clear c1
          try clear c2
          try clear p2
          try clear c3
          try clear c8
          try clear c10
          try clear c11
          try clear c12
          try clear c15
          try clear c20
          try clear c24
          try clear c25
          try clear c26
          try clear c35
          try clear c35b0
          try clear c35b1
          try clear c36
          try clear c36b0
          try clear c36b1
          try clear c37
          try clear c37b0
          try clear c37b1
          try clear hcz12_0
          try clear hcz12_1
          try clear hcz12_2
          try clear hcz16_0
          try clear hcz16_1
          try clear hcz16_2
          try clear hcz18_0
          try clear hcz18_1
          try clear hcz18_2
          try clear hcz27_0
          try clear hcz27_1
          try clear hcz27_2
          try clear hcz31_0
          try clear hcz31_1
          try clear hcz31_2
          try clear hfz12_0
          try clear hfz12_1
          try clear hfz12_2
          try clear hfz16_0
          try clear hfz16_1
          try clear hfz16_2
          try clear hfz18_0
          try clear hfz18_1
          try clear hfz18_2
          try clear hfz27_0
          try clear hfz27_1
          try clear hfz27_2
          try clear hfz31_0
          try clear hfz31_1
          try clear hfz31_2
          try clear p2
          obtain ⟨kq, x39_24, rfl, HA, HJ24, HO_6, HO_8, BK418, BK419, HB⟩ := hcut
          cases kq with
          | zero => exact absurd HA.out (by simp [turnstilelaw14_ImageUnlike.j1])
          | succ kj24 =>
            have H := HA.out
            clear HA
            simp only [turnstilelaw14_ImageUnlike.j1] at H
            by_cases c38 : x39_24 = true
            · subst c38
              have H1 : (some true) = some r := by rw [if_pos rfl] at H; exact H
              clear H
              have H := H1
              clear H1
              obtain rfl := Option.some.inj H
              go_wp2
              go_ret
              exact ⟨re, bw HB⟩
            · replace c38 := Bool.eq_false_iff.mpr c38
              subst c38
              have H1 : ((turnstilelaw14_same.f kj24 t428 t437).bind fun t441 => ((turnstilelaw14_alike.f kj24 a0_0 a0_1 l0_2 a1_0 a1_1 l1_2).bind fun t442 => (some (t441 == t442)))) = some r := by rw [if_neg (show ¬ (false = true) by decide)] at H; exact H
              clear H
              have H := H1
              clear H1
              replace H := Option.bind_eq_some_iff.mp H
              obtain ⟨t441, A390, H⟩ := H
              replace H : ((turnstilelaw14_alike.f kj24 a0_0 a0_1 l0_2 a1_0 a1_1 l1_2).bind fun t442 => (some (t441 == t442))) = some r := H
              have A39 := Aside0.mk A390
              clear A390
              replace H := Option.bind_eq_some_iff.mp H
              obtain ⟨t442, A400, H⟩ := H
              replace H : (some (t441 == t442)) = some r := H
              have A40 := Aside0.mk A400
              clear A400
              obtain rfl := Option.some.inj H
              try go_wp2
              have n0_ := Aside0.mk (Kd.R_drew HO_6.out)
              have n1_ := Aside0.mk (Kd.R_drew HO_8.out)
              have n2_ := Aside0.mk (blk_drew BK418.out)
              have n3_ := Aside0.mk (blk_drew BK419.out)
              have n4_ := Aside0.mk (below_drew1 HB.out)
              clear HO_6
              clear HO_8
              clear BK418
              clear BK419
              clear HB
              have HO_6 := n0_
              have HO_8 := n1_
              have BK418 := n2_
              have BK419 := n3_
              have HB := n4_
              clear n0_ n1_ n2_ n3_ n4_
              obtain ⟨Ao42, co42, eo42⟩ := Kd.R_slice HO_6.out
              (first | subst eo42 | (injection eo42 with f1_ f2_ f3_; have f4_ := f1_.symm; have f5_ := f3_.symm; clear f1_ f2_ f3_; subst f4_; subst f5_))
              obtain ⟨Ao43, co43, eo43⟩ := Kd.R_slice HO_8.out
              (first | subst eo43 | (injection eo43 with f1_ f2_ f3_; have f4_ := f1_.symm; have f5_ := f3_.symm; clear f1_ f2_ f3_; subst f4_; subst f5_))
              refine start_ (n := 8) (S := fun w' => w'.cell? ⟨gb418, 0, none⟩ = some (.int .u64 a0_0) ∧ w'.cell? ⟨gb418, 1, none⟩ = some (.int .u64 a0_1) ∧ w'.cell? ⟨gb418, 2, none⟩ = some (.slice A0_2 l0_2.length c0_2) ∧ w'.cell? ⟨gb419, 0, none⟩ = some (.int .u64 a1_0) ∧ w'.cell? ⟨gb419, 1, none⟩ = some (.int .u64 a1_1) ∧ w'.cell? ⟨gb419, 2, none⟩ = some (.slice A1_2 l1_2.length c1_2)) (ds := []) #[false, false, false, false, false, false, false, false] (by kernel_rfl) rfl rfl ⟨(blk_cell BK418.out 0).trans rfl, (blk_cell BK418.out 1).trans rfl, (blk_cell BK418.out 2).trans rfl, (blk_cell BK419.out 0).trans rfl, (blk_cell BK419.out 1).trans rfl, (blk_cell BK419.out 2).trans rfl⟩ (fun hHeld => ?_); refine with_tabW turnstilelaw14_ImageUnlike.tab8 turnstilelaw14_ImageUnlike.bits8 (fun HT_ HW_ => ?_)
              generalize wc.drew = w41 at HO_6 HO_8 BK418 BK419 HB hHeld ⊢
              refine chain_ (fuel := 4) [(0, 0, some 40), (1, 0, some 41), (3, 1, some 43), (4, 1, some 44)] #[true, true, false, true, true, false, false, false] HT_.out HW_.out (by kernel_rfl) (fun _ _ _ _ _ h => h) (Or.inr hHeld) rfl ?_
              (iterate 2 refine lkP ?_); (iterate 2 refine lkT ?_); refine .nil ?_
              refine one_ (i := 2) (N := some 42) #[true, true, true, true, true, false, false, false] rfl rfl (one_of HT_.out (by kernel_rfl)) (by decide) (fun K hK => ?_)
              refine ge Tryd.func30 #[.slice Ao42 t428.length co42, .slice Ao43 t437.length co43] ?_
              with_reducible refine (turnstilelaw14_same.calls kj24 _ _ t428 _ _ t437 t441 _ ?side1 ?side2 ?side3 ?side4 A39.out).mono ?_
              (case side1 => exact co (Kd.R_reads' HO_6.out).2.2)
              (case side2 => exact (Kd.R_reads' HO_6.out).2.1)
              (case side3 => exact co (Kd.R_reads' HO_8.out).2.2)
              (case side4 => exact (Kd.R_reads' HO_8.out).2.1)
              rintro e w' ⟨rfl, ⟨nd, rfl⟩⟩
              refine ⟨_, rfl, ?_⟩
              refine hK.out _ _ ⟨(blk_cell BK418.out 0).trans rfl, (blk_cell BK418.out 1).trans rfl, (blk_cell BK418.out 2).trans rfl, (blk_cell BK419.out 0).trans rfl, (blk_cell BK419.out 1).trans rfl, (blk_cell BK419.out 2).trans rfl⟩ (fun hHeld => ?_)
              clear hK K
              refine norm_ (a' := ?_) ?_ ?_
              rotate_left
              · show Act.put _ (some 42) _ = _
                simp only [Act.put, List.setIfInBounds_toArray, List.set_cons_zero, List.set_cons_succ, i64_w, i32_w]
                rfl
              refine one_ (i := 5) (N := some 45) #[true, true, true, true, true, true, false, false] rfl rfl (one_of HT_.out (by kernel_rfl)) (by decide) (fun K hK => ?_)
              refine ge Tryd.func28 #[.agg #[.int .u64 a0_0, .int .u64 a0_1, .slice A0_2 l0_2.length c0_2], .agg #[.int .u64 a1_0, .int .u64 a1_1, .slice A1_2 l1_2.length c1_2]] ?_
              with_reducible refine (turnstilelaw14_alike.calls kj24 a0_0 a0_1 _ _ l0_2 a1_0 a1_1 _ _ l1_2 t442 _ ?side1 ?side2 ?side3 ?side4 A40.out).mono ?_
              (case side1 => exact co (Kd.C_below HR0_2.out (bw HB)))
              (case side2 => exact HC0_2.out)
              (case side3 => exact co (Kd.C_below HR1_2.out (bw HB)))
              (case side4 => exact HC1_2.out)
              rintro e w44 ⟨rfl, hb⟩
              refine ⟨_, rfl, ?_⟩
              have n0_ := Aside0.mk (Kd.R_below (ro HO_6) hb)
              have n1_ := Aside0.mk (Kd.R_below (ro HO_8) hb)
              have n2_ := bb BK418 hb
              have n3_ := bb BK419 hb
              have n4_ := bs HB hb
              clear HO_6
              clear HO_8
              clear BK418
              clear BK419
              clear HB
              have HO_6 := n0_
              have HO_8 := n1_
              have BK418 := n2_
              have BK419 := n3_
              have HB := n4_
              clear n0_ n1_ n2_ n3_ n4_
              (try clear hb)
              (try clear hb2)
              (try clear hk)
              (try clear hi)
              refine hK.out _ _ ⟨(blk_cell BK418.out 0).trans rfl, (blk_cell BK418.out 1).trans rfl, (blk_cell BK418.out 2).trans rfl, (blk_cell BK419.out 0).trans rfl, (blk_cell BK419.out 1).trans rfl, (blk_cell BK419.out 2).trans rfl⟩ (fun hHeld => ?_)
              clear hK K
              refine norm_ (a' := ?_) ?_ ?_
              rotate_left
              · show Act.put _ (some 45) _ = _
                simp only [Act.put, List.setIfInBounds_toArray, List.set_cons_zero, List.set_cons_succ, i64_w, i32_w]
                rfl
              refine chain_ (fuel := 0) [(6, 0, some 46), (7, 0, some 4)] #[true, true, true, true, true, true, true, true] HT_.out HW_.out (by kernel_rfl) (fun _ _ _ _ _ h => h) (Or.inl (by decide)) rfl ?_
              (iterate 2 refine lkP ?_); refine .nil ?_
              refine done_ (done_of HT_.out (by kernel_rfl)) ?_
              try go_wp2
              go_ret
              exact ⟨re, bw HB⟩


end Go.Proofs.YtkgjepmminmjjaaDoor.E
