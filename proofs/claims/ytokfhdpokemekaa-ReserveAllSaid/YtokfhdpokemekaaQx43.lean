/- Written by the session's own program hyb.py: what functions of the program compute; Lean checks it. -/
import Derived.Test.YtokfhdpokemekaaQx0
import Derived.Test.YtokfhdpokemekaaQx22
import Derived.Test.YtokfhdpokemekaaQx28
import Derived.Test.YtokfhdpokemekaaQx30
import Derived.Test.YtokfhdpokemekaaQx41
import Derived.Test.YtokfhdpokemekaaQx42
namespace Go.Proofs.Ytokfhdpokemekaa.Q
open Go.RowKit Go.Proofs.YtokfhdpokemekaaW.PrintWords Go.Proofs.YtokfhdpokemekaaW.PrintLast Go.Proofs.YtokfhdpokemekaaW.PrintMore Go.Proofs.YtokfhdpokemekaaW.PrintShort
attribute [local go_sem] run_Add64 run_Sub64
attribute [local go_sem] max2_int min2_int max_two min_two max_three min_three max_four min_four   -- for this text's walks alone
set_option linter.unusedVariables false
set_option linter.unusedSimpArgs false

/-! ### turnstileref17_Choose: function 57 -/
def turnstileref17_Choose.f (k : Nat) (a0_0 : Int) (a0_1 : Int) (a0_2 : Int) (a0_3 : Int) (a0_4 : Int) (a1_0 : Int) (a1_1 : Int) (a1_2 : Int) (a1_3 : Int) (a1_4 : Int) (a2_0 : Int) (a2_1 : Int) (a2_2 : Int) (a3_0 : Int) (a3_1 : Int) (a3_2 : Int) (a4 : Int) (a5 : Int) : Option (Int × Int × Int × Bool × Int × Bool × Int × Int × Int) := (turnstileref06_Valid.f a1_0 a1_1 a1_2 a1_3 a1_4).bind fun t630 => (if t630 = true then ((turnstileref06_Admit.f k a1_0 a1_1 a1_2 a1_3 a1_4 a2_0 a2_1 a2_2 a4 a5).bind fun bt631 => (if bt631.2.2.2.1 = true then ((turnstileref06_Covers.f a1_0 a1_1 a1_2 a1_3 a1_4 a3_0 a3_1 a3_2 bt631.1 bt631.2.1 bt631.2.2.1).bind fun t643 => (if t643 = true then ((turnstileref17_InForm.f a1_0 a1_1 a1_2 a1_3 a1_4 a3_0 a3_1 a3_2).bind fun bt644 => (some (bt631.1, bt631.2.1, bt631.2.2.1, true, 0, false, bt644.1, bt644.2.1, bt644.2.2))) else ((turnstileref17_Ceiling.f a0_0 a0_1 a0_2 a0_3 a0_4 a1_0 a1_1 a1_2 a1_3 a1_4 bt631.1 bt631.2.1 bt631.2.2.1).bind fun bt647 => (some (bt631.1, bt631.2.1, bt631.2.2.1, true, 0, true, bt647.1, bt647.2.1, bt647.2.2))))) else ((turnstileref17_InForm.f a1_0 a1_1 a1_2 a1_3 a1_4 a2_0 a2_1 a2_2).bind fun bt637 => ((turnstileref17_InForm.f a1_0 a1_1 a1_2 a1_3 a1_4 a3_0 a3_1 a3_2).bind fun bt640 => (some (bt637.1, bt637.2.1, bt637.2.2, false, bt631.2.2.2.2, false, bt640.1, bt640.2.1, bt640.2.2)))))) else (some (0, 0, 0, false, 18446744073709551615, false, 0, 0, 0)))
theorem turnstileref17_Choose.mono : ∀ a0 a1 a2 a3 a4 a5 a6 a7 a8 a9 a10 a11 a12 a13 a14 a15 a16 a17 k, LeO (turnstileref17_Choose.f k a0 a1 a2 a3 a4 a5 a6 a7 a8 a9 a10 a11 a12 a13 a14 a15 a16 a17) (turnstileref17_Choose.f (k + 1) a0 a1 a2 a3 a4 a5 a6 a7 a8 a9 a10 a11 a12 a13 a14 a15 a16 a17) := by
  intro a0 a1 a2 a3 a4 a5 a6 a7 a8 a9 a10 a11 a12 a13 a14 a15 a16 a17 k
  unfold turnstileref17_Choose.f
  repeat' first
      | (with_reducible exact turnstileref06_Admit.mono _ _ _ _ _ _ _ _ _ _ _)
      | (with_reducible exact LeO.refl _)
      | (with_reducible exact LeO.none _)
      | (with_reducible refine LeO.ite ?_ ?_)
      | (with_reducible refine LeO.bind ?_ (fun _ => ?_))
      | exact turnstileref06_Admit.mono _ _ _ _ _ _ _ _ _ _ _
      | exact LeO.none _
      | refine LeO.ite ?_ ?_
      | refine LeO.bind ?_ (fun _ => ?_)
def turnstileref17_Choose.T6 : Bool × List (List Nat × List Nat) := (true, [([], []), ([], []), ([0, 1], [0, 1]), ([], []), ([], []), ([], []), ([4, 5, 2], [4, 5]), ([2, 3, 6], [2, 3, 6]), ([7, 6, 0, 1, 2, 3, 4, 5, 6, 7], [7])])
def turnstileref17_Choose.B6 : List Nat := [0, 0, 3, 0, 0, 0, 55, 127, 255]
theorem turnstileref17_Choose.tab6 : rtab .any (opsOf Try.f57 6) = turnstileref17_Choose.T6 := by kernel_rfl
theorem turnstileref17_Choose.bits6 : waitsOk turnstileref17_Choose.T6.2 turnstileref17_Choose.B6 = true := by kernel_rfl
set_option maxHeartbeats 8000000 in
set_option maxRecDepth 100000 in
theorem turnstileref17_Choose.calls (k : Nat) (a0_0 : Int) (a0_1 : Int) (a0_2 : Int) (a0_3 : Int) (a0_4 : Int) (a1_0 : Int) (a1_1 : Int) (a1_2 : Int) (a1_3 : Int) (a1_4 : Int) (a2_0 : Int) (a2_1 : Int) (a2_2 : Int) (a3_0 : Int) (a3_1 : Int) (a3_2 : Int) (a4 : Int) (a5 : Int) (r1 : Int) (r2 : Int) (r3 : Int) (r4 : Bool) (r5 : Int) (r6 : Bool) (r7 : Int) (r8 : Int) (r9 : Int) (w : World) (h : turnstileref17_Choose.f k a0_0 a0_1 a0_2 a0_3 a0_4 a1_0 a1_1 a1_2 a1_3 a1_4 a2_0 a2_1 a2_2 a3_0 a3_1 a3_2 a4 a5 = some (r1, r2, r3, r4, r5, r6, r7, r8, r9)) :
    Calls Try.prog 57 #[.agg #[.int .u64 a0_0, .int .u64 a0_1, .int .i64 a0_2, .int .i64 a0_3, .int .i64 a0_4], .agg #[.int .i64 a1_0, .int .u64 a1_1, .int .u64 a1_2, .int .u64 a1_3, .int .u64 a1_4], .agg #[.int .u64 a2_0, .int .u64 a2_1, .int .u64 a2_2], .agg #[.int .u64 a3_0, .int .u64 a3_1, .int .u64 a3_2], .int .u64 a4, .int .u64 a5] w fun e w' => e = .returned (.agg #[.int .u64 r1, .int .u64 r2, .int .u64 r3, .bool r4, .int .u64 r5, .bool r6, .int .u64 r7, .int .u64 r8, .int .u64 r9]) ∧ Below w.heap.size w w' := by
  have hu53 := Try.underlying53
  have hu27 := Try.underlying27
  have hu29 := Try.underlying29
  have hu93 := Try.underlying93
  have HB := Aside0.mk (Below.refl w.heap.size w)
  have H : ((turnstileref06_Valid.f a1_0 a1_1 a1_2 a1_3 a1_4).bind fun t630 => (if t630 = true then ((turnstileref06_Admit.f k a1_0 a1_1 a1_2 a1_3 a1_4 a2_0 a2_1 a2_2 a4 a5).bind fun bt631 => (if bt631.2.2.2.1 = true then ((turnstileref06_Covers.f a1_0 a1_1 a1_2 a1_3 a1_4 a3_0 a3_1 a3_2 bt631.1 bt631.2.1 bt631.2.2.1).bind fun t643 => (if t643 = true then ((turnstileref17_InForm.f a1_0 a1_1 a1_2 a1_3 a1_4 a3_0 a3_1 a3_2).bind fun bt644 => (some (bt631.1, bt631.2.1, bt631.2.2.1, true, 0, false, bt644.1, bt644.2.1, bt644.2.2))) else ((turnstileref17_Ceiling.f a0_0 a0_1 a0_2 a0_3 a0_4 a1_0 a1_1 a1_2 a1_3 a1_4 bt631.1 bt631.2.1 bt631.2.2.1).bind fun bt647 => (some (bt631.1, bt631.2.1, bt631.2.2.1, true, 0, true, bt647.1, bt647.2.1, bt647.2.2))))) else ((turnstileref17_InForm.f a1_0 a1_1 a1_2 a1_3 a1_4 a2_0 a2_1 a2_2).bind fun bt637 => ((turnstileref17_InForm.f a1_0 a1_1 a1_2 a1_3 a1_4 a3_0 a3_1 a3_2).bind fun bt640 => (some (bt637.1, bt637.2.1, bt637.2.2, false, bt631.2.2.2.2, false, bt640.1, bt640.2.1, bt640.2.2)))))) else (some (0, 0, 0, false, 18446744073709551615, false, 0, 0, 0)))) = some (r1, r2, r3, r4, r5, r6, r7, r8, r9) := h
  clear h
  replace H := Option.bind_eq_some_iff.mp H
  obtain ⟨t630, A70, H⟩ := H
  replace H : (if t630 = true then ((turnstileref06_Admit.f k a1_0 a1_1 a1_2 a1_3 a1_4 a2_0 a2_1 a2_2 a4 a5).bind fun bt631 => (if bt631.2.2.2.1 = true then ((turnstileref06_Covers.f a1_0 a1_1 a1_2 a1_3 a1_4 a3_0 a3_1 a3_2 bt631.1 bt631.2.1 bt631.2.2.1).bind fun t643 => (if t643 = true then ((turnstileref17_InForm.f a1_0 a1_1 a1_2 a1_3 a1_4 a3_0 a3_1 a3_2).bind fun bt644 => (some (bt631.1, bt631.2.1, bt631.2.2.1, true, 0, false, bt644.1, bt644.2.1, bt644.2.2))) else ((turnstileref17_Ceiling.f a0_0 a0_1 a0_2 a0_3 a0_4 a1_0 a1_1 a1_2 a1_3 a1_4 bt631.1 bt631.2.1 bt631.2.2.1).bind fun bt647 => (some (bt631.1, bt631.2.1, bt631.2.2.1, true, 0, true, bt647.1, bt647.2.1, bt647.2.2))))) else ((turnstileref17_InForm.f a1_0 a1_1 a1_2 a1_3 a1_4 a2_0 a2_1 a2_2).bind fun bt637 => ((turnstileref17_InForm.f a1_0 a1_1 a1_2 a1_3 a1_4 a3_0 a3_1 a3_2).bind fun bt640 => (some (bt637.1, bt637.2.1, bt637.2.2, false, bt631.2.2.2.2, false, bt640.1, bt640.2.1, bt640.2.2)))))) else (some (0, 0, 0, false, 18446744073709551615, false, 0, 0, 0))) = some (r1, r2, r3, r4, r5, r6, r7, r8, r9) := H
  have A7 := Aside0.mk A70
  clear A70
  by_cases c8 : t630 = true
  · subst c8
    have H1 : ((turnstileref06_Admit.f k a1_0 a1_1 a1_2 a1_3 a1_4 a2_0 a2_1 a2_2 a4 a5).bind fun bt631 => (if bt631.2.2.2.1 = true then ((turnstileref06_Covers.f a1_0 a1_1 a1_2 a1_3 a1_4 a3_0 a3_1 a3_2 bt631.1 bt631.2.1 bt631.2.2.1).bind fun t643 => (if t643 = true then ((turnstileref17_InForm.f a1_0 a1_1 a1_2 a1_3 a1_4 a3_0 a3_1 a3_2).bind fun bt644 => (some (bt631.1, bt631.2.1, bt631.2.2.1, true, 0, false, bt644.1, bt644.2.1, bt644.2.2))) else ((turnstileref17_Ceiling.f a0_0 a0_1 a0_2 a0_3 a0_4 a1_0 a1_1 a1_2 a1_3 a1_4 bt631.1 bt631.2.1 bt631.2.2.1).bind fun bt647 => (some (bt631.1, bt631.2.1, bt631.2.2.1, true, 0, true, bt647.1, bt647.2.1, bt647.2.2))))) else ((turnstileref17_InForm.f a1_0 a1_1 a1_2 a1_3 a1_4 a2_0 a2_1 a2_2).bind fun bt637 => ((turnstileref17_InForm.f a1_0 a1_1 a1_2 a1_3 a1_4 a3_0 a3_1 a3_2).bind fun bt640 => (some (bt637.1, bt637.2.1, bt637.2.2, false, bt631.2.2.2.2, false, bt640.1, bt640.2.1, bt640.2.2)))))) = some (r1, r2, r3, r4, r5, r6, r7, r8, r9) := by rw [if_pos rfl] at H; exact H
    clear H
    have H := H1
    clear H1
    replace H := Option.bind_eq_some_iff.mp H
    obtain ⟨⟨t631, t632, t633, t634, t635⟩, A90, H⟩ := H
    replace H : (if t634 = true then ((turnstileref06_Covers.f a1_0 a1_1 a1_2 a1_3 a1_4 a3_0 a3_1 a3_2 t631 t632 t633).bind fun t643 => (if t643 = true then ((turnstileref17_InForm.f a1_0 a1_1 a1_2 a1_3 a1_4 a3_0 a3_1 a3_2).bind fun bt644 => (some (t631, t632, t633, true, 0, false, bt644.1, bt644.2.1, bt644.2.2))) else ((turnstileref17_Ceiling.f a0_0 a0_1 a0_2 a0_3 a0_4 a1_0 a1_1 a1_2 a1_3 a1_4 t631 t632 t633).bind fun bt647 => (some (t631, t632, t633, true, 0, true, bt647.1, bt647.2.1, bt647.2.2))))) else ((turnstileref17_InForm.f a1_0 a1_1 a1_2 a1_3 a1_4 a2_0 a2_1 a2_2).bind fun bt637 => ((turnstileref17_InForm.f a1_0 a1_1 a1_2 a1_3 a1_4 a3_0 a3_1 a3_2).bind fun bt640 => (some (bt637.1, bt637.2.1, bt637.2.2, false, t635, false, bt640.1, bt640.2.1, bt640.2.2))))) = some (r1, r2, r3, r4, r5, r6, r7, r8, r9) := H
    have A9 := Aside0.mk A90
    clear A90
    by_cases c10 : t634 = true
    · subst c10
      have H1 : ((turnstileref06_Covers.f a1_0 a1_1 a1_2 a1_3 a1_4 a3_0 a3_1 a3_2 t631 t632 t633).bind fun t643 => (if t643 = true then ((turnstileref17_InForm.f a1_0 a1_1 a1_2 a1_3 a1_4 a3_0 a3_1 a3_2).bind fun bt644 => (some (t631, t632, t633, true, 0, false, bt644.1, bt644.2.1, bt644.2.2))) else ((turnstileref17_Ceiling.f a0_0 a0_1 a0_2 a0_3 a0_4 a1_0 a1_1 a1_2 a1_3 a1_4 t631 t632 t633).bind fun bt647 => (some (t631, t632, t633, true, 0, true, bt647.1, bt647.2.1, bt647.2.2))))) = some (r1, r2, r3, r4, r5, r6, r7, r8, r9) := by rw [if_pos rfl] at H; exact H
      clear H
      have H := H1
      clear H1
      replace H := Option.bind_eq_some_iff.mp H
      obtain ⟨t643, A110, H⟩ := H
      replace H : (if t643 = true then ((turnstileref17_InForm.f a1_0 a1_1 a1_2 a1_3 a1_4 a3_0 a3_1 a3_2).bind fun bt644 => (some (t631, t632, t633, true, 0, false, bt644.1, bt644.2.1, bt644.2.2))) else ((turnstileref17_Ceiling.f a0_0 a0_1 a0_2 a0_3 a0_4 a1_0 a1_1 a1_2 a1_3 a1_4 t631 t632 t633).bind fun bt647 => (some (t631, t632, t633, true, 0, true, bt647.1, bt647.2.1, bt647.2.2)))) = some (r1, r2, r3, r4, r5, r6, r7, r8, r9) := H
      have A11 := Aside0.mk A110
      clear A110
      by_cases c12 : t643 = true
      · subst c12
        have H1 : ((turnstileref17_InForm.f a1_0 a1_1 a1_2 a1_3 a1_4 a3_0 a3_1 a3_2).bind fun bt644 => (some (t631, t632, t633, true, 0, false, bt644.1, bt644.2.1, bt644.2.2))) = some (r1, r2, r3, r4, r5, r6, r7, r8, r9) := by rw [if_pos rfl] at H; exact H
        clear H
        have H := H1
        clear H1
        replace H := Option.bind_eq_some_iff.mp H
        obtain ⟨⟨t644, t645, t646⟩, A130, H⟩ := H
        replace H : (some (t631, t632, t633, true, 0, false, t644, t645, t646)) = some (r1, r2, r3, r4, r5, r6, r7, r8, r9) := H
        have A13 := Aside0.mk A130
        clear A130
        simp only [Option.some.injEq, Prod.mk.injEq] at H
        obtain ⟨rfl, rfl, rfl, rfl, rfl, rfl, rfl, rfl, rfl⟩ := H
        go_enter Try.func57, Try.ntmps57
        try go_wp2_with (first | ((with_reducible refine gate_dst (N := 6) rfl ?_); refine bx 6 #[.int .u64 a0_0, .int .u64 a0_1, .int .i64 a0_2, .int .i64 a0_3, .int .i64 a0_4] 53 ?_; intro gb625 hg w14 hbox hb; have n0_ := bs HB hb; have n1_ := Aside0.mk (hbox); have n2_ := sz HB hg; have n3_ := sz HB hg; clear HB; have HB := n0_; have BK625 := n1_; have GW625 := n2_; have GE625 := n3_; clear n0_ n1_ n2_ n3_; clear hb hbox hg) | ((with_reducible refine gate_dst (N := 7) rfl ?_); refine bx 7 #[.int .i64 a1_0, .int .u64 a1_1, .int .u64 a1_2, .int .u64 a1_3, .int .u64 a1_4] 27 ?_; intro gb626 hg w15 hbox hb; have n0_ := bb BK625 hb; have n1_ := bs HB hb; have n2_ := Aside0.mk (hbox); have n3_ := sz HB hg; have n4_ := sz HB hg; have n5_ := nl BK625 hg; have n6_ := nr BK625 hg; clear BK625; clear HB; have BK625 := n0_; have HB := n1_; have BK626 := n2_; have GW626 := n3_; have GE626 := n4_; have NB625_626 := n5_; have NB626_625 := n6_; clear n0_ n1_ n2_ n3_ n4_ n5_ n6_; clear hb hbox hg) | ((with_reducible refine gate_dst (N := 8) rfl ?_); refine bx 8 #[.int .u64 a2_0, .int .u64 a2_1, .int .u64 a2_2] 29 ?_; intro gb627 hg w16 hbox hb; have n0_ := bb BK625 hb; have n1_ := bb BK626 hb; have n2_ := bs HB hb; have n3_ := Aside0.mk (hbox); have n4_ := sz HB hg; have n5_ := sz HB hg; have n6_ := nl BK625 hg; have n7_ := nr BK625 hg; have n8_ := nl BK626 hg; have n9_ := nr BK626 hg; clear BK625; clear BK626; clear HB; have BK625 := n0_; have BK626 := n1_; have HB := n2_; have BK627 := n3_; have GW627 := n4_; have GE627 := n5_; have NB625_627 := n6_; have NB627_625 := n7_; have NB626_627 := n8_; have NB627_626 := n9_; clear n0_ n1_ n2_ n3_ n4_ n5_ n6_ n7_ n8_ n9_; clear hb hbox hg) | ((with_reducible refine gate_dst (N := 9) rfl ?_); refine bx 9 #[.int .u64 a3_0, .int .u64 a3_1, .int .u64 a3_2] 29 ?_; intro gb628 hg w17 hbox hb; have n0_ := bb BK625 hb; have n1_ := bb BK626 hb; have n2_ := bb BK627 hb; have n3_ := bs HB hb; have n4_ := Aside0.mk (hbox); have n5_ := sz HB hg; have n6_ := sz HB hg; have n7_ := nl BK625 hg; have n8_ := nr BK625 hg; have n9_ := nl BK626 hg; have n10_ := nr BK626 hg; have n11_ := nl BK627 hg; have n12_ := nr BK627 hg; clear BK625; clear BK626; clear BK627; clear HB; have BK625 := n0_; have BK626 := n1_; have BK627 := n2_; have HB := n3_; have BK628 := n4_; have GW628 := n5_; have GE628 := n6_; have NB625_628 := n7_; have NB628_625 := n8_; have NB626_628 := n9_; have NB628_626 := n10_; have NB627_628 := n11_; have NB628_627 := n12_; clear n0_ n1_ n2_ n3_ n4_ n5_ n6_ n7_ n8_ n9_ n10_ n11_ n12_; clear hb hbox hg) | ((with_reducible refine gate_dst (N := 12) rfl ?_); refine bx 12 #[.int .u64 0, .int .u64 0, .int .u64 0, .bool false, .int .u64 0, .bool false, .int .u64 0, .int .u64 0, .int .u64 0] 93 ?_; intro gb629 hg w18 hbox hb; have n0_ := bb BK625 hb; have n1_ := bb BK626 hb; have n2_ := bb BK627 hb; have n3_ := bb BK628 hb; have n4_ := bs HB hb; have n5_ := Aside0.mk (hbox); have n6_ := sz HB hg; have n7_ := sz HB hg; have n8_ := nl BK625 hg; have n9_ := nr BK625 hg; have n10_ := nl BK626 hg; have n11_ := nr BK626 hg; have n12_ := nl BK627 hg; have n13_ := nr BK627 hg; have n14_ := nl BK628 hg; have n15_ := nr BK628 hg; clear BK625; clear BK626; clear BK627; clear BK628; clear HB; have BK625 := n0_; have BK626 := n1_; have BK627 := n2_; have BK628 := n3_; have HB := n4_; have BK629 := n5_; have GW629 := n6_; have GE629 := n7_; have NB625_629 := n8_; have NB629_625 := n9_; have NB626_629 := n10_; have NB629_626 := n11_; have NB627_629 := n12_; have NB629_627 := n13_; have NB628_629 := n14_; have NB629_628 := n15_; clear n0_ n1_ n2_ n3_ n4_ n5_ n6_ n7_ n8_ n9_ n10_ n11_ n12_ n13_ n14_ n15_; clear hb hbox hg; have hnb19 := NB626_625.out; have hnc19 := NB625_626.out; have hnb20 := NB626_627.out; have hnc20 := NB627_626.out; have hnb21 := NB626_628.out; have hnc21 := NB628_626.out; have hnb22 := NB626_629.out; have hnc22 := NB629_626.out; obtain ⟨hcz23_0, hcz23_1, hcz23_2, hcz23_3, hcz23_4, hfz23_0, hfz23_1, hfz23_2, hfz23_3, hfz23_4⟩ := bc5 BK626) | ((with_reducible refine gate_callee (f := 41) rfl ?_); refine gm (some 19) Try.func41 #[.agg #[.int .i64 a1_0, .int .u64 a1_1, .int .u64 a1_2, .int .u64 a1_3, .int .u64 a1_4]] (turnstileref06_Valid.calls a1_0 a1_1 a1_2 a1_3 a1_4 true _ A7.out) ?_; intro w24 hb; have n0_ := bb BK625 hb; have n1_ := bb BK626 hb; have n2_ := bb BK627 hb; have n3_ := bb BK628 hb; have n4_ := bb BK629 hb; have n5_ := bs HB hb; clear BK625; clear BK626; clear BK627; clear BK628; clear BK629; clear HB; have BK625 := n0_; have BK626 := n1_; have BK627 := n2_; have BK628 := n3_; have BK629 := n4_; have HB := n5_; clear n0_ n1_ n2_ n3_ n4_ n5_; (try clear hb); (try clear hb2); (try clear hk); (try clear hi); obtain ⟨hcz25_0, hcz25_1, hcz25_2, hcz25_3, hcz25_4, hfz25_0, hfz25_1, hfz25_2, hfz25_3, hfz25_4⟩ := bc5 BK626; have hnb26 := NB627_625.out; have hnc26 := NB625_627.out; have hnb27 := NB627_628.out; have hnc27 := NB628_627.out; have hnb28 := NB627_629.out; have hnc28 := NB629_627.out; obtain ⟨hcz29_0, hcz29_1, hcz29_2, hfz29_0, hfz29_1, hfz29_2⟩ := bc3 BK627) | ((with_reducible refine gate_callee (f := 43) rfl ?_); refine gm (some 28) Try.func43 #[.agg #[.int .i64 a1_0, .int .u64 a1_1, .int .u64 a1_2, .int .u64 a1_3, .int .u64 a1_4], .agg #[.int .u64 a2_0, .int .u64 a2_1, .int .u64 a2_2], .int .u64 a4, .int .u64 a5] (turnstileref06_Admit.calls k a1_0 a1_1 a1_2 a1_3 a1_4 a2_0 a2_1 a2_2 a4 a5 t631 t632 t633 true t635 _ A9.out) ?_; intro w30 hb; have n0_ := bb BK625 hb; have n1_ := bb BK626 hb; have n2_ := bb BK627 hb; have n3_ := bb BK628 hb; have n4_ := bb BK629 hb; have n5_ := bs HB hb; clear BK625; clear BK626; clear BK627; clear BK628; clear BK629; clear HB; have BK625 := n0_; have BK626 := n1_; have BK627 := n2_; have BK628 := n3_; have BK629 := n4_; have HB := n5_; clear n0_ n1_ n2_ n3_ n4_ n5_; (try clear hb); (try clear hb2); (try clear hk); (try clear hi)) | ((with_reducible refine gate_dst (N := 14) rfl ?_); refine bx 14 #[.int .u64 0, .int .u64 0, .int .u64 0] 29 ?_; intro gb636 hg w31 hbox hb; have n0_ := bb BK625 hb; have n1_ := bb BK626 hb; have n2_ := bb BK627 hb; have n3_ := bb BK628 hb; have n4_ := bb BK629 hb; have n5_ := bs HB hb; have n6_ := Aside0.mk (hbox); have n7_ := sz HB hg; have n8_ := sz HB hg; have n9_ := nl BK625 hg; have n10_ := nr BK625 hg; have n11_ := nl BK626 hg; have n12_ := nr BK626 hg; have n13_ := nl BK627 hg; have n14_ := nr BK627 hg; have n15_ := nl BK628 hg; have n16_ := nr BK628 hg; have n17_ := nl BK629 hg; have n18_ := nr BK629 hg; clear BK625; clear BK626; clear BK627; clear BK628; clear BK629; clear HB; have BK625 := n0_; have BK626 := n1_; have BK627 := n2_; have BK628 := n3_; have BK629 := n4_; have HB := n5_; have BK636 := n6_; have GW636 := n7_; have GE636 := n8_; have NB625_636 := n9_; have NB636_625 := n10_; have NB626_636 := n11_; have NB636_626 := n12_; have NB627_636 := n13_; have NB636_627 := n14_; have NB628_636 := n15_; have NB636_628 := n16_; have NB629_636 := n17_; have NB636_629 := n18_; clear n0_ n1_ n2_ n3_ n4_ n5_ n6_ n7_ n8_ n9_ n10_ n11_ n12_ n13_ n14_ n15_ n16_ n17_ n18_; clear hb hbox hg; have hnb32 := NB636_625.out; have hnc32 := NB625_636.out; have hnb33 := NB636_626.out; have hnc33 := NB626_636.out; have hnb34 := NB636_627.out; have hnc34 := NB627_636.out; have hnb35 := NB636_628.out; have hnc35 := NB628_636.out; have hnb36 := NB636_629.out; have hnc36 := NB629_636.out; obtain ⟨hcz37_0, hcz37_1, hcz37_2, hfz37_0, hfz37_1, hfz37_2⟩ := bc3 BK636; obtain ⟨hcz38_0, hcz38_1, hcz38_2, hcz38_3, hcz38_4, hfz38_0, hfz38_1, hfz38_2, hfz38_3, hfz38_4⟩ := bc5 BK626; have hnb39 := NB628_625.out; have hnc39 := NB625_628.out; have hnb40 := NB628_629.out; have hnc40 := NB629_628.out; obtain ⟨hcz41_0, hcz41_1, hcz41_2, hfz41_0, hfz41_1, hfz41_2⟩ := bc3 BK628) | ((with_reducible refine gate_callee (f := 45) rfl ?_); refine gm (some 45) Try.func45 #[.agg #[.int .i64 a1_0, .int .u64 a1_1, .int .u64 a1_2, .int .u64 a1_3, .int .u64 a1_4], .agg #[.int .u64 a3_0, .int .u64 a3_1, .int .u64 a3_2], .agg #[.int .u64 t631, .int .u64 t632, .int .u64 t633]] (turnstileref06_Covers.calls a1_0 a1_1 a1_2 a1_3 a1_4 a3_0 a3_1 a3_2 t631 t632 t633 true _ A11.out) ?_; intro w42 hb; have n0_ := bb BK625 hb; have n1_ := bb BK626 hb; have n2_ := bb BK627 hb; have n3_ := bb BK628 hb; have n4_ := bb BK629 hb; have n5_ := bbp (.cells #[.int .u64 t631, .int .u64 t632, .int .u64 t633] 29 (0, 0)) BK636 hb; have n6_ := bs HB hb; clear BK625; clear BK626; clear BK627; clear BK628; clear BK629; clear BK636; clear HB; have BK625 := n0_; have BK626 := n1_; have BK627 := n2_; have BK628 := n3_; have BK629 := n4_; have BK636 := n5_; have HB := n6_; clear n0_ n1_ n2_ n3_ n4_ n5_ n6_; (try clear hb); (try clear hb2); (try clear hk); (try clear hi)))
        have n0_ := Aside0.mk (blk_drew BK625.out)
        have n1_ := Aside0.mk (blk_drew BK626.out)
        have n2_ := Aside0.mk (blk_drew BK627.out)
        have n3_ := Aside0.mk (blk_drew BK628.out)
        have n4_ := Aside0.mk (blk_drew BK629.out)
        have n5_ := Aside0.mk (blk_drew BK636.out)
        have n6_ := Aside0.mk (below_drew1 HB.out)
        clear BK625
        clear BK626
        clear BK627
        clear BK628
        clear BK629
        clear BK636
        clear HB
        have BK625 := n0_
        have BK626 := n1_
        have BK627 := n2_
        have BK628 := n3_
        have BK629 := n4_
        have BK636 := n5_
        have HB := n6_
        clear n0_ n1_ n2_ n3_ n4_ n5_ n6_
        refine start_ (n := 6) (S := fun w' => w'.cell? ⟨gb636, 0, none⟩ = some (.int .u64 t631) ∧ w'.cell? ⟨gb636, 1, none⟩ = some (.int .u64 t632) ∧ w'.cell? ⟨gb636, 2, none⟩ = some (.int .u64 t633) ∧ w'.cell? ⟨gb626, 0, none⟩ = some (.int .i64 a1_0) ∧ w'.cell? ⟨gb626, 1, none⟩ = some (.int .u64 a1_1) ∧ w'.cell? ⟨gb626, 2, none⟩ = some (.int .u64 a1_2) ∧ w'.cell? ⟨gb626, 3, none⟩ = some (.int .u64 a1_3) ∧ w'.cell? ⟨gb626, 4, none⟩ = some (.int .u64 a1_4) ∧ w'.cell? ⟨gb628, 0, none⟩ = some (.int .u64 a3_0) ∧ w'.cell? ⟨gb628, 1, none⟩ = some (.int .u64 a3_1) ∧ w'.cell? ⟨gb628, 2, none⟩ = some (.int .u64 a3_2)) (ds := []) #[false, false, false, false, false, false] (by kernel_rfl) rfl rfl ⟨(blk_cell BK636.out 0).trans rfl, (blk_cell BK636.out 1).trans rfl, (blk_cell BK636.out 2).trans rfl, (blk_cell BK626.out 0).trans rfl, (blk_cell BK626.out 1).trans rfl, (blk_cell BK626.out 2).trans rfl, (blk_cell BK626.out 3).trans rfl, (blk_cell BK626.out 4).trans rfl, (blk_cell BK628.out 0).trans rfl, (blk_cell BK628.out 1).trans rfl, (blk_cell BK628.out 2).trans rfl⟩ (fun hHeld => ?_)
        generalize w42.drew = w43 at BK625 BK626 BK627 BK628 BK629 BK636 HB hHeld ⊢
        refine take_ (i := 0) (N := some 47) (v := ?_) (a' := ?_) #[true, false, false, false, false, false] rfl rfl (by kernel_rfl) (fun _ _ _ h => h) (Or.inl ⟨by rfl, ?_⟩) hHeld ?_ ?_
        rotate_left
        · rintro w' ⟨s0, s1, s2, s3, s4, s5, s6, s7, s8, s9, s10⟩
          go_simp
          with_reducible rfl
        rotate_left
        · simp only [Act.put, List.setIfInBounds_toArray, List.set_cons_zero, List.set_cons_succ, i64_w, i32_w]
          rfl
        refine take_ (i := 1) (N := some 48) (v := ?_) (a' := ?_) #[true, true, false, false, false, false] rfl rfl (by kernel_rfl) (fun _ _ _ h => h) (Or.inl ⟨by rfl, ?_⟩) hHeld ?_ ?_
        rotate_left
        · rintro w' ⟨s0, s1, s2, s3, s4, s5, s6, s7, s8, s9, s10⟩
          go_simp
          with_reducible rfl
        rotate_left
        · simp only [Act.put, List.setIfInBounds_toArray, List.set_cons_zero, List.set_cons_succ, i64_w, i32_w]
          rfl
        refine take_ (i := 2) (N := some 49) (v := ?_) (a' := ?_) #[true, true, true, false, false, false] rfl rfl (by kernel_rfl) (fun _ _ _ h => h) (Or.inl ⟨by rfl, ?_⟩) hHeld ?_ ?_
        rotate_left
        · rintro w' ⟨s0, s1, s2, s3, s4, s5, s6, s7, s8, s9, s10⟩
          go_simp
          with_reducible rfl
        rotate_left
        · simp only [Act.put, List.setIfInBounds_toArray, List.set_cons_zero, List.set_cons_succ, i64_w, i32_w]
          rfl
        refine one_ (i := 3) (N := some 50) #[true, true, true, true, false, false] rfl rfl (by kernel_rfl) (by decide) (fun K hK => ?_)
        refine ge Try.func72 #[.agg #[.int .i64 a1_0, .int .u64 a1_1, .int .u64 a1_2, .int .u64 a1_3, .int .u64 a1_4], .agg #[.int .u64 a3_0, .int .u64 a3_1, .int .u64 a3_2]] ?_
        with_reducible refine (turnstileref17_InForm.calls a1_0 a1_1 a1_2 a1_3 a1_4 a3_0 a3_1 a3_2 t644 t645 t646 _ A13.out).mono ?_
        rintro e w44 ⟨rfl, hb⟩
        refine ⟨_, rfl, ?_⟩
        have n0_ := bb BK625 hb
        have n1_ := bb BK626 hb
        have n2_ := bb BK627 hb
        have n3_ := bb BK628 hb
        have n4_ := bb BK629 hb
        have n5_ := bb BK636 hb
        have n6_ := bs HB hb
        clear BK625
        clear BK626
        clear BK627
        clear BK628
        clear BK629
        clear BK636
        clear HB
        have BK625 := n0_
        have BK626 := n1_
        have BK627 := n2_
        have BK628 := n3_
        have BK629 := n4_
        have BK636 := n5_
        have HB := n6_
        clear n0_ n1_ n2_ n3_ n4_ n5_ n6_
        (try clear hb)
        (try clear hb2)
        (try clear hk)
        (try clear hi)
        refine hK.out _ _ ⟨(blk_cell BK636.out 0).trans rfl, (blk_cell BK636.out 1).trans rfl, (blk_cell BK636.out 2).trans rfl, (blk_cell BK626.out 0).trans rfl, (blk_cell BK626.out 1).trans rfl, (blk_cell BK626.out 2).trans rfl, (blk_cell BK626.out 3).trans rfl, (blk_cell BK626.out 4).trans rfl, (blk_cell BK628.out 0).trans rfl, (blk_cell BK628.out 1).trans rfl, (blk_cell BK628.out 2).trans rfl⟩ (fun hHeld => ?_)
        clear hK K
        refine norm_ (a' := ?_) ?_ ?_
        rotate_left
        · show Act.put _ (some 50) _ = _
          simp only [Act.put, List.setIfInBounds_toArray, List.set_cons_zero, List.set_cons_succ, i64_w, i32_w]
          rfl
        refine pure_ (i := 4) (N := some 51) (v := ?_) (a' := ?_) #[true, true, true, true, true, false] rfl rfl (by kernel_rfl) (fun _ _ _ h => h) (Or.inl ⟨by rfl, ?_⟩) ?_ ?_
        rotate_left
        · intro w'
          go_simp
          with_reducible rfl
        rotate_left
        · simp only [Act.put, List.setIfInBounds_toArray, List.set_cons_zero, List.set_cons_succ, i64_w, i32_w]
          rfl
        refine one_ (i := 5) (N := none) #[true, true, true, true, true, true] rfl rfl (by kernel_rfl) (by decide) (fun K hK => ?_)
        have hs45 : w44.cell? ⟨gb629, 0, none⟩ = some (.int .u64 0) := (blk_cell BK629.out 0).trans rfl
        have hfs45 := blk_frozen BK629.out 0
        have hns45_0 := NB625_629.out
        have hns45_1 := NB626_629.out
        have hns45_2 := NB627_629.out
        have hns45_3 := NB628_629.out
        have hns45_5 := NB636_629.out
        have hms45_0 := NB629_625.out
        have hms45_1 := NB629_626.out
        have hms45_2 := NB629_627.out
        have hms45_3 := NB629_628.out
        have hms45_5 := NB629_636.out
        have hs46 : w44.cell? ⟨gb629, 1, none⟩ = some (.int .u64 0) := (blk_cell BK629.out 1).trans rfl
        have hfs46 := blk_frozen BK629.out 1
        have hns46_0 := NB625_629.out
        have hns46_1 := NB626_629.out
        have hns46_2 := NB627_629.out
        have hns46_3 := NB628_629.out
        have hns46_5 := NB636_629.out
        have hms46_0 := NB629_625.out
        have hms46_1 := NB629_626.out
        have hms46_2 := NB629_627.out
        have hms46_3 := NB629_628.out
        have hms46_5 := NB629_636.out
        have hs47 : w44.cell? ⟨gb629, 2, none⟩ = some (.int .u64 0) := (blk_cell BK629.out 2).trans rfl
        have hfs47 := blk_frozen BK629.out 2
        have hns47_0 := NB625_629.out
        have hns47_1 := NB626_629.out
        have hns47_2 := NB627_629.out
        have hns47_3 := NB628_629.out
        have hns47_5 := NB636_629.out
        have hms47_0 := NB629_625.out
        have hms47_1 := NB629_626.out
        have hms47_2 := NB629_627.out
        have hms47_3 := NB629_628.out
        have hms47_5 := NB629_636.out
        have hs48 : w44.cell? ⟨gb629, 3, none⟩ = some (.bool false) := (blk_cell BK629.out 3).trans rfl
        have hfs48 := blk_frozen BK629.out 3
        have hns48_0 := NB625_629.out
        have hns48_1 := NB626_629.out
        have hns48_2 := NB627_629.out
        have hns48_3 := NB628_629.out
        have hns48_5 := NB636_629.out
        have hms48_0 := NB629_625.out
        have hms48_1 := NB629_626.out
        have hms48_2 := NB629_627.out
        have hms48_3 := NB629_628.out
        have hms48_5 := NB629_636.out
        have hs49 : w44.cell? ⟨gb629, 4, none⟩ = some (.int .u64 0) := (blk_cell BK629.out 4).trans rfl
        have hfs49 := blk_frozen BK629.out 4
        have hns49_0 := NB625_629.out
        have hns49_1 := NB626_629.out
        have hns49_2 := NB627_629.out
        have hns49_3 := NB628_629.out
        have hns49_5 := NB636_629.out
        have hms49_0 := NB629_625.out
        have hms49_1 := NB629_626.out
        have hms49_2 := NB629_627.out
        have hms49_3 := NB629_628.out
        have hms49_5 := NB629_636.out
        have hs50 : w44.cell? ⟨gb629, 5, none⟩ = some (.bool false) := (blk_cell BK629.out 5).trans rfl
        have hfs50 := blk_frozen BK629.out 5
        have hns50_0 := NB625_629.out
        have hns50_1 := NB626_629.out
        have hns50_2 := NB627_629.out
        have hns50_3 := NB628_629.out
        have hns50_5 := NB636_629.out
        have hms50_0 := NB629_625.out
        have hms50_1 := NB629_626.out
        have hms50_2 := NB629_627.out
        have hms50_3 := NB629_628.out
        have hms50_5 := NB629_636.out
        have hs51 : w44.cell? ⟨gb629, 6, none⟩ = some (.int .u64 0) := (blk_cell BK629.out 6).trans rfl
        have hfs51 := blk_frozen BK629.out 6
        have hns51_0 := NB625_629.out
        have hns51_1 := NB626_629.out
        have hns51_2 := NB627_629.out
        have hns51_3 := NB628_629.out
        have hns51_5 := NB636_629.out
        have hms51_0 := NB629_625.out
        have hms51_1 := NB629_626.out
        have hms51_2 := NB629_627.out
        have hms51_3 := NB629_628.out
        have hms51_5 := NB629_636.out
        have hs52 : w44.cell? ⟨gb629, 7, none⟩ = some (.int .u64 0) := (blk_cell BK629.out 7).trans rfl
        have hfs52 := blk_frozen BK629.out 7
        have hns52_0 := NB625_629.out
        have hns52_1 := NB626_629.out
        have hns52_2 := NB627_629.out
        have hns52_3 := NB628_629.out
        have hns52_5 := NB636_629.out
        have hms52_0 := NB629_625.out
        have hms52_1 := NB629_626.out
        have hms52_2 := NB629_627.out
        have hms52_3 := NB629_628.out
        have hms52_5 := NB629_636.out
        have hs53 : w44.cell? ⟨gb629, 8, none⟩ = some (.int .u64 0) := (blk_cell BK629.out 8).trans rfl
        have hfs53 := blk_frozen BK629.out 8
        have hns53_0 := NB625_629.out
        have hns53_1 := NB626_629.out
        have hns53_2 := NB627_629.out
        have hns53_3 := NB628_629.out
        have hns53_5 := NB636_629.out
        have hms53_0 := NB629_625.out
        have hms53_1 := NB629_626.out
        have hms53_2 := NB629_627.out
        have hms53_3 := NB629_628.out
        have hms53_5 := NB629_636.out
        refine skip_ (w1 := ?_) (by rfl) rfl ?_ ?_
        rotate_left
        · go_simp
          rfl
        refine hK.out _ _ ⟨((cell_far (p := ⟨gb629, _, none⟩) NB636_629.out _).trans (((cell_far (p := ⟨gb629, _, none⟩) NB636_629.out _).trans (((cell_far (p := ⟨gb629, _, none⟩) NB636_629.out _).trans (((cell_far (p := ⟨gb629, _, none⟩) NB636_629.out _).trans (((cell_far (p := ⟨gb629, _, none⟩) NB636_629.out _).trans (((cell_far (p := ⟨gb629, _, none⟩) NB636_629.out _).trans (((cell_far (p := ⟨gb629, _, none⟩) NB636_629.out _).trans (((cell_far (p := ⟨gb629, _, none⟩) NB636_629.out _).trans (((cell_far (p := ⟨gb629, _, none⟩) NB636_629.out _).trans (hHeld.1)))))))))))))))))), ((cell_far (p := ⟨gb629, _, none⟩) NB636_629.out _).trans (((cell_far (p := ⟨gb629, _, none⟩) NB636_629.out _).trans (((cell_far (p := ⟨gb629, _, none⟩) NB636_629.out _).trans (((cell_far (p := ⟨gb629, _, none⟩) NB636_629.out _).trans (((cell_far (p := ⟨gb629, _, none⟩) NB636_629.out _).trans (((cell_far (p := ⟨gb629, _, none⟩) NB636_629.out _).trans (((cell_far (p := ⟨gb629, _, none⟩) NB636_629.out _).trans (((cell_far (p := ⟨gb629, _, none⟩) NB636_629.out _).trans (((cell_far (p := ⟨gb629, _, none⟩) NB636_629.out _).trans (hHeld.2.1)))))))))))))))))), ((cell_far (p := ⟨gb629, _, none⟩) NB636_629.out _).trans (((cell_far (p := ⟨gb629, _, none⟩) NB636_629.out _).trans (((cell_far (p := ⟨gb629, _, none⟩) NB636_629.out _).trans (((cell_far (p := ⟨gb629, _, none⟩) NB636_629.out _).trans (((cell_far (p := ⟨gb629, _, none⟩) NB636_629.out _).trans (((cell_far (p := ⟨gb629, _, none⟩) NB636_629.out _).trans (((cell_far (p := ⟨gb629, _, none⟩) NB636_629.out _).trans (((cell_far (p := ⟨gb629, _, none⟩) NB636_629.out _).trans (((cell_far (p := ⟨gb629, _, none⟩) NB636_629.out _).trans (hHeld.2.2.1)))))))))))))))))), ((cell_far (p := ⟨gb629, _, none⟩) NB626_629.out _).trans (((cell_far (p := ⟨gb629, _, none⟩) NB626_629.out _).trans (((cell_far (p := ⟨gb629, _, none⟩) NB626_629.out _).trans (((cell_far (p := ⟨gb629, _, none⟩) NB626_629.out _).trans (((cell_far (p := ⟨gb629, _, none⟩) NB626_629.out _).trans (((cell_far (p := ⟨gb629, _, none⟩) NB626_629.out _).trans (((cell_far (p := ⟨gb629, _, none⟩) NB626_629.out _).trans (((cell_far (p := ⟨gb629, _, none⟩) NB626_629.out _).trans (((cell_far (p := ⟨gb629, _, none⟩) NB626_629.out _).trans (hHeld.2.2.2.1)))))))))))))))))), ((cell_far (p := ⟨gb629, _, none⟩) NB626_629.out _).trans (((cell_far (p := ⟨gb629, _, none⟩) NB626_629.out _).trans (((cell_far (p := ⟨gb629, _, none⟩) NB626_629.out _).trans (((cell_far (p := ⟨gb629, _, none⟩) NB626_629.out _).trans (((cell_far (p := ⟨gb629, _, none⟩) NB626_629.out _).trans (((cell_far (p := ⟨gb629, _, none⟩) NB626_629.out _).trans (((cell_far (p := ⟨gb629, _, none⟩) NB626_629.out _).trans (((cell_far (p := ⟨gb629, _, none⟩) NB626_629.out _).trans (((cell_far (p := ⟨gb629, _, none⟩) NB626_629.out _).trans (hHeld.2.2.2.2.1)))))))))))))))))), ((cell_far (p := ⟨gb629, _, none⟩) NB626_629.out _).trans (((cell_far (p := ⟨gb629, _, none⟩) NB626_629.out _).trans (((cell_far (p := ⟨gb629, _, none⟩) NB626_629.out _).trans (((cell_far (p := ⟨gb629, _, none⟩) NB626_629.out _).trans (((cell_far (p := ⟨gb629, _, none⟩) NB626_629.out _).trans (((cell_far (p := ⟨gb629, _, none⟩) NB626_629.out _).trans (((cell_far (p := ⟨gb629, _, none⟩) NB626_629.out _).trans (((cell_far (p := ⟨gb629, _, none⟩) NB626_629.out _).trans (((cell_far (p := ⟨gb629, _, none⟩) NB626_629.out _).trans (hHeld.2.2.2.2.2.1)))))))))))))))))), ((cell_far (p := ⟨gb629, _, none⟩) NB626_629.out _).trans (((cell_far (p := ⟨gb629, _, none⟩) NB626_629.out _).trans (((cell_far (p := ⟨gb629, _, none⟩) NB626_629.out _).trans (((cell_far (p := ⟨gb629, _, none⟩) NB626_629.out _).trans (((cell_far (p := ⟨gb629, _, none⟩) NB626_629.out _).trans (((cell_far (p := ⟨gb629, _, none⟩) NB626_629.out _).trans (((cell_far (p := ⟨gb629, _, none⟩) NB626_629.out _).trans (((cell_far (p := ⟨gb629, _, none⟩) NB626_629.out _).trans (((cell_far (p := ⟨gb629, _, none⟩) NB626_629.out _).trans (hHeld.2.2.2.2.2.2.1)))))))))))))))))), ((cell_far (p := ⟨gb629, _, none⟩) NB626_629.out _).trans (((cell_far (p := ⟨gb629, _, none⟩) NB626_629.out _).trans (((cell_far (p := ⟨gb629, _, none⟩) NB626_629.out _).trans (((cell_far (p := ⟨gb629, _, none⟩) NB626_629.out _).trans (((cell_far (p := ⟨gb629, _, none⟩) NB626_629.out _).trans (((cell_far (p := ⟨gb629, _, none⟩) NB626_629.out _).trans (((cell_far (p := ⟨gb629, _, none⟩) NB626_629.out _).trans (((cell_far (p := ⟨gb629, _, none⟩) NB626_629.out _).trans (((cell_far (p := ⟨gb629, _, none⟩) NB626_629.out _).trans (hHeld.2.2.2.2.2.2.2.1)))))))))))))))))), ((cell_far (p := ⟨gb629, _, none⟩) NB628_629.out _).trans (((cell_far (p := ⟨gb629, _, none⟩) NB628_629.out _).trans (((cell_far (p := ⟨gb629, _, none⟩) NB628_629.out _).trans (((cell_far (p := ⟨gb629, _, none⟩) NB628_629.out _).trans (((cell_far (p := ⟨gb629, _, none⟩) NB628_629.out _).trans (((cell_far (p := ⟨gb629, _, none⟩) NB628_629.out _).trans (((cell_far (p := ⟨gb629, _, none⟩) NB628_629.out _).trans (((cell_far (p := ⟨gb629, _, none⟩) NB628_629.out _).trans (((cell_far (p := ⟨gb629, _, none⟩) NB628_629.out _).trans (hHeld.2.2.2.2.2.2.2.2.1)))))))))))))))))), ((cell_far (p := ⟨gb629, _, none⟩) NB628_629.out _).trans (((cell_far (p := ⟨gb629, _, none⟩) NB628_629.out _).trans (((cell_far (p := ⟨gb629, _, none⟩) NB628_629.out _).trans (((cell_far (p := ⟨gb629, _, none⟩) NB628_629.out _).trans (((cell_far (p := ⟨gb629, _, none⟩) NB628_629.out _).trans (((cell_far (p := ⟨gb629, _, none⟩) NB628_629.out _).trans (((cell_far (p := ⟨gb629, _, none⟩) NB628_629.out _).trans (((cell_far (p := ⟨gb629, _, none⟩) NB628_629.out _).trans (((cell_far (p := ⟨gb629, _, none⟩) NB628_629.out _).trans (hHeld.2.2.2.2.2.2.2.2.2.1)))))))))))))))))), ((cell_far (p := ⟨gb629, _, none⟩) NB628_629.out _).trans (((cell_far (p := ⟨gb629, _, none⟩) NB628_629.out _).trans (((cell_far (p := ⟨gb629, _, none⟩) NB628_629.out _).trans (((cell_far (p := ⟨gb629, _, none⟩) NB628_629.out _).trans (((cell_far (p := ⟨gb629, _, none⟩) NB628_629.out _).trans (((cell_far (p := ⟨gb629, _, none⟩) NB628_629.out _).trans (((cell_far (p := ⟨gb629, _, none⟩) NB628_629.out _).trans (((cell_far (p := ⟨gb629, _, none⟩) NB628_629.out _).trans (((cell_far (p := ⟨gb629, _, none⟩) NB628_629.out _).trans (hHeld.2.2.2.2.2.2.2.2.2.2))))))))))))))))))⟩ (fun hHeld => ?_)
        clear hK K
        refine done_ (by kernel_rfl) ?_
        try go_wp2
        with_reducible refine bodyPost_ret (results_cell_row rfl _ _ gb629 93 #[.int .u64 t631, .int .u64 t632, .int .u64 t633, .bool true, .int .u64 0, .bool false, .int .u64 t644, .int .u64 t645, .int .u64 t646] (0, 0) _ rfl (put9_ BK629.out) Try.underlying93 rfl (by kernel_rfl)) rfl ?_
        exact ⟨re, bw HB⟩
      · replace c12 := Bool.eq_false_iff.mpr c12
        subst c12
        have H1 : ((turnstileref17_Ceiling.f a0_0 a0_1 a0_2 a0_3 a0_4 a1_0 a1_1 a1_2 a1_3 a1_4 t631 t632 t633).bind fun bt647 => (some (t631, t632, t633, true, 0, true, bt647.1, bt647.2.1, bt647.2.2))) = some (r1, r2, r3, r4, r5, r6, r7, r8, r9) := by rw [if_neg (show ¬ (false = true) by decide)] at H; exact H
        clear H
        have H := H1
        clear H1
        replace H := Option.bind_eq_some_iff.mp H
        obtain ⟨⟨t647, t648, t649⟩, A540, H⟩ := H
        replace H : (some (t631, t632, t633, true, 0, true, t647, t648, t649)) = some (r1, r2, r3, r4, r5, r6, r7, r8, r9) := H
        have A54 := Aside0.mk A540
        clear A540
        simp only [Option.some.injEq, Prod.mk.injEq] at H
        obtain ⟨rfl, rfl, rfl, rfl, rfl, rfl, rfl, rfl, rfl⟩ := H
        go_enter Try.func57, Try.ntmps57
        try go_wp2_with (first | ((with_reducible refine gate_dst (N := 6) rfl ?_); refine bx 6 #[.int .u64 a0_0, .int .u64 a0_1, .int .i64 a0_2, .int .i64 a0_3, .int .i64 a0_4] 53 ?_; intro gb625 hg w55 hbox hb; have n0_ := bs HB hb; have n1_ := Aside0.mk (hbox); have n2_ := sz HB hg; have n3_ := sz HB hg; clear HB; have HB := n0_; have BK625 := n1_; have GW625 := n2_; have GE625 := n3_; clear n0_ n1_ n2_ n3_; clear hb hbox hg) | ((with_reducible refine gate_dst (N := 7) rfl ?_); refine bx 7 #[.int .i64 a1_0, .int .u64 a1_1, .int .u64 a1_2, .int .u64 a1_3, .int .u64 a1_4] 27 ?_; intro gb626 hg w56 hbox hb; have n0_ := bb BK625 hb; have n1_ := bs HB hb; have n2_ := Aside0.mk (hbox); have n3_ := sz HB hg; have n4_ := sz HB hg; have n5_ := nl BK625 hg; have n6_ := nr BK625 hg; clear BK625; clear HB; have BK625 := n0_; have HB := n1_; have BK626 := n2_; have GW626 := n3_; have GE626 := n4_; have NB625_626 := n5_; have NB626_625 := n6_; clear n0_ n1_ n2_ n3_ n4_ n5_ n6_; clear hb hbox hg) | ((with_reducible refine gate_dst (N := 8) rfl ?_); refine bx 8 #[.int .u64 a2_0, .int .u64 a2_1, .int .u64 a2_2] 29 ?_; intro gb627 hg w57 hbox hb; have n0_ := bb BK625 hb; have n1_ := bb BK626 hb; have n2_ := bs HB hb; have n3_ := Aside0.mk (hbox); have n4_ := sz HB hg; have n5_ := sz HB hg; have n6_ := nl BK625 hg; have n7_ := nr BK625 hg; have n8_ := nl BK626 hg; have n9_ := nr BK626 hg; clear BK625; clear BK626; clear HB; have BK625 := n0_; have BK626 := n1_; have HB := n2_; have BK627 := n3_; have GW627 := n4_; have GE627 := n5_; have NB625_627 := n6_; have NB627_625 := n7_; have NB626_627 := n8_; have NB627_626 := n9_; clear n0_ n1_ n2_ n3_ n4_ n5_ n6_ n7_ n8_ n9_; clear hb hbox hg) | ((with_reducible refine gate_dst (N := 9) rfl ?_); refine bx 9 #[.int .u64 a3_0, .int .u64 a3_1, .int .u64 a3_2] 29 ?_; intro gb628 hg w58 hbox hb; have n0_ := bb BK625 hb; have n1_ := bb BK626 hb; have n2_ := bb BK627 hb; have n3_ := bs HB hb; have n4_ := Aside0.mk (hbox); have n5_ := sz HB hg; have n6_ := sz HB hg; have n7_ := nl BK625 hg; have n8_ := nr BK625 hg; have n9_ := nl BK626 hg; have n10_ := nr BK626 hg; have n11_ := nl BK627 hg; have n12_ := nr BK627 hg; clear BK625; clear BK626; clear BK627; clear HB; have BK625 := n0_; have BK626 := n1_; have BK627 := n2_; have HB := n3_; have BK628 := n4_; have GW628 := n5_; have GE628 := n6_; have NB625_628 := n7_; have NB628_625 := n8_; have NB626_628 := n9_; have NB628_626 := n10_; have NB627_628 := n11_; have NB628_627 := n12_; clear n0_ n1_ n2_ n3_ n4_ n5_ n6_ n7_ n8_ n9_ n10_ n11_ n12_; clear hb hbox hg) | ((with_reducible refine gate_dst (N := 12) rfl ?_); refine bx 12 #[.int .u64 0, .int .u64 0, .int .u64 0, .bool false, .int .u64 0, .bool false, .int .u64 0, .int .u64 0, .int .u64 0] 93 ?_; intro gb629 hg w59 hbox hb; have n0_ := bb BK625 hb; have n1_ := bb BK626 hb; have n2_ := bb BK627 hb; have n3_ := bb BK628 hb; have n4_ := bs HB hb; have n5_ := Aside0.mk (hbox); have n6_ := sz HB hg; have n7_ := sz HB hg; have n8_ := nl BK625 hg; have n9_ := nr BK625 hg; have n10_ := nl BK626 hg; have n11_ := nr BK626 hg; have n12_ := nl BK627 hg; have n13_ := nr BK627 hg; have n14_ := nl BK628 hg; have n15_ := nr BK628 hg; clear BK625; clear BK626; clear BK627; clear BK628; clear HB; have BK625 := n0_; have BK626 := n1_; have BK627 := n2_; have BK628 := n3_; have HB := n4_; have BK629 := n5_; have GW629 := n6_; have GE629 := n7_; have NB625_629 := n8_; have NB629_625 := n9_; have NB626_629 := n10_; have NB629_626 := n11_; have NB627_629 := n12_; have NB629_627 := n13_; have NB628_629 := n14_; have NB629_628 := n15_; clear n0_ n1_ n2_ n3_ n4_ n5_ n6_ n7_ n8_ n9_ n10_ n11_ n12_ n13_ n14_ n15_; clear hb hbox hg; have hnb60 := NB626_625.out; have hnc60 := NB625_626.out; have hnb61 := NB626_627.out; have hnc61 := NB627_626.out; have hnb62 := NB626_628.out; have hnc62 := NB628_626.out; have hnb63 := NB626_629.out; have hnc63 := NB629_626.out; obtain ⟨hcz64_0, hcz64_1, hcz64_2, hcz64_3, hcz64_4, hfz64_0, hfz64_1, hfz64_2, hfz64_3, hfz64_4⟩ := bc5 BK626) | ((with_reducible refine gate_callee (f := 41) rfl ?_); refine gm (some 19) Try.func41 #[.agg #[.int .i64 a1_0, .int .u64 a1_1, .int .u64 a1_2, .int .u64 a1_3, .int .u64 a1_4]] (turnstileref06_Valid.calls a1_0 a1_1 a1_2 a1_3 a1_4 true _ A7.out) ?_; intro w65 hb; have n0_ := bb BK625 hb; have n1_ := bb BK626 hb; have n2_ := bb BK627 hb; have n3_ := bb BK628 hb; have n4_ := bb BK629 hb; have n5_ := bs HB hb; clear BK625; clear BK626; clear BK627; clear BK628; clear BK629; clear HB; have BK625 := n0_; have BK626 := n1_; have BK627 := n2_; have BK628 := n3_; have BK629 := n4_; have HB := n5_; clear n0_ n1_ n2_ n3_ n4_ n5_; (try clear hb); (try clear hb2); (try clear hk); (try clear hi); obtain ⟨hcz66_0, hcz66_1, hcz66_2, hcz66_3, hcz66_4, hfz66_0, hfz66_1, hfz66_2, hfz66_3, hfz66_4⟩ := bc5 BK626; have hnb67 := NB627_625.out; have hnc67 := NB625_627.out; have hnb68 := NB627_628.out; have hnc68 := NB628_627.out; have hnb69 := NB627_629.out; have hnc69 := NB629_627.out; obtain ⟨hcz70_0, hcz70_1, hcz70_2, hfz70_0, hfz70_1, hfz70_2⟩ := bc3 BK627) | ((with_reducible refine gate_callee (f := 43) rfl ?_); refine gm (some 28) Try.func43 #[.agg #[.int .i64 a1_0, .int .u64 a1_1, .int .u64 a1_2, .int .u64 a1_3, .int .u64 a1_4], .agg #[.int .u64 a2_0, .int .u64 a2_1, .int .u64 a2_2], .int .u64 a4, .int .u64 a5] (turnstileref06_Admit.calls k a1_0 a1_1 a1_2 a1_3 a1_4 a2_0 a2_1 a2_2 a4 a5 t631 t632 t633 true t635 _ A9.out) ?_; intro w71 hb; have n0_ := bb BK625 hb; have n1_ := bb BK626 hb; have n2_ := bb BK627 hb; have n3_ := bb BK628 hb; have n4_ := bb BK629 hb; have n5_ := bs HB hb; clear BK625; clear BK626; clear BK627; clear BK628; clear BK629; clear HB; have BK625 := n0_; have BK626 := n1_; have BK627 := n2_; have BK628 := n3_; have BK629 := n4_; have HB := n5_; clear n0_ n1_ n2_ n3_ n4_ n5_; (try clear hb); (try clear hb2); (try clear hk); (try clear hi)) | ((with_reducible refine gate_dst (N := 14) rfl ?_); refine bx 14 #[.int .u64 0, .int .u64 0, .int .u64 0] 29 ?_; intro gb636 hg w72 hbox hb; have n0_ := bb BK625 hb; have n1_ := bb BK626 hb; have n2_ := bb BK627 hb; have n3_ := bb BK628 hb; have n4_ := bb BK629 hb; have n5_ := bs HB hb; have n6_ := Aside0.mk (hbox); have n7_ := sz HB hg; have n8_ := sz HB hg; have n9_ := nl BK625 hg; have n10_ := nr BK625 hg; have n11_ := nl BK626 hg; have n12_ := nr BK626 hg; have n13_ := nl BK627 hg; have n14_ := nr BK627 hg; have n15_ := nl BK628 hg; have n16_ := nr BK628 hg; have n17_ := nl BK629 hg; have n18_ := nr BK629 hg; clear BK625; clear BK626; clear BK627; clear BK628; clear BK629; clear HB; have BK625 := n0_; have BK626 := n1_; have BK627 := n2_; have BK628 := n3_; have BK629 := n4_; have HB := n5_; have BK636 := n6_; have GW636 := n7_; have GE636 := n8_; have NB625_636 := n9_; have NB636_625 := n10_; have NB626_636 := n11_; have NB636_626 := n12_; have NB627_636 := n13_; have NB636_627 := n14_; have NB628_636 := n15_; have NB636_628 := n16_; have NB629_636 := n17_; have NB636_629 := n18_; clear n0_ n1_ n2_ n3_ n4_ n5_ n6_ n7_ n8_ n9_ n10_ n11_ n12_ n13_ n14_ n15_ n16_ n17_ n18_; clear hb hbox hg; have hnb73 := NB636_625.out; have hnc73 := NB625_636.out; have hnb74 := NB636_626.out; have hnc74 := NB626_636.out; have hnb75 := NB636_627.out; have hnc75 := NB627_636.out; have hnb76 := NB636_628.out; have hnc76 := NB628_636.out; have hnb77 := NB636_629.out; have hnc77 := NB629_636.out; obtain ⟨hcz78_0, hcz78_1, hcz78_2, hfz78_0, hfz78_1, hfz78_2⟩ := bc3 BK636; obtain ⟨hcz79_0, hcz79_1, hcz79_2, hcz79_3, hcz79_4, hfz79_0, hfz79_1, hfz79_2, hfz79_3, hfz79_4⟩ := bc5 BK626; have hnb80 := NB628_625.out; have hnc80 := NB625_628.out; have hnb81 := NB628_629.out; have hnc81 := NB629_628.out; obtain ⟨hcz82_0, hcz82_1, hcz82_2, hfz82_0, hfz82_1, hfz82_2⟩ := bc3 BK628) | ((with_reducible refine gate_callee (f := 45) rfl ?_); refine gm (some 45) Try.func45 #[.agg #[.int .i64 a1_0, .int .u64 a1_1, .int .u64 a1_2, .int .u64 a1_3, .int .u64 a1_4], .agg #[.int .u64 a3_0, .int .u64 a3_1, .int .u64 a3_2], .agg #[.int .u64 t631, .int .u64 t632, .int .u64 t633]] (turnstileref06_Covers.calls a1_0 a1_1 a1_2 a1_3 a1_4 a3_0 a3_1 a3_2 t631 t632 t633 false _ A11.out) ?_; intro w83 hb; have n0_ := bb BK625 hb; have n1_ := bb BK626 hb; have n2_ := bb BK627 hb; have n3_ := bb BK628 hb; have n4_ := bb BK629 hb; have n5_ := bbp (.cells #[.int .u64 t631, .int .u64 t632, .int .u64 t633] 29 (0, 0)) BK636 hb; have n6_ := bs HB hb; clear BK625; clear BK626; clear BK627; clear BK628; clear BK629; clear BK636; clear HB; have BK625 := n0_; have BK626 := n1_; have BK627 := n2_; have BK628 := n3_; have BK629 := n4_; have BK636 := n5_; have HB := n6_; clear n0_ n1_ n2_ n3_ n4_ n5_ n6_; (try clear hb); (try clear hb2); (try clear hk); (try clear hi)))
        have n0_ := Aside0.mk (blk_drew BK625.out)
        have n1_ := Aside0.mk (blk_drew BK626.out)
        have n2_ := Aside0.mk (blk_drew BK627.out)
        have n3_ := Aside0.mk (blk_drew BK628.out)
        have n4_ := Aside0.mk (blk_drew BK629.out)
        have n5_ := Aside0.mk (blk_drew BK636.out)
        have n6_ := Aside0.mk (below_drew1 HB.out)
        clear BK625
        clear BK626
        clear BK627
        clear BK628
        clear BK629
        clear BK636
        clear HB
        have BK625 := n0_
        have BK626 := n1_
        have BK627 := n2_
        have BK628 := n3_
        have BK629 := n4_
        have BK636 := n5_
        have HB := n6_
        clear n0_ n1_ n2_ n3_ n4_ n5_ n6_
        refine start_ (n := 7) (S := fun w' => w'.cell? ⟨gb636, 0, none⟩ = some (.int .u64 t631) ∧ w'.cell? ⟨gb636, 1, none⟩ = some (.int .u64 t632) ∧ w'.cell? ⟨gb636, 2, none⟩ = some (.int .u64 t633) ∧ w'.cell? ⟨gb625, 0, none⟩ = some (.int .u64 a0_0) ∧ w'.cell? ⟨gb625, 1, none⟩ = some (.int .u64 a0_1) ∧ w'.cell? ⟨gb625, 2, none⟩ = some (.int .i64 a0_2) ∧ w'.cell? ⟨gb625, 3, none⟩ = some (.int .i64 a0_3) ∧ w'.cell? ⟨gb625, 4, none⟩ = some (.int .i64 a0_4) ∧ w'.cell? ⟨gb626, 0, none⟩ = some (.int .i64 a1_0) ∧ w'.cell? ⟨gb626, 1, none⟩ = some (.int .u64 a1_1) ∧ w'.cell? ⟨gb626, 2, none⟩ = some (.int .u64 a1_2) ∧ w'.cell? ⟨gb626, 3, none⟩ = some (.int .u64 a1_3) ∧ w'.cell? ⟨gb626, 4, none⟩ = some (.int .u64 a1_4)) (ds := []) #[false, false, false, false, false, false, false] (by kernel_rfl) rfl rfl ⟨(blk_cell BK636.out 0).trans rfl, (blk_cell BK636.out 1).trans rfl, (blk_cell BK636.out 2).trans rfl, (blk_cell BK625.out 0).trans rfl, (blk_cell BK625.out 1).trans rfl, (blk_cell BK625.out 2).trans rfl, (blk_cell BK625.out 3).trans rfl, (blk_cell BK625.out 4).trans rfl, (blk_cell BK626.out 0).trans rfl, (blk_cell BK626.out 1).trans rfl, (blk_cell BK626.out 2).trans rfl, (blk_cell BK626.out 3).trans rfl, (blk_cell BK626.out 4).trans rfl⟩ (fun hHeld => ?_)
        generalize w83.drew = w84 at BK625 BK626 BK627 BK628 BK629 BK636 HB hHeld ⊢
        refine take_ (i := 0) (N := some 52) (v := ?_) (a' := ?_) #[true, false, false, false, false, false, false] rfl rfl (by kernel_rfl) (fun _ _ _ h => h) (Or.inl ⟨by rfl, ?_⟩) hHeld ?_ ?_
        rotate_left
        · rintro w' ⟨s0, s1, s2, s3, s4, s5, s6, s7, s8, s9, s10, s11, s12⟩
          go_simp
          with_reducible rfl
        rotate_left
        · simp only [Act.put, List.setIfInBounds_toArray, List.set_cons_zero, List.set_cons_succ, i64_w, i32_w]
          rfl
        refine take_ (i := 1) (N := some 53) (v := ?_) (a' := ?_) #[true, true, false, false, false, false, false] rfl rfl (by kernel_rfl) (fun _ _ _ h => h) (Or.inl ⟨by rfl, ?_⟩) hHeld ?_ ?_
        rotate_left
        · rintro w' ⟨s0, s1, s2, s3, s4, s5, s6, s7, s8, s9, s10, s11, s12⟩
          go_simp
          with_reducible rfl
        rotate_left
        · simp only [Act.put, List.setIfInBounds_toArray, List.set_cons_zero, List.set_cons_succ, i64_w, i32_w]
          rfl
        refine take_ (i := 2) (N := some 54) (v := ?_) (a' := ?_) #[true, true, true, false, false, false, false] rfl rfl (by kernel_rfl) (fun _ _ _ h => h) (Or.inl ⟨by rfl, ?_⟩) hHeld ?_ ?_
        rotate_left
        · rintro w' ⟨s0, s1, s2, s3, s4, s5, s6, s7, s8, s9, s10, s11, s12⟩
          go_simp
          with_reducible rfl
        rotate_left
        · simp only [Act.put, List.setIfInBounds_toArray, List.set_cons_zero, List.set_cons_succ, i64_w, i32_w]
          rfl
        refine take_ (i := 3) (N := some 55) (v := ?_) (a' := ?_) #[true, true, true, true, false, false, false] rfl rfl (by kernel_rfl) (fun _ _ _ h => h) (Or.inl ⟨by rfl, ?_⟩) hHeld ?_ ?_
        rotate_left
        · rintro w' ⟨s0, s1, s2, s3, s4, s5, s6, s7, s8, s9, s10, s11, s12⟩
          go_simp
          with_reducible rfl
        rotate_left
        · simp only [Act.put, List.setIfInBounds_toArray, List.set_cons_zero, List.set_cons_succ, i64_w, i32_w]
          rfl
        refine one_ (i := 4) (N := some 56) #[true, true, true, true, true, false, false] rfl rfl (by kernel_rfl) (by decide) (fun K hK => ?_)
        refine ge Try.func55 #[.agg #[.int .u64 a0_0, .int .u64 a0_1, .int .i64 a0_2, .int .i64 a0_3, .int .i64 a0_4], .agg #[.int .i64 a1_0, .int .u64 a1_1, .int .u64 a1_2, .int .u64 a1_3, .int .u64 a1_4], .agg #[.int .u64 t631, .int .u64 t632, .int .u64 t633]] ?_
        with_reducible refine (turnstileref17_Ceiling.calls a0_0 a0_1 a0_2 a0_3 a0_4 a1_0 a1_1 a1_2 a1_3 a1_4 t631 t632 t633 t647 t648 t649 _ A54.out).mono ?_
        rintro e w85 ⟨rfl, hb⟩
        refine ⟨_, rfl, ?_⟩
        have n0_ := bb BK625 hb
        have n1_ := bb BK626 hb
        have n2_ := bb BK627 hb
        have n3_ := bb BK628 hb
        have n4_ := bb BK629 hb
        have n5_ := bb BK636 hb
        have n6_ := bs HB hb
        clear BK625
        clear BK626
        clear BK627
        clear BK628
        clear BK629
        clear BK636
        clear HB
        have BK625 := n0_
        have BK626 := n1_
        have BK627 := n2_
        have BK628 := n3_
        have BK629 := n4_
        have BK636 := n5_
        have HB := n6_
        clear n0_ n1_ n2_ n3_ n4_ n5_ n6_
        (try clear hb)
        (try clear hb2)
        (try clear hk)
        (try clear hi)
        refine hK.out _ _ ⟨(blk_cell BK636.out 0).trans rfl, (blk_cell BK636.out 1).trans rfl, (blk_cell BK636.out 2).trans rfl, (blk_cell BK625.out 0).trans rfl, (blk_cell BK625.out 1).trans rfl, (blk_cell BK625.out 2).trans rfl, (blk_cell BK625.out 3).trans rfl, (blk_cell BK625.out 4).trans rfl, (blk_cell BK626.out 0).trans rfl, (blk_cell BK626.out 1).trans rfl, (blk_cell BK626.out 2).trans rfl, (blk_cell BK626.out 3).trans rfl, (blk_cell BK626.out 4).trans rfl⟩ (fun hHeld => ?_)
        clear hK K
        refine norm_ (a' := ?_) ?_ ?_
        rotate_left
        · show Act.put _ (some 56) _ = _
          simp only [Act.put, List.setIfInBounds_toArray, List.set_cons_zero, List.set_cons_succ, i64_w, i32_w]
          rfl
        refine pure_ (i := 5) (N := some 57) (v := ?_) (a' := ?_) #[true, true, true, true, true, true, false] rfl rfl (by kernel_rfl) (fun _ _ _ h => h) (Or.inl ⟨by rfl, ?_⟩) ?_ ?_
        rotate_left
        · intro w'
          go_simp
          with_reducible rfl
        rotate_left
        · simp only [Act.put, List.setIfInBounds_toArray, List.set_cons_zero, List.set_cons_succ, i64_w, i32_w]
          rfl
        refine one_ (i := 6) (N := none) #[true, true, true, true, true, true, true] rfl rfl (by kernel_rfl) (by decide) (fun K hK => ?_)
        have hs86 : w85.cell? ⟨gb629, 0, none⟩ = some (.int .u64 0) := (blk_cell BK629.out 0).trans rfl
        have hfs86 := blk_frozen BK629.out 0
        have hns86_0 := NB625_629.out
        have hns86_1 := NB626_629.out
        have hns86_2 := NB627_629.out
        have hns86_3 := NB628_629.out
        have hns86_5 := NB636_629.out
        have hms86_0 := NB629_625.out
        have hms86_1 := NB629_626.out
        have hms86_2 := NB629_627.out
        have hms86_3 := NB629_628.out
        have hms86_5 := NB629_636.out
        have hs87 : w85.cell? ⟨gb629, 1, none⟩ = some (.int .u64 0) := (blk_cell BK629.out 1).trans rfl
        have hfs87 := blk_frozen BK629.out 1
        have hns87_0 := NB625_629.out
        have hns87_1 := NB626_629.out
        have hns87_2 := NB627_629.out
        have hns87_3 := NB628_629.out
        have hns87_5 := NB636_629.out
        have hms87_0 := NB629_625.out
        have hms87_1 := NB629_626.out
        have hms87_2 := NB629_627.out
        have hms87_3 := NB629_628.out
        have hms87_5 := NB629_636.out
        have hs88 : w85.cell? ⟨gb629, 2, none⟩ = some (.int .u64 0) := (blk_cell BK629.out 2).trans rfl
        have hfs88 := blk_frozen BK629.out 2
        have hns88_0 := NB625_629.out
        have hns88_1 := NB626_629.out
        have hns88_2 := NB627_629.out
        have hns88_3 := NB628_629.out
        have hns88_5 := NB636_629.out
        have hms88_0 := NB629_625.out
        have hms88_1 := NB629_626.out
        have hms88_2 := NB629_627.out
        have hms88_3 := NB629_628.out
        have hms88_5 := NB629_636.out
        have hs89 : w85.cell? ⟨gb629, 3, none⟩ = some (.bool false) := (blk_cell BK629.out 3).trans rfl
        have hfs89 := blk_frozen BK629.out 3
        have hns89_0 := NB625_629.out
        have hns89_1 := NB626_629.out
        have hns89_2 := NB627_629.out
        have hns89_3 := NB628_629.out
        have hns89_5 := NB636_629.out
        have hms89_0 := NB629_625.out
        have hms89_1 := NB629_626.out
        have hms89_2 := NB629_627.out
        have hms89_3 := NB629_628.out
        have hms89_5 := NB629_636.out
        have hs90 : w85.cell? ⟨gb629, 4, none⟩ = some (.int .u64 0) := (blk_cell BK629.out 4).trans rfl
        have hfs90 := blk_frozen BK629.out 4
        have hns90_0 := NB625_629.out
        have hns90_1 := NB626_629.out
        have hns90_2 := NB627_629.out
        have hns90_3 := NB628_629.out
        have hns90_5 := NB636_629.out
        have hms90_0 := NB629_625.out
        have hms90_1 := NB629_626.out
        have hms90_2 := NB629_627.out
        have hms90_3 := NB629_628.out
        have hms90_5 := NB629_636.out
        have hs91 : w85.cell? ⟨gb629, 5, none⟩ = some (.bool false) := (blk_cell BK629.out 5).trans rfl
        have hfs91 := blk_frozen BK629.out 5
        have hns91_0 := NB625_629.out
        have hns91_1 := NB626_629.out
        have hns91_2 := NB627_629.out
        have hns91_3 := NB628_629.out
        have hns91_5 := NB636_629.out
        have hms91_0 := NB629_625.out
        have hms91_1 := NB629_626.out
        have hms91_2 := NB629_627.out
        have hms91_3 := NB629_628.out
        have hms91_5 := NB629_636.out
        have hs92 : w85.cell? ⟨gb629, 6, none⟩ = some (.int .u64 0) := (blk_cell BK629.out 6).trans rfl
        have hfs92 := blk_frozen BK629.out 6
        have hns92_0 := NB625_629.out
        have hns92_1 := NB626_629.out
        have hns92_2 := NB627_629.out
        have hns92_3 := NB628_629.out
        have hns92_5 := NB636_629.out
        have hms92_0 := NB629_625.out
        have hms92_1 := NB629_626.out
        have hms92_2 := NB629_627.out
        have hms92_3 := NB629_628.out
        have hms92_5 := NB629_636.out
        have hs93 : w85.cell? ⟨gb629, 7, none⟩ = some (.int .u64 0) := (blk_cell BK629.out 7).trans rfl
        have hfs93 := blk_frozen BK629.out 7
        have hns93_0 := NB625_629.out
        have hns93_1 := NB626_629.out
        have hns93_2 := NB627_629.out
        have hns93_3 := NB628_629.out
        have hns93_5 := NB636_629.out
        have hms93_0 := NB629_625.out
        have hms93_1 := NB629_626.out
        have hms93_2 := NB629_627.out
        have hms93_3 := NB629_628.out
        have hms93_5 := NB629_636.out
        have hs94 : w85.cell? ⟨gb629, 8, none⟩ = some (.int .u64 0) := (blk_cell BK629.out 8).trans rfl
        have hfs94 := blk_frozen BK629.out 8
        have hns94_0 := NB625_629.out
        have hns94_1 := NB626_629.out
        have hns94_2 := NB627_629.out
        have hns94_3 := NB628_629.out
        have hns94_5 := NB636_629.out
        have hms94_0 := NB629_625.out
        have hms94_1 := NB629_626.out
        have hms94_2 := NB629_627.out
        have hms94_3 := NB629_628.out
        have hms94_5 := NB629_636.out
        refine skip_ (w1 := ?_) (by rfl) rfl ?_ ?_
        rotate_left
        · go_simp
          rfl
        refine hK.out _ _ ⟨((cell_far (p := ⟨gb629, _, none⟩) NB636_629.out _).trans (((cell_far (p := ⟨gb629, _, none⟩) NB636_629.out _).trans (((cell_far (p := ⟨gb629, _, none⟩) NB636_629.out _).trans (((cell_far (p := ⟨gb629, _, none⟩) NB636_629.out _).trans (((cell_far (p := ⟨gb629, _, none⟩) NB636_629.out _).trans (((cell_far (p := ⟨gb629, _, none⟩) NB636_629.out _).trans (((cell_far (p := ⟨gb629, _, none⟩) NB636_629.out _).trans (((cell_far (p := ⟨gb629, _, none⟩) NB636_629.out _).trans (((cell_far (p := ⟨gb629, _, none⟩) NB636_629.out _).trans (hHeld.1)))))))))))))))))), ((cell_far (p := ⟨gb629, _, none⟩) NB636_629.out _).trans (((cell_far (p := ⟨gb629, _, none⟩) NB636_629.out _).trans (((cell_far (p := ⟨gb629, _, none⟩) NB636_629.out _).trans (((cell_far (p := ⟨gb629, _, none⟩) NB636_629.out _).trans (((cell_far (p := ⟨gb629, _, none⟩) NB636_629.out _).trans (((cell_far (p := ⟨gb629, _, none⟩) NB636_629.out _).trans (((cell_far (p := ⟨gb629, _, none⟩) NB636_629.out _).trans (((cell_far (p := ⟨gb629, _, none⟩) NB636_629.out _).trans (((cell_far (p := ⟨gb629, _, none⟩) NB636_629.out _).trans (hHeld.2.1)))))))))))))))))), ((cell_far (p := ⟨gb629, _, none⟩) NB636_629.out _).trans (((cell_far (p := ⟨gb629, _, none⟩) NB636_629.out _).trans (((cell_far (p := ⟨gb629, _, none⟩) NB636_629.out _).trans (((cell_far (p := ⟨gb629, _, none⟩) NB636_629.out _).trans (((cell_far (p := ⟨gb629, _, none⟩) NB636_629.out _).trans (((cell_far (p := ⟨gb629, _, none⟩) NB636_629.out _).trans (((cell_far (p := ⟨gb629, _, none⟩) NB636_629.out _).trans (((cell_far (p := ⟨gb629, _, none⟩) NB636_629.out _).trans (((cell_far (p := ⟨gb629, _, none⟩) NB636_629.out _).trans (hHeld.2.2.1)))))))))))))))))), ((cell_far (p := ⟨gb629, _, none⟩) NB625_629.out _).trans (((cell_far (p := ⟨gb629, _, none⟩) NB625_629.out _).trans (((cell_far (p := ⟨gb629, _, none⟩) NB625_629.out _).trans (((cell_far (p := ⟨gb629, _, none⟩) NB625_629.out _).trans (((cell_far (p := ⟨gb629, _, none⟩) NB625_629.out _).trans (((cell_far (p := ⟨gb629, _, none⟩) NB625_629.out _).trans (((cell_far (p := ⟨gb629, _, none⟩) NB625_629.out _).trans (((cell_far (p := ⟨gb629, _, none⟩) NB625_629.out _).trans (((cell_far (p := ⟨gb629, _, none⟩) NB625_629.out _).trans (hHeld.2.2.2.1)))))))))))))))))), ((cell_far (p := ⟨gb629, _, none⟩) NB625_629.out _).trans (((cell_far (p := ⟨gb629, _, none⟩) NB625_629.out _).trans (((cell_far (p := ⟨gb629, _, none⟩) NB625_629.out _).trans (((cell_far (p := ⟨gb629, _, none⟩) NB625_629.out _).trans (((cell_far (p := ⟨gb629, _, none⟩) NB625_629.out _).trans (((cell_far (p := ⟨gb629, _, none⟩) NB625_629.out _).trans (((cell_far (p := ⟨gb629, _, none⟩) NB625_629.out _).trans (((cell_far (p := ⟨gb629, _, none⟩) NB625_629.out _).trans (((cell_far (p := ⟨gb629, _, none⟩) NB625_629.out _).trans (hHeld.2.2.2.2.1)))))))))))))))))), ((cell_far (p := ⟨gb629, _, none⟩) NB625_629.out _).trans (((cell_far (p := ⟨gb629, _, none⟩) NB625_629.out _).trans (((cell_far (p := ⟨gb629, _, none⟩) NB625_629.out _).trans (((cell_far (p := ⟨gb629, _, none⟩) NB625_629.out _).trans (((cell_far (p := ⟨gb629, _, none⟩) NB625_629.out _).trans (((cell_far (p := ⟨gb629, _, none⟩) NB625_629.out _).trans (((cell_far (p := ⟨gb629, _, none⟩) NB625_629.out _).trans (((cell_far (p := ⟨gb629, _, none⟩) NB625_629.out _).trans (((cell_far (p := ⟨gb629, _, none⟩) NB625_629.out _).trans (hHeld.2.2.2.2.2.1)))))))))))))))))), ((cell_far (p := ⟨gb629, _, none⟩) NB625_629.out _).trans (((cell_far (p := ⟨gb629, _, none⟩) NB625_629.out _).trans (((cell_far (p := ⟨gb629, _, none⟩) NB625_629.out _).trans (((cell_far (p := ⟨gb629, _, none⟩) NB625_629.out _).trans (((cell_far (p := ⟨gb629, _, none⟩) NB625_629.out _).trans (((cell_far (p := ⟨gb629, _, none⟩) NB625_629.out _).trans (((cell_far (p := ⟨gb629, _, none⟩) NB625_629.out _).trans (((cell_far (p := ⟨gb629, _, none⟩) NB625_629.out _).trans (((cell_far (p := ⟨gb629, _, none⟩) NB625_629.out _).trans (hHeld.2.2.2.2.2.2.1)))))))))))))))))), ((cell_far (p := ⟨gb629, _, none⟩) NB625_629.out _).trans (((cell_far (p := ⟨gb629, _, none⟩) NB625_629.out _).trans (((cell_far (p := ⟨gb629, _, none⟩) NB625_629.out _).trans (((cell_far (p := ⟨gb629, _, none⟩) NB625_629.out _).trans (((cell_far (p := ⟨gb629, _, none⟩) NB625_629.out _).trans (((cell_far (p := ⟨gb629, _, none⟩) NB625_629.out _).trans (((cell_far (p := ⟨gb629, _, none⟩) NB625_629.out _).trans (((cell_far (p := ⟨gb629, _, none⟩) NB625_629.out _).trans (((cell_far (p := ⟨gb629, _, none⟩) NB625_629.out _).trans (hHeld.2.2.2.2.2.2.2.1)))))))))))))))))), ((cell_far (p := ⟨gb629, _, none⟩) NB626_629.out _).trans (((cell_far (p := ⟨gb629, _, none⟩) NB626_629.out _).trans (((cell_far (p := ⟨gb629, _, none⟩) NB626_629.out _).trans (((cell_far (p := ⟨gb629, _, none⟩) NB626_629.out _).trans (((cell_far (p := ⟨gb629, _, none⟩) NB626_629.out _).trans (((cell_far (p := ⟨gb629, _, none⟩) NB626_629.out _).trans (((cell_far (p := ⟨gb629, _, none⟩) NB626_629.out _).trans (((cell_far (p := ⟨gb629, _, none⟩) NB626_629.out _).trans (((cell_far (p := ⟨gb629, _, none⟩) NB626_629.out _).trans (hHeld.2.2.2.2.2.2.2.2.1)))))))))))))))))), ((cell_far (p := ⟨gb629, _, none⟩) NB626_629.out _).trans (((cell_far (p := ⟨gb629, _, none⟩) NB626_629.out _).trans (((cell_far (p := ⟨gb629, _, none⟩) NB626_629.out _).trans (((cell_far (p := ⟨gb629, _, none⟩) NB626_629.out _).trans (((cell_far (p := ⟨gb629, _, none⟩) NB626_629.out _).trans (((cell_far (p := ⟨gb629, _, none⟩) NB626_629.out _).trans (((cell_far (p := ⟨gb629, _, none⟩) NB626_629.out _).trans (((cell_far (p := ⟨gb629, _, none⟩) NB626_629.out _).trans (((cell_far (p := ⟨gb629, _, none⟩) NB626_629.out _).trans (hHeld.2.2.2.2.2.2.2.2.2.1)))))))))))))))))), ((cell_far (p := ⟨gb629, _, none⟩) NB626_629.out _).trans (((cell_far (p := ⟨gb629, _, none⟩) NB626_629.out _).trans (((cell_far (p := ⟨gb629, _, none⟩) NB626_629.out _).trans (((cell_far (p := ⟨gb629, _, none⟩) NB626_629.out _).trans (((cell_far (p := ⟨gb629, _, none⟩) NB626_629.out _).trans (((cell_far (p := ⟨gb629, _, none⟩) NB626_629.out _).trans (((cell_far (p := ⟨gb629, _, none⟩) NB626_629.out _).trans (((cell_far (p := ⟨gb629, _, none⟩) NB626_629.out _).trans (((cell_far (p := ⟨gb629, _, none⟩) NB626_629.out _).trans (hHeld.2.2.2.2.2.2.2.2.2.2.1)))))))))))))))))), ((cell_far (p := ⟨gb629, _, none⟩) NB626_629.out _).trans (((cell_far (p := ⟨gb629, _, none⟩) NB626_629.out _).trans (((cell_far (p := ⟨gb629, _, none⟩) NB626_629.out _).trans (((cell_far (p := ⟨gb629, _, none⟩) NB626_629.out _).trans (((cell_far (p := ⟨gb629, _, none⟩) NB626_629.out _).trans (((cell_far (p := ⟨gb629, _, none⟩) NB626_629.out _).trans (((cell_far (p := ⟨gb629, _, none⟩) NB626_629.out _).trans (((cell_far (p := ⟨gb629, _, none⟩) NB626_629.out _).trans (((cell_far (p := ⟨gb629, _, none⟩) NB626_629.out _).trans (hHeld.2.2.2.2.2.2.2.2.2.2.2.1)))))))))))))))))), ((cell_far (p := ⟨gb629, _, none⟩) NB626_629.out _).trans (((cell_far (p := ⟨gb629, _, none⟩) NB626_629.out _).trans (((cell_far (p := ⟨gb629, _, none⟩) NB626_629.out _).trans (((cell_far (p := ⟨gb629, _, none⟩) NB626_629.out _).trans (((cell_far (p := ⟨gb629, _, none⟩) NB626_629.out _).trans (((cell_far (p := ⟨gb629, _, none⟩) NB626_629.out _).trans (((cell_far (p := ⟨gb629, _, none⟩) NB626_629.out _).trans (((cell_far (p := ⟨gb629, _, none⟩) NB626_629.out _).trans (((cell_far (p := ⟨gb629, _, none⟩) NB626_629.out _).trans (hHeld.2.2.2.2.2.2.2.2.2.2.2.2))))))))))))))))))⟩ (fun hHeld => ?_)
        clear hK K
        refine done_ (by kernel_rfl) ?_
        try go_wp2
        with_reducible refine bodyPost_ret (results_cell_row rfl _ _ gb629 93 #[.int .u64 t631, .int .u64 t632, .int .u64 t633, .bool true, .int .u64 0, .bool true, .int .u64 t647, .int .u64 t648, .int .u64 t649] (0, 0) _ rfl (put9_ BK629.out) Try.underlying93 rfl (by kernel_rfl)) rfl ?_
        exact ⟨re, bw HB⟩
    · replace c10 := Bool.eq_false_iff.mpr c10
      subst c10
      have H1 : ((turnstileref17_InForm.f a1_0 a1_1 a1_2 a1_3 a1_4 a2_0 a2_1 a2_2).bind fun bt637 => ((turnstileref17_InForm.f a1_0 a1_1 a1_2 a1_3 a1_4 a3_0 a3_1 a3_2).bind fun bt640 => (some (bt637.1, bt637.2.1, bt637.2.2, false, t635, false, bt640.1, bt640.2.1, bt640.2.2)))) = some (r1, r2, r3, r4, r5, r6, r7, r8, r9) := by rw [if_neg (show ¬ (false = true) by decide)] at H; exact H
      clear H
      have H := H1
      clear H1
      replace H := Option.bind_eq_some_iff.mp H
      obtain ⟨⟨t637, t638, t639⟩, A950, H⟩ := H
      replace H : ((turnstileref17_InForm.f a1_0 a1_1 a1_2 a1_3 a1_4 a3_0 a3_1 a3_2).bind fun bt640 => (some (t637, t638, t639, false, t635, false, bt640.1, bt640.2.1, bt640.2.2))) = some (r1, r2, r3, r4, r5, r6, r7, r8, r9) := H
      have A95 := Aside0.mk A950
      clear A950
      replace H := Option.bind_eq_some_iff.mp H
      obtain ⟨⟨t640, t641, t642⟩, A960, H⟩ := H
      replace H : (some (t637, t638, t639, false, t635, false, t640, t641, t642)) = some (r1, r2, r3, r4, r5, r6, r7, r8, r9) := H
      have A96 := Aside0.mk A960
      clear A960
      simp only [Option.some.injEq, Prod.mk.injEq] at H
      obtain ⟨rfl, rfl, rfl, rfl, rfl, rfl, rfl, rfl, rfl⟩ := H
      go_enter Try.func57, Try.ntmps57
      try go_wp2_with (first | ((with_reducible refine gate_dst (N := 6) rfl ?_); refine bx 6 #[.int .u64 a0_0, .int .u64 a0_1, .int .i64 a0_2, .int .i64 a0_3, .int .i64 a0_4] 53 ?_; intro gb625 hg w97 hbox hb; have n0_ := bs HB hb; have n1_ := Aside0.mk (hbox); have n2_ := sz HB hg; have n3_ := sz HB hg; clear HB; have HB := n0_; have BK625 := n1_; have GW625 := n2_; have GE625 := n3_; clear n0_ n1_ n2_ n3_; clear hb hbox hg) | ((with_reducible refine gate_dst (N := 7) rfl ?_); refine bx 7 #[.int .i64 a1_0, .int .u64 a1_1, .int .u64 a1_2, .int .u64 a1_3, .int .u64 a1_4] 27 ?_; intro gb626 hg w98 hbox hb; have n0_ := bb BK625 hb; have n1_ := bs HB hb; have n2_ := Aside0.mk (hbox); have n3_ := sz HB hg; have n4_ := sz HB hg; have n5_ := nl BK625 hg; have n6_ := nr BK625 hg; clear BK625; clear HB; have BK625 := n0_; have HB := n1_; have BK626 := n2_; have GW626 := n3_; have GE626 := n4_; have NB625_626 := n5_; have NB626_625 := n6_; clear n0_ n1_ n2_ n3_ n4_ n5_ n6_; clear hb hbox hg) | ((with_reducible refine gate_dst (N := 8) rfl ?_); refine bx 8 #[.int .u64 a2_0, .int .u64 a2_1, .int .u64 a2_2] 29 ?_; intro gb627 hg w99 hbox hb; have n0_ := bb BK625 hb; have n1_ := bb BK626 hb; have n2_ := bs HB hb; have n3_ := Aside0.mk (hbox); have n4_ := sz HB hg; have n5_ := sz HB hg; have n6_ := nl BK625 hg; have n7_ := nr BK625 hg; have n8_ := nl BK626 hg; have n9_ := nr BK626 hg; clear BK625; clear BK626; clear HB; have BK625 := n0_; have BK626 := n1_; have HB := n2_; have BK627 := n3_; have GW627 := n4_; have GE627 := n5_; have NB625_627 := n6_; have NB627_625 := n7_; have NB626_627 := n8_; have NB627_626 := n9_; clear n0_ n1_ n2_ n3_ n4_ n5_ n6_ n7_ n8_ n9_; clear hb hbox hg) | ((with_reducible refine gate_dst (N := 9) rfl ?_); refine bx 9 #[.int .u64 a3_0, .int .u64 a3_1, .int .u64 a3_2] 29 ?_; intro gb628 hg w100 hbox hb; have n0_ := bb BK625 hb; have n1_ := bb BK626 hb; have n2_ := bb BK627 hb; have n3_ := bs HB hb; have n4_ := Aside0.mk (hbox); have n5_ := sz HB hg; have n6_ := sz HB hg; have n7_ := nl BK625 hg; have n8_ := nr BK625 hg; have n9_ := nl BK626 hg; have n10_ := nr BK626 hg; have n11_ := nl BK627 hg; have n12_ := nr BK627 hg; clear BK625; clear BK626; clear BK627; clear HB; have BK625 := n0_; have BK626 := n1_; have BK627 := n2_; have HB := n3_; have BK628 := n4_; have GW628 := n5_; have GE628 := n6_; have NB625_628 := n7_; have NB628_625 := n8_; have NB626_628 := n9_; have NB628_626 := n10_; have NB627_628 := n11_; have NB628_627 := n12_; clear n0_ n1_ n2_ n3_ n4_ n5_ n6_ n7_ n8_ n9_ n10_ n11_ n12_; clear hb hbox hg) | ((with_reducible refine gate_dst (N := 12) rfl ?_); refine bx 12 #[.int .u64 0, .int .u64 0, .int .u64 0, .bool false, .int .u64 0, .bool false, .int .u64 0, .int .u64 0, .int .u64 0] 93 ?_; intro gb629 hg w101 hbox hb; have n0_ := bb BK625 hb; have n1_ := bb BK626 hb; have n2_ := bb BK627 hb; have n3_ := bb BK628 hb; have n4_ := bs HB hb; have n5_ := Aside0.mk (hbox); have n6_ := sz HB hg; have n7_ := sz HB hg; have n8_ := nl BK625 hg; have n9_ := nr BK625 hg; have n10_ := nl BK626 hg; have n11_ := nr BK626 hg; have n12_ := nl BK627 hg; have n13_ := nr BK627 hg; have n14_ := nl BK628 hg; have n15_ := nr BK628 hg; clear BK625; clear BK626; clear BK627; clear BK628; clear HB; have BK625 := n0_; have BK626 := n1_; have BK627 := n2_; have BK628 := n3_; have HB := n4_; have BK629 := n5_; have GW629 := n6_; have GE629 := n7_; have NB625_629 := n8_; have NB629_625 := n9_; have NB626_629 := n10_; have NB629_626 := n11_; have NB627_629 := n12_; have NB629_627 := n13_; have NB628_629 := n14_; have NB629_628 := n15_; clear n0_ n1_ n2_ n3_ n4_ n5_ n6_ n7_ n8_ n9_ n10_ n11_ n12_ n13_ n14_ n15_; clear hb hbox hg; have hnb102 := NB626_625.out; have hnc102 := NB625_626.out; have hnb103 := NB626_627.out; have hnc103 := NB627_626.out; have hnb104 := NB626_628.out; have hnc104 := NB628_626.out; have hnb105 := NB626_629.out; have hnc105 := NB629_626.out; obtain ⟨hcz106_0, hcz106_1, hcz106_2, hcz106_3, hcz106_4, hfz106_0, hfz106_1, hfz106_2, hfz106_3, hfz106_4⟩ := bc5 BK626) | ((with_reducible refine gate_callee (f := 41) rfl ?_); refine gm (some 19) Try.func41 #[.agg #[.int .i64 a1_0, .int .u64 a1_1, .int .u64 a1_2, .int .u64 a1_3, .int .u64 a1_4]] (turnstileref06_Valid.calls a1_0 a1_1 a1_2 a1_3 a1_4 true _ A7.out) ?_; intro w107 hb; have n0_ := bb BK625 hb; have n1_ := bb BK626 hb; have n2_ := bb BK627 hb; have n3_ := bb BK628 hb; have n4_ := bb BK629 hb; have n5_ := bs HB hb; clear BK625; clear BK626; clear BK627; clear BK628; clear BK629; clear HB; have BK625 := n0_; have BK626 := n1_; have BK627 := n2_; have BK628 := n3_; have BK629 := n4_; have HB := n5_; clear n0_ n1_ n2_ n3_ n4_ n5_; (try clear hb); (try clear hb2); (try clear hk); (try clear hi); obtain ⟨hcz108_0, hcz108_1, hcz108_2, hcz108_3, hcz108_4, hfz108_0, hfz108_1, hfz108_2, hfz108_3, hfz108_4⟩ := bc5 BK626; have hnb109 := NB627_625.out; have hnc109 := NB625_627.out; have hnb110 := NB627_628.out; have hnc110 := NB628_627.out; have hnb111 := NB627_629.out; have hnc111 := NB629_627.out; obtain ⟨hcz112_0, hcz112_1, hcz112_2, hfz112_0, hfz112_1, hfz112_2⟩ := bc3 BK627) | ((with_reducible refine gate_callee (f := 43) rfl ?_); refine gm (some 28) Try.func43 #[.agg #[.int .i64 a1_0, .int .u64 a1_1, .int .u64 a1_2, .int .u64 a1_3, .int .u64 a1_4], .agg #[.int .u64 a2_0, .int .u64 a2_1, .int .u64 a2_2], .int .u64 a4, .int .u64 a5] (turnstileref06_Admit.calls k a1_0 a1_1 a1_2 a1_3 a1_4 a2_0 a2_1 a2_2 a4 a5 t631 t632 t633 false t635 _ A9.out) ?_; intro w113 hb; have n0_ := bb BK625 hb; have n1_ := bb BK626 hb; have n2_ := bb BK627 hb; have n3_ := bb BK628 hb; have n4_ := bb BK629 hb; have n5_ := bs HB hb; clear BK625; clear BK626; clear BK627; clear BK628; clear BK629; clear HB; have BK625 := n0_; have BK626 := n1_; have BK627 := n2_; have BK628 := n3_; have BK629 := n4_; have HB := n5_; clear n0_ n1_ n2_ n3_ n4_ n5_; (try clear hb); (try clear hb2); (try clear hk); (try clear hi)) | ((with_reducible refine gate_dst (N := 14) rfl ?_); refine bx 14 #[.int .u64 0, .int .u64 0, .int .u64 0] 29 ?_; intro gb636 hg w114 hbox hb; have n0_ := bb BK625 hb; have n1_ := bb BK626 hb; have n2_ := bb BK627 hb; have n3_ := bb BK628 hb; have n4_ := bb BK629 hb; have n5_ := bs HB hb; have n6_ := Aside0.mk (hbox); have n7_ := sz HB hg; have n8_ := sz HB hg; have n9_ := nl BK625 hg; have n10_ := nr BK625 hg; have n11_ := nl BK626 hg; have n12_ := nr BK626 hg; have n13_ := nl BK627 hg; have n14_ := nr BK627 hg; have n15_ := nl BK628 hg; have n16_ := nr BK628 hg; have n17_ := nl BK629 hg; have n18_ := nr BK629 hg; clear BK625; clear BK626; clear BK627; clear BK628; clear BK629; clear HB; have BK625 := n0_; have BK626 := n1_; have BK627 := n2_; have BK628 := n3_; have BK629 := n4_; have HB := n5_; have BK636 := n6_; have GW636 := n7_; have GE636 := n8_; have NB625_636 := n9_; have NB636_625 := n10_; have NB626_636 := n11_; have NB636_626 := n12_; have NB627_636 := n13_; have NB636_627 := n14_; have NB628_636 := n15_; have NB636_628 := n16_; have NB629_636 := n17_; have NB636_629 := n18_; clear n0_ n1_ n2_ n3_ n4_ n5_ n6_ n7_ n8_ n9_ n10_ n11_ n12_ n13_ n14_ n15_ n16_ n17_ n18_; clear hb hbox hg; have hnb115 := NB636_625.out; have hnc115 := NB625_636.out; have hnb116 := NB636_626.out; have hnc116 := NB626_636.out; have hnb117 := NB636_627.out; have hnc117 := NB627_636.out; have hnb118 := NB636_628.out; have hnc118 := NB628_636.out; have hnb119 := NB636_629.out; have hnc119 := NB629_636.out; obtain ⟨hcz120_0, hcz120_1, hcz120_2, hfz120_0, hfz120_1, hfz120_2⟩ := bc3 BK636))
      have n0_ : Aside0 ((((w114.setCell ⟨gb636, 0, none⟩ (.int .u64 t631)).setCell ⟨gb636, 1, none⟩ (.int .u64 t632)).setCell ⟨gb636, 2, none⟩ (.int .u64 t633)).heap[gb625]? = some (.cells #[.int .u64 a0_0, .int .u64 a0_1, .int .i64 a0_2, .int .i64 a0_3, .int .i64 a0_4] 53 (0, 0))) := ⟨bk BK625⟩
      have n1_ : Aside0 ((((w114.setCell ⟨gb636, 0, none⟩ (.int .u64 t631)).setCell ⟨gb636, 1, none⟩ (.int .u64 t632)).setCell ⟨gb636, 2, none⟩ (.int .u64 t633)).heap[gb626]? = some (.cells #[.int .i64 a1_0, .int .u64 a1_1, .int .u64 a1_2, .int .u64 a1_3, .int .u64 a1_4] 27 (0, 0))) := ⟨bk BK626⟩
      have n2_ : Aside0 ((((w114.setCell ⟨gb636, 0, none⟩ (.int .u64 t631)).setCell ⟨gb636, 1, none⟩ (.int .u64 t632)).setCell ⟨gb636, 2, none⟩ (.int .u64 t633)).heap[gb627]? = some (.cells #[.int .u64 a2_0, .int .u64 a2_1, .int .u64 a2_2] 29 (0, 0))) := ⟨bk BK627⟩
      have n3_ : Aside0 ((((w114.setCell ⟨gb636, 0, none⟩ (.int .u64 t631)).setCell ⟨gb636, 1, none⟩ (.int .u64 t632)).setCell ⟨gb636, 2, none⟩ (.int .u64 t633)).heap[gb628]? = some (.cells #[.int .u64 a3_0, .int .u64 a3_1, .int .u64 a3_2] 29 (0, 0))) := ⟨bk BK628⟩
      have n4_ : Aside0 ((((w114.setCell ⟨gb636, 0, none⟩ (.int .u64 t631)).setCell ⟨gb636, 1, none⟩ (.int .u64 t632)).setCell ⟨gb636, 2, none⟩ (.int .u64 t633)).heap[gb629]? = some (.cells #[.int .u64 0, .int .u64 0, .int .u64 0, .bool false, .int .u64 0, .bool false, .int .u64 0, .int .u64 0, .int .u64 0] 93 (0, 0))) := ⟨bk BK629⟩
      have n5_ : Aside0 ((((w114.setCell ⟨gb636, 0, none⟩ (.int .u64 t631)).setCell ⟨gb636, 1, none⟩ (.int .u64 t632)).setCell ⟨gb636, 2, none⟩ (.int .u64 t633)).heap[gb636]? = some (.cells #[.int .u64 t631, .int .u64 t632, .int .u64 t633] 29 (0, 0))) := ⟨bk BK636⟩
      have n6_ : Aside0 (Below w.heap.size w (((w114.setCell ⟨gb636, 0, none⟩ (.int .u64 t631)).setCell ⟨gb636, 1, none⟩ (.int .u64 t632)).setCell ⟨gb636, 2, none⟩ (.int .u64 t633))) := ⟨bw HB⟩
      (try clear BK625)
      (try clear BK626)
      (try clear BK627)
      (try clear BK628)
      (try clear BK629)
      (try clear BK636)
      (try clear HB)
      generalize (((w114.setCell ⟨gb636, 0, none⟩ (.int .u64 t631)).setCell ⟨gb636, 1, none⟩ (.int .u64 t632)).setCell ⟨gb636, 2, none⟩ (.int .u64 t633)) = w121 at n0_ n1_ n2_ n3_ n4_ n5_ n6_ ⊢
      have BK625 := n0_
      have BK626 := n1_
      have BK627 := n2_
      have BK628 := n3_
      have BK629 := n4_
      have BK636 := n5_
      have HB := n6_
      clear n0_ n1_ n2_ n3_ n4_ n5_ n6_
      have n0_ := Aside0.mk (blk_drew BK625.out)
      have n1_ := Aside0.mk (blk_drew BK626.out)
      have n2_ := Aside0.mk (blk_drew BK627.out)
      have n3_ := Aside0.mk (blk_drew BK628.out)
      have n4_ := Aside0.mk (blk_drew BK629.out)
      have n5_ := Aside0.mk (blk_drew BK636.out)
      have n6_ := Aside0.mk (below_drew1 HB.out)
      clear BK625
      clear BK626
      clear BK627
      clear BK628
      clear BK629
      clear BK636
      clear HB
      have BK625 := n0_
      have BK626 := n1_
      have BK627 := n2_
      have BK628 := n3_
      have BK629 := n4_
      have BK636 := n5_
      have HB := n6_
      clear n0_ n1_ n2_ n3_ n4_ n5_ n6_
      refine start_ (n := 9) (S := fun w' => w'.cell? ⟨gb626, 0, none⟩ = some (.int .i64 a1_0) ∧ w'.cell? ⟨gb626, 1, none⟩ = some (.int .u64 a1_1) ∧ w'.cell? ⟨gb626, 2, none⟩ = some (.int .u64 a1_2) ∧ w'.cell? ⟨gb626, 3, none⟩ = some (.int .u64 a1_3) ∧ w'.cell? ⟨gb626, 4, none⟩ = some (.int .u64 a1_4) ∧ w'.cell? ⟨gb627, 0, none⟩ = some (.int .u64 a2_0) ∧ w'.cell? ⟨gb627, 1, none⟩ = some (.int .u64 a2_1) ∧ w'.cell? ⟨gb627, 2, none⟩ = some (.int .u64 a2_2) ∧ w'.cell? ⟨gb628, 0, none⟩ = some (.int .u64 a3_0) ∧ w'.cell? ⟨gb628, 1, none⟩ = some (.int .u64 a3_1) ∧ w'.cell? ⟨gb628, 2, none⟩ = some (.int .u64 a3_2)) (ds := []) #[false, false, false, false, false, false, false, false, false] (by kernel_rfl) rfl rfl ⟨(blk_cell BK626.out 0).trans rfl, (blk_cell BK626.out 1).trans rfl, (blk_cell BK626.out 2).trans rfl, (blk_cell BK626.out 3).trans rfl, (blk_cell BK626.out 4).trans rfl, (blk_cell BK627.out 0).trans rfl, (blk_cell BK627.out 1).trans rfl, (blk_cell BK627.out 2).trans rfl, (blk_cell BK628.out 0).trans rfl, (blk_cell BK628.out 1).trans rfl, (blk_cell BK628.out 2).trans rfl⟩ (fun hHeld => ?_); refine with_tabW turnstileref17_Choose.tab6 turnstileref17_Choose.bits6 (fun HT_ HW_ => ?_)
      generalize w121.drew = w122 at BK625 BK626 BK627 BK628 BK629 BK636 HB hHeld ⊢
      refine chain_ (fuel := 4) [(3, 0, some 37), (0, 1, some 34), (1, 1, some 35), (4, 1, some 38), (5, 1, some 39)] #[true, true, false, true, true, true, false, false, false] HT_.out HW_.out (by kernel_rfl) (fun _ _ _ _ _ h => h) (Or.inr hHeld) rfl ?_
      refine lkP ?_; (iterate 4 refine lkT ?_); refine .nil ?_
      refine one_ (i := 2) (N := some 36) #[true, true, true, true, true, true, false, false, false] rfl rfl (one_of HT_.out (by kernel_rfl)) (by decide) (fun K hK => ?_)
      refine ge Try.func72 #[.agg #[.int .i64 a1_0, .int .u64 a1_1, .int .u64 a1_2, .int .u64 a1_3, .int .u64 a1_4], .agg #[.int .u64 a2_0, .int .u64 a2_1, .int .u64 a2_2]] ?_
      with_reducible refine (turnstileref17_InForm.calls a1_0 a1_1 a1_2 a1_3 a1_4 a2_0 a2_1 a2_2 t637 t638 t639 _ A95.out).mono ?_
      rintro e w123 ⟨rfl, hb⟩
      refine ⟨_, rfl, ?_⟩
      have n0_ := bb BK625 hb
      have n1_ := bb BK626 hb
      have n2_ := bb BK627 hb
      have n3_ := bb BK628 hb
      have n4_ := bb BK629 hb
      have n5_ := bb BK636 hb
      have n6_ := bs HB hb
      clear BK625
      clear BK626
      clear BK627
      clear BK628
      clear BK629
      clear BK636
      clear HB
      have BK625 := n0_
      have BK626 := n1_
      have BK627 := n2_
      have BK628 := n3_
      have BK629 := n4_
      have BK636 := n5_
      have HB := n6_
      clear n0_ n1_ n2_ n3_ n4_ n5_ n6_
      (try clear hb)
      (try clear hb2)
      (try clear hk)
      (try clear hi)
      refine hK.out _ _ ⟨(blk_cell BK626.out 0).trans rfl, (blk_cell BK626.out 1).trans rfl, (blk_cell BK626.out 2).trans rfl, (blk_cell BK626.out 3).trans rfl, (blk_cell BK626.out 4).trans rfl, (blk_cell BK627.out 0).trans rfl, (blk_cell BK627.out 1).trans rfl, (blk_cell BK627.out 2).trans rfl, (blk_cell BK628.out 0).trans rfl, (blk_cell BK628.out 1).trans rfl, (blk_cell BK628.out 2).trans rfl⟩ (fun hHeld => ?_)
      clear hK K
      refine norm_ (a' := ?_) ?_ ?_
      rotate_left
      · show Act.put _ (some 36) _ = _
        simp only [Act.put, List.setIfInBounds_toArray, List.set_cons_zero, List.set_cons_succ, i64_w, i32_w]
        rfl
      refine one_ (i := 6) (N := some 40) #[true, true, true, true, true, true, true, false, false] rfl rfl (one_of HT_.out (by kernel_rfl)) (by decide) (fun K hK => ?_)
      refine ge Try.func72 #[.agg #[.int .i64 a1_0, .int .u64 a1_1, .int .u64 a1_2, .int .u64 a1_3, .int .u64 a1_4], .agg #[.int .u64 a3_0, .int .u64 a3_1, .int .u64 a3_2]] ?_
      with_reducible refine (turnstileref17_InForm.calls a1_0 a1_1 a1_2 a1_3 a1_4 a3_0 a3_1 a3_2 t640 t641 t642 _ A96.out).mono ?_
      rintro e w124 ⟨rfl, hb⟩
      refine ⟨_, rfl, ?_⟩
      have n0_ := bb BK625 hb
      have n1_ := bb BK626 hb
      have n2_ := bb BK627 hb
      have n3_ := bb BK628 hb
      have n4_ := bb BK629 hb
      have n5_ := bb BK636 hb
      have n6_ := bs HB hb
      clear BK625
      clear BK626
      clear BK627
      clear BK628
      clear BK629
      clear BK636
      clear HB
      have BK625 := n0_
      have BK626 := n1_
      have BK627 := n2_
      have BK628 := n3_
      have BK629 := n4_
      have BK636 := n5_
      have HB := n6_
      clear n0_ n1_ n2_ n3_ n4_ n5_ n6_
      (try clear hb)
      (try clear hb2)
      (try clear hk)
      (try clear hi)
      refine hK.out _ _ ⟨(blk_cell BK626.out 0).trans rfl, (blk_cell BK626.out 1).trans rfl, (blk_cell BK626.out 2).trans rfl, (blk_cell BK626.out 3).trans rfl, (blk_cell BK626.out 4).trans rfl, (blk_cell BK627.out 0).trans rfl, (blk_cell BK627.out 1).trans rfl, (blk_cell BK627.out 2).trans rfl, (blk_cell BK628.out 0).trans rfl, (blk_cell BK628.out 1).trans rfl, (blk_cell BK628.out 2).trans rfl⟩ (fun hHeld => ?_)
      clear hK K
      refine norm_ (a' := ?_) ?_ ?_
      rotate_left
      · show Act.put _ (some 40) _ = _
        simp only [Act.put, List.setIfInBounds_toArray, List.set_cons_zero, List.set_cons_succ, i64_w, i32_w]
        rfl
      refine chain_ (fuel := 1) [(7, 0, some 41)] #[true, true, true, true, true, true, true, true, false] HT_.out HW_.out (by kernel_rfl) (fun _ _ _ _ _ h => h) (Or.inl (by decide)) rfl ?_
      refine lkP ?_; refine .nil ?_
      refine one_ (i := 8) (N := none) #[true, true, true, true, true, true, true, true, true] rfl rfl (one_of HT_.out (by kernel_rfl)) (by decide) (fun K hK => ?_)
      have hs125 : w124.cell? ⟨gb629, 0, none⟩ = some (.int .u64 0) := (blk_cell BK629.out 0).trans rfl
      have hfs125 := blk_frozen BK629.out 0
      have hns125_0 := NB625_629.out
      have hns125_1 := NB626_629.out
      have hns125_2 := NB627_629.out
      have hns125_3 := NB628_629.out
      have hns125_5 := NB636_629.out
      have hms125_0 := NB629_625.out
      have hms125_1 := NB629_626.out
      have hms125_2 := NB629_627.out
      have hms125_3 := NB629_628.out
      have hms125_5 := NB629_636.out
      have hs126 : w124.cell? ⟨gb629, 1, none⟩ = some (.int .u64 0) := (blk_cell BK629.out 1).trans rfl
      have hfs126 := blk_frozen BK629.out 1
      have hns126_0 := NB625_629.out
      have hns126_1 := NB626_629.out
      have hns126_2 := NB627_629.out
      have hns126_3 := NB628_629.out
      have hns126_5 := NB636_629.out
      have hms126_0 := NB629_625.out
      have hms126_1 := NB629_626.out
      have hms126_2 := NB629_627.out
      have hms126_3 := NB629_628.out
      have hms126_5 := NB629_636.out
      have hs127 : w124.cell? ⟨gb629, 2, none⟩ = some (.int .u64 0) := (blk_cell BK629.out 2).trans rfl
      have hfs127 := blk_frozen BK629.out 2
      have hns127_0 := NB625_629.out
      have hns127_1 := NB626_629.out
      have hns127_2 := NB627_629.out
      have hns127_3 := NB628_629.out
      have hns127_5 := NB636_629.out
      have hms127_0 := NB629_625.out
      have hms127_1 := NB629_626.out
      have hms127_2 := NB629_627.out
      have hms127_3 := NB629_628.out
      have hms127_5 := NB629_636.out
      have hs128 : w124.cell? ⟨gb629, 3, none⟩ = some (.bool false) := (blk_cell BK629.out 3).trans rfl
      have hfs128 := blk_frozen BK629.out 3
      have hns128_0 := NB625_629.out
      have hns128_1 := NB626_629.out
      have hns128_2 := NB627_629.out
      have hns128_3 := NB628_629.out
      have hns128_5 := NB636_629.out
      have hms128_0 := NB629_625.out
      have hms128_1 := NB629_626.out
      have hms128_2 := NB629_627.out
      have hms128_3 := NB629_628.out
      have hms128_5 := NB629_636.out
      have hs129 : w124.cell? ⟨gb629, 4, none⟩ = some (.int .u64 0) := (blk_cell BK629.out 4).trans rfl
      have hfs129 := blk_frozen BK629.out 4
      have hns129_0 := NB625_629.out
      have hns129_1 := NB626_629.out
      have hns129_2 := NB627_629.out
      have hns129_3 := NB628_629.out
      have hns129_5 := NB636_629.out
      have hms129_0 := NB629_625.out
      have hms129_1 := NB629_626.out
      have hms129_2 := NB629_627.out
      have hms129_3 := NB629_628.out
      have hms129_5 := NB629_636.out
      have hs130 : w124.cell? ⟨gb629, 5, none⟩ = some (.bool false) := (blk_cell BK629.out 5).trans rfl
      have hfs130 := blk_frozen BK629.out 5
      have hns130_0 := NB625_629.out
      have hns130_1 := NB626_629.out
      have hns130_2 := NB627_629.out
      have hns130_3 := NB628_629.out
      have hns130_5 := NB636_629.out
      have hms130_0 := NB629_625.out
      have hms130_1 := NB629_626.out
      have hms130_2 := NB629_627.out
      have hms130_3 := NB629_628.out
      have hms130_5 := NB629_636.out
      have hs131 : w124.cell? ⟨gb629, 6, none⟩ = some (.int .u64 0) := (blk_cell BK629.out 6).trans rfl
      have hfs131 := blk_frozen BK629.out 6
      have hns131_0 := NB625_629.out
      have hns131_1 := NB626_629.out
      have hns131_2 := NB627_629.out
      have hns131_3 := NB628_629.out
      have hns131_5 := NB636_629.out
      have hms131_0 := NB629_625.out
      have hms131_1 := NB629_626.out
      have hms131_2 := NB629_627.out
      have hms131_3 := NB629_628.out
      have hms131_5 := NB629_636.out
      have hs132 : w124.cell? ⟨gb629, 7, none⟩ = some (.int .u64 0) := (blk_cell BK629.out 7).trans rfl
      have hfs132 := blk_frozen BK629.out 7
      have hns132_0 := NB625_629.out
      have hns132_1 := NB626_629.out
      have hns132_2 := NB627_629.out
      have hns132_3 := NB628_629.out
      have hns132_5 := NB636_629.out
      have hms132_0 := NB629_625.out
      have hms132_1 := NB629_626.out
      have hms132_2 := NB629_627.out
      have hms132_3 := NB629_628.out
      have hms132_5 := NB629_636.out
      have hs133 : w124.cell? ⟨gb629, 8, none⟩ = some (.int .u64 0) := (blk_cell BK629.out 8).trans rfl
      have hfs133 := blk_frozen BK629.out 8
      have hns133_0 := NB625_629.out
      have hns133_1 := NB626_629.out
      have hns133_2 := NB627_629.out
      have hns133_3 := NB628_629.out
      have hns133_5 := NB636_629.out
      have hms133_0 := NB629_625.out
      have hms133_1 := NB629_626.out
      have hms133_2 := NB629_627.out
      have hms133_3 := NB629_628.out
      have hms133_5 := NB629_636.out
      refine skip_ (w1 := ?_) (by rfl) rfl ?_ ?_
      rotate_left
      · go_simp
        rfl
      refine hK.out _ _ ⟨((cell_far (p := ⟨gb629, _, none⟩) NB626_629.out _).trans (((cell_far (p := ⟨gb629, _, none⟩) NB626_629.out _).trans (((cell_far (p := ⟨gb629, _, none⟩) NB626_629.out _).trans (((cell_far (p := ⟨gb629, _, none⟩) NB626_629.out _).trans (((cell_far (p := ⟨gb629, _, none⟩) NB626_629.out _).trans (((cell_far (p := ⟨gb629, _, none⟩) NB626_629.out _).trans (((cell_far (p := ⟨gb629, _, none⟩) NB626_629.out _).trans (((cell_far (p := ⟨gb629, _, none⟩) NB626_629.out _).trans (((cell_far (p := ⟨gb629, _, none⟩) NB626_629.out _).trans (hHeld.1)))))))))))))))))), ((cell_far (p := ⟨gb629, _, none⟩) NB626_629.out _).trans (((cell_far (p := ⟨gb629, _, none⟩) NB626_629.out _).trans (((cell_far (p := ⟨gb629, _, none⟩) NB626_629.out _).trans (((cell_far (p := ⟨gb629, _, none⟩) NB626_629.out _).trans (((cell_far (p := ⟨gb629, _, none⟩) NB626_629.out _).trans (((cell_far (p := ⟨gb629, _, none⟩) NB626_629.out _).trans (((cell_far (p := ⟨gb629, _, none⟩) NB626_629.out _).trans (((cell_far (p := ⟨gb629, _, none⟩) NB626_629.out _).trans (((cell_far (p := ⟨gb629, _, none⟩) NB626_629.out _).trans (hHeld.2.1)))))))))))))))))), ((cell_far (p := ⟨gb629, _, none⟩) NB626_629.out _).trans (((cell_far (p := ⟨gb629, _, none⟩) NB626_629.out _).trans (((cell_far (p := ⟨gb629, _, none⟩) NB626_629.out _).trans (((cell_far (p := ⟨gb629, _, none⟩) NB626_629.out _).trans (((cell_far (p := ⟨gb629, _, none⟩) NB626_629.out _).trans (((cell_far (p := ⟨gb629, _, none⟩) NB626_629.out _).trans (((cell_far (p := ⟨gb629, _, none⟩) NB626_629.out _).trans (((cell_far (p := ⟨gb629, _, none⟩) NB626_629.out _).trans (((cell_far (p := ⟨gb629, _, none⟩) NB626_629.out _).trans (hHeld.2.2.1)))))))))))))))))), ((cell_far (p := ⟨gb629, _, none⟩) NB626_629.out _).trans (((cell_far (p := ⟨gb629, _, none⟩) NB626_629.out _).trans (((cell_far (p := ⟨gb629, _, none⟩) NB626_629.out _).trans (((cell_far (p := ⟨gb629, _, none⟩) NB626_629.out _).trans (((cell_far (p := ⟨gb629, _, none⟩) NB626_629.out _).trans (((cell_far (p := ⟨gb629, _, none⟩) NB626_629.out _).trans (((cell_far (p := ⟨gb629, _, none⟩) NB626_629.out _).trans (((cell_far (p := ⟨gb629, _, none⟩) NB626_629.out _).trans (((cell_far (p := ⟨gb629, _, none⟩) NB626_629.out _).trans (hHeld.2.2.2.1)))))))))))))))))), ((cell_far (p := ⟨gb629, _, none⟩) NB626_629.out _).trans (((cell_far (p := ⟨gb629, _, none⟩) NB626_629.out _).trans (((cell_far (p := ⟨gb629, _, none⟩) NB626_629.out _).trans (((cell_far (p := ⟨gb629, _, none⟩) NB626_629.out _).trans (((cell_far (p := ⟨gb629, _, none⟩) NB626_629.out _).trans (((cell_far (p := ⟨gb629, _, none⟩) NB626_629.out _).trans (((cell_far (p := ⟨gb629, _, none⟩) NB626_629.out _).trans (((cell_far (p := ⟨gb629, _, none⟩) NB626_629.out _).trans (((cell_far (p := ⟨gb629, _, none⟩) NB626_629.out _).trans (hHeld.2.2.2.2.1)))))))))))))))))), ((cell_far (p := ⟨gb629, _, none⟩) NB627_629.out _).trans (((cell_far (p := ⟨gb629, _, none⟩) NB627_629.out _).trans (((cell_far (p := ⟨gb629, _, none⟩) NB627_629.out _).trans (((cell_far (p := ⟨gb629, _, none⟩) NB627_629.out _).trans (((cell_far (p := ⟨gb629, _, none⟩) NB627_629.out _).trans (((cell_far (p := ⟨gb629, _, none⟩) NB627_629.out _).trans (((cell_far (p := ⟨gb629, _, none⟩) NB627_629.out _).trans (((cell_far (p := ⟨gb629, _, none⟩) NB627_629.out _).trans (((cell_far (p := ⟨gb629, _, none⟩) NB627_629.out _).trans (hHeld.2.2.2.2.2.1)))))))))))))))))), ((cell_far (p := ⟨gb629, _, none⟩) NB627_629.out _).trans (((cell_far (p := ⟨gb629, _, none⟩) NB627_629.out _).trans (((cell_far (p := ⟨gb629, _, none⟩) NB627_629.out _).trans (((cell_far (p := ⟨gb629, _, none⟩) NB627_629.out _).trans (((cell_far (p := ⟨gb629, _, none⟩) NB627_629.out _).trans (((cell_far (p := ⟨gb629, _, none⟩) NB627_629.out _).trans (((cell_far (p := ⟨gb629, _, none⟩) NB627_629.out _).trans (((cell_far (p := ⟨gb629, _, none⟩) NB627_629.out _).trans (((cell_far (p := ⟨gb629, _, none⟩) NB627_629.out _).trans (hHeld.2.2.2.2.2.2.1)))))))))))))))))), ((cell_far (p := ⟨gb629, _, none⟩) NB627_629.out _).trans (((cell_far (p := ⟨gb629, _, none⟩) NB627_629.out _).trans (((cell_far (p := ⟨gb629, _, none⟩) NB627_629.out _).trans (((cell_far (p := ⟨gb629, _, none⟩) NB627_629.out _).trans (((cell_far (p := ⟨gb629, _, none⟩) NB627_629.out _).trans (((cell_far (p := ⟨gb629, _, none⟩) NB627_629.out _).trans (((cell_far (p := ⟨gb629, _, none⟩) NB627_629.out _).trans (((cell_far (p := ⟨gb629, _, none⟩) NB627_629.out _).trans (((cell_far (p := ⟨gb629, _, none⟩) NB627_629.out _).trans (hHeld.2.2.2.2.2.2.2.1)))))))))))))))))), ((cell_far (p := ⟨gb629, _, none⟩) NB628_629.out _).trans (((cell_far (p := ⟨gb629, _, none⟩) NB628_629.out _).trans (((cell_far (p := ⟨gb629, _, none⟩) NB628_629.out _).trans (((cell_far (p := ⟨gb629, _, none⟩) NB628_629.out _).trans (((cell_far (p := ⟨gb629, _, none⟩) NB628_629.out _).trans (((cell_far (p := ⟨gb629, _, none⟩) NB628_629.out _).trans (((cell_far (p := ⟨gb629, _, none⟩) NB628_629.out _).trans (((cell_far (p := ⟨gb629, _, none⟩) NB628_629.out _).trans (((cell_far (p := ⟨gb629, _, none⟩) NB628_629.out _).trans (hHeld.2.2.2.2.2.2.2.2.1)))))))))))))))))), ((cell_far (p := ⟨gb629, _, none⟩) NB628_629.out _).trans (((cell_far (p := ⟨gb629, _, none⟩) NB628_629.out _).trans (((cell_far (p := ⟨gb629, _, none⟩) NB628_629.out _).trans (((cell_far (p := ⟨gb629, _, none⟩) NB628_629.out _).trans (((cell_far (p := ⟨gb629, _, none⟩) NB628_629.out _).trans (((cell_far (p := ⟨gb629, _, none⟩) NB628_629.out _).trans (((cell_far (p := ⟨gb629, _, none⟩) NB628_629.out _).trans (((cell_far (p := ⟨gb629, _, none⟩) NB628_629.out _).trans (((cell_far (p := ⟨gb629, _, none⟩) NB628_629.out _).trans (hHeld.2.2.2.2.2.2.2.2.2.1)))))))))))))))))), ((cell_far (p := ⟨gb629, _, none⟩) NB628_629.out _).trans (((cell_far (p := ⟨gb629, _, none⟩) NB628_629.out _).trans (((cell_far (p := ⟨gb629, _, none⟩) NB628_629.out _).trans (((cell_far (p := ⟨gb629, _, none⟩) NB628_629.out _).trans (((cell_far (p := ⟨gb629, _, none⟩) NB628_629.out _).trans (((cell_far (p := ⟨gb629, _, none⟩) NB628_629.out _).trans (((cell_far (p := ⟨gb629, _, none⟩) NB628_629.out _).trans (((cell_far (p := ⟨gb629, _, none⟩) NB628_629.out _).trans (((cell_far (p := ⟨gb629, _, none⟩) NB628_629.out _).trans (hHeld.2.2.2.2.2.2.2.2.2.2))))))))))))))))))⟩ (fun hHeld => ?_)
      clear hK K
      refine done_ (done_of HT_.out (by kernel_rfl)) ?_
      try go_wp2
      with_reducible refine bodyPost_ret (results_cell_row rfl _ _ gb629 93 #[.int .u64 t637, .int .u64 t638, .int .u64 t639, .bool false, .int .u64 t635, .bool false, .int .u64 t640, .int .u64 t641, .int .u64 t642] (0, 0) _ rfl (put9_ BK629.out) Try.underlying93 rfl (by kernel_rfl)) rfl ?_
      exact ⟨re, bw HB⟩
  · replace c8 := Bool.eq_false_iff.mpr c8
    subst c8
    have H1 : (some (0, 0, 0, false, 18446744073709551615, false, 0, 0, 0)) = some (r1, r2, r3, r4, r5, r6, r7, r8, r9) := by rw [if_neg (show ¬ (false = true) by decide)] at H; exact H
    clear H
    have H := H1
    clear H1
    simp only [Option.some.injEq, Prod.mk.injEq] at H
    obtain ⟨rfl, rfl, rfl, rfl, rfl, rfl, rfl, rfl, rfl⟩ := H
    go_enter Try.func57, Try.ntmps57
    go_wp2_with (first | ((with_reducible refine gate_dst (N := 6) rfl ?_); refine bx 6 #[.int .u64 a0_0, .int .u64 a0_1, .int .i64 a0_2, .int .i64 a0_3, .int .i64 a0_4] 53 ?_; intro gb625 hg w134 hbox hb; have n0_ := bs HB hb; have n1_ := Aside0.mk (hbox); have n2_ := sz HB hg; have n3_ := sz HB hg; clear HB; have HB := n0_; have BK625 := n1_; have GW625 := n2_; have GE625 := n3_; clear n0_ n1_ n2_ n3_; clear hb hbox hg) | ((with_reducible refine gate_dst (N := 7) rfl ?_); refine bx 7 #[.int .i64 a1_0, .int .u64 a1_1, .int .u64 a1_2, .int .u64 a1_3, .int .u64 a1_4] 27 ?_; intro gb626 hg w135 hbox hb; have n0_ := bb BK625 hb; have n1_ := bs HB hb; have n2_ := Aside0.mk (hbox); have n3_ := sz HB hg; have n4_ := sz HB hg; have n5_ := nl BK625 hg; have n6_ := nr BK625 hg; clear BK625; clear HB; have BK625 := n0_; have HB := n1_; have BK626 := n2_; have GW626 := n3_; have GE626 := n4_; have NB625_626 := n5_; have NB626_625 := n6_; clear n0_ n1_ n2_ n3_ n4_ n5_ n6_; clear hb hbox hg) | ((with_reducible refine gate_dst (N := 8) rfl ?_); refine bx 8 #[.int .u64 a2_0, .int .u64 a2_1, .int .u64 a2_2] 29 ?_; intro gb627 hg w136 hbox hb; have n0_ := bb BK625 hb; have n1_ := bb BK626 hb; have n2_ := bs HB hb; have n3_ := Aside0.mk (hbox); have n4_ := sz HB hg; have n5_ := sz HB hg; have n6_ := nl BK625 hg; have n7_ := nr BK625 hg; have n8_ := nl BK626 hg; have n9_ := nr BK626 hg; clear BK625; clear BK626; clear HB; have BK625 := n0_; have BK626 := n1_; have HB := n2_; have BK627 := n3_; have GW627 := n4_; have GE627 := n5_; have NB625_627 := n6_; have NB627_625 := n7_; have NB626_627 := n8_; have NB627_626 := n9_; clear n0_ n1_ n2_ n3_ n4_ n5_ n6_ n7_ n8_ n9_; clear hb hbox hg) | ((with_reducible refine gate_dst (N := 9) rfl ?_); refine bx 9 #[.int .u64 a3_0, .int .u64 a3_1, .int .u64 a3_2] 29 ?_; intro gb628 hg w137 hbox hb; have n0_ := bb BK625 hb; have n1_ := bb BK626 hb; have n2_ := bb BK627 hb; have n3_ := bs HB hb; have n4_ := Aside0.mk (hbox); have n5_ := sz HB hg; have n6_ := sz HB hg; have n7_ := nl BK625 hg; have n8_ := nr BK625 hg; have n9_ := nl BK626 hg; have n10_ := nr BK626 hg; have n11_ := nl BK627 hg; have n12_ := nr BK627 hg; clear BK625; clear BK626; clear BK627; clear HB; have BK625 := n0_; have BK626 := n1_; have BK627 := n2_; have HB := n3_; have BK628 := n4_; have GW628 := n5_; have GE628 := n6_; have NB625_628 := n7_; have NB628_625 := n8_; have NB626_628 := n9_; have NB628_626 := n10_; have NB627_628 := n11_; have NB628_627 := n12_; clear n0_ n1_ n2_ n3_ n4_ n5_ n6_ n7_ n8_ n9_ n10_ n11_ n12_; clear hb hbox hg) | ((with_reducible refine gate_dst (N := 12) rfl ?_); refine bx 12 #[.int .u64 0, .int .u64 0, .int .u64 0, .bool false, .int .u64 0, .bool false, .int .u64 0, .int .u64 0, .int .u64 0] 93 ?_; intro gb629 hg w138 hbox hb; have n0_ := bb BK625 hb; have n1_ := bb BK626 hb; have n2_ := bb BK627 hb; have n3_ := bb BK628 hb; have n4_ := bs HB hb; have n5_ := Aside0.mk (hbox); have n6_ := sz HB hg; have n7_ := sz HB hg; have n8_ := nl BK625 hg; have n9_ := nr BK625 hg; have n10_ := nl BK626 hg; have n11_ := nr BK626 hg; have n12_ := nl BK627 hg; have n13_ := nr BK627 hg; have n14_ := nl BK628 hg; have n15_ := nr BK628 hg; clear BK625; clear BK626; clear BK627; clear BK628; clear HB; have BK625 := n0_; have BK626 := n1_; have BK627 := n2_; have BK628 := n3_; have HB := n4_; have BK629 := n5_; have GW629 := n6_; have GE629 := n7_; have NB625_629 := n8_; have NB629_625 := n9_; have NB626_629 := n10_; have NB629_626 := n11_; have NB627_629 := n12_; have NB629_627 := n13_; have NB628_629 := n14_; have NB629_628 := n15_; clear n0_ n1_ n2_ n3_ n4_ n5_ n6_ n7_ n8_ n9_ n10_ n11_ n12_ n13_ n14_ n15_; clear hb hbox hg; have hnb139 := NB626_625.out; have hnc139 := NB625_626.out; have hnb140 := NB626_627.out; have hnc140 := NB627_626.out; have hnb141 := NB626_628.out; have hnc141 := NB628_626.out; have hnb142 := NB626_629.out; have hnc142 := NB629_626.out; obtain ⟨hcz143_0, hcz143_1, hcz143_2, hcz143_3, hcz143_4, hfz143_0, hfz143_1, hfz143_2, hfz143_3, hfz143_4⟩ := bc5 BK626) | ((with_reducible refine gate_callee (f := 41) rfl ?_); refine gm (some 19) Try.func41 #[.agg #[.int .i64 a1_0, .int .u64 a1_1, .int .u64 a1_2, .int .u64 a1_3, .int .u64 a1_4]] (turnstileref06_Valid.calls a1_0 a1_1 a1_2 a1_3 a1_4 false _ A7.out) ?_; intro w144 hb; have n0_ := bb BK625 hb; have n1_ := bb BK626 hb; have n2_ := bb BK627 hb; have n3_ := bb BK628 hb; have n4_ := bb BK629 hb; have n5_ := bs HB hb; clear BK625; clear BK626; clear BK627; clear BK628; clear BK629; clear HB; have BK625 := n0_; have BK626 := n1_; have BK627 := n2_; have BK628 := n3_; have BK629 := n4_; have HB := n5_; clear n0_ n1_ n2_ n3_ n4_ n5_; (try clear hb); (try clear hb2); (try clear hk); (try clear hi); have hnb145 := NB629_625.out; have hnc145 := NB625_629.out; have hnb146 := NB629_627.out; have hnc146 := NB627_629.out; have hnb147 := NB629_628.out; have hnc147 := NB628_629.out; have hcz148_0 : w144.cell? ⟨gb629, 0, none⟩ = some (.int .u64 0) := (blk_cell BK629.out 0).trans rfl; have hcz148_1 : w144.cell? ⟨gb629, 1, none⟩ = some (.int .u64 0) := (blk_cell BK629.out 1).trans rfl; have hcz148_2 : w144.cell? ⟨gb629, 2, none⟩ = some (.int .u64 0) := (blk_cell BK629.out 2).trans rfl; have hcz148_3 : w144.cell? ⟨gb629, 3, none⟩ = some (.bool false) := (blk_cell BK629.out 3).trans rfl; have hcz148_4 : w144.cell? ⟨gb629, 4, none⟩ = some (.int .u64 0) := (blk_cell BK629.out 4).trans rfl; have hcz148_5 : w144.cell? ⟨gb629, 5, none⟩ = some (.bool false) := (blk_cell BK629.out 5).trans rfl; have hcz148_6 : w144.cell? ⟨gb629, 6, none⟩ = some (.int .u64 0) := (blk_cell BK629.out 6).trans rfl; have hcz148_7 : w144.cell? ⟨gb629, 7, none⟩ = some (.int .u64 0) := (blk_cell BK629.out 7).trans rfl; have hcz148_8 : w144.cell? ⟨gb629, 8, none⟩ = some (.int .u64 0) := (blk_cell BK629.out 8).trans rfl; have hfz148_0 := blk_frozen BK629.out 0; have hfz148_1 := blk_frozen BK629.out 1; have hfz148_2 := blk_frozen BK629.out 2; have hfz148_3 := blk_frozen BK629.out 3; have hfz148_4 := blk_frozen BK629.out 4; have hfz148_5 := blk_frozen BK629.out 5; have hfz148_6 := blk_frozen BK629.out 6; have hfz148_7 := blk_frozen BK629.out 7; have hfz148_8 := blk_frozen BK629.out 8))
    with_reducible refine bodyPost_ret (results_cell_row rfl _ _ gb629 93 #[.int .u64 0, .int .u64 0, .int .u64 0, .bool false, .int .u64 18446744073709551615, .bool false, .int .u64 0, .int .u64 0, .int .u64 0] (0, 0) _ rfl (put9_ BK629.out) Try.underlying93 rfl (by kernel_rfl)) rfl ?_
    exact ⟨re, bw HB⟩

end Go.Proofs.Ytokfhdpokemekaa.Q
