/- Written by the session's own program hyb.py: what functions of the program compute; Lean checks it. -/
import Derived.Test.YtokfhdpokemekaaQx0
import Derived.Test.YtokfhdpokemekaaQx16
import Derived.Test.YtokfhdpokemekaaQx19
import Derived.Test.YtokfhdpokemekaaQx20
import Derived.Test.YtokfhdpokemekaaQx37
namespace Go.Proofs.Ytokfhdpokemekaa.Q
open Go.RowKit Go.Proofs.YtokfhdpokemekaaW.PrintWords Go.Proofs.YtokfhdpokemekaaW.PrintLast Go.Proofs.YtokfhdpokemekaaW.PrintMore Go.Proofs.YtokfhdpokemekaaW.PrintShort
attribute [local go_sem] run_Add64 run_Sub64
attribute [local go_sem] max2_int min2_int max_two min_two max_three min_three max_four min_four   -- for this text's walks alone
set_option linter.unusedVariables false
set_option linter.unusedSimpArgs false

/-! ### reserve_Choose: function 30 -/
def reserve_Choose.f (k : Nat) (a0_0 : Int) (a0_1 : Int) (a0_2 : Int) (a0_3 : Int) (a0_4 : Int) (a1_0 : Int) (a1_1 : Int) (a1_2 : Int) (a1_3 : Int) (a1_4 : Int) (a2_0 : Int) (a2_1 : Int) (a2_2 : Int) (a3_0 : Int) (a3_1 : Int) (a3_2 : Int) (a4 : Int) (a5 : Int) : Option (Int × Int × Int × Bool × Int × Bool × Int × Int × Int) := (policy_Admit.f k a1_0 a1_1 a1_2 a1_3 a1_4 a2_0 a2_1 a2_2 a4 a5).bind fun bt561 => ((policy_Max.f a1_0 a1_1 a1_2 a1_3 a1_4 a3_0 a3_1 a3_2 a3_0 a3_1 a3_2).bind fun bt567 => (if bt561.2.2.2.1 = true then ((policy_Covers.f a1_0 a1_1 a1_2 a1_3 a1_4 a3_0 a3_1 a3_2 bt561.1 bt561.2.1 bt561.2.2.1).bind fun t571 => (if t571 = true then (some (bt561.1, bt561.2.1, bt561.2.2.1, bt561.2.2.2.1, bt561.2.2.2.2, false, bt567.1, bt567.2.1, bt567.2.2)) else ((reserve_Ceiling.f a0_0 a0_1 a0_2 a0_3 a0_4 a1_0 a1_1 a1_2 a1_3 a1_4 bt561.1 bt561.2.1 bt561.2.2.1).bind fun bt572 => (some (bt561.1, bt561.2.1, bt561.2.2.1, bt561.2.2.2.1, bt561.2.2.2.2, true, bt572.1, bt572.2.1, bt572.2.2))))) else (some (bt561.1, bt561.2.1, bt561.2.2.1, bt561.2.2.2.1, bt561.2.2.2.2, false, bt567.1, bt567.2.1, bt567.2.2))))
theorem reserve_Choose.mono : ∀ a0 a1 a2 a3 a4 a5 a6 a7 a8 a9 a10 a11 a12 a13 a14 a15 a16 a17 k, LeO (reserve_Choose.f k a0 a1 a2 a3 a4 a5 a6 a7 a8 a9 a10 a11 a12 a13 a14 a15 a16 a17) (reserve_Choose.f (k + 1) a0 a1 a2 a3 a4 a5 a6 a7 a8 a9 a10 a11 a12 a13 a14 a15 a16 a17) := by
  intro a0 a1 a2 a3 a4 a5 a6 a7 a8 a9 a10 a11 a12 a13 a14 a15 a16 a17 k
  unfold reserve_Choose.f
  repeat' first
      | (with_reducible exact policy_Admit.mono _ _ _ _ _ _ _ _ _ _ _)
      | (with_reducible exact LeO.refl _)
      | (with_reducible exact LeO.none _)
      | (with_reducible refine LeO.ite ?_ ?_)
      | (with_reducible refine LeO.bind ?_ (fun _ => ?_))
      | exact policy_Admit.mono _ _ _ _ _ _ _ _ _ _ _
      | exact LeO.none _
      | refine LeO.ite ?_ ?_
      | refine LeO.bind ?_ (fun _ => ?_)
def reserve_Choose.T2 : Bool × List (List Nat × List Nat) := (true, [([], []), ([], []), ([], []), ([], []), ([], []), ([], []), ([3, 4, 5], [3, 4, 5]), ([0, 1, 2, 6], [0, 1, 2, 6]), ([], []), ([8, 7, 6, 0, 1, 2, 3, 4, 5, 6, 7, 8], [7, 8])])
def reserve_Choose.B2 : List Nat := [0, 0, 0, 0, 0, 0, 56, 127, 0, 511]
theorem reserve_Choose.tab2 : rtab .any (opsOf Try.f30 2) = reserve_Choose.T2 := by kernel_rfl
theorem reserve_Choose.bits2 : waitsOk reserve_Choose.T2.2 reserve_Choose.B2 = true := by kernel_rfl
set_option maxHeartbeats 8000000 in
set_option maxRecDepth 100000 in
theorem reserve_Choose.calls (k : Nat) (a0_0 : Int) (a0_1 : Int) (a0_2 : Int) (a0_3 : Int) (a0_4 : Int) (a1_0 : Int) (a1_1 : Int) (a1_2 : Int) (a1_3 : Int) (a1_4 : Int) (a2_0 : Int) (a2_1 : Int) (a2_2 : Int) (a3_0 : Int) (a3_1 : Int) (a3_2 : Int) (a4 : Int) (a5 : Int) (r1 : Int) (r2 : Int) (r3 : Int) (r4 : Bool) (r5 : Int) (r6 : Bool) (r7 : Int) (r8 : Int) (r9 : Int) (w : World) (h : reserve_Choose.f k a0_0 a0_1 a0_2 a0_3 a0_4 a1_0 a1_1 a1_2 a1_3 a1_4 a2_0 a2_1 a2_2 a3_0 a3_1 a3_2 a4 a5 = some (r1, r2, r3, r4, r5, r6, r7, r8, r9)) :
    Calls Try.prog 30 #[.agg #[.int .u64 a0_0, .int .u64 a0_1, .int .i64 a0_2, .int .i64 a0_3, .int .i64 a0_4], .agg #[.int .i64 a1_0, .int .u64 a1_1, .int .u64 a1_2, .int .u64 a1_3, .int .u64 a1_4], .agg #[.int .u64 a2_0, .int .u64 a2_1, .int .u64 a2_2], .agg #[.int .u64 a3_0, .int .u64 a3_1, .int .u64 a3_2], .int .u64 a4, .int .u64 a5] w fun e w' => e = .returned (.agg #[.int .u64 r1, .int .u64 r2, .int .u64 r3, .bool r4, .int .u64 r5, .bool r6, .int .u64 r7, .int .u64 r8, .int .u64 r9]) ∧ Below w.heap.size w w' := by
  have hu53 := Try.underlying53
  have hu27 := Try.underlying27
  have hu29 := Try.underlying29
  have hu58 := Try.underlying58
  have HB := Aside0.mk (Below.refl w.heap.size w)
  have H : ((policy_Admit.f k a1_0 a1_1 a1_2 a1_3 a1_4 a2_0 a2_1 a2_2 a4 a5).bind fun bt561 => ((policy_Max.f a1_0 a1_1 a1_2 a1_3 a1_4 a3_0 a3_1 a3_2 a3_0 a3_1 a3_2).bind fun bt567 => (if bt561.2.2.2.1 = true then ((policy_Covers.f a1_0 a1_1 a1_2 a1_3 a1_4 a3_0 a3_1 a3_2 bt561.1 bt561.2.1 bt561.2.2.1).bind fun t571 => (if t571 = true then (some (bt561.1, bt561.2.1, bt561.2.2.1, bt561.2.2.2.1, bt561.2.2.2.2, false, bt567.1, bt567.2.1, bt567.2.2)) else ((reserve_Ceiling.f a0_0 a0_1 a0_2 a0_3 a0_4 a1_0 a1_1 a1_2 a1_3 a1_4 bt561.1 bt561.2.1 bt561.2.2.1).bind fun bt572 => (some (bt561.1, bt561.2.1, bt561.2.2.1, bt561.2.2.2.1, bt561.2.2.2.2, true, bt572.1, bt572.2.1, bt572.2.2))))) else (some (bt561.1, bt561.2.1, bt561.2.2.1, bt561.2.2.2.1, bt561.2.2.2.2, false, bt567.1, bt567.2.1, bt567.2.2))))) = some (r1, r2, r3, r4, r5, r6, r7, r8, r9) := h
  clear h
  replace H := Option.bind_eq_some_iff.mp H
  obtain ⟨⟨t561, t562, t563, t564, t565⟩, A70, H⟩ := H
  replace H : ((policy_Max.f a1_0 a1_1 a1_2 a1_3 a1_4 a3_0 a3_1 a3_2 a3_0 a3_1 a3_2).bind fun bt567 => (if t564 = true then ((policy_Covers.f a1_0 a1_1 a1_2 a1_3 a1_4 a3_0 a3_1 a3_2 t561 t562 t563).bind fun t571 => (if t571 = true then (some (t561, t562, t563, t564, t565, false, bt567.1, bt567.2.1, bt567.2.2)) else ((reserve_Ceiling.f a0_0 a0_1 a0_2 a0_3 a0_4 a1_0 a1_1 a1_2 a1_3 a1_4 t561 t562 t563).bind fun bt572 => (some (t561, t562, t563, t564, t565, true, bt572.1, bt572.2.1, bt572.2.2))))) else (some (t561, t562, t563, t564, t565, false, bt567.1, bt567.2.1, bt567.2.2)))) = some (r1, r2, r3, r4, r5, r6, r7, r8, r9) := H
  have A7 := Aside0.mk A70
  clear A70
  replace H := Option.bind_eq_some_iff.mp H
  obtain ⟨⟨t567, t568, t569⟩, A80, H⟩ := H
  replace H : (if t564 = true then ((policy_Covers.f a1_0 a1_1 a1_2 a1_3 a1_4 a3_0 a3_1 a3_2 t561 t562 t563).bind fun t571 => (if t571 = true then (some (t561, t562, t563, t564, t565, false, t567, t568, t569)) else ((reserve_Ceiling.f a0_0 a0_1 a0_2 a0_3 a0_4 a1_0 a1_1 a1_2 a1_3 a1_4 t561 t562 t563).bind fun bt572 => (some (t561, t562, t563, t564, t565, true, bt572.1, bt572.2.1, bt572.2.2))))) else (some (t561, t562, t563, t564, t565, false, t567, t568, t569))) = some (r1, r2, r3, r4, r5, r6, r7, r8, r9) := H
  have A8 := Aside0.mk A80
  clear A80
  by_cases c9 : t564 = true
  · subst c9
    have H1 : ((policy_Covers.f a1_0 a1_1 a1_2 a1_3 a1_4 a3_0 a3_1 a3_2 t561 t562 t563).bind fun t571 => (if t571 = true then (some (t561, t562, t563, true, t565, false, t567, t568, t569)) else ((reserve_Ceiling.f a0_0 a0_1 a0_2 a0_3 a0_4 a1_0 a1_1 a1_2 a1_3 a1_4 t561 t562 t563).bind fun bt572 => (some (t561, t562, t563, true, t565, true, bt572.1, bt572.2.1, bt572.2.2))))) = some (r1, r2, r3, r4, r5, r6, r7, r8, r9) := by rw [if_pos rfl] at H; exact H
    clear H
    have H := H1
    clear H1
    replace H := Option.bind_eq_some_iff.mp H
    obtain ⟨t571, A100, H⟩ := H
    replace H : (if t571 = true then (some (t561, t562, t563, true, t565, false, t567, t568, t569)) else ((reserve_Ceiling.f a0_0 a0_1 a0_2 a0_3 a0_4 a1_0 a1_1 a1_2 a1_3 a1_4 t561 t562 t563).bind fun bt572 => (some (t561, t562, t563, true, t565, true, bt572.1, bt572.2.1, bt572.2.2)))) = some (r1, r2, r3, r4, r5, r6, r7, r8, r9) := H
    have A10 := Aside0.mk A100
    clear A100
    by_cases c11 : t571 = true
    · subst c11
      have H1 : (some (t561, t562, t563, true, t565, false, t567, t568, t569)) = some (r1, r2, r3, r4, r5, r6, r7, r8, r9) := by rw [if_pos rfl] at H; exact H
      clear H
      have H := H1
      clear H1
      simp only [Option.some.injEq, Prod.mk.injEq] at H
      obtain ⟨rfl, rfl, rfl, rfl, rfl, rfl, rfl, rfl, rfl⟩ := H
      go_enter Try.func30, Try.ntmps30
      try go_wp2_with (first | ((with_reducible refine gate_dst (N := 6) rfl ?_); refine bx 6 #[.int .u64 a0_0, .int .u64 a0_1, .int .i64 a0_2, .int .i64 a0_3, .int .i64 a0_4] 53 ?_; intro gb556 hg w12 hbox hb; have n0_ := bs HB hb; have n1_ := Aside0.mk (hbox); have n2_ := sz HB hg; have n3_ := sz HB hg; clear HB; have HB := n0_; have BK556 := n1_; have GW556 := n2_; have GE556 := n3_; clear n0_ n1_ n2_ n3_; clear hb hbox hg) | ((with_reducible refine gate_dst (N := 7) rfl ?_); refine bx 7 #[.int .i64 a1_0, .int .u64 a1_1, .int .u64 a1_2, .int .u64 a1_3, .int .u64 a1_4] 27 ?_; intro gb557 hg w13 hbox hb; have n0_ := bb BK556 hb; have n1_ := bs HB hb; have n2_ := Aside0.mk (hbox); have n3_ := sz HB hg; have n4_ := sz HB hg; have n5_ := nl BK556 hg; have n6_ := nr BK556 hg; clear BK556; clear HB; have BK556 := n0_; have HB := n1_; have BK557 := n2_; have GW557 := n3_; have GE557 := n4_; have NB556_557 := n5_; have NB557_556 := n6_; clear n0_ n1_ n2_ n3_ n4_ n5_ n6_; clear hb hbox hg) | ((with_reducible refine gate_dst (N := 8) rfl ?_); refine bx 8 #[.int .u64 a2_0, .int .u64 a2_1, .int .u64 a2_2] 29 ?_; intro gb558 hg w14 hbox hb; have n0_ := bb BK556 hb; have n1_ := bb BK557 hb; have n2_ := bs HB hb; have n3_ := Aside0.mk (hbox); have n4_ := sz HB hg; have n5_ := sz HB hg; have n6_ := nl BK556 hg; have n7_ := nr BK556 hg; have n8_ := nl BK557 hg; have n9_ := nr BK557 hg; clear BK556; clear BK557; clear HB; have BK556 := n0_; have BK557 := n1_; have HB := n2_; have BK558 := n3_; have GW558 := n4_; have GE558 := n5_; have NB556_558 := n6_; have NB558_556 := n7_; have NB557_558 := n8_; have NB558_557 := n9_; clear n0_ n1_ n2_ n3_ n4_ n5_ n6_ n7_ n8_ n9_; clear hb hbox hg) | ((with_reducible refine gate_dst (N := 9) rfl ?_); refine bx 9 #[.int .u64 a3_0, .int .u64 a3_1, .int .u64 a3_2] 29 ?_; intro gb559 hg w15 hbox hb; have n0_ := bb BK556 hb; have n1_ := bb BK557 hb; have n2_ := bb BK558 hb; have n3_ := bs HB hb; have n4_ := Aside0.mk (hbox); have n5_ := sz HB hg; have n6_ := sz HB hg; have n7_ := nl BK556 hg; have n8_ := nr BK556 hg; have n9_ := nl BK557 hg; have n10_ := nr BK557 hg; have n11_ := nl BK558 hg; have n12_ := nr BK558 hg; clear BK556; clear BK557; clear BK558; clear HB; have BK556 := n0_; have BK557 := n1_; have BK558 := n2_; have HB := n3_; have BK559 := n4_; have GW559 := n5_; have GE559 := n6_; have NB556_559 := n7_; have NB559_556 := n8_; have NB557_559 := n9_; have NB559_557 := n10_; have NB558_559 := n11_; have NB559_558 := n12_; clear n0_ n1_ n2_ n3_ n4_ n5_ n6_ n7_ n8_ n9_ n10_ n11_ n12_; clear hb hbox hg) | ((with_reducible refine gate_dst (N := 12) rfl ?_); refine bx 12 #[.int .u64 0, .int .u64 0, .int .u64 0, .bool false, .int .u64 0, .bool false, .int .u64 0, .int .u64 0, .int .u64 0] 58 ?_; intro gb560 hg w16 hbox hb; have n0_ := bb BK556 hb; have n1_ := bb BK557 hb; have n2_ := bb BK558 hb; have n3_ := bb BK559 hb; have n4_ := bs HB hb; have n5_ := Aside0.mk (hbox); have n6_ := sz HB hg; have n7_ := sz HB hg; have n8_ := nl BK556 hg; have n9_ := nr BK556 hg; have n10_ := nl BK557 hg; have n11_ := nr BK557 hg; have n12_ := nl BK558 hg; have n13_ := nr BK558 hg; have n14_ := nl BK559 hg; have n15_ := nr BK559 hg; clear BK556; clear BK557; clear BK558; clear BK559; clear HB; have BK556 := n0_; have BK557 := n1_; have BK558 := n2_; have BK559 := n3_; have HB := n4_; have BK560 := n5_; have GW560 := n6_; have GE560 := n7_; have NB556_560 := n8_; have NB560_556 := n9_; have NB557_560 := n10_; have NB560_557 := n11_; have NB558_560 := n12_; have NB560_558 := n13_; have NB559_560 := n14_; have NB560_559 := n15_; clear n0_ n1_ n2_ n3_ n4_ n5_ n6_ n7_ n8_ n9_ n10_ n11_ n12_ n13_ n14_ n15_; clear hb hbox hg; have hnb17 := NB557_556.out; have hnc17 := NB556_557.out; have hnb18 := NB557_558.out; have hnc18 := NB558_557.out; have hnb19 := NB557_559.out; have hnc19 := NB559_557.out; have hnb20 := NB557_560.out; have hnc20 := NB560_557.out; obtain ⟨hcz21_0, hcz21_1, hcz21_2, hcz21_3, hcz21_4, hfz21_0, hfz21_1, hfz21_2, hfz21_3, hfz21_4⟩ := bc5 BK557; have hnb22 := NB558_556.out; have hnc22 := NB556_558.out; have hnb23 := NB558_559.out; have hnc23 := NB559_558.out; have hnb24 := NB558_560.out; have hnc24 := NB560_558.out; obtain ⟨hcz25_0, hcz25_1, hcz25_2, hfz25_0, hfz25_1, hfz25_2⟩ := bc3 BK558) | ((with_reducible refine gate_callee (f := 16) rfl ?_); refine gm (some 22) Try.func16 #[.agg #[.int .i64 a1_0, .int .u64 a1_1, .int .u64 a1_2, .int .u64 a1_3, .int .u64 a1_4], .agg #[.int .u64 a2_0, .int .u64 a2_1, .int .u64 a2_2], .int .u64 a4, .int .u64 a5] (policy_Admit.calls k a1_0 a1_1 a1_2 a1_3 a1_4 a2_0 a2_1 a2_2 a4 a5 t561 t562 t563 true t565 _ A7.out) ?_; intro w26 hb; have n0_ := bb BK556 hb; have n1_ := bb BK557 hb; have n2_ := bb BK558 hb; have n3_ := bb BK559 hb; have n4_ := bb BK560 hb; have n5_ := bs HB hb; clear BK556; clear BK557; clear BK558; clear BK559; clear BK560; clear HB; have BK556 := n0_; have BK557 := n1_; have BK558 := n2_; have BK559 := n3_; have BK560 := n4_; have HB := n5_; clear n0_ n1_ n2_ n3_ n4_ n5_; (try clear hb); (try clear hb2); (try clear hk); (try clear hi)) | ((with_reducible refine gate_dst (N := 13) rfl ?_); refine bx 13 #[.int .u64 0, .int .u64 0, .int .u64 0] 29 ?_; intro gb566 hg w27 hbox hb; have n0_ := bb BK556 hb; have n1_ := bb BK557 hb; have n2_ := bb BK558 hb; have n3_ := bb BK559 hb; have n4_ := bb BK560 hb; have n5_ := bs HB hb; have n6_ := Aside0.mk (hbox); have n7_ := sz HB hg; have n8_ := sz HB hg; have n9_ := nl BK556 hg; have n10_ := nr BK556 hg; have n11_ := nl BK557 hg; have n12_ := nr BK557 hg; have n13_ := nl BK558 hg; have n14_ := nr BK558 hg; have n15_ := nl BK559 hg; have n16_ := nr BK559 hg; have n17_ := nl BK560 hg; have n18_ := nr BK560 hg; clear BK556; clear BK557; clear BK558; clear BK559; clear BK560; clear HB; have BK556 := n0_; have BK557 := n1_; have BK558 := n2_; have BK559 := n3_; have BK560 := n4_; have HB := n5_; have BK566 := n6_; have GW566 := n7_; have GE566 := n8_; have NB556_566 := n9_; have NB566_556 := n10_; have NB557_566 := n11_; have NB566_557 := n12_; have NB558_566 := n13_; have NB566_558 := n14_; have NB559_566 := n15_; have NB566_559 := n16_; have NB560_566 := n17_; have NB566_560 := n18_; clear n0_ n1_ n2_ n3_ n4_ n5_ n6_ n7_ n8_ n9_ n10_ n11_ n12_ n13_ n14_ n15_ n16_ n17_ n18_; clear hb hbox hg; have hnb28 := NB566_556.out; have hnc28 := NB556_566.out; have hnb29 := NB566_557.out; have hnc29 := NB557_566.out; have hnb30 := NB566_558.out; have hnc30 := NB558_566.out; have hnb31 := NB566_559.out; have hnc31 := NB559_566.out; have hnb32 := NB566_560.out; have hnc32 := NB560_566.out; obtain ⟨hcz33_0, hcz33_1, hcz33_2, hfz33_0, hfz33_1, hfz33_2⟩ := bc3 BK566))
      have n0_ : Aside0 ((((w27.setCell ⟨gb566, 0, none⟩ (.int .u64 t561)).setCell ⟨gb566, 1, none⟩ (.int .u64 t562)).setCell ⟨gb566, 2, none⟩ (.int .u64 t563)).heap[gb556]? = some (.cells #[.int .u64 a0_0, .int .u64 a0_1, .int .i64 a0_2, .int .i64 a0_3, .int .i64 a0_4] 53 (0, 0))) := ⟨bk BK556⟩
      have n1_ : Aside0 ((((w27.setCell ⟨gb566, 0, none⟩ (.int .u64 t561)).setCell ⟨gb566, 1, none⟩ (.int .u64 t562)).setCell ⟨gb566, 2, none⟩ (.int .u64 t563)).heap[gb557]? = some (.cells #[.int .i64 a1_0, .int .u64 a1_1, .int .u64 a1_2, .int .u64 a1_3, .int .u64 a1_4] 27 (0, 0))) := ⟨bk BK557⟩
      have n2_ : Aside0 ((((w27.setCell ⟨gb566, 0, none⟩ (.int .u64 t561)).setCell ⟨gb566, 1, none⟩ (.int .u64 t562)).setCell ⟨gb566, 2, none⟩ (.int .u64 t563)).heap[gb558]? = some (.cells #[.int .u64 a2_0, .int .u64 a2_1, .int .u64 a2_2] 29 (0, 0))) := ⟨bk BK558⟩
      have n3_ : Aside0 ((((w27.setCell ⟨gb566, 0, none⟩ (.int .u64 t561)).setCell ⟨gb566, 1, none⟩ (.int .u64 t562)).setCell ⟨gb566, 2, none⟩ (.int .u64 t563)).heap[gb559]? = some (.cells #[.int .u64 a3_0, .int .u64 a3_1, .int .u64 a3_2] 29 (0, 0))) := ⟨bk BK559⟩
      have n4_ : Aside0 ((((w27.setCell ⟨gb566, 0, none⟩ (.int .u64 t561)).setCell ⟨gb566, 1, none⟩ (.int .u64 t562)).setCell ⟨gb566, 2, none⟩ (.int .u64 t563)).heap[gb560]? = some (.cells #[.int .u64 0, .int .u64 0, .int .u64 0, .bool false, .int .u64 0, .bool false, .int .u64 0, .int .u64 0, .int .u64 0] 58 (0, 0))) := ⟨bk BK560⟩
      have n5_ : Aside0 ((((w27.setCell ⟨gb566, 0, none⟩ (.int .u64 t561)).setCell ⟨gb566, 1, none⟩ (.int .u64 t562)).setCell ⟨gb566, 2, none⟩ (.int .u64 t563)).heap[gb566]? = some (.cells #[.int .u64 t561, .int .u64 t562, .int .u64 t563] 29 (0, 0))) := ⟨bk BK566⟩
      have n6_ : Aside0 (Below w.heap.size w (((w27.setCell ⟨gb566, 0, none⟩ (.int .u64 t561)).setCell ⟨gb566, 1, none⟩ (.int .u64 t562)).setCell ⟨gb566, 2, none⟩ (.int .u64 t563))) := ⟨bw HB⟩
      (try clear BK556)
      (try clear BK557)
      (try clear BK558)
      (try clear BK559)
      (try clear BK560)
      (try clear BK566)
      (try clear HB)
      generalize (((w27.setCell ⟨gb566, 0, none⟩ (.int .u64 t561)).setCell ⟨gb566, 1, none⟩ (.int .u64 t562)).setCell ⟨gb566, 2, none⟩ (.int .u64 t563)) = w34 at n0_ n1_ n2_ n3_ n4_ n5_ n6_ ⊢
      have BK556 := n0_
      have BK557 := n1_
      have BK558 := n2_
      have BK559 := n3_
      have BK560 := n4_
      have BK566 := n5_
      have HB := n6_
      clear n0_ n1_ n2_ n3_ n4_ n5_ n6_
      have n0_ := Aside0.mk (blk_drew BK556.out)
      have n1_ := Aside0.mk (blk_drew BK557.out)
      have n2_ := Aside0.mk (blk_drew BK558.out)
      have n3_ := Aside0.mk (blk_drew BK559.out)
      have n4_ := Aside0.mk (blk_drew BK560.out)
      have n5_ := Aside0.mk (blk_drew BK566.out)
      have n6_ := Aside0.mk (below_drew1 HB.out)
      clear BK556
      clear BK557
      clear BK558
      clear BK559
      clear BK560
      clear BK566
      clear HB
      have BK556 := n0_
      have BK557 := n1_
      have BK558 := n2_
      have BK559 := n3_
      have BK560 := n4_
      have BK566 := n5_
      have HB := n6_
      clear n0_ n1_ n2_ n3_ n4_ n5_ n6_
      refine start_ (n := 10) (S := fun w' => w'.cell? ⟨gb566, 0, none⟩ = some (.int .u64 t561) ∧ w'.cell? ⟨gb566, 1, none⟩ = some (.int .u64 t562) ∧ w'.cell? ⟨gb566, 2, none⟩ = some (.int .u64 t563) ∧ w'.cell? ⟨gb557, 0, none⟩ = some (.int .i64 a1_0) ∧ w'.cell? ⟨gb557, 1, none⟩ = some (.int .u64 a1_1) ∧ w'.cell? ⟨gb557, 2, none⟩ = some (.int .u64 a1_2) ∧ w'.cell? ⟨gb557, 3, none⟩ = some (.int .u64 a1_3) ∧ w'.cell? ⟨gb557, 4, none⟩ = some (.int .u64 a1_4) ∧ w'.cell? ⟨gb559, 0, none⟩ = some (.int .u64 a3_0) ∧ w'.cell? ⟨gb559, 1, none⟩ = some (.int .u64 a3_1) ∧ w'.cell? ⟨gb559, 2, none⟩ = some (.int .u64 a3_2)) (ds := []) #[false, false, false, false, false, false, false, false, false, false] (by kernel_rfl) rfl rfl ⟨(blk_cell BK566.out 0).trans rfl, (blk_cell BK566.out 1).trans rfl, (blk_cell BK566.out 2).trans rfl, (blk_cell BK557.out 0).trans rfl, (blk_cell BK557.out 1).trans rfl, (blk_cell BK557.out 2).trans rfl, (blk_cell BK557.out 3).trans rfl, (blk_cell BK557.out 4).trans rfl, (blk_cell BK559.out 0).trans rfl, (blk_cell BK559.out 1).trans rfl, (blk_cell BK559.out 2).trans rfl⟩ (fun hHeld => ?_); refine with_tabW reserve_Choose.tab2 reserve_Choose.bits2 (fun HT_ HW_ => ?_)
      generalize w34.drew = w35 at BK556 BK557 BK558 BK559 BK560 BK566 HB hHeld ⊢
      refine chain_ (fuel := 4) [(1, 0, some 27), (2, 0, some 28), (0, 1, some 26), (3, 1, some 29), (4, 1, some 30), (5, 1, some 31)] #[true, true, true, true, true, true, false, false, false, false] HT_.out HW_.out (by kernel_rfl) (fun _ _ _ _ _ h => h) (Or.inr hHeld) rfl ?_
      (iterate 2 refine lkP ?_); (iterate 4 refine lkT ?_); refine .nil ?_
      refine join_ (σ := Nat) 1 #[true, true, true, true, true, true, true, true, true, false] (fun s_ => [(32, .agg #[.int .u64 t567, .int .u64 t568, .int .u64 t569]), (16, .pointer (some ⟨s_, 0, none⟩)), (33, .agg #[.int .u64 t561, .int .u64 t562, .int .u64 t563, .bool true, .int .u64 t565, .bool false, .int .u64 t567, .int .u64 t568, .int .u64 t569])]) (fun s_ w' => (w'.cell? ⟨gb566, 0, none⟩ = some (.int .u64 t561) ∧ w'.cell? ⟨gb566, 1, none⟩ = some (.int .u64 t562) ∧ w'.cell? ⟨gb566, 2, none⟩ = some (.int .u64 t563) ∧ w'.cell? ⟨gb557, 0, none⟩ = some (.int .i64 a1_0) ∧ w'.cell? ⟨gb557, 1, none⟩ = some (.int .u64 a1_1) ∧ w'.cell? ⟨gb557, 2, none⟩ = some (.int .u64 a1_2) ∧ w'.cell? ⟨gb557, 3, none⟩ = some (.int .u64 a1_3) ∧ w'.cell? ⟨gb557, 4, none⟩ = some (.int .u64 a1_4) ∧ w'.cell? ⟨gb559, 0, none⟩ = some (.int .u64 a3_0) ∧ w'.cell? ⟨gb559, 1, none⟩ = some (.int .u64 a3_1) ∧ w'.cell? ⟨gb559, 2, none⟩ = some (.int .u64 a3_2)) ∧ (w'.heap[gb556]? = some (.cells #[.int .u64 a0_0, .int .u64 a0_1, .int .i64 a0_2, .int .i64 a0_3, .int .i64 a0_4] 53 (0, 0))) ∧ (w'.heap[gb557]? = some (.cells #[.int .i64 a1_0, .int .u64 a1_1, .int .u64 a1_2, .int .u64 a1_3, .int .u64 a1_4] 27 (0, 0))) ∧ (w'.heap[gb558]? = some (.cells #[.int .u64 a2_0, .int .u64 a2_1, .int .u64 a2_2] 29 (0, 0))) ∧ (w'.heap[gb559]? = some (.cells #[.int .u64 a3_0, .int .u64 a3_1, .int .u64 a3_2] 29 (0, 0))) ∧ (w'.heap[gb560]? = some (.cells #[.int .u64 0, .int .u64 0, .int .u64 0, .bool false, .int .u64 0, .bool false, .int .u64 0, .int .u64 0, .int .u64 0] 58 (0, 0))) ∧ (w'.heap[gb566]? = some (.cells #[.int .u64 t561, .int .u64 t562, .int .u64 t563] 29 (0, 0))) ∧ (w'.heap[s_]? = some (.cells #[.int .u64 0, .int .u64 0, .int .u64 0, .bool false, .int .u64 0, .bool false, .int .u64 0, .int .u64 0, .int .u64 0] 58 (0, 0))) ∧ (w.heap.size ≤ s_) ∧ (w.heap.size ≤ s_) ∧ (gb556 ≠ s_) ∧ (s_ ≠ gb556) ∧ (gb557 ≠ s_) ∧ (s_ ≠ gb557) ∧ (gb558 ≠ s_) ∧ (s_ ≠ gb558) ∧ (gb559 ≠ s_) ∧ (s_ ≠ gb559) ∧ (gb560 ≠ s_) ∧ (s_ ≠ gb560) ∧ (gb566 ≠ s_) ∧ (s_ ≠ gb566) ∧ (Below w.heap.size w w')) ?_ ?_
      rotate_left
      · intro hCont
        refine two_ (i := 6) (j := 8) (Ni := some 32) (Nj := some 16) #[true, true, true, true, true, true, true, false, false, false] #[true, true, true, true, true, true, false, false, true, false] rfl rfl rfl rfl (two_of HT_.out (by kernel_rfl)) (by decide) (by decide) (fun K hK => ?_) (fun K hK => ?_)
        · skip
          refine ge Try.func26 #[.agg #[.int .i64 a1_0, .int .u64 a1_1, .int .u64 a1_2, .int .u64 a1_3, .int .u64 a1_4], .agg #[.int .u64 a3_0, .int .u64 a3_1, .int .u64 a3_2], .agg #[.int .u64 a3_0, .int .u64 a3_1, .int .u64 a3_2]] ?_
          with_reducible refine (policy_Max.calls a1_0 a1_1 a1_2 a1_3 a1_4 a3_0 a3_1 a3_2 a3_0 a3_1 a3_2 t567 t568 t569 _ A8.out).mono ?_
          rintro e w36 ⟨rfl, hb⟩
          refine ⟨_, rfl, ?_⟩
          have n0_ := bb BK556 hb
          have n1_ := bb BK557 hb
          have n2_ := bb BK558 hb
          have n3_ := bb BK559 hb
          have n4_ := bb BK560 hb
          have n5_ := bb BK566 hb
          have n6_ := bs HB hb
          clear BK556
          clear BK557
          clear BK558
          clear BK559
          clear BK560
          clear BK566
          clear HB
          have BK556 := n0_
          have BK557 := n1_
          have BK558 := n2_
          have BK559 := n3_
          have BK560 := n4_
          have BK566 := n5_
          have HB := n6_
          clear n0_ n1_ n2_ n3_ n4_ n5_ n6_
          (try clear hb)
          (try clear hb2)
          (try clear hk)
          (try clear hi)
          refine hK.out _ _ ⟨(blk_cell BK566.out 0).trans rfl, (blk_cell BK566.out 1).trans rfl, (blk_cell BK566.out 2).trans rfl, (blk_cell BK557.out 0).trans rfl, (blk_cell BK557.out 1).trans rfl, (blk_cell BK557.out 2).trans rfl, (blk_cell BK557.out 3).trans rfl, (blk_cell BK557.out 4).trans rfl, (blk_cell BK559.out 0).trans rfl, (blk_cell BK559.out 1).trans rfl, (blk_cell BK559.out 2).trans rfl⟩ (fun hHeld => ?_)
          clear hK K
          refine norm_ (a' := ?_) ?_ ?_
          rotate_left
          · show Act.put _ (some 32) _ = _
            simp only [Act.put, List.setIfInBounds_toArray, List.set_cons_zero, List.set_cons_succ, i64_w, i32_w]
            rfl
          refine chain_ (fuel := 2) [(7, 0, some 33)] #[true, true, true, true, true, true, true, true, false, false] HT_.out HW_.out (by kernel_rfl) (fun _ _ _ _ _ h => h) (Or.inl (by decide)) rfl ?_
          refine lkP ?_; refine .nil ?_
          refine one_ (i := 8) (N := some 16) #[true, true, true, true, true, true, true, true, true, false] rfl rfl (one_of HT_.out (by kernel_rfl)) (by decide) (fun K hK => ?_)
          refine box_step ?hg (N := 16) ?hd (cs := #[.int .u64 0, .int .u64 0, .int .u64 0, .bool false, .int .u64 0, .bool false, .int .u64 0, .int .u64 0, .int .u64 0]) (t := 58) ?hr ?_; (case hd => rfl); (case hg => rfl); (case hr => first | (go_simp; done) | (go_simp; rfl))
          intro gb570 hg w37 hbox hb
          have n0_ := bb BK556 hb
          have n1_ := bb BK557 hb
          have n2_ := bb BK558 hb
          have n3_ := bb BK559 hb
          have n4_ := bb BK560 hb
          have n5_ := bb BK566 hb
          have n6_ := bs HB hb
          have n7_ := Aside0.mk (hbox)
          have n8_ := sz HB hg
          have n9_ := sz HB hg
          have n10_ := nl BK556 hg
          have n11_ := nr BK556 hg
          have n12_ := nl BK557 hg
          have n13_ := nr BK557 hg
          have n14_ := nl BK558 hg
          have n15_ := nr BK558 hg
          have n16_ := nl BK559 hg
          have n17_ := nr BK559 hg
          have n18_ := nl BK560 hg
          have n19_ := nr BK560 hg
          have n20_ := nl BK566 hg
          have n21_ := nr BK566 hg
          clear BK556
          clear BK557
          clear BK558
          clear BK559
          clear BK560
          clear BK566
          clear HB
          have BK556 := n0_
          have BK557 := n1_
          have BK558 := n2_
          have BK559 := n3_
          have BK560 := n4_
          have BK566 := n5_
          have HB := n6_
          have BK570 := n7_
          have GW570 := n8_
          have GE570 := n9_
          have NB556_570 := n10_
          have NB570_556 := n11_
          have NB557_570 := n12_
          have NB570_557 := n13_
          have NB558_570 := n14_
          have NB570_558 := n15_
          have NB559_570 := n16_
          have NB570_559 := n17_
          have NB560_570 := n18_
          have NB570_560 := n19_
          have NB566_570 := n20_
          have NB570_566 := n21_
          clear n0_ n1_ n2_ n3_ n4_ n5_ n6_ n7_ n8_ n9_ n10_ n11_ n12_ n13_ n14_ n15_ n16_ n17_ n18_ n19_ n20_ n21_
          clear hb hbox hg
          refine hK.out _ _ ⟨(blk_cell BK566.out 0).trans rfl, (blk_cell BK566.out 1).trans rfl, (blk_cell BK566.out 2).trans rfl, (blk_cell BK557.out 0).trans rfl, (blk_cell BK557.out 1).trans rfl, (blk_cell BK557.out 2).trans rfl, (blk_cell BK557.out 3).trans rfl, (blk_cell BK557.out 4).trans rfl, (blk_cell BK559.out 0).trans rfl, (blk_cell BK559.out 1).trans rfl, (blk_cell BK559.out 2).trans rfl⟩ (fun hHeld => ?_)
          clear hK K
          refine norm_ (a' := ?_) ?_ ?_
          rotate_left
          · show Act.put _ (some 16) _ = _
            simp only [Act.put, List.setIfInBounds_toArray, List.set_cons_zero, List.set_cons_succ, i64_w, i32_w]
            rfl
          exact norm_ (by simp only [putAll, Act.put, List.setIfInBounds_toArray, List.set_cons_zero, List.set_cons_succ]) (hCont (gb570) _ ⟨hHeld, (bk BK556), (bk BK557), (bk BK558), (bk BK559), (bk BK560), (bk BK566), (bk BK570), GW570.out, GE570.out, NB556_570.out, NB570_556.out, NB557_570.out, NB570_557.out, NB558_570.out, NB570_558.out, NB559_570.out, NB570_559.out, NB560_570.out, NB570_560.out, NB566_570.out, NB570_566.out, (bw HB)⟩)
        · skip
          refine box_step ?hg (N := 16) ?hd (cs := #[.int .u64 0, .int .u64 0, .int .u64 0, .bool false, .int .u64 0, .bool false, .int .u64 0, .int .u64 0, .int .u64 0]) (t := 58) ?hr ?_; (case hd => rfl); (case hg => rfl); (case hr => first | (go_simp; done) | (go_simp; rfl))
          intro gb570 hg w36 hbox hb
          have n0_ := bb BK556 hb
          have n1_ := bb BK557 hb
          have n2_ := bb BK558 hb
          have n3_ := bb BK559 hb
          have n4_ := bb BK560 hb
          have n5_ := bb BK566 hb
          have n6_ := bs HB hb
          have n7_ := Aside0.mk (hbox)
          have n8_ := sz HB hg
          have n9_ := sz HB hg
          have n10_ := nl BK556 hg
          have n11_ := nr BK556 hg
          have n12_ := nl BK557 hg
          have n13_ := nr BK557 hg
          have n14_ := nl BK558 hg
          have n15_ := nr BK558 hg
          have n16_ := nl BK559 hg
          have n17_ := nr BK559 hg
          have n18_ := nl BK560 hg
          have n19_ := nr BK560 hg
          have n20_ := nl BK566 hg
          have n21_ := nr BK566 hg
          clear BK556
          clear BK557
          clear BK558
          clear BK559
          clear BK560
          clear BK566
          clear HB
          have BK556 := n0_
          have BK557 := n1_
          have BK558 := n2_
          have BK559 := n3_
          have BK560 := n4_
          have BK566 := n5_
          have HB := n6_
          have BK570 := n7_
          have GW570 := n8_
          have GE570 := n9_
          have NB556_570 := n10_
          have NB570_556 := n11_
          have NB557_570 := n12_
          have NB570_557 := n13_
          have NB558_570 := n14_
          have NB570_558 := n15_
          have NB559_570 := n16_
          have NB570_559 := n17_
          have NB560_570 := n18_
          have NB570_560 := n19_
          have NB566_570 := n20_
          have NB570_566 := n21_
          clear n0_ n1_ n2_ n3_ n4_ n5_ n6_ n7_ n8_ n9_ n10_ n11_ n12_ n13_ n14_ n15_ n16_ n17_ n18_ n19_ n20_ n21_
          clear hb hbox hg
          refine hK.out _ _ ⟨(blk_cell BK566.out 0).trans rfl, (blk_cell BK566.out 1).trans rfl, (blk_cell BK566.out 2).trans rfl, (blk_cell BK557.out 0).trans rfl, (blk_cell BK557.out 1).trans rfl, (blk_cell BK557.out 2).trans rfl, (blk_cell BK557.out 3).trans rfl, (blk_cell BK557.out 4).trans rfl, (blk_cell BK559.out 0).trans rfl, (blk_cell BK559.out 1).trans rfl, (blk_cell BK559.out 2).trans rfl⟩ (fun hHeld => ?_)
          clear hK K
          refine norm_ (a' := ?_) ?_ ?_
          rotate_left
          · show Act.put _ (some 16) _ = _
            simp only [Act.put, List.setIfInBounds_toArray, List.set_cons_zero, List.set_cons_succ, i64_w, i32_w]
            rfl
          refine one_ (i := 6) (N := some 32) #[true, true, true, true, true, true, true, false, true, false] rfl rfl (one_of HT_.out (by kernel_rfl)) (by decide) (fun K hK => ?_)
          refine ge Try.func26 #[.agg #[.int .i64 a1_0, .int .u64 a1_1, .int .u64 a1_2, .int .u64 a1_3, .int .u64 a1_4], .agg #[.int .u64 a3_0, .int .u64 a3_1, .int .u64 a3_2], .agg #[.int .u64 a3_0, .int .u64 a3_1, .int .u64 a3_2]] ?_
          with_reducible refine (policy_Max.calls a1_0 a1_1 a1_2 a1_3 a1_4 a3_0 a3_1 a3_2 a3_0 a3_1 a3_2 t567 t568 t569 _ A8.out).mono ?_
          rintro e w37 ⟨rfl, hb⟩
          refine ⟨_, rfl, ?_⟩
          have n0_ := bb BK556 hb
          have n1_ := bb BK557 hb
          have n2_ := bb BK558 hb
          have n3_ := bb BK559 hb
          have n4_ := bb BK560 hb
          have n5_ := bb BK566 hb
          have n6_ := bb BK570 hb
          have n7_ := bs HB hb
          clear BK556
          clear BK557
          clear BK558
          clear BK559
          clear BK560
          clear BK566
          clear BK570
          clear HB
          have BK556 := n0_
          have BK557 := n1_
          have BK558 := n2_
          have BK559 := n3_
          have BK560 := n4_
          have BK566 := n5_
          have BK570 := n6_
          have HB := n7_
          clear n0_ n1_ n2_ n3_ n4_ n5_ n6_ n7_
          (try clear hb)
          (try clear hb2)
          (try clear hk)
          (try clear hi)
          refine hK.out _ _ ⟨(blk_cell BK566.out 0).trans rfl, (blk_cell BK566.out 1).trans rfl, (blk_cell BK566.out 2).trans rfl, (blk_cell BK557.out 0).trans rfl, (blk_cell BK557.out 1).trans rfl, (blk_cell BK557.out 2).trans rfl, (blk_cell BK557.out 3).trans rfl, (blk_cell BK557.out 4).trans rfl, (blk_cell BK559.out 0).trans rfl, (blk_cell BK559.out 1).trans rfl, (blk_cell BK559.out 2).trans rfl⟩ (fun hHeld => ?_)
          clear hK K
          refine norm_ (a' := ?_) ?_ ?_
          rotate_left
          · show Act.put _ (some 32) _ = _
            simp only [Act.put, List.setIfInBounds_toArray, List.set_cons_zero, List.set_cons_succ, i64_w, i32_w]
            rfl
          refine chain_ (fuel := 1) [(7, 0, some 33)] #[true, true, true, true, true, true, true, true, true, false] HT_.out HW_.out (by kernel_rfl) (fun _ _ _ _ _ h => h) (Or.inl (by decide)) rfl ?_
          refine lkP ?_; refine .nil ?_
          exact norm_ (by simp only [putAll, Act.put, List.setIfInBounds_toArray, List.set_cons_zero, List.set_cons_succ]) (hCont (gb570) _ ⟨hHeld, (bk BK556), (bk BK557), (bk BK558), (bk BK559), (bk BK560), (bk BK566), (bk BK570), GW570.out, GE570.out, NB556_570.out, NB570_556.out, NB557_570.out, NB570_557.out, NB558_570.out, NB570_558.out, NB559_570.out, NB570_559.out, NB560_570.out, NB570_560.out, NB566_570.out, NB570_566.out, (bw HB)⟩)
      rintro gb570 w38 ⟨hS_, h0_, h1_, h2_, h3_, h4_, h5_, h6_, h7_, h8_, h9_, h10_, h11_, h12_, h13_, h14_, h15_, h16_, h17_, h18_, h19_, h20_, h21_⟩
      have n0_ : Aside0 (w38.heap[gb556]? = some (.cells #[.int .u64 a0_0, .int .u64 a0_1, .int .i64 a0_2, .int .i64 a0_3, .int .i64 a0_4] 53 (0, 0))) := ⟨h0_⟩
      have n1_ : Aside0 (w38.heap[gb557]? = some (.cells #[.int .i64 a1_0, .int .u64 a1_1, .int .u64 a1_2, .int .u64 a1_3, .int .u64 a1_4] 27 (0, 0))) := ⟨h1_⟩
      have n2_ : Aside0 (w38.heap[gb558]? = some (.cells #[.int .u64 a2_0, .int .u64 a2_1, .int .u64 a2_2] 29 (0, 0))) := ⟨h2_⟩
      have n3_ : Aside0 (w38.heap[gb559]? = some (.cells #[.int .u64 a3_0, .int .u64 a3_1, .int .u64 a3_2] 29 (0, 0))) := ⟨h3_⟩
      have n4_ : Aside0 (w38.heap[gb560]? = some (.cells #[.int .u64 0, .int .u64 0, .int .u64 0, .bool false, .int .u64 0, .bool false, .int .u64 0, .int .u64 0, .int .u64 0] 58 (0, 0))) := ⟨h4_⟩
      have n5_ : Aside0 (w38.heap[gb566]? = some (.cells #[.int .u64 t561, .int .u64 t562, .int .u64 t563] 29 (0, 0))) := ⟨h5_⟩
      have n6_ : Aside0 (w38.heap[gb570]? = some (.cells #[.int .u64 0, .int .u64 0, .int .u64 0, .bool false, .int .u64 0, .bool false, .int .u64 0, .int .u64 0, .int .u64 0] 58 (0, 0))) := ⟨h6_⟩
      have n7_ : Aside0 (w.heap.size ≤ gb570) := ⟨h7_⟩
      have n8_ : Aside0 (w.heap.size ≤ gb570) := ⟨h8_⟩
      have n9_ : Aside0 (gb556 ≠ gb570) := ⟨h9_⟩
      have n10_ : Aside0 (gb570 ≠ gb556) := ⟨h10_⟩
      have n11_ : Aside0 (gb557 ≠ gb570) := ⟨h11_⟩
      have n12_ : Aside0 (gb570 ≠ gb557) := ⟨h12_⟩
      have n13_ : Aside0 (gb558 ≠ gb570) := ⟨h13_⟩
      have n14_ : Aside0 (gb570 ≠ gb558) := ⟨h14_⟩
      have n15_ : Aside0 (gb559 ≠ gb570) := ⟨h15_⟩
      have n16_ : Aside0 (gb570 ≠ gb559) := ⟨h16_⟩
      have n17_ : Aside0 (gb560 ≠ gb570) := ⟨h17_⟩
      have n18_ : Aside0 (gb570 ≠ gb560) := ⟨h18_⟩
      have n19_ : Aside0 (gb566 ≠ gb570) := ⟨h19_⟩
      have n20_ : Aside0 (gb570 ≠ gb566) := ⟨h20_⟩
      have n21_ : Aside0 (Below w.heap.size w w38) := ⟨h21_⟩
      clear BK556
      clear BK557
      clear BK558
      clear BK559
      clear BK560
      clear BK566
      clear HB
      clear h0_ h1_ h2_ h3_ h4_ h5_ h6_ h7_ h8_ h9_ h10_ h11_ h12_ h13_ h14_ h15_ h16_ h17_ h18_ h19_ h20_ h21_
      have BK556 := n0_
      have BK557 := n1_
      have BK558 := n2_
      have BK559 := n3_
      have BK560 := n4_
      have BK566 := n5_
      have BK570 := n6_
      have GW570 := n7_
      have GE570 := n8_
      have NB556_570 := n9_
      have NB570_556 := n10_
      have NB557_570 := n11_
      have NB570_557 := n12_
      have NB558_570 := n13_
      have NB570_558 := n14_
      have NB559_570 := n15_
      have NB570_559 := n16_
      have NB560_570 := n17_
      have NB570_560 := n18_
      have NB566_570 := n19_
      have NB570_566 := n20_
      have HB := n21_
      clear n0_ n1_ n2_ n3_ n4_ n5_ n6_ n7_ n8_ n9_ n10_ n11_ n12_ n13_ n14_ n15_ n16_ n17_ n18_ n19_ n20_ n21_
      have hHeld : w38.cell? ⟨gb566, 0, none⟩ = some (.int .u64 t561) ∧ w38.cell? ⟨gb566, 1, none⟩ = some (.int .u64 t562) ∧ w38.cell? ⟨gb566, 2, none⟩ = some (.int .u64 t563) ∧ w38.cell? ⟨gb557, 0, none⟩ = some (.int .i64 a1_0) ∧ w38.cell? ⟨gb557, 1, none⟩ = some (.int .u64 a1_1) ∧ w38.cell? ⟨gb557, 2, none⟩ = some (.int .u64 a1_2) ∧ w38.cell? ⟨gb557, 3, none⟩ = some (.int .u64 a1_3) ∧ w38.cell? ⟨gb557, 4, none⟩ = some (.int .u64 a1_4) ∧ w38.cell? ⟨gb559, 0, none⟩ = some (.int .u64 a3_0) ∧ w38.cell? ⟨gb559, 1, none⟩ = some (.int .u64 a3_1) ∧ w38.cell? ⟨gb559, 2, none⟩ = some (.int .u64 a3_2) := hS_
      refine norm_ (a' := ?_) ?_ ?_
      rotate_left
      · simp only [putAll, Act.put, List.setIfInBounds_toArray, List.set_cons_zero, List.set_cons_succ]
        rfl
      refine one_ (i := 9) (N := none) #[true, true, true, true, true, true, true, true, true, true] rfl rfl (one_of HT_.out (by kernel_rfl)) (by decide) (fun K hK => ?_)
      have hs39 : w38.cell? ⟨gb570, 0, none⟩ = some (.int .u64 0) := (blk_cell BK570.out 0).trans rfl
      have hfs39 := blk_frozen BK570.out 0
      have hns39_0 := NB556_570.out
      have hns39_1 := NB557_570.out
      have hns39_2 := NB558_570.out
      have hns39_3 := NB559_570.out
      have hns39_4 := NB560_570.out
      have hns39_5 := NB566_570.out
      have hms39_0 := NB570_556.out
      have hms39_1 := NB570_557.out
      have hms39_2 := NB570_558.out
      have hms39_3 := NB570_559.out
      have hms39_4 := NB570_560.out
      have hms39_5 := NB570_566.out
      have hs40 : w38.cell? ⟨gb570, 1, none⟩ = some (.int .u64 0) := (blk_cell BK570.out 1).trans rfl
      have hfs40 := blk_frozen BK570.out 1
      have hns40_0 := NB556_570.out
      have hns40_1 := NB557_570.out
      have hns40_2 := NB558_570.out
      have hns40_3 := NB559_570.out
      have hns40_4 := NB560_570.out
      have hns40_5 := NB566_570.out
      have hms40_0 := NB570_556.out
      have hms40_1 := NB570_557.out
      have hms40_2 := NB570_558.out
      have hms40_3 := NB570_559.out
      have hms40_4 := NB570_560.out
      have hms40_5 := NB570_566.out
      have hs41 : w38.cell? ⟨gb570, 2, none⟩ = some (.int .u64 0) := (blk_cell BK570.out 2).trans rfl
      have hfs41 := blk_frozen BK570.out 2
      have hns41_0 := NB556_570.out
      have hns41_1 := NB557_570.out
      have hns41_2 := NB558_570.out
      have hns41_3 := NB559_570.out
      have hns41_4 := NB560_570.out
      have hns41_5 := NB566_570.out
      have hms41_0 := NB570_556.out
      have hms41_1 := NB570_557.out
      have hms41_2 := NB570_558.out
      have hms41_3 := NB570_559.out
      have hms41_4 := NB570_560.out
      have hms41_5 := NB570_566.out
      have hs42 : w38.cell? ⟨gb570, 3, none⟩ = some (.bool false) := (blk_cell BK570.out 3).trans rfl
      have hfs42 := blk_frozen BK570.out 3
      have hns42_0 := NB556_570.out
      have hns42_1 := NB557_570.out
      have hns42_2 := NB558_570.out
      have hns42_3 := NB559_570.out
      have hns42_4 := NB560_570.out
      have hns42_5 := NB566_570.out
      have hms42_0 := NB570_556.out
      have hms42_1 := NB570_557.out
      have hms42_2 := NB570_558.out
      have hms42_3 := NB570_559.out
      have hms42_4 := NB570_560.out
      have hms42_5 := NB570_566.out
      have hs43 : w38.cell? ⟨gb570, 4, none⟩ = some (.int .u64 0) := (blk_cell BK570.out 4).trans rfl
      have hfs43 := blk_frozen BK570.out 4
      have hns43_0 := NB556_570.out
      have hns43_1 := NB557_570.out
      have hns43_2 := NB558_570.out
      have hns43_3 := NB559_570.out
      have hns43_4 := NB560_570.out
      have hns43_5 := NB566_570.out
      have hms43_0 := NB570_556.out
      have hms43_1 := NB570_557.out
      have hms43_2 := NB570_558.out
      have hms43_3 := NB570_559.out
      have hms43_4 := NB570_560.out
      have hms43_5 := NB570_566.out
      have hs44 : w38.cell? ⟨gb570, 5, none⟩ = some (.bool false) := (blk_cell BK570.out 5).trans rfl
      have hfs44 := blk_frozen BK570.out 5
      have hns44_0 := NB556_570.out
      have hns44_1 := NB557_570.out
      have hns44_2 := NB558_570.out
      have hns44_3 := NB559_570.out
      have hns44_4 := NB560_570.out
      have hns44_5 := NB566_570.out
      have hms44_0 := NB570_556.out
      have hms44_1 := NB570_557.out
      have hms44_2 := NB570_558.out
      have hms44_3 := NB570_559.out
      have hms44_4 := NB570_560.out
      have hms44_5 := NB570_566.out
      have hs45 : w38.cell? ⟨gb570, 6, none⟩ = some (.int .u64 0) := (blk_cell BK570.out 6).trans rfl
      have hfs45 := blk_frozen BK570.out 6
      have hns45_0 := NB556_570.out
      have hns45_1 := NB557_570.out
      have hns45_2 := NB558_570.out
      have hns45_3 := NB559_570.out
      have hns45_4 := NB560_570.out
      have hns45_5 := NB566_570.out
      have hms45_0 := NB570_556.out
      have hms45_1 := NB570_557.out
      have hms45_2 := NB570_558.out
      have hms45_3 := NB570_559.out
      have hms45_4 := NB570_560.out
      have hms45_5 := NB570_566.out
      have hs46 : w38.cell? ⟨gb570, 7, none⟩ = some (.int .u64 0) := (blk_cell BK570.out 7).trans rfl
      have hfs46 := blk_frozen BK570.out 7
      have hns46_0 := NB556_570.out
      have hns46_1 := NB557_570.out
      have hns46_2 := NB558_570.out
      have hns46_3 := NB559_570.out
      have hns46_4 := NB560_570.out
      have hns46_5 := NB566_570.out
      have hms46_0 := NB570_556.out
      have hms46_1 := NB570_557.out
      have hms46_2 := NB570_558.out
      have hms46_3 := NB570_559.out
      have hms46_4 := NB570_560.out
      have hms46_5 := NB570_566.out
      have hs47 : w38.cell? ⟨gb570, 8, none⟩ = some (.int .u64 0) := (blk_cell BK570.out 8).trans rfl
      have hfs47 := blk_frozen BK570.out 8
      have hns47_0 := NB556_570.out
      have hns47_1 := NB557_570.out
      have hns47_2 := NB558_570.out
      have hns47_3 := NB559_570.out
      have hns47_4 := NB560_570.out
      have hns47_5 := NB566_570.out
      have hms47_0 := NB570_556.out
      have hms47_1 := NB570_557.out
      have hms47_2 := NB570_558.out
      have hms47_3 := NB570_559.out
      have hms47_4 := NB570_560.out
      have hms47_5 := NB570_566.out
      refine skip_ (w1 := ?_) (by rfl) rfl ?_ ?_
      rotate_left
      · go_simp
        rfl
      refine hK.out _ _ ⟨((cell_far (p := ⟨gb570, _, none⟩) NB566_570.out _).trans (((cell_far (p := ⟨gb570, _, none⟩) NB566_570.out _).trans (((cell_far (p := ⟨gb570, _, none⟩) NB566_570.out _).trans (((cell_far (p := ⟨gb570, _, none⟩) NB566_570.out _).trans (((cell_far (p := ⟨gb570, _, none⟩) NB566_570.out _).trans (((cell_far (p := ⟨gb570, _, none⟩) NB566_570.out _).trans (((cell_far (p := ⟨gb570, _, none⟩) NB566_570.out _).trans (((cell_far (p := ⟨gb570, _, none⟩) NB566_570.out _).trans (((cell_far (p := ⟨gb570, _, none⟩) NB566_570.out _).trans (hHeld.1)))))))))))))))))), ((cell_far (p := ⟨gb570, _, none⟩) NB566_570.out _).trans (((cell_far (p := ⟨gb570, _, none⟩) NB566_570.out _).trans (((cell_far (p := ⟨gb570, _, none⟩) NB566_570.out _).trans (((cell_far (p := ⟨gb570, _, none⟩) NB566_570.out _).trans (((cell_far (p := ⟨gb570, _, none⟩) NB566_570.out _).trans (((cell_far (p := ⟨gb570, _, none⟩) NB566_570.out _).trans (((cell_far (p := ⟨gb570, _, none⟩) NB566_570.out _).trans (((cell_far (p := ⟨gb570, _, none⟩) NB566_570.out _).trans (((cell_far (p := ⟨gb570, _, none⟩) NB566_570.out _).trans (hHeld.2.1)))))))))))))))))), ((cell_far (p := ⟨gb570, _, none⟩) NB566_570.out _).trans (((cell_far (p := ⟨gb570, _, none⟩) NB566_570.out _).trans (((cell_far (p := ⟨gb570, _, none⟩) NB566_570.out _).trans (((cell_far (p := ⟨gb570, _, none⟩) NB566_570.out _).trans (((cell_far (p := ⟨gb570, _, none⟩) NB566_570.out _).trans (((cell_far (p := ⟨gb570, _, none⟩) NB566_570.out _).trans (((cell_far (p := ⟨gb570, _, none⟩) NB566_570.out _).trans (((cell_far (p := ⟨gb570, _, none⟩) NB566_570.out _).trans (((cell_far (p := ⟨gb570, _, none⟩) NB566_570.out _).trans (hHeld.2.2.1)))))))))))))))))), ((cell_far (p := ⟨gb570, _, none⟩) NB557_570.out _).trans (((cell_far (p := ⟨gb570, _, none⟩) NB557_570.out _).trans (((cell_far (p := ⟨gb570, _, none⟩) NB557_570.out _).trans (((cell_far (p := ⟨gb570, _, none⟩) NB557_570.out _).trans (((cell_far (p := ⟨gb570, _, none⟩) NB557_570.out _).trans (((cell_far (p := ⟨gb570, _, none⟩) NB557_570.out _).trans (((cell_far (p := ⟨gb570, _, none⟩) NB557_570.out _).trans (((cell_far (p := ⟨gb570, _, none⟩) NB557_570.out _).trans (((cell_far (p := ⟨gb570, _, none⟩) NB557_570.out _).trans (hHeld.2.2.2.1)))))))))))))))))), ((cell_far (p := ⟨gb570, _, none⟩) NB557_570.out _).trans (((cell_far (p := ⟨gb570, _, none⟩) NB557_570.out _).trans (((cell_far (p := ⟨gb570, _, none⟩) NB557_570.out _).trans (((cell_far (p := ⟨gb570, _, none⟩) NB557_570.out _).trans (((cell_far (p := ⟨gb570, _, none⟩) NB557_570.out _).trans (((cell_far (p := ⟨gb570, _, none⟩) NB557_570.out _).trans (((cell_far (p := ⟨gb570, _, none⟩) NB557_570.out _).trans (((cell_far (p := ⟨gb570, _, none⟩) NB557_570.out _).trans (((cell_far (p := ⟨gb570, _, none⟩) NB557_570.out _).trans (hHeld.2.2.2.2.1)))))))))))))))))), ((cell_far (p := ⟨gb570, _, none⟩) NB557_570.out _).trans (((cell_far (p := ⟨gb570, _, none⟩) NB557_570.out _).trans (((cell_far (p := ⟨gb570, _, none⟩) NB557_570.out _).trans (((cell_far (p := ⟨gb570, _, none⟩) NB557_570.out _).trans (((cell_far (p := ⟨gb570, _, none⟩) NB557_570.out _).trans (((cell_far (p := ⟨gb570, _, none⟩) NB557_570.out _).trans (((cell_far (p := ⟨gb570, _, none⟩) NB557_570.out _).trans (((cell_far (p := ⟨gb570, _, none⟩) NB557_570.out _).trans (((cell_far (p := ⟨gb570, _, none⟩) NB557_570.out _).trans (hHeld.2.2.2.2.2.1)))))))))))))))))), ((cell_far (p := ⟨gb570, _, none⟩) NB557_570.out _).trans (((cell_far (p := ⟨gb570, _, none⟩) NB557_570.out _).trans (((cell_far (p := ⟨gb570, _, none⟩) NB557_570.out _).trans (((cell_far (p := ⟨gb570, _, none⟩) NB557_570.out _).trans (((cell_far (p := ⟨gb570, _, none⟩) NB557_570.out _).trans (((cell_far (p := ⟨gb570, _, none⟩) NB557_570.out _).trans (((cell_far (p := ⟨gb570, _, none⟩) NB557_570.out _).trans (((cell_far (p := ⟨gb570, _, none⟩) NB557_570.out _).trans (((cell_far (p := ⟨gb570, _, none⟩) NB557_570.out _).trans (hHeld.2.2.2.2.2.2.1)))))))))))))))))), ((cell_far (p := ⟨gb570, _, none⟩) NB557_570.out _).trans (((cell_far (p := ⟨gb570, _, none⟩) NB557_570.out _).trans (((cell_far (p := ⟨gb570, _, none⟩) NB557_570.out _).trans (((cell_far (p := ⟨gb570, _, none⟩) NB557_570.out _).trans (((cell_far (p := ⟨gb570, _, none⟩) NB557_570.out _).trans (((cell_far (p := ⟨gb570, _, none⟩) NB557_570.out _).trans (((cell_far (p := ⟨gb570, _, none⟩) NB557_570.out _).trans (((cell_far (p := ⟨gb570, _, none⟩) NB557_570.out _).trans (((cell_far (p := ⟨gb570, _, none⟩) NB557_570.out _).trans (hHeld.2.2.2.2.2.2.2.1)))))))))))))))))), ((cell_far (p := ⟨gb570, _, none⟩) NB559_570.out _).trans (((cell_far (p := ⟨gb570, _, none⟩) NB559_570.out _).trans (((cell_far (p := ⟨gb570, _, none⟩) NB559_570.out _).trans (((cell_far (p := ⟨gb570, _, none⟩) NB559_570.out _).trans (((cell_far (p := ⟨gb570, _, none⟩) NB559_570.out _).trans (((cell_far (p := ⟨gb570, _, none⟩) NB559_570.out _).trans (((cell_far (p := ⟨gb570, _, none⟩) NB559_570.out _).trans (((cell_far (p := ⟨gb570, _, none⟩) NB559_570.out _).trans (((cell_far (p := ⟨gb570, _, none⟩) NB559_570.out _).trans (hHeld.2.2.2.2.2.2.2.2.1)))))))))))))))))), ((cell_far (p := ⟨gb570, _, none⟩) NB559_570.out _).trans (((cell_far (p := ⟨gb570, _, none⟩) NB559_570.out _).trans (((cell_far (p := ⟨gb570, _, none⟩) NB559_570.out _).trans (((cell_far (p := ⟨gb570, _, none⟩) NB559_570.out _).trans (((cell_far (p := ⟨gb570, _, none⟩) NB559_570.out _).trans (((cell_far (p := ⟨gb570, _, none⟩) NB559_570.out _).trans (((cell_far (p := ⟨gb570, _, none⟩) NB559_570.out _).trans (((cell_far (p := ⟨gb570, _, none⟩) NB559_570.out _).trans (((cell_far (p := ⟨gb570, _, none⟩) NB559_570.out _).trans (hHeld.2.2.2.2.2.2.2.2.2.1)))))))))))))))))), ((cell_far (p := ⟨gb570, _, none⟩) NB559_570.out _).trans (((cell_far (p := ⟨gb570, _, none⟩) NB559_570.out _).trans (((cell_far (p := ⟨gb570, _, none⟩) NB559_570.out _).trans (((cell_far (p := ⟨gb570, _, none⟩) NB559_570.out _).trans (((cell_far (p := ⟨gb570, _, none⟩) NB559_570.out _).trans (((cell_far (p := ⟨gb570, _, none⟩) NB559_570.out _).trans (((cell_far (p := ⟨gb570, _, none⟩) NB559_570.out _).trans (((cell_far (p := ⟨gb570, _, none⟩) NB559_570.out _).trans (((cell_far (p := ⟨gb570, _, none⟩) NB559_570.out _).trans (hHeld.2.2.2.2.2.2.2.2.2.2))))))))))))))))))⟩ (fun hHeld => ?_)
      clear hK K
      refine done_ (done_of HT_.out (by kernel_rfl)) ?_
      have hnb48 := NB557_570.out
      have hnc48 := NB570_557.out
      obtain ⟨hcz49_0, hcz49_1, hcz49_2, hcz49_3, hcz49_4, hfz49_0, hfz49_1, hfz49_2, hfz49_3, hfz49_4⟩ := bc5 BK557
      have hnb50 := NB559_556.out
      have hnc50 := NB556_559.out
      have hnb51 := NB559_560.out
      have hnc51 := NB560_559.out
      have hnb52 := NB559_570.out
      have hnc52 := NB570_559.out
      obtain ⟨hcz53_0, hcz53_1, hcz53_2, hfz53_0, hfz53_1, hfz53_2⟩ := bc3 BK559
      have hnb54 := NB566_570.out
      have hnc54 := NB570_566.out
      obtain ⟨hcz55_0, hcz55_1, hcz55_2, hfz55_0, hfz55_1, hfz55_2⟩ := bc3 BK566
      try go_wp2_with (first | (go_at_call 27; (with_reducible refine (policy_Covers.calls a1_0 a1_1 a1_2 a1_3 a1_4 a3_0 a3_1 a3_2 t561 t562 t563 true _ A10.out).mono ?_); rintro e w56 ⟨rfl, hb⟩; have n0_ := bb BK556 hb; have n1_ := bb BK557 hb; have n2_ := bb BK558 hb; have n3_ := bb BK559 hb; have n4_ := bb BK560 hb; have n5_ := bb BK566 hb; have n6_ := Aside0.mk (blk_below (g := gb570) (o := .cells #[.int .u64 t561, .int .u64 t562, .int .u64 t563, .bool true, .int .u64 t565, .bool false, .int .u64 t567, .int .u64 t568, .int .u64 t569] 58 (0, 0)) (put9_ BK570.out) hb); have n7_ := bs HB hb; clear BK556; clear BK557; clear BK558; clear BK559; clear BK560; clear BK566; clear BK570; clear HB; have BK556 := n0_; have BK557 := n1_; have BK558 := n2_; have BK559 := n3_; have BK560 := n4_; have BK566 := n5_; have BK570 := n6_; have HB := n7_; clear n0_ n1_ n2_ n3_ n4_ n5_ n6_ n7_; (try clear hb); (try clear hb2); (try clear hk); (try clear hi); have hnb57 := NB570_556.out; have hnc57 := NB556_570.out; have hnb58 := NB570_558.out; have hnc58 := NB558_570.out; have hnb59 := NB570_560.out; have hnc59 := NB560_570.out; have hcz60_0 : w56.cell? ⟨gb570, 0, none⟩ = some (.int .u64 t561) := (blk_cell BK570.out 0).trans rfl; have hcz60_1 : w56.cell? ⟨gb570, 1, none⟩ = some (.int .u64 t562) := (blk_cell BK570.out 1).trans rfl; have hcz60_2 : w56.cell? ⟨gb570, 2, none⟩ = some (.int .u64 t563) := (blk_cell BK570.out 2).trans rfl; have hcz60_3 : w56.cell? ⟨gb570, 3, none⟩ = some (.bool true) := (blk_cell BK570.out 3).trans rfl; have hcz60_4 : w56.cell? ⟨gb570, 4, none⟩ = some (.int .u64 t565) := (blk_cell BK570.out 4).trans rfl; have hcz60_5 : w56.cell? ⟨gb570, 5, none⟩ = some (.bool false) := (blk_cell BK570.out 5).trans rfl; have hcz60_6 : w56.cell? ⟨gb570, 6, none⟩ = some (.int .u64 t567) := (blk_cell BK570.out 6).trans rfl; have hcz60_7 : w56.cell? ⟨gb570, 7, none⟩ = some (.int .u64 t568) := (blk_cell BK570.out 7).trans rfl; have hcz60_8 : w56.cell? ⟨gb570, 8, none⟩ = some (.int .u64 t569) := (blk_cell BK570.out 8).trans rfl; have hfz60_0 := blk_frozen BK570.out 0; have hfz60_1 := blk_frozen BK570.out 1; have hfz60_2 := blk_frozen BK570.out 2; have hfz60_3 := blk_frozen BK570.out 3; have hfz60_4 := blk_frozen BK570.out 4; have hfz60_5 := blk_frozen BK570.out 5; have hfz60_6 := blk_frozen BK570.out 6; have hfz60_7 := blk_frozen BK570.out 7; have hfz60_8 := blk_frozen BK570.out 8; have hnb61 := NB560_556.out; have hnc61 := NB556_560.out; have hcz62_0 : w56.cell? ⟨gb560, 0, none⟩ = some (.int .u64 0) := (blk_cell BK560.out 0).trans rfl; have hcz62_1 : w56.cell? ⟨gb560, 1, none⟩ = some (.int .u64 0) := (blk_cell BK560.out 1).trans rfl; have hcz62_2 : w56.cell? ⟨gb560, 2, none⟩ = some (.int .u64 0) := (blk_cell BK560.out 2).trans rfl; have hcz62_3 : w56.cell? ⟨gb560, 3, none⟩ = some (.bool false) := (blk_cell BK560.out 3).trans rfl; have hcz62_4 : w56.cell? ⟨gb560, 4, none⟩ = some (.int .u64 0) := (blk_cell BK560.out 4).trans rfl; have hcz62_5 : w56.cell? ⟨gb560, 5, none⟩ = some (.bool false) := (blk_cell BK560.out 5).trans rfl; have hcz62_6 : w56.cell? ⟨gb560, 6, none⟩ = some (.int .u64 0) := (blk_cell BK560.out 6).trans rfl; have hcz62_7 : w56.cell? ⟨gb560, 7, none⟩ = some (.int .u64 0) := (blk_cell BK560.out 7).trans rfl; have hcz62_8 : w56.cell? ⟨gb560, 8, none⟩ = some (.int .u64 0) := (blk_cell BK560.out 8).trans rfl; have hfz62_0 := blk_frozen BK560.out 0; have hfz62_1 := blk_frozen BK560.out 1; have hfz62_2 := blk_frozen BK560.out 2; have hfz62_3 := blk_frozen BK560.out 3; have hfz62_4 := blk_frozen BK560.out 4; have hfz62_5 := blk_frozen BK560.out 5; have hfz62_6 := blk_frozen BK560.out 6; have hfz62_7 := blk_frozen BK560.out 7; have hfz62_8 := blk_frozen BK560.out 8))
      with_reducible refine bodyPost_ret (results_cell_row rfl _ _ gb560 58 #[.int .u64 t561, .int .u64 t562, .int .u64 t563, .bool true, .int .u64 t565, .bool false, .int .u64 t567, .int .u64 t568, .int .u64 t569] (0, 0) _ rfl (put9_ BK560.out) Try.underlying58 rfl (by kernel_rfl)) rfl ?_
      exact ⟨re, bw HB⟩
    · replace c11 := Bool.eq_false_iff.mpr c11
      subst c11
      have H1 : ((reserve_Ceiling.f a0_0 a0_1 a0_2 a0_3 a0_4 a1_0 a1_1 a1_2 a1_3 a1_4 t561 t562 t563).bind fun bt572 => (some (t561, t562, t563, true, t565, true, bt572.1, bt572.2.1, bt572.2.2))) = some (r1, r2, r3, r4, r5, r6, r7, r8, r9) := by rw [if_neg (show ¬ (false = true) by decide)] at H; exact H
      clear H
      have H := H1
      clear H1
      replace H := Option.bind_eq_some_iff.mp H
      obtain ⟨⟨t572, t573, t574⟩, A630, H⟩ := H
      replace H : (some (t561, t562, t563, true, t565, true, t572, t573, t574)) = some (r1, r2, r3, r4, r5, r6, r7, r8, r9) := H
      have A63 := Aside0.mk A630
      clear A630
      simp only [Option.some.injEq, Prod.mk.injEq] at H
      obtain ⟨rfl, rfl, rfl, rfl, rfl, rfl, rfl, rfl, rfl⟩ := H
      go_enter Try.func30, Try.ntmps30
      try go_wp2_with (first | ((with_reducible refine gate_dst (N := 6) rfl ?_); refine bx 6 #[.int .u64 a0_0, .int .u64 a0_1, .int .i64 a0_2, .int .i64 a0_3, .int .i64 a0_4] 53 ?_; intro gb556 hg w64 hbox hb; have n0_ := bs HB hb; have n1_ := Aside0.mk (hbox); have n2_ := sz HB hg; have n3_ := sz HB hg; clear HB; have HB := n0_; have BK556 := n1_; have GW556 := n2_; have GE556 := n3_; clear n0_ n1_ n2_ n3_; clear hb hbox hg) | ((with_reducible refine gate_dst (N := 7) rfl ?_); refine bx 7 #[.int .i64 a1_0, .int .u64 a1_1, .int .u64 a1_2, .int .u64 a1_3, .int .u64 a1_4] 27 ?_; intro gb557 hg w65 hbox hb; have n0_ := bb BK556 hb; have n1_ := bs HB hb; have n2_ := Aside0.mk (hbox); have n3_ := sz HB hg; have n4_ := sz HB hg; have n5_ := nl BK556 hg; have n6_ := nr BK556 hg; clear BK556; clear HB; have BK556 := n0_; have HB := n1_; have BK557 := n2_; have GW557 := n3_; have GE557 := n4_; have NB556_557 := n5_; have NB557_556 := n6_; clear n0_ n1_ n2_ n3_ n4_ n5_ n6_; clear hb hbox hg) | ((with_reducible refine gate_dst (N := 8) rfl ?_); refine bx 8 #[.int .u64 a2_0, .int .u64 a2_1, .int .u64 a2_2] 29 ?_; intro gb558 hg w66 hbox hb; have n0_ := bb BK556 hb; have n1_ := bb BK557 hb; have n2_ := bs HB hb; have n3_ := Aside0.mk (hbox); have n4_ := sz HB hg; have n5_ := sz HB hg; have n6_ := nl BK556 hg; have n7_ := nr BK556 hg; have n8_ := nl BK557 hg; have n9_ := nr BK557 hg; clear BK556; clear BK557; clear HB; have BK556 := n0_; have BK557 := n1_; have HB := n2_; have BK558 := n3_; have GW558 := n4_; have GE558 := n5_; have NB556_558 := n6_; have NB558_556 := n7_; have NB557_558 := n8_; have NB558_557 := n9_; clear n0_ n1_ n2_ n3_ n4_ n5_ n6_ n7_ n8_ n9_; clear hb hbox hg) | ((with_reducible refine gate_dst (N := 9) rfl ?_); refine bx 9 #[.int .u64 a3_0, .int .u64 a3_1, .int .u64 a3_2] 29 ?_; intro gb559 hg w67 hbox hb; have n0_ := bb BK556 hb; have n1_ := bb BK557 hb; have n2_ := bb BK558 hb; have n3_ := bs HB hb; have n4_ := Aside0.mk (hbox); have n5_ := sz HB hg; have n6_ := sz HB hg; have n7_ := nl BK556 hg; have n8_ := nr BK556 hg; have n9_ := nl BK557 hg; have n10_ := nr BK557 hg; have n11_ := nl BK558 hg; have n12_ := nr BK558 hg; clear BK556; clear BK557; clear BK558; clear HB; have BK556 := n0_; have BK557 := n1_; have BK558 := n2_; have HB := n3_; have BK559 := n4_; have GW559 := n5_; have GE559 := n6_; have NB556_559 := n7_; have NB559_556 := n8_; have NB557_559 := n9_; have NB559_557 := n10_; have NB558_559 := n11_; have NB559_558 := n12_; clear n0_ n1_ n2_ n3_ n4_ n5_ n6_ n7_ n8_ n9_ n10_ n11_ n12_; clear hb hbox hg) | ((with_reducible refine gate_dst (N := 12) rfl ?_); refine bx 12 #[.int .u64 0, .int .u64 0, .int .u64 0, .bool false, .int .u64 0, .bool false, .int .u64 0, .int .u64 0, .int .u64 0] 58 ?_; intro gb560 hg w68 hbox hb; have n0_ := bb BK556 hb; have n1_ := bb BK557 hb; have n2_ := bb BK558 hb; have n3_ := bb BK559 hb; have n4_ := bs HB hb; have n5_ := Aside0.mk (hbox); have n6_ := sz HB hg; have n7_ := sz HB hg; have n8_ := nl BK556 hg; have n9_ := nr BK556 hg; have n10_ := nl BK557 hg; have n11_ := nr BK557 hg; have n12_ := nl BK558 hg; have n13_ := nr BK558 hg; have n14_ := nl BK559 hg; have n15_ := nr BK559 hg; clear BK556; clear BK557; clear BK558; clear BK559; clear HB; have BK556 := n0_; have BK557 := n1_; have BK558 := n2_; have BK559 := n3_; have HB := n4_; have BK560 := n5_; have GW560 := n6_; have GE560 := n7_; have NB556_560 := n8_; have NB560_556 := n9_; have NB557_560 := n10_; have NB560_557 := n11_; have NB558_560 := n12_; have NB560_558 := n13_; have NB559_560 := n14_; have NB560_559 := n15_; clear n0_ n1_ n2_ n3_ n4_ n5_ n6_ n7_ n8_ n9_ n10_ n11_ n12_ n13_ n14_ n15_; clear hb hbox hg; have hnb69 := NB557_556.out; have hnc69 := NB556_557.out; have hnb70 := NB557_558.out; have hnc70 := NB558_557.out; have hnb71 := NB557_559.out; have hnc71 := NB559_557.out; have hnb72 := NB557_560.out; have hnc72 := NB560_557.out; obtain ⟨hcz73_0, hcz73_1, hcz73_2, hcz73_3, hcz73_4, hfz73_0, hfz73_1, hfz73_2, hfz73_3, hfz73_4⟩ := bc5 BK557; have hnb74 := NB558_556.out; have hnc74 := NB556_558.out; have hnb75 := NB558_559.out; have hnc75 := NB559_558.out; have hnb76 := NB558_560.out; have hnc76 := NB560_558.out; obtain ⟨hcz77_0, hcz77_1, hcz77_2, hfz77_0, hfz77_1, hfz77_2⟩ := bc3 BK558) | ((with_reducible refine gate_callee (f := 16) rfl ?_); refine gm (some 22) Try.func16 #[.agg #[.int .i64 a1_0, .int .u64 a1_1, .int .u64 a1_2, .int .u64 a1_3, .int .u64 a1_4], .agg #[.int .u64 a2_0, .int .u64 a2_1, .int .u64 a2_2], .int .u64 a4, .int .u64 a5] (policy_Admit.calls k a1_0 a1_1 a1_2 a1_3 a1_4 a2_0 a2_1 a2_2 a4 a5 t561 t562 t563 true t565 _ A7.out) ?_; intro w78 hb; have n0_ := bb BK556 hb; have n1_ := bb BK557 hb; have n2_ := bb BK558 hb; have n3_ := bb BK559 hb; have n4_ := bb BK560 hb; have n5_ := bs HB hb; clear BK556; clear BK557; clear BK558; clear BK559; clear BK560; clear HB; have BK556 := n0_; have BK557 := n1_; have BK558 := n2_; have BK559 := n3_; have BK560 := n4_; have HB := n5_; clear n0_ n1_ n2_ n3_ n4_ n5_; (try clear hb); (try clear hb2); (try clear hk); (try clear hi)) | ((with_reducible refine gate_dst (N := 13) rfl ?_); refine bx 13 #[.int .u64 0, .int .u64 0, .int .u64 0] 29 ?_; intro gb566 hg w79 hbox hb; have n0_ := bb BK556 hb; have n1_ := bb BK557 hb; have n2_ := bb BK558 hb; have n3_ := bb BK559 hb; have n4_ := bb BK560 hb; have n5_ := bs HB hb; have n6_ := Aside0.mk (hbox); have n7_ := sz HB hg; have n8_ := sz HB hg; have n9_ := nl BK556 hg; have n10_ := nr BK556 hg; have n11_ := nl BK557 hg; have n12_ := nr BK557 hg; have n13_ := nl BK558 hg; have n14_ := nr BK558 hg; have n15_ := nl BK559 hg; have n16_ := nr BK559 hg; have n17_ := nl BK560 hg; have n18_ := nr BK560 hg; clear BK556; clear BK557; clear BK558; clear BK559; clear BK560; clear HB; have BK556 := n0_; have BK557 := n1_; have BK558 := n2_; have BK559 := n3_; have BK560 := n4_; have HB := n5_; have BK566 := n6_; have GW566 := n7_; have GE566 := n8_; have NB556_566 := n9_; have NB566_556 := n10_; have NB557_566 := n11_; have NB566_557 := n12_; have NB558_566 := n13_; have NB566_558 := n14_; have NB559_566 := n15_; have NB566_559 := n16_; have NB560_566 := n17_; have NB566_560 := n18_; clear n0_ n1_ n2_ n3_ n4_ n5_ n6_ n7_ n8_ n9_ n10_ n11_ n12_ n13_ n14_ n15_ n16_ n17_ n18_; clear hb hbox hg; have hnb80 := NB566_556.out; have hnc80 := NB556_566.out; have hnb81 := NB566_557.out; have hnc81 := NB557_566.out; have hnb82 := NB566_558.out; have hnc82 := NB558_566.out; have hnb83 := NB566_559.out; have hnc83 := NB559_566.out; have hnb84 := NB566_560.out; have hnc84 := NB560_566.out; obtain ⟨hcz85_0, hcz85_1, hcz85_2, hfz85_0, hfz85_1, hfz85_2⟩ := bc3 BK566))
      have n0_ : Aside0 ((((w79.setCell ⟨gb566, 0, none⟩ (.int .u64 t561)).setCell ⟨gb566, 1, none⟩ (.int .u64 t562)).setCell ⟨gb566, 2, none⟩ (.int .u64 t563)).heap[gb556]? = some (.cells #[.int .u64 a0_0, .int .u64 a0_1, .int .i64 a0_2, .int .i64 a0_3, .int .i64 a0_4] 53 (0, 0))) := ⟨bk BK556⟩
      have n1_ : Aside0 ((((w79.setCell ⟨gb566, 0, none⟩ (.int .u64 t561)).setCell ⟨gb566, 1, none⟩ (.int .u64 t562)).setCell ⟨gb566, 2, none⟩ (.int .u64 t563)).heap[gb557]? = some (.cells #[.int .i64 a1_0, .int .u64 a1_1, .int .u64 a1_2, .int .u64 a1_3, .int .u64 a1_4] 27 (0, 0))) := ⟨bk BK557⟩
      have n2_ : Aside0 ((((w79.setCell ⟨gb566, 0, none⟩ (.int .u64 t561)).setCell ⟨gb566, 1, none⟩ (.int .u64 t562)).setCell ⟨gb566, 2, none⟩ (.int .u64 t563)).heap[gb558]? = some (.cells #[.int .u64 a2_0, .int .u64 a2_1, .int .u64 a2_2] 29 (0, 0))) := ⟨bk BK558⟩
      have n3_ : Aside0 ((((w79.setCell ⟨gb566, 0, none⟩ (.int .u64 t561)).setCell ⟨gb566, 1, none⟩ (.int .u64 t562)).setCell ⟨gb566, 2, none⟩ (.int .u64 t563)).heap[gb559]? = some (.cells #[.int .u64 a3_0, .int .u64 a3_1, .int .u64 a3_2] 29 (0, 0))) := ⟨bk BK559⟩
      have n4_ : Aside0 ((((w79.setCell ⟨gb566, 0, none⟩ (.int .u64 t561)).setCell ⟨gb566, 1, none⟩ (.int .u64 t562)).setCell ⟨gb566, 2, none⟩ (.int .u64 t563)).heap[gb560]? = some (.cells #[.int .u64 0, .int .u64 0, .int .u64 0, .bool false, .int .u64 0, .bool false, .int .u64 0, .int .u64 0, .int .u64 0] 58 (0, 0))) := ⟨bk BK560⟩
      have n5_ : Aside0 ((((w79.setCell ⟨gb566, 0, none⟩ (.int .u64 t561)).setCell ⟨gb566, 1, none⟩ (.int .u64 t562)).setCell ⟨gb566, 2, none⟩ (.int .u64 t563)).heap[gb566]? = some (.cells #[.int .u64 t561, .int .u64 t562, .int .u64 t563] 29 (0, 0))) := ⟨bk BK566⟩
      have n6_ : Aside0 (Below w.heap.size w (((w79.setCell ⟨gb566, 0, none⟩ (.int .u64 t561)).setCell ⟨gb566, 1, none⟩ (.int .u64 t562)).setCell ⟨gb566, 2, none⟩ (.int .u64 t563))) := ⟨bw HB⟩
      (try clear BK556)
      (try clear BK557)
      (try clear BK558)
      (try clear BK559)
      (try clear BK560)
      (try clear BK566)
      (try clear HB)
      generalize (((w79.setCell ⟨gb566, 0, none⟩ (.int .u64 t561)).setCell ⟨gb566, 1, none⟩ (.int .u64 t562)).setCell ⟨gb566, 2, none⟩ (.int .u64 t563)) = w86 at n0_ n1_ n2_ n3_ n4_ n5_ n6_ ⊢
      have BK556 := n0_
      have BK557 := n1_
      have BK558 := n2_
      have BK559 := n3_
      have BK560 := n4_
      have BK566 := n5_
      have HB := n6_
      clear n0_ n1_ n2_ n3_ n4_ n5_ n6_
      have n0_ := Aside0.mk (blk_drew BK556.out)
      have n1_ := Aside0.mk (blk_drew BK557.out)
      have n2_ := Aside0.mk (blk_drew BK558.out)
      have n3_ := Aside0.mk (blk_drew BK559.out)
      have n4_ := Aside0.mk (blk_drew BK560.out)
      have n5_ := Aside0.mk (blk_drew BK566.out)
      have n6_ := Aside0.mk (below_drew1 HB.out)
      clear BK556
      clear BK557
      clear BK558
      clear BK559
      clear BK560
      clear BK566
      clear HB
      have BK556 := n0_
      have BK557 := n1_
      have BK558 := n2_
      have BK559 := n3_
      have BK560 := n4_
      have BK566 := n5_
      have HB := n6_
      clear n0_ n1_ n2_ n3_ n4_ n5_ n6_
      refine start_ (n := 10) (S := fun w' => w'.cell? ⟨gb566, 0, none⟩ = some (.int .u64 t561) ∧ w'.cell? ⟨gb566, 1, none⟩ = some (.int .u64 t562) ∧ w'.cell? ⟨gb566, 2, none⟩ = some (.int .u64 t563) ∧ w'.cell? ⟨gb557, 0, none⟩ = some (.int .i64 a1_0) ∧ w'.cell? ⟨gb557, 1, none⟩ = some (.int .u64 a1_1) ∧ w'.cell? ⟨gb557, 2, none⟩ = some (.int .u64 a1_2) ∧ w'.cell? ⟨gb557, 3, none⟩ = some (.int .u64 a1_3) ∧ w'.cell? ⟨gb557, 4, none⟩ = some (.int .u64 a1_4) ∧ w'.cell? ⟨gb559, 0, none⟩ = some (.int .u64 a3_0) ∧ w'.cell? ⟨gb559, 1, none⟩ = some (.int .u64 a3_1) ∧ w'.cell? ⟨gb559, 2, none⟩ = some (.int .u64 a3_2)) (ds := []) #[false, false, false, false, false, false, false, false, false, false] (by kernel_rfl) rfl rfl ⟨(blk_cell BK566.out 0).trans rfl, (blk_cell BK566.out 1).trans rfl, (blk_cell BK566.out 2).trans rfl, (blk_cell BK557.out 0).trans rfl, (blk_cell BK557.out 1).trans rfl, (blk_cell BK557.out 2).trans rfl, (blk_cell BK557.out 3).trans rfl, (blk_cell BK557.out 4).trans rfl, (blk_cell BK559.out 0).trans rfl, (blk_cell BK559.out 1).trans rfl, (blk_cell BK559.out 2).trans rfl⟩ (fun hHeld => ?_); refine with_tabW reserve_Choose.tab2 reserve_Choose.bits2 (fun HT_ HW_ => ?_)
      generalize w86.drew = w87 at BK556 BK557 BK558 BK559 BK560 BK566 HB hHeld ⊢
      refine chain_ (fuel := 4) [(1, 0, some 27), (2, 0, some 28), (0, 1, some 26), (3, 1, some 29), (4, 1, some 30), (5, 1, some 31)] #[true, true, true, true, true, true, false, false, false, false] HT_.out HW_.out (by kernel_rfl) (fun _ _ _ _ _ h => h) (Or.inr hHeld) rfl ?_
      (iterate 2 refine lkP ?_); (iterate 4 refine lkT ?_); refine .nil ?_
      refine join_ (σ := Nat) 1 #[true, true, true, true, true, true, true, true, true, false] (fun s_ => [(32, .agg #[.int .u64 t567, .int .u64 t568, .int .u64 t569]), (16, .pointer (some ⟨s_, 0, none⟩)), (33, .agg #[.int .u64 t561, .int .u64 t562, .int .u64 t563, .bool true, .int .u64 t565, .bool false, .int .u64 t567, .int .u64 t568, .int .u64 t569])]) (fun s_ w' => (w'.cell? ⟨gb566, 0, none⟩ = some (.int .u64 t561) ∧ w'.cell? ⟨gb566, 1, none⟩ = some (.int .u64 t562) ∧ w'.cell? ⟨gb566, 2, none⟩ = some (.int .u64 t563) ∧ w'.cell? ⟨gb557, 0, none⟩ = some (.int .i64 a1_0) ∧ w'.cell? ⟨gb557, 1, none⟩ = some (.int .u64 a1_1) ∧ w'.cell? ⟨gb557, 2, none⟩ = some (.int .u64 a1_2) ∧ w'.cell? ⟨gb557, 3, none⟩ = some (.int .u64 a1_3) ∧ w'.cell? ⟨gb557, 4, none⟩ = some (.int .u64 a1_4) ∧ w'.cell? ⟨gb559, 0, none⟩ = some (.int .u64 a3_0) ∧ w'.cell? ⟨gb559, 1, none⟩ = some (.int .u64 a3_1) ∧ w'.cell? ⟨gb559, 2, none⟩ = some (.int .u64 a3_2)) ∧ (w'.heap[gb556]? = some (.cells #[.int .u64 a0_0, .int .u64 a0_1, .int .i64 a0_2, .int .i64 a0_3, .int .i64 a0_4] 53 (0, 0))) ∧ (w'.heap[gb557]? = some (.cells #[.int .i64 a1_0, .int .u64 a1_1, .int .u64 a1_2, .int .u64 a1_3, .int .u64 a1_4] 27 (0, 0))) ∧ (w'.heap[gb558]? = some (.cells #[.int .u64 a2_0, .int .u64 a2_1, .int .u64 a2_2] 29 (0, 0))) ∧ (w'.heap[gb559]? = some (.cells #[.int .u64 a3_0, .int .u64 a3_1, .int .u64 a3_2] 29 (0, 0))) ∧ (w'.heap[gb560]? = some (.cells #[.int .u64 0, .int .u64 0, .int .u64 0, .bool false, .int .u64 0, .bool false, .int .u64 0, .int .u64 0, .int .u64 0] 58 (0, 0))) ∧ (w'.heap[gb566]? = some (.cells #[.int .u64 t561, .int .u64 t562, .int .u64 t563] 29 (0, 0))) ∧ (w'.heap[s_]? = some (.cells #[.int .u64 0, .int .u64 0, .int .u64 0, .bool false, .int .u64 0, .bool false, .int .u64 0, .int .u64 0, .int .u64 0] 58 (0, 0))) ∧ (w.heap.size ≤ s_) ∧ (w.heap.size ≤ s_) ∧ (gb556 ≠ s_) ∧ (s_ ≠ gb556) ∧ (gb557 ≠ s_) ∧ (s_ ≠ gb557) ∧ (gb558 ≠ s_) ∧ (s_ ≠ gb558) ∧ (gb559 ≠ s_) ∧ (s_ ≠ gb559) ∧ (gb560 ≠ s_) ∧ (s_ ≠ gb560) ∧ (gb566 ≠ s_) ∧ (s_ ≠ gb566) ∧ (Below w.heap.size w w')) ?_ ?_
      rotate_left
      · intro hCont
        refine two_ (i := 6) (j := 8) (Ni := some 32) (Nj := some 16) #[true, true, true, true, true, true, true, false, false, false] #[true, true, true, true, true, true, false, false, true, false] rfl rfl rfl rfl (two_of HT_.out (by kernel_rfl)) (by decide) (by decide) (fun K hK => ?_) (fun K hK => ?_)
        · skip
          refine ge Try.func26 #[.agg #[.int .i64 a1_0, .int .u64 a1_1, .int .u64 a1_2, .int .u64 a1_3, .int .u64 a1_4], .agg #[.int .u64 a3_0, .int .u64 a3_1, .int .u64 a3_2], .agg #[.int .u64 a3_0, .int .u64 a3_1, .int .u64 a3_2]] ?_
          with_reducible refine (policy_Max.calls a1_0 a1_1 a1_2 a1_3 a1_4 a3_0 a3_1 a3_2 a3_0 a3_1 a3_2 t567 t568 t569 _ A8.out).mono ?_
          rintro e w88 ⟨rfl, hb⟩
          refine ⟨_, rfl, ?_⟩
          have n0_ := bb BK556 hb
          have n1_ := bb BK557 hb
          have n2_ := bb BK558 hb
          have n3_ := bb BK559 hb
          have n4_ := bb BK560 hb
          have n5_ := bb BK566 hb
          have n6_ := bs HB hb
          clear BK556
          clear BK557
          clear BK558
          clear BK559
          clear BK560
          clear BK566
          clear HB
          have BK556 := n0_
          have BK557 := n1_
          have BK558 := n2_
          have BK559 := n3_
          have BK560 := n4_
          have BK566 := n5_
          have HB := n6_
          clear n0_ n1_ n2_ n3_ n4_ n5_ n6_
          (try clear hb)
          (try clear hb2)
          (try clear hk)
          (try clear hi)
          refine hK.out _ _ ⟨(blk_cell BK566.out 0).trans rfl, (blk_cell BK566.out 1).trans rfl, (blk_cell BK566.out 2).trans rfl, (blk_cell BK557.out 0).trans rfl, (blk_cell BK557.out 1).trans rfl, (blk_cell BK557.out 2).trans rfl, (blk_cell BK557.out 3).trans rfl, (blk_cell BK557.out 4).trans rfl, (blk_cell BK559.out 0).trans rfl, (blk_cell BK559.out 1).trans rfl, (blk_cell BK559.out 2).trans rfl⟩ (fun hHeld => ?_)
          clear hK K
          refine norm_ (a' := ?_) ?_ ?_
          rotate_left
          · show Act.put _ (some 32) _ = _
            simp only [Act.put, List.setIfInBounds_toArray, List.set_cons_zero, List.set_cons_succ, i64_w, i32_w]
            rfl
          refine chain_ (fuel := 2) [(7, 0, some 33)] #[true, true, true, true, true, true, true, true, false, false] HT_.out HW_.out (by kernel_rfl) (fun _ _ _ _ _ h => h) (Or.inl (by decide)) rfl ?_
          refine lkP ?_; refine .nil ?_
          refine one_ (i := 8) (N := some 16) #[true, true, true, true, true, true, true, true, true, false] rfl rfl (one_of HT_.out (by kernel_rfl)) (by decide) (fun K hK => ?_)
          refine box_step ?hg (N := 16) ?hd (cs := #[.int .u64 0, .int .u64 0, .int .u64 0, .bool false, .int .u64 0, .bool false, .int .u64 0, .int .u64 0, .int .u64 0]) (t := 58) ?hr ?_; (case hd => rfl); (case hg => rfl); (case hr => first | (go_simp; done) | (go_simp; rfl))
          intro gb570 hg w89 hbox hb
          have n0_ := bb BK556 hb
          have n1_ := bb BK557 hb
          have n2_ := bb BK558 hb
          have n3_ := bb BK559 hb
          have n4_ := bb BK560 hb
          have n5_ := bb BK566 hb
          have n6_ := bs HB hb
          have n7_ := Aside0.mk (hbox)
          have n8_ := sz HB hg
          have n9_ := sz HB hg
          have n10_ := nl BK556 hg
          have n11_ := nr BK556 hg
          have n12_ := nl BK557 hg
          have n13_ := nr BK557 hg
          have n14_ := nl BK558 hg
          have n15_ := nr BK558 hg
          have n16_ := nl BK559 hg
          have n17_ := nr BK559 hg
          have n18_ := nl BK560 hg
          have n19_ := nr BK560 hg
          have n20_ := nl BK566 hg
          have n21_ := nr BK566 hg
          clear BK556
          clear BK557
          clear BK558
          clear BK559
          clear BK560
          clear BK566
          clear HB
          have BK556 := n0_
          have BK557 := n1_
          have BK558 := n2_
          have BK559 := n3_
          have BK560 := n4_
          have BK566 := n5_
          have HB := n6_
          have BK570 := n7_
          have GW570 := n8_
          have GE570 := n9_
          have NB556_570 := n10_
          have NB570_556 := n11_
          have NB557_570 := n12_
          have NB570_557 := n13_
          have NB558_570 := n14_
          have NB570_558 := n15_
          have NB559_570 := n16_
          have NB570_559 := n17_
          have NB560_570 := n18_
          have NB570_560 := n19_
          have NB566_570 := n20_
          have NB570_566 := n21_
          clear n0_ n1_ n2_ n3_ n4_ n5_ n6_ n7_ n8_ n9_ n10_ n11_ n12_ n13_ n14_ n15_ n16_ n17_ n18_ n19_ n20_ n21_
          clear hb hbox hg
          refine hK.out _ _ ⟨(blk_cell BK566.out 0).trans rfl, (blk_cell BK566.out 1).trans rfl, (blk_cell BK566.out 2).trans rfl, (blk_cell BK557.out 0).trans rfl, (blk_cell BK557.out 1).trans rfl, (blk_cell BK557.out 2).trans rfl, (blk_cell BK557.out 3).trans rfl, (blk_cell BK557.out 4).trans rfl, (blk_cell BK559.out 0).trans rfl, (blk_cell BK559.out 1).trans rfl, (blk_cell BK559.out 2).trans rfl⟩ (fun hHeld => ?_)
          clear hK K
          refine norm_ (a' := ?_) ?_ ?_
          rotate_left
          · show Act.put _ (some 16) _ = _
            simp only [Act.put, List.setIfInBounds_toArray, List.set_cons_zero, List.set_cons_succ, i64_w, i32_w]
            rfl
          exact norm_ (by simp only [putAll, Act.put, List.setIfInBounds_toArray, List.set_cons_zero, List.set_cons_succ]) (hCont (gb570) _ ⟨hHeld, (bk BK556), (bk BK557), (bk BK558), (bk BK559), (bk BK560), (bk BK566), (bk BK570), GW570.out, GE570.out, NB556_570.out, NB570_556.out, NB557_570.out, NB570_557.out, NB558_570.out, NB570_558.out, NB559_570.out, NB570_559.out, NB560_570.out, NB570_560.out, NB566_570.out, NB570_566.out, (bw HB)⟩)
        · skip
          refine box_step ?hg (N := 16) ?hd (cs := #[.int .u64 0, .int .u64 0, .int .u64 0, .bool false, .int .u64 0, .bool false, .int .u64 0, .int .u64 0, .int .u64 0]) (t := 58) ?hr ?_; (case hd => rfl); (case hg => rfl); (case hr => first | (go_simp; done) | (go_simp; rfl))
          intro gb570 hg w88 hbox hb
          have n0_ := bb BK556 hb
          have n1_ := bb BK557 hb
          have n2_ := bb BK558 hb
          have n3_ := bb BK559 hb
          have n4_ := bb BK560 hb
          have n5_ := bb BK566 hb
          have n6_ := bs HB hb
          have n7_ := Aside0.mk (hbox)
          have n8_ := sz HB hg
          have n9_ := sz HB hg
          have n10_ := nl BK556 hg
          have n11_ := nr BK556 hg
          have n12_ := nl BK557 hg
          have n13_ := nr BK557 hg
          have n14_ := nl BK558 hg
          have n15_ := nr BK558 hg
          have n16_ := nl BK559 hg
          have n17_ := nr BK559 hg
          have n18_ := nl BK560 hg
          have n19_ := nr BK560 hg
          have n20_ := nl BK566 hg
          have n21_ := nr BK566 hg
          clear BK556
          clear BK557
          clear BK558
          clear BK559
          clear BK560
          clear BK566
          clear HB
          have BK556 := n0_
          have BK557 := n1_
          have BK558 := n2_
          have BK559 := n3_
          have BK560 := n4_
          have BK566 := n5_
          have HB := n6_
          have BK570 := n7_
          have GW570 := n8_
          have GE570 := n9_
          have NB556_570 := n10_
          have NB570_556 := n11_
          have NB557_570 := n12_
          have NB570_557 := n13_
          have NB558_570 := n14_
          have NB570_558 := n15_
          have NB559_570 := n16_
          have NB570_559 := n17_
          have NB560_570 := n18_
          have NB570_560 := n19_
          have NB566_570 := n20_
          have NB570_566 := n21_
          clear n0_ n1_ n2_ n3_ n4_ n5_ n6_ n7_ n8_ n9_ n10_ n11_ n12_ n13_ n14_ n15_ n16_ n17_ n18_ n19_ n20_ n21_
          clear hb hbox hg
          refine hK.out _ _ ⟨(blk_cell BK566.out 0).trans rfl, (blk_cell BK566.out 1).trans rfl, (blk_cell BK566.out 2).trans rfl, (blk_cell BK557.out 0).trans rfl, (blk_cell BK557.out 1).trans rfl, (blk_cell BK557.out 2).trans rfl, (blk_cell BK557.out 3).trans rfl, (blk_cell BK557.out 4).trans rfl, (blk_cell BK559.out 0).trans rfl, (blk_cell BK559.out 1).trans rfl, (blk_cell BK559.out 2).trans rfl⟩ (fun hHeld => ?_)
          clear hK K
          refine norm_ (a' := ?_) ?_ ?_
          rotate_left
          · show Act.put _ (some 16) _ = _
            simp only [Act.put, List.setIfInBounds_toArray, List.set_cons_zero, List.set_cons_succ, i64_w, i32_w]
            rfl
          refine one_ (i := 6) (N := some 32) #[true, true, true, true, true, true, true, false, true, false] rfl rfl (one_of HT_.out (by kernel_rfl)) (by decide) (fun K hK => ?_)
          refine ge Try.func26 #[.agg #[.int .i64 a1_0, .int .u64 a1_1, .int .u64 a1_2, .int .u64 a1_3, .int .u64 a1_4], .agg #[.int .u64 a3_0, .int .u64 a3_1, .int .u64 a3_2], .agg #[.int .u64 a3_0, .int .u64 a3_1, .int .u64 a3_2]] ?_
          with_reducible refine (policy_Max.calls a1_0 a1_1 a1_2 a1_3 a1_4 a3_0 a3_1 a3_2 a3_0 a3_1 a3_2 t567 t568 t569 _ A8.out).mono ?_
          rintro e w89 ⟨rfl, hb⟩
          refine ⟨_, rfl, ?_⟩
          have n0_ := bb BK556 hb
          have n1_ := bb BK557 hb
          have n2_ := bb BK558 hb
          have n3_ := bb BK559 hb
          have n4_ := bb BK560 hb
          have n5_ := bb BK566 hb
          have n6_ := bb BK570 hb
          have n7_ := bs HB hb
          clear BK556
          clear BK557
          clear BK558
          clear BK559
          clear BK560
          clear BK566
          clear BK570
          clear HB
          have BK556 := n0_
          have BK557 := n1_
          have BK558 := n2_
          have BK559 := n3_
          have BK560 := n4_
          have BK566 := n5_
          have BK570 := n6_
          have HB := n7_
          clear n0_ n1_ n2_ n3_ n4_ n5_ n6_ n7_
          (try clear hb)
          (try clear hb2)
          (try clear hk)
          (try clear hi)
          refine hK.out _ _ ⟨(blk_cell BK566.out 0).trans rfl, (blk_cell BK566.out 1).trans rfl, (blk_cell BK566.out 2).trans rfl, (blk_cell BK557.out 0).trans rfl, (blk_cell BK557.out 1).trans rfl, (blk_cell BK557.out 2).trans rfl, (blk_cell BK557.out 3).trans rfl, (blk_cell BK557.out 4).trans rfl, (blk_cell BK559.out 0).trans rfl, (blk_cell BK559.out 1).trans rfl, (blk_cell BK559.out 2).trans rfl⟩ (fun hHeld => ?_)
          clear hK K
          refine norm_ (a' := ?_) ?_ ?_
          rotate_left
          · show Act.put _ (some 32) _ = _
            simp only [Act.put, List.setIfInBounds_toArray, List.set_cons_zero, List.set_cons_succ, i64_w, i32_w]
            rfl
          refine chain_ (fuel := 1) [(7, 0, some 33)] #[true, true, true, true, true, true, true, true, true, false] HT_.out HW_.out (by kernel_rfl) (fun _ _ _ _ _ h => h) (Or.inl (by decide)) rfl ?_
          refine lkP ?_; refine .nil ?_
          exact norm_ (by simp only [putAll, Act.put, List.setIfInBounds_toArray, List.set_cons_zero, List.set_cons_succ]) (hCont (gb570) _ ⟨hHeld, (bk BK556), (bk BK557), (bk BK558), (bk BK559), (bk BK560), (bk BK566), (bk BK570), GW570.out, GE570.out, NB556_570.out, NB570_556.out, NB557_570.out, NB570_557.out, NB558_570.out, NB570_558.out, NB559_570.out, NB570_559.out, NB560_570.out, NB570_560.out, NB566_570.out, NB570_566.out, (bw HB)⟩)
      rintro gb570 w90 ⟨hS_, h0_, h1_, h2_, h3_, h4_, h5_, h6_, h7_, h8_, h9_, h10_, h11_, h12_, h13_, h14_, h15_, h16_, h17_, h18_, h19_, h20_, h21_⟩
      have n0_ : Aside0 (w90.heap[gb556]? = some (.cells #[.int .u64 a0_0, .int .u64 a0_1, .int .i64 a0_2, .int .i64 a0_3, .int .i64 a0_4] 53 (0, 0))) := ⟨h0_⟩
      have n1_ : Aside0 (w90.heap[gb557]? = some (.cells #[.int .i64 a1_0, .int .u64 a1_1, .int .u64 a1_2, .int .u64 a1_3, .int .u64 a1_4] 27 (0, 0))) := ⟨h1_⟩
      have n2_ : Aside0 (w90.heap[gb558]? = some (.cells #[.int .u64 a2_0, .int .u64 a2_1, .int .u64 a2_2] 29 (0, 0))) := ⟨h2_⟩
      have n3_ : Aside0 (w90.heap[gb559]? = some (.cells #[.int .u64 a3_0, .int .u64 a3_1, .int .u64 a3_2] 29 (0, 0))) := ⟨h3_⟩
      have n4_ : Aside0 (w90.heap[gb560]? = some (.cells #[.int .u64 0, .int .u64 0, .int .u64 0, .bool false, .int .u64 0, .bool false, .int .u64 0, .int .u64 0, .int .u64 0] 58 (0, 0))) := ⟨h4_⟩
      have n5_ : Aside0 (w90.heap[gb566]? = some (.cells #[.int .u64 t561, .int .u64 t562, .int .u64 t563] 29 (0, 0))) := ⟨h5_⟩
      have n6_ : Aside0 (w90.heap[gb570]? = some (.cells #[.int .u64 0, .int .u64 0, .int .u64 0, .bool false, .int .u64 0, .bool false, .int .u64 0, .int .u64 0, .int .u64 0] 58 (0, 0))) := ⟨h6_⟩
      have n7_ : Aside0 (w.heap.size ≤ gb570) := ⟨h7_⟩
      have n8_ : Aside0 (w.heap.size ≤ gb570) := ⟨h8_⟩
      have n9_ : Aside0 (gb556 ≠ gb570) := ⟨h9_⟩
      have n10_ : Aside0 (gb570 ≠ gb556) := ⟨h10_⟩
      have n11_ : Aside0 (gb557 ≠ gb570) := ⟨h11_⟩
      have n12_ : Aside0 (gb570 ≠ gb557) := ⟨h12_⟩
      have n13_ : Aside0 (gb558 ≠ gb570) := ⟨h13_⟩
      have n14_ : Aside0 (gb570 ≠ gb558) := ⟨h14_⟩
      have n15_ : Aside0 (gb559 ≠ gb570) := ⟨h15_⟩
      have n16_ : Aside0 (gb570 ≠ gb559) := ⟨h16_⟩
      have n17_ : Aside0 (gb560 ≠ gb570) := ⟨h17_⟩
      have n18_ : Aside0 (gb570 ≠ gb560) := ⟨h18_⟩
      have n19_ : Aside0 (gb566 ≠ gb570) := ⟨h19_⟩
      have n20_ : Aside0 (gb570 ≠ gb566) := ⟨h20_⟩
      have n21_ : Aside0 (Below w.heap.size w w90) := ⟨h21_⟩
      clear BK556
      clear BK557
      clear BK558
      clear BK559
      clear BK560
      clear BK566
      clear HB
      clear h0_ h1_ h2_ h3_ h4_ h5_ h6_ h7_ h8_ h9_ h10_ h11_ h12_ h13_ h14_ h15_ h16_ h17_ h18_ h19_ h20_ h21_
      have BK556 := n0_
      have BK557 := n1_
      have BK558 := n2_
      have BK559 := n3_
      have BK560 := n4_
      have BK566 := n5_
      have BK570 := n6_
      have GW570 := n7_
      have GE570 := n8_
      have NB556_570 := n9_
      have NB570_556 := n10_
      have NB557_570 := n11_
      have NB570_557 := n12_
      have NB558_570 := n13_
      have NB570_558 := n14_
      have NB559_570 := n15_
      have NB570_559 := n16_
      have NB560_570 := n17_
      have NB570_560 := n18_
      have NB566_570 := n19_
      have NB570_566 := n20_
      have HB := n21_
      clear n0_ n1_ n2_ n3_ n4_ n5_ n6_ n7_ n8_ n9_ n10_ n11_ n12_ n13_ n14_ n15_ n16_ n17_ n18_ n19_ n20_ n21_
      have hHeld : w90.cell? ⟨gb566, 0, none⟩ = some (.int .u64 t561) ∧ w90.cell? ⟨gb566, 1, none⟩ = some (.int .u64 t562) ∧ w90.cell? ⟨gb566, 2, none⟩ = some (.int .u64 t563) ∧ w90.cell? ⟨gb557, 0, none⟩ = some (.int .i64 a1_0) ∧ w90.cell? ⟨gb557, 1, none⟩ = some (.int .u64 a1_1) ∧ w90.cell? ⟨gb557, 2, none⟩ = some (.int .u64 a1_2) ∧ w90.cell? ⟨gb557, 3, none⟩ = some (.int .u64 a1_3) ∧ w90.cell? ⟨gb557, 4, none⟩ = some (.int .u64 a1_4) ∧ w90.cell? ⟨gb559, 0, none⟩ = some (.int .u64 a3_0) ∧ w90.cell? ⟨gb559, 1, none⟩ = some (.int .u64 a3_1) ∧ w90.cell? ⟨gb559, 2, none⟩ = some (.int .u64 a3_2) := hS_
      refine norm_ (a' := ?_) ?_ ?_
      rotate_left
      · simp only [putAll, Act.put, List.setIfInBounds_toArray, List.set_cons_zero, List.set_cons_succ]
        rfl
      refine one_ (i := 9) (N := none) #[true, true, true, true, true, true, true, true, true, true] rfl rfl (one_of HT_.out (by kernel_rfl)) (by decide) (fun K hK => ?_)
      have hs91 : w90.cell? ⟨gb570, 0, none⟩ = some (.int .u64 0) := (blk_cell BK570.out 0).trans rfl
      have hfs91 := blk_frozen BK570.out 0
      have hns91_0 := NB556_570.out
      have hns91_1 := NB557_570.out
      have hns91_2 := NB558_570.out
      have hns91_3 := NB559_570.out
      have hns91_4 := NB560_570.out
      have hns91_5 := NB566_570.out
      have hms91_0 := NB570_556.out
      have hms91_1 := NB570_557.out
      have hms91_2 := NB570_558.out
      have hms91_3 := NB570_559.out
      have hms91_4 := NB570_560.out
      have hms91_5 := NB570_566.out
      have hs92 : w90.cell? ⟨gb570, 1, none⟩ = some (.int .u64 0) := (blk_cell BK570.out 1).trans rfl
      have hfs92 := blk_frozen BK570.out 1
      have hns92_0 := NB556_570.out
      have hns92_1 := NB557_570.out
      have hns92_2 := NB558_570.out
      have hns92_3 := NB559_570.out
      have hns92_4 := NB560_570.out
      have hns92_5 := NB566_570.out
      have hms92_0 := NB570_556.out
      have hms92_1 := NB570_557.out
      have hms92_2 := NB570_558.out
      have hms92_3 := NB570_559.out
      have hms92_4 := NB570_560.out
      have hms92_5 := NB570_566.out
      have hs93 : w90.cell? ⟨gb570, 2, none⟩ = some (.int .u64 0) := (blk_cell BK570.out 2).trans rfl
      have hfs93 := blk_frozen BK570.out 2
      have hns93_0 := NB556_570.out
      have hns93_1 := NB557_570.out
      have hns93_2 := NB558_570.out
      have hns93_3 := NB559_570.out
      have hns93_4 := NB560_570.out
      have hns93_5 := NB566_570.out
      have hms93_0 := NB570_556.out
      have hms93_1 := NB570_557.out
      have hms93_2 := NB570_558.out
      have hms93_3 := NB570_559.out
      have hms93_4 := NB570_560.out
      have hms93_5 := NB570_566.out
      have hs94 : w90.cell? ⟨gb570, 3, none⟩ = some (.bool false) := (blk_cell BK570.out 3).trans rfl
      have hfs94 := blk_frozen BK570.out 3
      have hns94_0 := NB556_570.out
      have hns94_1 := NB557_570.out
      have hns94_2 := NB558_570.out
      have hns94_3 := NB559_570.out
      have hns94_4 := NB560_570.out
      have hns94_5 := NB566_570.out
      have hms94_0 := NB570_556.out
      have hms94_1 := NB570_557.out
      have hms94_2 := NB570_558.out
      have hms94_3 := NB570_559.out
      have hms94_4 := NB570_560.out
      have hms94_5 := NB570_566.out
      have hs95 : w90.cell? ⟨gb570, 4, none⟩ = some (.int .u64 0) := (blk_cell BK570.out 4).trans rfl
      have hfs95 := blk_frozen BK570.out 4
      have hns95_0 := NB556_570.out
      have hns95_1 := NB557_570.out
      have hns95_2 := NB558_570.out
      have hns95_3 := NB559_570.out
      have hns95_4 := NB560_570.out
      have hns95_5 := NB566_570.out
      have hms95_0 := NB570_556.out
      have hms95_1 := NB570_557.out
      have hms95_2 := NB570_558.out
      have hms95_3 := NB570_559.out
      have hms95_4 := NB570_560.out
      have hms95_5 := NB570_566.out
      have hs96 : w90.cell? ⟨gb570, 5, none⟩ = some (.bool false) := (blk_cell BK570.out 5).trans rfl
      have hfs96 := blk_frozen BK570.out 5
      have hns96_0 := NB556_570.out
      have hns96_1 := NB557_570.out
      have hns96_2 := NB558_570.out
      have hns96_3 := NB559_570.out
      have hns96_4 := NB560_570.out
      have hns96_5 := NB566_570.out
      have hms96_0 := NB570_556.out
      have hms96_1 := NB570_557.out
      have hms96_2 := NB570_558.out
      have hms96_3 := NB570_559.out
      have hms96_4 := NB570_560.out
      have hms96_5 := NB570_566.out
      have hs97 : w90.cell? ⟨gb570, 6, none⟩ = some (.int .u64 0) := (blk_cell BK570.out 6).trans rfl
      have hfs97 := blk_frozen BK570.out 6
      have hns97_0 := NB556_570.out
      have hns97_1 := NB557_570.out
      have hns97_2 := NB558_570.out
      have hns97_3 := NB559_570.out
      have hns97_4 := NB560_570.out
      have hns97_5 := NB566_570.out
      have hms97_0 := NB570_556.out
      have hms97_1 := NB570_557.out
      have hms97_2 := NB570_558.out
      have hms97_3 := NB570_559.out
      have hms97_4 := NB570_560.out
      have hms97_5 := NB570_566.out
      have hs98 : w90.cell? ⟨gb570, 7, none⟩ = some (.int .u64 0) := (blk_cell BK570.out 7).trans rfl
      have hfs98 := blk_frozen BK570.out 7
      have hns98_0 := NB556_570.out
      have hns98_1 := NB557_570.out
      have hns98_2 := NB558_570.out
      have hns98_3 := NB559_570.out
      have hns98_4 := NB560_570.out
      have hns98_5 := NB566_570.out
      have hms98_0 := NB570_556.out
      have hms98_1 := NB570_557.out
      have hms98_2 := NB570_558.out
      have hms98_3 := NB570_559.out
      have hms98_4 := NB570_560.out
      have hms98_5 := NB570_566.out
      have hs99 : w90.cell? ⟨gb570, 8, none⟩ = some (.int .u64 0) := (blk_cell BK570.out 8).trans rfl
      have hfs99 := blk_frozen BK570.out 8
      have hns99_0 := NB556_570.out
      have hns99_1 := NB557_570.out
      have hns99_2 := NB558_570.out
      have hns99_3 := NB559_570.out
      have hns99_4 := NB560_570.out
      have hns99_5 := NB566_570.out
      have hms99_0 := NB570_556.out
      have hms99_1 := NB570_557.out
      have hms99_2 := NB570_558.out
      have hms99_3 := NB570_559.out
      have hms99_4 := NB570_560.out
      have hms99_5 := NB570_566.out
      refine skip_ (w1 := ?_) (by rfl) rfl ?_ ?_
      rotate_left
      · go_simp
        rfl
      refine hK.out _ _ ⟨((cell_far (p := ⟨gb570, _, none⟩) NB566_570.out _).trans (((cell_far (p := ⟨gb570, _, none⟩) NB566_570.out _).trans (((cell_far (p := ⟨gb570, _, none⟩) NB566_570.out _).trans (((cell_far (p := ⟨gb570, _, none⟩) NB566_570.out _).trans (((cell_far (p := ⟨gb570, _, none⟩) NB566_570.out _).trans (((cell_far (p := ⟨gb570, _, none⟩) NB566_570.out _).trans (((cell_far (p := ⟨gb570, _, none⟩) NB566_570.out _).trans (((cell_far (p := ⟨gb570, _, none⟩) NB566_570.out _).trans (((cell_far (p := ⟨gb570, _, none⟩) NB566_570.out _).trans (hHeld.1)))))))))))))))))), ((cell_far (p := ⟨gb570, _, none⟩) NB566_570.out _).trans (((cell_far (p := ⟨gb570, _, none⟩) NB566_570.out _).trans (((cell_far (p := ⟨gb570, _, none⟩) NB566_570.out _).trans (((cell_far (p := ⟨gb570, _, none⟩) NB566_570.out _).trans (((cell_far (p := ⟨gb570, _, none⟩) NB566_570.out _).trans (((cell_far (p := ⟨gb570, _, none⟩) NB566_570.out _).trans (((cell_far (p := ⟨gb570, _, none⟩) NB566_570.out _).trans (((cell_far (p := ⟨gb570, _, none⟩) NB566_570.out _).trans (((cell_far (p := ⟨gb570, _, none⟩) NB566_570.out _).trans (hHeld.2.1)))))))))))))))))), ((cell_far (p := ⟨gb570, _, none⟩) NB566_570.out _).trans (((cell_far (p := ⟨gb570, _, none⟩) NB566_570.out _).trans (((cell_far (p := ⟨gb570, _, none⟩) NB566_570.out _).trans (((cell_far (p := ⟨gb570, _, none⟩) NB566_570.out _).trans (((cell_far (p := ⟨gb570, _, none⟩) NB566_570.out _).trans (((cell_far (p := ⟨gb570, _, none⟩) NB566_570.out _).trans (((cell_far (p := ⟨gb570, _, none⟩) NB566_570.out _).trans (((cell_far (p := ⟨gb570, _, none⟩) NB566_570.out _).trans (((cell_far (p := ⟨gb570, _, none⟩) NB566_570.out _).trans (hHeld.2.2.1)))))))))))))))))), ((cell_far (p := ⟨gb570, _, none⟩) NB557_570.out _).trans (((cell_far (p := ⟨gb570, _, none⟩) NB557_570.out _).trans (((cell_far (p := ⟨gb570, _, none⟩) NB557_570.out _).trans (((cell_far (p := ⟨gb570, _, none⟩) NB557_570.out _).trans (((cell_far (p := ⟨gb570, _, none⟩) NB557_570.out _).trans (((cell_far (p := ⟨gb570, _, none⟩) NB557_570.out _).trans (((cell_far (p := ⟨gb570, _, none⟩) NB557_570.out _).trans (((cell_far (p := ⟨gb570, _, none⟩) NB557_570.out _).trans (((cell_far (p := ⟨gb570, _, none⟩) NB557_570.out _).trans (hHeld.2.2.2.1)))))))))))))))))), ((cell_far (p := ⟨gb570, _, none⟩) NB557_570.out _).trans (((cell_far (p := ⟨gb570, _, none⟩) NB557_570.out _).trans (((cell_far (p := ⟨gb570, _, none⟩) NB557_570.out _).trans (((cell_far (p := ⟨gb570, _, none⟩) NB557_570.out _).trans (((cell_far (p := ⟨gb570, _, none⟩) NB557_570.out _).trans (((cell_far (p := ⟨gb570, _, none⟩) NB557_570.out _).trans (((cell_far (p := ⟨gb570, _, none⟩) NB557_570.out _).trans (((cell_far (p := ⟨gb570, _, none⟩) NB557_570.out _).trans (((cell_far (p := ⟨gb570, _, none⟩) NB557_570.out _).trans (hHeld.2.2.2.2.1)))))))))))))))))), ((cell_far (p := ⟨gb570, _, none⟩) NB557_570.out _).trans (((cell_far (p := ⟨gb570, _, none⟩) NB557_570.out _).trans (((cell_far (p := ⟨gb570, _, none⟩) NB557_570.out _).trans (((cell_far (p := ⟨gb570, _, none⟩) NB557_570.out _).trans (((cell_far (p := ⟨gb570, _, none⟩) NB557_570.out _).trans (((cell_far (p := ⟨gb570, _, none⟩) NB557_570.out _).trans (((cell_far (p := ⟨gb570, _, none⟩) NB557_570.out _).trans (((cell_far (p := ⟨gb570, _, none⟩) NB557_570.out _).trans (((cell_far (p := ⟨gb570, _, none⟩) NB557_570.out _).trans (hHeld.2.2.2.2.2.1)))))))))))))))))), ((cell_far (p := ⟨gb570, _, none⟩) NB557_570.out _).trans (((cell_far (p := ⟨gb570, _, none⟩) NB557_570.out _).trans (((cell_far (p := ⟨gb570, _, none⟩) NB557_570.out _).trans (((cell_far (p := ⟨gb570, _, none⟩) NB557_570.out _).trans (((cell_far (p := ⟨gb570, _, none⟩) NB557_570.out _).trans (((cell_far (p := ⟨gb570, _, none⟩) NB557_570.out _).trans (((cell_far (p := ⟨gb570, _, none⟩) NB557_570.out _).trans (((cell_far (p := ⟨gb570, _, none⟩) NB557_570.out _).trans (((cell_far (p := ⟨gb570, _, none⟩) NB557_570.out _).trans (hHeld.2.2.2.2.2.2.1)))))))))))))))))), ((cell_far (p := ⟨gb570, _, none⟩) NB557_570.out _).trans (((cell_far (p := ⟨gb570, _, none⟩) NB557_570.out _).trans (((cell_far (p := ⟨gb570, _, none⟩) NB557_570.out _).trans (((cell_far (p := ⟨gb570, _, none⟩) NB557_570.out _).trans (((cell_far (p := ⟨gb570, _, none⟩) NB557_570.out _).trans (((cell_far (p := ⟨gb570, _, none⟩) NB557_570.out _).trans (((cell_far (p := ⟨gb570, _, none⟩) NB557_570.out _).trans (((cell_far (p := ⟨gb570, _, none⟩) NB557_570.out _).trans (((cell_far (p := ⟨gb570, _, none⟩) NB557_570.out _).trans (hHeld.2.2.2.2.2.2.2.1)))))))))))))))))), ((cell_far (p := ⟨gb570, _, none⟩) NB559_570.out _).trans (((cell_far (p := ⟨gb570, _, none⟩) NB559_570.out _).trans (((cell_far (p := ⟨gb570, _, none⟩) NB559_570.out _).trans (((cell_far (p := ⟨gb570, _, none⟩) NB559_570.out _).trans (((cell_far (p := ⟨gb570, _, none⟩) NB559_570.out _).trans (((cell_far (p := ⟨gb570, _, none⟩) NB559_570.out _).trans (((cell_far (p := ⟨gb570, _, none⟩) NB559_570.out _).trans (((cell_far (p := ⟨gb570, _, none⟩) NB559_570.out _).trans (((cell_far (p := ⟨gb570, _, none⟩) NB559_570.out _).trans (hHeld.2.2.2.2.2.2.2.2.1)))))))))))))))))), ((cell_far (p := ⟨gb570, _, none⟩) NB559_570.out _).trans (((cell_far (p := ⟨gb570, _, none⟩) NB559_570.out _).trans (((cell_far (p := ⟨gb570, _, none⟩) NB559_570.out _).trans (((cell_far (p := ⟨gb570, _, none⟩) NB559_570.out _).trans (((cell_far (p := ⟨gb570, _, none⟩) NB559_570.out _).trans (((cell_far (p := ⟨gb570, _, none⟩) NB559_570.out _).trans (((cell_far (p := ⟨gb570, _, none⟩) NB559_570.out _).trans (((cell_far (p := ⟨gb570, _, none⟩) NB559_570.out _).trans (((cell_far (p := ⟨gb570, _, none⟩) NB559_570.out _).trans (hHeld.2.2.2.2.2.2.2.2.2.1)))))))))))))))))), ((cell_far (p := ⟨gb570, _, none⟩) NB559_570.out _).trans (((cell_far (p := ⟨gb570, _, none⟩) NB559_570.out _).trans (((cell_far (p := ⟨gb570, _, none⟩) NB559_570.out _).trans (((cell_far (p := ⟨gb570, _, none⟩) NB559_570.out _).trans (((cell_far (p := ⟨gb570, _, none⟩) NB559_570.out _).trans (((cell_far (p := ⟨gb570, _, none⟩) NB559_570.out _).trans (((cell_far (p := ⟨gb570, _, none⟩) NB559_570.out _).trans (((cell_far (p := ⟨gb570, _, none⟩) NB559_570.out _).trans (((cell_far (p := ⟨gb570, _, none⟩) NB559_570.out _).trans (hHeld.2.2.2.2.2.2.2.2.2.2))))))))))))))))))⟩ (fun hHeld => ?_)
      clear hK K
      refine done_ (done_of HT_.out (by kernel_rfl)) ?_
      have hnb100 := NB557_570.out
      have hnc100 := NB570_557.out
      obtain ⟨hcz101_0, hcz101_1, hcz101_2, hcz101_3, hcz101_4, hfz101_0, hfz101_1, hfz101_2, hfz101_3, hfz101_4⟩ := bc5 BK557
      have hnb102 := NB559_556.out
      have hnc102 := NB556_559.out
      have hnb103 := NB559_560.out
      have hnc103 := NB560_559.out
      have hnb104 := NB559_570.out
      have hnc104 := NB570_559.out
      obtain ⟨hcz105_0, hcz105_1, hcz105_2, hfz105_0, hfz105_1, hfz105_2⟩ := bc3 BK559
      have hnb106 := NB566_570.out
      have hnc106 := NB570_566.out
      obtain ⟨hcz107_0, hcz107_1, hcz107_2, hfz107_0, hfz107_1, hfz107_2⟩ := bc3 BK566
      try go_wp2_with (first | (go_at_call 27; (with_reducible refine (policy_Covers.calls a1_0 a1_1 a1_2 a1_3 a1_4 a3_0 a3_1 a3_2 t561 t562 t563 false _ A10.out).mono ?_); rintro e w108 ⟨rfl, hb⟩; have n0_ := bb BK556 hb; have n1_ := bb BK557 hb; have n2_ := bb BK558 hb; have n3_ := bb BK559 hb; have n4_ := bb BK560 hb; have n5_ := bb BK566 hb; have n6_ := Aside0.mk (blk_below (g := gb570) (o := .cells #[.int .u64 t561, .int .u64 t562, .int .u64 t563, .bool true, .int .u64 t565, .bool false, .int .u64 t567, .int .u64 t568, .int .u64 t569] 58 (0, 0)) (put9_ BK570.out) hb); have n7_ := bs HB hb; clear BK556; clear BK557; clear BK558; clear BK559; clear BK560; clear BK566; clear BK570; clear HB; have BK556 := n0_; have BK557 := n1_; have BK558 := n2_; have BK559 := n3_; have BK560 := n4_; have BK566 := n5_; have BK570 := n6_; have HB := n7_; clear n0_ n1_ n2_ n3_ n4_ n5_ n6_ n7_; (try clear hb); (try clear hb2); (try clear hk); (try clear hi); have hnb109 := NB570_556.out; have hnc109 := NB556_570.out; have hnb110 := NB570_558.out; have hnc110 := NB558_570.out; have hnb111 := NB570_560.out; have hnc111 := NB560_570.out; have hcz112_0 : w108.cell? ⟨gb570, 0, none⟩ = some (.int .u64 t561) := (blk_cell BK570.out 0).trans rfl; have hcz112_1 : w108.cell? ⟨gb570, 1, none⟩ = some (.int .u64 t562) := (blk_cell BK570.out 1).trans rfl; have hcz112_2 : w108.cell? ⟨gb570, 2, none⟩ = some (.int .u64 t563) := (blk_cell BK570.out 2).trans rfl; have hcz112_3 : w108.cell? ⟨gb570, 3, none⟩ = some (.bool true) := (blk_cell BK570.out 3).trans rfl; have hcz112_4 : w108.cell? ⟨gb570, 4, none⟩ = some (.int .u64 t565) := (blk_cell BK570.out 4).trans rfl; have hcz112_5 : w108.cell? ⟨gb570, 5, none⟩ = some (.bool false) := (blk_cell BK570.out 5).trans rfl; have hcz112_6 : w108.cell? ⟨gb570, 6, none⟩ = some (.int .u64 t567) := (blk_cell BK570.out 6).trans rfl; have hcz112_7 : w108.cell? ⟨gb570, 7, none⟩ = some (.int .u64 t568) := (blk_cell BK570.out 7).trans rfl; have hcz112_8 : w108.cell? ⟨gb570, 8, none⟩ = some (.int .u64 t569) := (blk_cell BK570.out 8).trans rfl; have hfz112_0 := blk_frozen BK570.out 0; have hfz112_1 := blk_frozen BK570.out 1; have hfz112_2 := blk_frozen BK570.out 2; have hfz112_3 := blk_frozen BK570.out 3; have hfz112_4 := blk_frozen BK570.out 4; have hfz112_5 := blk_frozen BK570.out 5; have hfz112_6 := blk_frozen BK570.out 6; have hfz112_7 := blk_frozen BK570.out 7; have hfz112_8 := blk_frozen BK570.out 8; have hnb113 := NB556_560.out; have hnc113 := NB560_556.out; obtain ⟨hcz114_0, hcz114_1, hcz114_2, hcz114_3, hcz114_4, hfz114_0, hfz114_1, hfz114_2, hfz114_3, hfz114_4⟩ := bc5 BK556; obtain ⟨hcz115_0, hcz115_1, hcz115_2, hcz115_3, hcz115_4, hfz115_0, hfz115_1, hfz115_2, hfz115_3, hfz115_4⟩ := bc5 BK557; obtain ⟨hcz116_0, hcz116_1, hcz116_2, hfz116_0, hfz116_1, hfz116_2⟩ := bc3 BK566) | ((with_reducible refine gate_callee (f := 32) rfl ?_); refine gm (some 46) Try.func32 #[.agg #[.int .u64 a0_0, .int .u64 a0_1, .int .i64 a0_2, .int .i64 a0_3, .int .i64 a0_4], .agg #[.int .i64 a1_0, .int .u64 a1_1, .int .u64 a1_2, .int .u64 a1_3, .int .u64 a1_4], .agg #[.int .u64 t561, .int .u64 t562, .int .u64 t563]] (reserve_Ceiling.calls a0_0 a0_1 a0_2 a0_3 a0_4 a1_0 a1_1 a1_2 a1_3 a1_4 t561 t562 t563 t572 t573 t574 _ A63.out) ?_; intro w117 hb; have n0_ := bb BK556 hb; have n1_ := bb BK557 hb; have n2_ := bb BK558 hb; have n3_ := bb BK559 hb; have n4_ := bb BK560 hb; have n5_ := bb BK566 hb; have n6_ := bbp (.cells #[.int .u64 t561, .int .u64 t562, .int .u64 t563, .bool true, .int .u64 t565, .bool true, .int .u64 t567, .int .u64 t568, .int .u64 t569] 58 (0, 0)) BK570 hb; have n7_ := bs HB hb; clear BK556; clear BK557; clear BK558; clear BK559; clear BK560; clear BK566; clear BK570; clear HB; have BK556 := n0_; have BK557 := n1_; have BK558 := n2_; have BK559 := n3_; have BK560 := n4_; have BK566 := n5_; have BK570 := n6_; have HB := n7_; clear n0_ n1_ n2_ n3_ n4_ n5_ n6_ n7_; (try clear hb); (try clear hb2); (try clear hk); (try clear hi); have hcz118_0 : w117.cell? ⟨gb570, 0, none⟩ = some (.int .u64 t561) := (blk_cell BK570.out 0).trans rfl; have hcz118_1 : w117.cell? ⟨gb570, 1, none⟩ = some (.int .u64 t562) := (blk_cell BK570.out 1).trans rfl; have hcz118_2 : w117.cell? ⟨gb570, 2, none⟩ = some (.int .u64 t563) := (blk_cell BK570.out 2).trans rfl; have hcz118_3 : w117.cell? ⟨gb570, 3, none⟩ = some (.bool true) := (blk_cell BK570.out 3).trans rfl; have hcz118_4 : w117.cell? ⟨gb570, 4, none⟩ = some (.int .u64 t565) := (blk_cell BK570.out 4).trans rfl; have hcz118_5 : w117.cell? ⟨gb570, 5, none⟩ = some (.bool true) := (blk_cell BK570.out 5).trans rfl; have hcz118_6 : w117.cell? ⟨gb570, 6, none⟩ = some (.int .u64 t567) := (blk_cell BK570.out 6).trans rfl; have hcz118_7 : w117.cell? ⟨gb570, 7, none⟩ = some (.int .u64 t568) := (blk_cell BK570.out 7).trans rfl; have hcz118_8 : w117.cell? ⟨gb570, 8, none⟩ = some (.int .u64 t569) := (blk_cell BK570.out 8).trans rfl; have hfz118_0 := blk_frozen BK570.out 0; have hfz118_1 := blk_frozen BK570.out 1; have hfz118_2 := blk_frozen BK570.out 2; have hfz118_3 := blk_frozen BK570.out 3; have hfz118_4 := blk_frozen BK570.out 4; have hfz118_5 := blk_frozen BK570.out 5; have hfz118_6 := blk_frozen BK570.out 6; have hfz118_7 := blk_frozen BK570.out 7; have hfz118_8 := blk_frozen BK570.out 8; have hcz119_0 : w117.cell? ⟨gb560, 0, none⟩ = some (.int .u64 0) := (blk_cell BK560.out 0).trans rfl; have hcz119_1 : w117.cell? ⟨gb560, 1, none⟩ = some (.int .u64 0) := (blk_cell BK560.out 1).trans rfl; have hcz119_2 : w117.cell? ⟨gb560, 2, none⟩ = some (.int .u64 0) := (blk_cell BK560.out 2).trans rfl; have hcz119_3 : w117.cell? ⟨gb560, 3, none⟩ = some (.bool false) := (blk_cell BK560.out 3).trans rfl; have hcz119_4 : w117.cell? ⟨gb560, 4, none⟩ = some (.int .u64 0) := (blk_cell BK560.out 4).trans rfl; have hcz119_5 : w117.cell? ⟨gb560, 5, none⟩ = some (.bool false) := (blk_cell BK560.out 5).trans rfl; have hcz119_6 : w117.cell? ⟨gb560, 6, none⟩ = some (.int .u64 0) := (blk_cell BK560.out 6).trans rfl; have hcz119_7 : w117.cell? ⟨gb560, 7, none⟩ = some (.int .u64 0) := (blk_cell BK560.out 7).trans rfl; have hcz119_8 : w117.cell? ⟨gb560, 8, none⟩ = some (.int .u64 0) := (blk_cell BK560.out 8).trans rfl; have hfz119_0 := blk_frozen BK560.out 0; have hfz119_1 := blk_frozen BK560.out 1; have hfz119_2 := blk_frozen BK560.out 2; have hfz119_3 := blk_frozen BK560.out 3; have hfz119_4 := blk_frozen BK560.out 4; have hfz119_5 := blk_frozen BK560.out 5; have hfz119_6 := blk_frozen BK560.out 6; have hfz119_7 := blk_frozen BK560.out 7; have hfz119_8 := blk_frozen BK560.out 8))
      with_reducible refine bodyPost_ret (results_cell_row rfl _ _ gb560 58 #[.int .u64 t561, .int .u64 t562, .int .u64 t563, .bool true, .int .u64 t565, .bool true, .int .u64 t572, .int .u64 t573, .int .u64 t574] (0, 0) _ rfl (put9_ (blk_far (blk_far (blk_far BK560.out NB560_570.out _) NB560_570.out _) NB560_570.out _)) Try.underlying58 rfl (by kernel_rfl)) rfl ?_
      exact ⟨re, bw HB⟩
  · replace c9 := Bool.eq_false_iff.mpr c9
    subst c9
    have H1 : (some (t561, t562, t563, false, t565, false, t567, t568, t569)) = some (r1, r2, r3, r4, r5, r6, r7, r8, r9) := by rw [if_neg (show ¬ (false = true) by decide)] at H; exact H
    clear H
    have H := H1
    clear H1
    simp only [Option.some.injEq, Prod.mk.injEq] at H
    obtain ⟨rfl, rfl, rfl, rfl, rfl, rfl, rfl, rfl, rfl⟩ := H
    go_enter Try.func30, Try.ntmps30
    try go_wp2_with (first | ((with_reducible refine gate_dst (N := 6) rfl ?_); refine bx 6 #[.int .u64 a0_0, .int .u64 a0_1, .int .i64 a0_2, .int .i64 a0_3, .int .i64 a0_4] 53 ?_; intro gb556 hg w120 hbox hb; have n0_ := bs HB hb; have n1_ := Aside0.mk (hbox); have n2_ := sz HB hg; have n3_ := sz HB hg; clear HB; have HB := n0_; have BK556 := n1_; have GW556 := n2_; have GE556 := n3_; clear n0_ n1_ n2_ n3_; clear hb hbox hg) | ((with_reducible refine gate_dst (N := 7) rfl ?_); refine bx 7 #[.int .i64 a1_0, .int .u64 a1_1, .int .u64 a1_2, .int .u64 a1_3, .int .u64 a1_4] 27 ?_; intro gb557 hg w121 hbox hb; have n0_ := bb BK556 hb; have n1_ := bs HB hb; have n2_ := Aside0.mk (hbox); have n3_ := sz HB hg; have n4_ := sz HB hg; have n5_ := nl BK556 hg; have n6_ := nr BK556 hg; clear BK556; clear HB; have BK556 := n0_; have HB := n1_; have BK557 := n2_; have GW557 := n3_; have GE557 := n4_; have NB556_557 := n5_; have NB557_556 := n6_; clear n0_ n1_ n2_ n3_ n4_ n5_ n6_; clear hb hbox hg) | ((with_reducible refine gate_dst (N := 8) rfl ?_); refine bx 8 #[.int .u64 a2_0, .int .u64 a2_1, .int .u64 a2_2] 29 ?_; intro gb558 hg w122 hbox hb; have n0_ := bb BK556 hb; have n1_ := bb BK557 hb; have n2_ := bs HB hb; have n3_ := Aside0.mk (hbox); have n4_ := sz HB hg; have n5_ := sz HB hg; have n6_ := nl BK556 hg; have n7_ := nr BK556 hg; have n8_ := nl BK557 hg; have n9_ := nr BK557 hg; clear BK556; clear BK557; clear HB; have BK556 := n0_; have BK557 := n1_; have HB := n2_; have BK558 := n3_; have GW558 := n4_; have GE558 := n5_; have NB556_558 := n6_; have NB558_556 := n7_; have NB557_558 := n8_; have NB558_557 := n9_; clear n0_ n1_ n2_ n3_ n4_ n5_ n6_ n7_ n8_ n9_; clear hb hbox hg) | ((with_reducible refine gate_dst (N := 9) rfl ?_); refine bx 9 #[.int .u64 a3_0, .int .u64 a3_1, .int .u64 a3_2] 29 ?_; intro gb559 hg w123 hbox hb; have n0_ := bb BK556 hb; have n1_ := bb BK557 hb; have n2_ := bb BK558 hb; have n3_ := bs HB hb; have n4_ := Aside0.mk (hbox); have n5_ := sz HB hg; have n6_ := sz HB hg; have n7_ := nl BK556 hg; have n8_ := nr BK556 hg; have n9_ := nl BK557 hg; have n10_ := nr BK557 hg; have n11_ := nl BK558 hg; have n12_ := nr BK558 hg; clear BK556; clear BK557; clear BK558; clear HB; have BK556 := n0_; have BK557 := n1_; have BK558 := n2_; have HB := n3_; have BK559 := n4_; have GW559 := n5_; have GE559 := n6_; have NB556_559 := n7_; have NB559_556 := n8_; have NB557_559 := n9_; have NB559_557 := n10_; have NB558_559 := n11_; have NB559_558 := n12_; clear n0_ n1_ n2_ n3_ n4_ n5_ n6_ n7_ n8_ n9_ n10_ n11_ n12_; clear hb hbox hg) | ((with_reducible refine gate_dst (N := 12) rfl ?_); refine bx 12 #[.int .u64 0, .int .u64 0, .int .u64 0, .bool false, .int .u64 0, .bool false, .int .u64 0, .int .u64 0, .int .u64 0] 58 ?_; intro gb560 hg w124 hbox hb; have n0_ := bb BK556 hb; have n1_ := bb BK557 hb; have n2_ := bb BK558 hb; have n3_ := bb BK559 hb; have n4_ := bs HB hb; have n5_ := Aside0.mk (hbox); have n6_ := sz HB hg; have n7_ := sz HB hg; have n8_ := nl BK556 hg; have n9_ := nr BK556 hg; have n10_ := nl BK557 hg; have n11_ := nr BK557 hg; have n12_ := nl BK558 hg; have n13_ := nr BK558 hg; have n14_ := nl BK559 hg; have n15_ := nr BK559 hg; clear BK556; clear BK557; clear BK558; clear BK559; clear HB; have BK556 := n0_; have BK557 := n1_; have BK558 := n2_; have BK559 := n3_; have HB := n4_; have BK560 := n5_; have GW560 := n6_; have GE560 := n7_; have NB556_560 := n8_; have NB560_556 := n9_; have NB557_560 := n10_; have NB560_557 := n11_; have NB558_560 := n12_; have NB560_558 := n13_; have NB559_560 := n14_; have NB560_559 := n15_; clear n0_ n1_ n2_ n3_ n4_ n5_ n6_ n7_ n8_ n9_ n10_ n11_ n12_ n13_ n14_ n15_; clear hb hbox hg; have hnb125 := NB557_556.out; have hnc125 := NB556_557.out; have hnb126 := NB557_558.out; have hnc126 := NB558_557.out; have hnb127 := NB557_559.out; have hnc127 := NB559_557.out; have hnb128 := NB557_560.out; have hnc128 := NB560_557.out; obtain ⟨hcz129_0, hcz129_1, hcz129_2, hcz129_3, hcz129_4, hfz129_0, hfz129_1, hfz129_2, hfz129_3, hfz129_4⟩ := bc5 BK557; have hnb130 := NB558_556.out; have hnc130 := NB556_558.out; have hnb131 := NB558_559.out; have hnc131 := NB559_558.out; have hnb132 := NB558_560.out; have hnc132 := NB560_558.out; obtain ⟨hcz133_0, hcz133_1, hcz133_2, hfz133_0, hfz133_1, hfz133_2⟩ := bc3 BK558) | ((with_reducible refine gate_callee (f := 16) rfl ?_); refine gm (some 22) Try.func16 #[.agg #[.int .i64 a1_0, .int .u64 a1_1, .int .u64 a1_2, .int .u64 a1_3, .int .u64 a1_4], .agg #[.int .u64 a2_0, .int .u64 a2_1, .int .u64 a2_2], .int .u64 a4, .int .u64 a5] (policy_Admit.calls k a1_0 a1_1 a1_2 a1_3 a1_4 a2_0 a2_1 a2_2 a4 a5 t561 t562 t563 false t565 _ A7.out) ?_; intro w134 hb; have n0_ := bb BK556 hb; have n1_ := bb BK557 hb; have n2_ := bb BK558 hb; have n3_ := bb BK559 hb; have n4_ := bb BK560 hb; have n5_ := bs HB hb; clear BK556; clear BK557; clear BK558; clear BK559; clear BK560; clear HB; have BK556 := n0_; have BK557 := n1_; have BK558 := n2_; have BK559 := n3_; have BK560 := n4_; have HB := n5_; clear n0_ n1_ n2_ n3_ n4_ n5_; (try clear hb); (try clear hb2); (try clear hk); (try clear hi)) | ((with_reducible refine gate_dst (N := 13) rfl ?_); refine bx 13 #[.int .u64 0, .int .u64 0, .int .u64 0] 29 ?_; intro gb566 hg w135 hbox hb; have n0_ := bb BK556 hb; have n1_ := bb BK557 hb; have n2_ := bb BK558 hb; have n3_ := bb BK559 hb; have n4_ := bb BK560 hb; have n5_ := bs HB hb; have n6_ := Aside0.mk (hbox); have n7_ := sz HB hg; have n8_ := sz HB hg; have n9_ := nl BK556 hg; have n10_ := nr BK556 hg; have n11_ := nl BK557 hg; have n12_ := nr BK557 hg; have n13_ := nl BK558 hg; have n14_ := nr BK558 hg; have n15_ := nl BK559 hg; have n16_ := nr BK559 hg; have n17_ := nl BK560 hg; have n18_ := nr BK560 hg; clear BK556; clear BK557; clear BK558; clear BK559; clear BK560; clear HB; have BK556 := n0_; have BK557 := n1_; have BK558 := n2_; have BK559 := n3_; have BK560 := n4_; have HB := n5_; have BK566 := n6_; have GW566 := n7_; have GE566 := n8_; have NB556_566 := n9_; have NB566_556 := n10_; have NB557_566 := n11_; have NB566_557 := n12_; have NB558_566 := n13_; have NB566_558 := n14_; have NB559_566 := n15_; have NB566_559 := n16_; have NB560_566 := n17_; have NB566_560 := n18_; clear n0_ n1_ n2_ n3_ n4_ n5_ n6_ n7_ n8_ n9_ n10_ n11_ n12_ n13_ n14_ n15_ n16_ n17_ n18_; clear hb hbox hg; have hnb136 := NB566_556.out; have hnc136 := NB556_566.out; have hnb137 := NB566_557.out; have hnc137 := NB557_566.out; have hnb138 := NB566_558.out; have hnc138 := NB558_566.out; have hnb139 := NB566_559.out; have hnc139 := NB559_566.out; have hnb140 := NB566_560.out; have hnc140 := NB560_566.out; obtain ⟨hcz141_0, hcz141_1, hcz141_2, hfz141_0, hfz141_1, hfz141_2⟩ := bc3 BK566))
    have n0_ : Aside0 ((((w135.setCell ⟨gb566, 0, none⟩ (.int .u64 t561)).setCell ⟨gb566, 1, none⟩ (.int .u64 t562)).setCell ⟨gb566, 2, none⟩ (.int .u64 t563)).heap[gb556]? = some (.cells #[.int .u64 a0_0, .int .u64 a0_1, .int .i64 a0_2, .int .i64 a0_3, .int .i64 a0_4] 53 (0, 0))) := ⟨bk BK556⟩
    have n1_ : Aside0 ((((w135.setCell ⟨gb566, 0, none⟩ (.int .u64 t561)).setCell ⟨gb566, 1, none⟩ (.int .u64 t562)).setCell ⟨gb566, 2, none⟩ (.int .u64 t563)).heap[gb557]? = some (.cells #[.int .i64 a1_0, .int .u64 a1_1, .int .u64 a1_2, .int .u64 a1_3, .int .u64 a1_4] 27 (0, 0))) := ⟨bk BK557⟩
    have n2_ : Aside0 ((((w135.setCell ⟨gb566, 0, none⟩ (.int .u64 t561)).setCell ⟨gb566, 1, none⟩ (.int .u64 t562)).setCell ⟨gb566, 2, none⟩ (.int .u64 t563)).heap[gb558]? = some (.cells #[.int .u64 a2_0, .int .u64 a2_1, .int .u64 a2_2] 29 (0, 0))) := ⟨bk BK558⟩
    have n3_ : Aside0 ((((w135.setCell ⟨gb566, 0, none⟩ (.int .u64 t561)).setCell ⟨gb566, 1, none⟩ (.int .u64 t562)).setCell ⟨gb566, 2, none⟩ (.int .u64 t563)).heap[gb559]? = some (.cells #[.int .u64 a3_0, .int .u64 a3_1, .int .u64 a3_2] 29 (0, 0))) := ⟨bk BK559⟩
    have n4_ : Aside0 ((((w135.setCell ⟨gb566, 0, none⟩ (.int .u64 t561)).setCell ⟨gb566, 1, none⟩ (.int .u64 t562)).setCell ⟨gb566, 2, none⟩ (.int .u64 t563)).heap[gb560]? = some (.cells #[.int .u64 0, .int .u64 0, .int .u64 0, .bool false, .int .u64 0, .bool false, .int .u64 0, .int .u64 0, .int .u64 0] 58 (0, 0))) := ⟨bk BK560⟩
    have n5_ : Aside0 ((((w135.setCell ⟨gb566, 0, none⟩ (.int .u64 t561)).setCell ⟨gb566, 1, none⟩ (.int .u64 t562)).setCell ⟨gb566, 2, none⟩ (.int .u64 t563)).heap[gb566]? = some (.cells #[.int .u64 t561, .int .u64 t562, .int .u64 t563] 29 (0, 0))) := ⟨bk BK566⟩
    have n6_ : Aside0 (Below w.heap.size w (((w135.setCell ⟨gb566, 0, none⟩ (.int .u64 t561)).setCell ⟨gb566, 1, none⟩ (.int .u64 t562)).setCell ⟨gb566, 2, none⟩ (.int .u64 t563))) := ⟨bw HB⟩
    (try clear BK556)
    (try clear BK557)
    (try clear BK558)
    (try clear BK559)
    (try clear BK560)
    (try clear BK566)
    (try clear HB)
    generalize (((w135.setCell ⟨gb566, 0, none⟩ (.int .u64 t561)).setCell ⟨gb566, 1, none⟩ (.int .u64 t562)).setCell ⟨gb566, 2, none⟩ (.int .u64 t563)) = w142 at n0_ n1_ n2_ n3_ n4_ n5_ n6_ ⊢
    have BK556 := n0_
    have BK557 := n1_
    have BK558 := n2_
    have BK559 := n3_
    have BK560 := n4_
    have BK566 := n5_
    have HB := n6_
    clear n0_ n1_ n2_ n3_ n4_ n5_ n6_
    have n0_ := Aside0.mk (blk_drew BK556.out)
    have n1_ := Aside0.mk (blk_drew BK557.out)
    have n2_ := Aside0.mk (blk_drew BK558.out)
    have n3_ := Aside0.mk (blk_drew BK559.out)
    have n4_ := Aside0.mk (blk_drew BK560.out)
    have n5_ := Aside0.mk (blk_drew BK566.out)
    have n6_ := Aside0.mk (below_drew1 HB.out)
    clear BK556
    clear BK557
    clear BK558
    clear BK559
    clear BK560
    clear BK566
    clear HB
    have BK556 := n0_
    have BK557 := n1_
    have BK558 := n2_
    have BK559 := n3_
    have BK560 := n4_
    have BK566 := n5_
    have HB := n6_
    clear n0_ n1_ n2_ n3_ n4_ n5_ n6_
    refine start_ (n := 10) (S := fun w' => w'.cell? ⟨gb566, 0, none⟩ = some (.int .u64 t561) ∧ w'.cell? ⟨gb566, 1, none⟩ = some (.int .u64 t562) ∧ w'.cell? ⟨gb566, 2, none⟩ = some (.int .u64 t563) ∧ w'.cell? ⟨gb557, 0, none⟩ = some (.int .i64 a1_0) ∧ w'.cell? ⟨gb557, 1, none⟩ = some (.int .u64 a1_1) ∧ w'.cell? ⟨gb557, 2, none⟩ = some (.int .u64 a1_2) ∧ w'.cell? ⟨gb557, 3, none⟩ = some (.int .u64 a1_3) ∧ w'.cell? ⟨gb557, 4, none⟩ = some (.int .u64 a1_4) ∧ w'.cell? ⟨gb559, 0, none⟩ = some (.int .u64 a3_0) ∧ w'.cell? ⟨gb559, 1, none⟩ = some (.int .u64 a3_1) ∧ w'.cell? ⟨gb559, 2, none⟩ = some (.int .u64 a3_2)) (ds := []) #[false, false, false, false, false, false, false, false, false, false] (by kernel_rfl) rfl rfl ⟨(blk_cell BK566.out 0).trans rfl, (blk_cell BK566.out 1).trans rfl, (blk_cell BK566.out 2).trans rfl, (blk_cell BK557.out 0).trans rfl, (blk_cell BK557.out 1).trans rfl, (blk_cell BK557.out 2).trans rfl, (blk_cell BK557.out 3).trans rfl, (blk_cell BK557.out 4).trans rfl, (blk_cell BK559.out 0).trans rfl, (blk_cell BK559.out 1).trans rfl, (blk_cell BK559.out 2).trans rfl⟩ (fun hHeld => ?_); refine with_tabW reserve_Choose.tab2 reserve_Choose.bits2 (fun HT_ HW_ => ?_)
    generalize w142.drew = w143 at BK556 BK557 BK558 BK559 BK560 BK566 HB hHeld ⊢
    refine chain_ (fuel := 4) [(1, 0, some 27), (2, 0, some 28), (0, 1, some 26), (3, 1, some 29), (4, 1, some 30), (5, 1, some 31)] #[true, true, true, true, true, true, false, false, false, false] HT_.out HW_.out (by kernel_rfl) (fun _ _ _ _ _ h => h) (Or.inr hHeld) rfl ?_
    (iterate 2 refine lkP ?_); (iterate 4 refine lkT ?_); refine .nil ?_
    refine join_ (σ := Nat) 1 #[true, true, true, true, true, true, true, true, true, false] (fun s_ => [(32, .agg #[.int .u64 t567, .int .u64 t568, .int .u64 t569]), (16, .pointer (some ⟨s_, 0, none⟩)), (33, .agg #[.int .u64 t561, .int .u64 t562, .int .u64 t563, .bool false, .int .u64 t565, .bool false, .int .u64 t567, .int .u64 t568, .int .u64 t569])]) (fun s_ w' => (w'.cell? ⟨gb566, 0, none⟩ = some (.int .u64 t561) ∧ w'.cell? ⟨gb566, 1, none⟩ = some (.int .u64 t562) ∧ w'.cell? ⟨gb566, 2, none⟩ = some (.int .u64 t563) ∧ w'.cell? ⟨gb557, 0, none⟩ = some (.int .i64 a1_0) ∧ w'.cell? ⟨gb557, 1, none⟩ = some (.int .u64 a1_1) ∧ w'.cell? ⟨gb557, 2, none⟩ = some (.int .u64 a1_2) ∧ w'.cell? ⟨gb557, 3, none⟩ = some (.int .u64 a1_3) ∧ w'.cell? ⟨gb557, 4, none⟩ = some (.int .u64 a1_4) ∧ w'.cell? ⟨gb559, 0, none⟩ = some (.int .u64 a3_0) ∧ w'.cell? ⟨gb559, 1, none⟩ = some (.int .u64 a3_1) ∧ w'.cell? ⟨gb559, 2, none⟩ = some (.int .u64 a3_2)) ∧ (w'.heap[gb556]? = some (.cells #[.int .u64 a0_0, .int .u64 a0_1, .int .i64 a0_2, .int .i64 a0_3, .int .i64 a0_4] 53 (0, 0))) ∧ (w'.heap[gb557]? = some (.cells #[.int .i64 a1_0, .int .u64 a1_1, .int .u64 a1_2, .int .u64 a1_3, .int .u64 a1_4] 27 (0, 0))) ∧ (w'.heap[gb558]? = some (.cells #[.int .u64 a2_0, .int .u64 a2_1, .int .u64 a2_2] 29 (0, 0))) ∧ (w'.heap[gb559]? = some (.cells #[.int .u64 a3_0, .int .u64 a3_1, .int .u64 a3_2] 29 (0, 0))) ∧ (w'.heap[gb560]? = some (.cells #[.int .u64 0, .int .u64 0, .int .u64 0, .bool false, .int .u64 0, .bool false, .int .u64 0, .int .u64 0, .int .u64 0] 58 (0, 0))) ∧ (w'.heap[gb566]? = some (.cells #[.int .u64 t561, .int .u64 t562, .int .u64 t563] 29 (0, 0))) ∧ (w'.heap[s_]? = some (.cells #[.int .u64 0, .int .u64 0, .int .u64 0, .bool false, .int .u64 0, .bool false, .int .u64 0, .int .u64 0, .int .u64 0] 58 (0, 0))) ∧ (w.heap.size ≤ s_) ∧ (w.heap.size ≤ s_) ∧ (gb556 ≠ s_) ∧ (s_ ≠ gb556) ∧ (gb557 ≠ s_) ∧ (s_ ≠ gb557) ∧ (gb558 ≠ s_) ∧ (s_ ≠ gb558) ∧ (gb559 ≠ s_) ∧ (s_ ≠ gb559) ∧ (gb560 ≠ s_) ∧ (s_ ≠ gb560) ∧ (gb566 ≠ s_) ∧ (s_ ≠ gb566) ∧ (Below w.heap.size w w')) ?_ ?_
    rotate_left
    · intro hCont
      refine two_ (i := 6) (j := 8) (Ni := some 32) (Nj := some 16) #[true, true, true, true, true, true, true, false, false, false] #[true, true, true, true, true, true, false, false, true, false] rfl rfl rfl rfl (two_of HT_.out (by kernel_rfl)) (by decide) (by decide) (fun K hK => ?_) (fun K hK => ?_)
      · skip
        refine ge Try.func26 #[.agg #[.int .i64 a1_0, .int .u64 a1_1, .int .u64 a1_2, .int .u64 a1_3, .int .u64 a1_4], .agg #[.int .u64 a3_0, .int .u64 a3_1, .int .u64 a3_2], .agg #[.int .u64 a3_0, .int .u64 a3_1, .int .u64 a3_2]] ?_
        with_reducible refine (policy_Max.calls a1_0 a1_1 a1_2 a1_3 a1_4 a3_0 a3_1 a3_2 a3_0 a3_1 a3_2 t567 t568 t569 _ A8.out).mono ?_
        rintro e w144 ⟨rfl, hb⟩
        refine ⟨_, rfl, ?_⟩
        have n0_ := bb BK556 hb
        have n1_ := bb BK557 hb
        have n2_ := bb BK558 hb
        have n3_ := bb BK559 hb
        have n4_ := bb BK560 hb
        have n5_ := bb BK566 hb
        have n6_ := bs HB hb
        clear BK556
        clear BK557
        clear BK558
        clear BK559
        clear BK560
        clear BK566
        clear HB
        have BK556 := n0_
        have BK557 := n1_
        have BK558 := n2_
        have BK559 := n3_
        have BK560 := n4_
        have BK566 := n5_
        have HB := n6_
        clear n0_ n1_ n2_ n3_ n4_ n5_ n6_
        (try clear hb)
        (try clear hb2)
        (try clear hk)
        (try clear hi)
        refine hK.out _ _ ⟨(blk_cell BK566.out 0).trans rfl, (blk_cell BK566.out 1).trans rfl, (blk_cell BK566.out 2).trans rfl, (blk_cell BK557.out 0).trans rfl, (blk_cell BK557.out 1).trans rfl, (blk_cell BK557.out 2).trans rfl, (blk_cell BK557.out 3).trans rfl, (blk_cell BK557.out 4).trans rfl, (blk_cell BK559.out 0).trans rfl, (blk_cell BK559.out 1).trans rfl, (blk_cell BK559.out 2).trans rfl⟩ (fun hHeld => ?_)
        clear hK K
        refine norm_ (a' := ?_) ?_ ?_
        rotate_left
        · show Act.put _ (some 32) _ = _
          simp only [Act.put, List.setIfInBounds_toArray, List.set_cons_zero, List.set_cons_succ, i64_w, i32_w]
          rfl
        refine chain_ (fuel := 2) [(7, 0, some 33)] #[true, true, true, true, true, true, true, true, false, false] HT_.out HW_.out (by kernel_rfl) (fun _ _ _ _ _ h => h) (Or.inl (by decide)) rfl ?_
        refine lkP ?_; refine .nil ?_
        refine one_ (i := 8) (N := some 16) #[true, true, true, true, true, true, true, true, true, false] rfl rfl (one_of HT_.out (by kernel_rfl)) (by decide) (fun K hK => ?_)
        refine box_step ?hg (N := 16) ?hd (cs := #[.int .u64 0, .int .u64 0, .int .u64 0, .bool false, .int .u64 0, .bool false, .int .u64 0, .int .u64 0, .int .u64 0]) (t := 58) ?hr ?_; (case hd => rfl); (case hg => rfl); (case hr => first | (go_simp; done) | (go_simp; rfl))
        intro gb570 hg w145 hbox hb
        have n0_ := bb BK556 hb
        have n1_ := bb BK557 hb
        have n2_ := bb BK558 hb
        have n3_ := bb BK559 hb
        have n4_ := bb BK560 hb
        have n5_ := bb BK566 hb
        have n6_ := bs HB hb
        have n7_ := Aside0.mk (hbox)
        have n8_ := sz HB hg
        have n9_ := sz HB hg
        have n10_ := nl BK556 hg
        have n11_ := nr BK556 hg
        have n12_ := nl BK557 hg
        have n13_ := nr BK557 hg
        have n14_ := nl BK558 hg
        have n15_ := nr BK558 hg
        have n16_ := nl BK559 hg
        have n17_ := nr BK559 hg
        have n18_ := nl BK560 hg
        have n19_ := nr BK560 hg
        have n20_ := nl BK566 hg
        have n21_ := nr BK566 hg
        clear BK556
        clear BK557
        clear BK558
        clear BK559
        clear BK560
        clear BK566
        clear HB
        have BK556 := n0_
        have BK557 := n1_
        have BK558 := n2_
        have BK559 := n3_
        have BK560 := n4_
        have BK566 := n5_
        have HB := n6_
        have BK570 := n7_
        have GW570 := n8_
        have GE570 := n9_
        have NB556_570 := n10_
        have NB570_556 := n11_
        have NB557_570 := n12_
        have NB570_557 := n13_
        have NB558_570 := n14_
        have NB570_558 := n15_
        have NB559_570 := n16_
        have NB570_559 := n17_
        have NB560_570 := n18_
        have NB570_560 := n19_
        have NB566_570 := n20_
        have NB570_566 := n21_
        clear n0_ n1_ n2_ n3_ n4_ n5_ n6_ n7_ n8_ n9_ n10_ n11_ n12_ n13_ n14_ n15_ n16_ n17_ n18_ n19_ n20_ n21_
        clear hb hbox hg
        refine hK.out _ _ ⟨(blk_cell BK566.out 0).trans rfl, (blk_cell BK566.out 1).trans rfl, (blk_cell BK566.out 2).trans rfl, (blk_cell BK557.out 0).trans rfl, (blk_cell BK557.out 1).trans rfl, (blk_cell BK557.out 2).trans rfl, (blk_cell BK557.out 3).trans rfl, (blk_cell BK557.out 4).trans rfl, (blk_cell BK559.out 0).trans rfl, (blk_cell BK559.out 1).trans rfl, (blk_cell BK559.out 2).trans rfl⟩ (fun hHeld => ?_)
        clear hK K
        refine norm_ (a' := ?_) ?_ ?_
        rotate_left
        · show Act.put _ (some 16) _ = _
          simp only [Act.put, List.setIfInBounds_toArray, List.set_cons_zero, List.set_cons_succ, i64_w, i32_w]
          rfl
        exact norm_ (by simp only [putAll, Act.put, List.setIfInBounds_toArray, List.set_cons_zero, List.set_cons_succ]) (hCont (gb570) _ ⟨hHeld, (bk BK556), (bk BK557), (bk BK558), (bk BK559), (bk BK560), (bk BK566), (bk BK570), GW570.out, GE570.out, NB556_570.out, NB570_556.out, NB557_570.out, NB570_557.out, NB558_570.out, NB570_558.out, NB559_570.out, NB570_559.out, NB560_570.out, NB570_560.out, NB566_570.out, NB570_566.out, (bw HB)⟩)
      · skip
        refine box_step ?hg (N := 16) ?hd (cs := #[.int .u64 0, .int .u64 0, .int .u64 0, .bool false, .int .u64 0, .bool false, .int .u64 0, .int .u64 0, .int .u64 0]) (t := 58) ?hr ?_; (case hd => rfl); (case hg => rfl); (case hr => first | (go_simp; done) | (go_simp; rfl))
        intro gb570 hg w144 hbox hb
        have n0_ := bb BK556 hb
        have n1_ := bb BK557 hb
        have n2_ := bb BK558 hb
        have n3_ := bb BK559 hb
        have n4_ := bb BK560 hb
        have n5_ := bb BK566 hb
        have n6_ := bs HB hb
        have n7_ := Aside0.mk (hbox)
        have n8_ := sz HB hg
        have n9_ := sz HB hg
        have n10_ := nl BK556 hg
        have n11_ := nr BK556 hg
        have n12_ := nl BK557 hg
        have n13_ := nr BK557 hg
        have n14_ := nl BK558 hg
        have n15_ := nr BK558 hg
        have n16_ := nl BK559 hg
        have n17_ := nr BK559 hg
        have n18_ := nl BK560 hg
        have n19_ := nr BK560 hg
        have n20_ := nl BK566 hg
        have n21_ := nr BK566 hg
        clear BK556
        clear BK557
        clear BK558
        clear BK559
        clear BK560
        clear BK566
        clear HB
        have BK556 := n0_
        have BK557 := n1_
        have BK558 := n2_
        have BK559 := n3_
        have BK560 := n4_
        have BK566 := n5_
        have HB := n6_
        have BK570 := n7_
        have GW570 := n8_
        have GE570 := n9_
        have NB556_570 := n10_
        have NB570_556 := n11_
        have NB557_570 := n12_
        have NB570_557 := n13_
        have NB558_570 := n14_
        have NB570_558 := n15_
        have NB559_570 := n16_
        have NB570_559 := n17_
        have NB560_570 := n18_
        have NB570_560 := n19_
        have NB566_570 := n20_
        have NB570_566 := n21_
        clear n0_ n1_ n2_ n3_ n4_ n5_ n6_ n7_ n8_ n9_ n10_ n11_ n12_ n13_ n14_ n15_ n16_ n17_ n18_ n19_ n20_ n21_
        clear hb hbox hg
        refine hK.out _ _ ⟨(blk_cell BK566.out 0).trans rfl, (blk_cell BK566.out 1).trans rfl, (blk_cell BK566.out 2).trans rfl, (blk_cell BK557.out 0).trans rfl, (blk_cell BK557.out 1).trans rfl, (blk_cell BK557.out 2).trans rfl, (blk_cell BK557.out 3).trans rfl, (blk_cell BK557.out 4).trans rfl, (blk_cell BK559.out 0).trans rfl, (blk_cell BK559.out 1).trans rfl, (blk_cell BK559.out 2).trans rfl⟩ (fun hHeld => ?_)
        clear hK K
        refine norm_ (a' := ?_) ?_ ?_
        rotate_left
        · show Act.put _ (some 16) _ = _
          simp only [Act.put, List.setIfInBounds_toArray, List.set_cons_zero, List.set_cons_succ, i64_w, i32_w]
          rfl
        refine one_ (i := 6) (N := some 32) #[true, true, true, true, true, true, true, false, true, false] rfl rfl (one_of HT_.out (by kernel_rfl)) (by decide) (fun K hK => ?_)
        refine ge Try.func26 #[.agg #[.int .i64 a1_0, .int .u64 a1_1, .int .u64 a1_2, .int .u64 a1_3, .int .u64 a1_4], .agg #[.int .u64 a3_0, .int .u64 a3_1, .int .u64 a3_2], .agg #[.int .u64 a3_0, .int .u64 a3_1, .int .u64 a3_2]] ?_
        with_reducible refine (policy_Max.calls a1_0 a1_1 a1_2 a1_3 a1_4 a3_0 a3_1 a3_2 a3_0 a3_1 a3_2 t567 t568 t569 _ A8.out).mono ?_
        rintro e w145 ⟨rfl, hb⟩
        refine ⟨_, rfl, ?_⟩
        have n0_ := bb BK556 hb
        have n1_ := bb BK557 hb
        have n2_ := bb BK558 hb
        have n3_ := bb BK559 hb
        have n4_ := bb BK560 hb
        have n5_ := bb BK566 hb
        have n6_ := bb BK570 hb
        have n7_ := bs HB hb
        clear BK556
        clear BK557
        clear BK558
        clear BK559
        clear BK560
        clear BK566
        clear BK570
        clear HB
        have BK556 := n0_
        have BK557 := n1_
        have BK558 := n2_
        have BK559 := n3_
        have BK560 := n4_
        have BK566 := n5_
        have BK570 := n6_
        have HB := n7_
        clear n0_ n1_ n2_ n3_ n4_ n5_ n6_ n7_
        (try clear hb)
        (try clear hb2)
        (try clear hk)
        (try clear hi)
        refine hK.out _ _ ⟨(blk_cell BK566.out 0).trans rfl, (blk_cell BK566.out 1).trans rfl, (blk_cell BK566.out 2).trans rfl, (blk_cell BK557.out 0).trans rfl, (blk_cell BK557.out 1).trans rfl, (blk_cell BK557.out 2).trans rfl, (blk_cell BK557.out 3).trans rfl, (blk_cell BK557.out 4).trans rfl, (blk_cell BK559.out 0).trans rfl, (blk_cell BK559.out 1).trans rfl, (blk_cell BK559.out 2).trans rfl⟩ (fun hHeld => ?_)
        clear hK K
        refine norm_ (a' := ?_) ?_ ?_
        rotate_left
        · show Act.put _ (some 32) _ = _
          simp only [Act.put, List.setIfInBounds_toArray, List.set_cons_zero, List.set_cons_succ, i64_w, i32_w]
          rfl
        refine chain_ (fuel := 1) [(7, 0, some 33)] #[true, true, true, true, true, true, true, true, true, false] HT_.out HW_.out (by kernel_rfl) (fun _ _ _ _ _ h => h) (Or.inl (by decide)) rfl ?_
        refine lkP ?_; refine .nil ?_
        exact norm_ (by simp only [putAll, Act.put, List.setIfInBounds_toArray, List.set_cons_zero, List.set_cons_succ]) (hCont (gb570) _ ⟨hHeld, (bk BK556), (bk BK557), (bk BK558), (bk BK559), (bk BK560), (bk BK566), (bk BK570), GW570.out, GE570.out, NB556_570.out, NB570_556.out, NB557_570.out, NB570_557.out, NB558_570.out, NB570_558.out, NB559_570.out, NB570_559.out, NB560_570.out, NB570_560.out, NB566_570.out, NB570_566.out, (bw HB)⟩)
    rintro gb570 w146 ⟨hS_, h0_, h1_, h2_, h3_, h4_, h5_, h6_, h7_, h8_, h9_, h10_, h11_, h12_, h13_, h14_, h15_, h16_, h17_, h18_, h19_, h20_, h21_⟩
    have n0_ : Aside0 (w146.heap[gb556]? = some (.cells #[.int .u64 a0_0, .int .u64 a0_1, .int .i64 a0_2, .int .i64 a0_3, .int .i64 a0_4] 53 (0, 0))) := ⟨h0_⟩
    have n1_ : Aside0 (w146.heap[gb557]? = some (.cells #[.int .i64 a1_0, .int .u64 a1_1, .int .u64 a1_2, .int .u64 a1_3, .int .u64 a1_4] 27 (0, 0))) := ⟨h1_⟩
    have n2_ : Aside0 (w146.heap[gb558]? = some (.cells #[.int .u64 a2_0, .int .u64 a2_1, .int .u64 a2_2] 29 (0, 0))) := ⟨h2_⟩
    have n3_ : Aside0 (w146.heap[gb559]? = some (.cells #[.int .u64 a3_0, .int .u64 a3_1, .int .u64 a3_2] 29 (0, 0))) := ⟨h3_⟩
    have n4_ : Aside0 (w146.heap[gb560]? = some (.cells #[.int .u64 0, .int .u64 0, .int .u64 0, .bool false, .int .u64 0, .bool false, .int .u64 0, .int .u64 0, .int .u64 0] 58 (0, 0))) := ⟨h4_⟩
    have n5_ : Aside0 (w146.heap[gb566]? = some (.cells #[.int .u64 t561, .int .u64 t562, .int .u64 t563] 29 (0, 0))) := ⟨h5_⟩
    have n6_ : Aside0 (w146.heap[gb570]? = some (.cells #[.int .u64 0, .int .u64 0, .int .u64 0, .bool false, .int .u64 0, .bool false, .int .u64 0, .int .u64 0, .int .u64 0] 58 (0, 0))) := ⟨h6_⟩
    have n7_ : Aside0 (w.heap.size ≤ gb570) := ⟨h7_⟩
    have n8_ : Aside0 (w.heap.size ≤ gb570) := ⟨h8_⟩
    have n9_ : Aside0 (gb556 ≠ gb570) := ⟨h9_⟩
    have n10_ : Aside0 (gb570 ≠ gb556) := ⟨h10_⟩
    have n11_ : Aside0 (gb557 ≠ gb570) := ⟨h11_⟩
    have n12_ : Aside0 (gb570 ≠ gb557) := ⟨h12_⟩
    have n13_ : Aside0 (gb558 ≠ gb570) := ⟨h13_⟩
    have n14_ : Aside0 (gb570 ≠ gb558) := ⟨h14_⟩
    have n15_ : Aside0 (gb559 ≠ gb570) := ⟨h15_⟩
    have n16_ : Aside0 (gb570 ≠ gb559) := ⟨h16_⟩
    have n17_ : Aside0 (gb560 ≠ gb570) := ⟨h17_⟩
    have n18_ : Aside0 (gb570 ≠ gb560) := ⟨h18_⟩
    have n19_ : Aside0 (gb566 ≠ gb570) := ⟨h19_⟩
    have n20_ : Aside0 (gb570 ≠ gb566) := ⟨h20_⟩
    have n21_ : Aside0 (Below w.heap.size w w146) := ⟨h21_⟩
    clear BK556
    clear BK557
    clear BK558
    clear BK559
    clear BK560
    clear BK566
    clear HB
    clear h0_ h1_ h2_ h3_ h4_ h5_ h6_ h7_ h8_ h9_ h10_ h11_ h12_ h13_ h14_ h15_ h16_ h17_ h18_ h19_ h20_ h21_
    have BK556 := n0_
    have BK557 := n1_
    have BK558 := n2_
    have BK559 := n3_
    have BK560 := n4_
    have BK566 := n5_
    have BK570 := n6_
    have GW570 := n7_
    have GE570 := n8_
    have NB556_570 := n9_
    have NB570_556 := n10_
    have NB557_570 := n11_
    have NB570_557 := n12_
    have NB558_570 := n13_
    have NB570_558 := n14_
    have NB559_570 := n15_
    have NB570_559 := n16_
    have NB560_570 := n17_
    have NB570_560 := n18_
    have NB566_570 := n19_
    have NB570_566 := n20_
    have HB := n21_
    clear n0_ n1_ n2_ n3_ n4_ n5_ n6_ n7_ n8_ n9_ n10_ n11_ n12_ n13_ n14_ n15_ n16_ n17_ n18_ n19_ n20_ n21_
    have hHeld : w146.cell? ⟨gb566, 0, none⟩ = some (.int .u64 t561) ∧ w146.cell? ⟨gb566, 1, none⟩ = some (.int .u64 t562) ∧ w146.cell? ⟨gb566, 2, none⟩ = some (.int .u64 t563) ∧ w146.cell? ⟨gb557, 0, none⟩ = some (.int .i64 a1_0) ∧ w146.cell? ⟨gb557, 1, none⟩ = some (.int .u64 a1_1) ∧ w146.cell? ⟨gb557, 2, none⟩ = some (.int .u64 a1_2) ∧ w146.cell? ⟨gb557, 3, none⟩ = some (.int .u64 a1_3) ∧ w146.cell? ⟨gb557, 4, none⟩ = some (.int .u64 a1_4) ∧ w146.cell? ⟨gb559, 0, none⟩ = some (.int .u64 a3_0) ∧ w146.cell? ⟨gb559, 1, none⟩ = some (.int .u64 a3_1) ∧ w146.cell? ⟨gb559, 2, none⟩ = some (.int .u64 a3_2) := hS_
    refine norm_ (a' := ?_) ?_ ?_
    rotate_left
    · simp only [putAll, Act.put, List.setIfInBounds_toArray, List.set_cons_zero, List.set_cons_succ]
      rfl
    refine one_ (i := 9) (N := none) #[true, true, true, true, true, true, true, true, true, true] rfl rfl (one_of HT_.out (by kernel_rfl)) (by decide) (fun K hK => ?_)
    have hs147 : w146.cell? ⟨gb570, 0, none⟩ = some (.int .u64 0) := (blk_cell BK570.out 0).trans rfl
    have hfs147 := blk_frozen BK570.out 0
    have hns147_0 := NB556_570.out
    have hns147_1 := NB557_570.out
    have hns147_2 := NB558_570.out
    have hns147_3 := NB559_570.out
    have hns147_4 := NB560_570.out
    have hns147_5 := NB566_570.out
    have hms147_0 := NB570_556.out
    have hms147_1 := NB570_557.out
    have hms147_2 := NB570_558.out
    have hms147_3 := NB570_559.out
    have hms147_4 := NB570_560.out
    have hms147_5 := NB570_566.out
    have hs148 : w146.cell? ⟨gb570, 1, none⟩ = some (.int .u64 0) := (blk_cell BK570.out 1).trans rfl
    have hfs148 := blk_frozen BK570.out 1
    have hns148_0 := NB556_570.out
    have hns148_1 := NB557_570.out
    have hns148_2 := NB558_570.out
    have hns148_3 := NB559_570.out
    have hns148_4 := NB560_570.out
    have hns148_5 := NB566_570.out
    have hms148_0 := NB570_556.out
    have hms148_1 := NB570_557.out
    have hms148_2 := NB570_558.out
    have hms148_3 := NB570_559.out
    have hms148_4 := NB570_560.out
    have hms148_5 := NB570_566.out
    have hs149 : w146.cell? ⟨gb570, 2, none⟩ = some (.int .u64 0) := (blk_cell BK570.out 2).trans rfl
    have hfs149 := blk_frozen BK570.out 2
    have hns149_0 := NB556_570.out
    have hns149_1 := NB557_570.out
    have hns149_2 := NB558_570.out
    have hns149_3 := NB559_570.out
    have hns149_4 := NB560_570.out
    have hns149_5 := NB566_570.out
    have hms149_0 := NB570_556.out
    have hms149_1 := NB570_557.out
    have hms149_2 := NB570_558.out
    have hms149_3 := NB570_559.out
    have hms149_4 := NB570_560.out
    have hms149_5 := NB570_566.out
    have hs150 : w146.cell? ⟨gb570, 3, none⟩ = some (.bool false) := (blk_cell BK570.out 3).trans rfl
    have hfs150 := blk_frozen BK570.out 3
    have hns150_0 := NB556_570.out
    have hns150_1 := NB557_570.out
    have hns150_2 := NB558_570.out
    have hns150_3 := NB559_570.out
    have hns150_4 := NB560_570.out
    have hns150_5 := NB566_570.out
    have hms150_0 := NB570_556.out
    have hms150_1 := NB570_557.out
    have hms150_2 := NB570_558.out
    have hms150_3 := NB570_559.out
    have hms150_4 := NB570_560.out
    have hms150_5 := NB570_566.out
    have hs151 : w146.cell? ⟨gb570, 4, none⟩ = some (.int .u64 0) := (blk_cell BK570.out 4).trans rfl
    have hfs151 := blk_frozen BK570.out 4
    have hns151_0 := NB556_570.out
    have hns151_1 := NB557_570.out
    have hns151_2 := NB558_570.out
    have hns151_3 := NB559_570.out
    have hns151_4 := NB560_570.out
    have hns151_5 := NB566_570.out
    have hms151_0 := NB570_556.out
    have hms151_1 := NB570_557.out
    have hms151_2 := NB570_558.out
    have hms151_3 := NB570_559.out
    have hms151_4 := NB570_560.out
    have hms151_5 := NB570_566.out
    have hs152 : w146.cell? ⟨gb570, 5, none⟩ = some (.bool false) := (blk_cell BK570.out 5).trans rfl
    have hfs152 := blk_frozen BK570.out 5
    have hns152_0 := NB556_570.out
    have hns152_1 := NB557_570.out
    have hns152_2 := NB558_570.out
    have hns152_3 := NB559_570.out
    have hns152_4 := NB560_570.out
    have hns152_5 := NB566_570.out
    have hms152_0 := NB570_556.out
    have hms152_1 := NB570_557.out
    have hms152_2 := NB570_558.out
    have hms152_3 := NB570_559.out
    have hms152_4 := NB570_560.out
    have hms152_5 := NB570_566.out
    have hs153 : w146.cell? ⟨gb570, 6, none⟩ = some (.int .u64 0) := (blk_cell BK570.out 6).trans rfl
    have hfs153 := blk_frozen BK570.out 6
    have hns153_0 := NB556_570.out
    have hns153_1 := NB557_570.out
    have hns153_2 := NB558_570.out
    have hns153_3 := NB559_570.out
    have hns153_4 := NB560_570.out
    have hns153_5 := NB566_570.out
    have hms153_0 := NB570_556.out
    have hms153_1 := NB570_557.out
    have hms153_2 := NB570_558.out
    have hms153_3 := NB570_559.out
    have hms153_4 := NB570_560.out
    have hms153_5 := NB570_566.out
    have hs154 : w146.cell? ⟨gb570, 7, none⟩ = some (.int .u64 0) := (blk_cell BK570.out 7).trans rfl
    have hfs154 := blk_frozen BK570.out 7
    have hns154_0 := NB556_570.out
    have hns154_1 := NB557_570.out
    have hns154_2 := NB558_570.out
    have hns154_3 := NB559_570.out
    have hns154_4 := NB560_570.out
    have hns154_5 := NB566_570.out
    have hms154_0 := NB570_556.out
    have hms154_1 := NB570_557.out
    have hms154_2 := NB570_558.out
    have hms154_3 := NB570_559.out
    have hms154_4 := NB570_560.out
    have hms154_5 := NB570_566.out
    have hs155 : w146.cell? ⟨gb570, 8, none⟩ = some (.int .u64 0) := (blk_cell BK570.out 8).trans rfl
    have hfs155 := blk_frozen BK570.out 8
    have hns155_0 := NB556_570.out
    have hns155_1 := NB557_570.out
    have hns155_2 := NB558_570.out
    have hns155_3 := NB559_570.out
    have hns155_4 := NB560_570.out
    have hns155_5 := NB566_570.out
    have hms155_0 := NB570_556.out
    have hms155_1 := NB570_557.out
    have hms155_2 := NB570_558.out
    have hms155_3 := NB570_559.out
    have hms155_4 := NB570_560.out
    have hms155_5 := NB570_566.out
    refine skip_ (w1 := ?_) (by rfl) rfl ?_ ?_
    rotate_left
    · go_simp
      rfl
    refine hK.out _ _ ⟨((cell_far (p := ⟨gb570, _, none⟩) NB566_570.out _).trans (((cell_far (p := ⟨gb570, _, none⟩) NB566_570.out _).trans (((cell_far (p := ⟨gb570, _, none⟩) NB566_570.out _).trans (((cell_far (p := ⟨gb570, _, none⟩) NB566_570.out _).trans (((cell_far (p := ⟨gb570, _, none⟩) NB566_570.out _).trans (((cell_far (p := ⟨gb570, _, none⟩) NB566_570.out _).trans (((cell_far (p := ⟨gb570, _, none⟩) NB566_570.out _).trans (((cell_far (p := ⟨gb570, _, none⟩) NB566_570.out _).trans (((cell_far (p := ⟨gb570, _, none⟩) NB566_570.out _).trans (hHeld.1)))))))))))))))))), ((cell_far (p := ⟨gb570, _, none⟩) NB566_570.out _).trans (((cell_far (p := ⟨gb570, _, none⟩) NB566_570.out _).trans (((cell_far (p := ⟨gb570, _, none⟩) NB566_570.out _).trans (((cell_far (p := ⟨gb570, _, none⟩) NB566_570.out _).trans (((cell_far (p := ⟨gb570, _, none⟩) NB566_570.out _).trans (((cell_far (p := ⟨gb570, _, none⟩) NB566_570.out _).trans (((cell_far (p := ⟨gb570, _, none⟩) NB566_570.out _).trans (((cell_far (p := ⟨gb570, _, none⟩) NB566_570.out _).trans (((cell_far (p := ⟨gb570, _, none⟩) NB566_570.out _).trans (hHeld.2.1)))))))))))))))))), ((cell_far (p := ⟨gb570, _, none⟩) NB566_570.out _).trans (((cell_far (p := ⟨gb570, _, none⟩) NB566_570.out _).trans (((cell_far (p := ⟨gb570, _, none⟩) NB566_570.out _).trans (((cell_far (p := ⟨gb570, _, none⟩) NB566_570.out _).trans (((cell_far (p := ⟨gb570, _, none⟩) NB566_570.out _).trans (((cell_far (p := ⟨gb570, _, none⟩) NB566_570.out _).trans (((cell_far (p := ⟨gb570, _, none⟩) NB566_570.out _).trans (((cell_far (p := ⟨gb570, _, none⟩) NB566_570.out _).trans (((cell_far (p := ⟨gb570, _, none⟩) NB566_570.out _).trans (hHeld.2.2.1)))))))))))))))))), ((cell_far (p := ⟨gb570, _, none⟩) NB557_570.out _).trans (((cell_far (p := ⟨gb570, _, none⟩) NB557_570.out _).trans (((cell_far (p := ⟨gb570, _, none⟩) NB557_570.out _).trans (((cell_far (p := ⟨gb570, _, none⟩) NB557_570.out _).trans (((cell_far (p := ⟨gb570, _, none⟩) NB557_570.out _).trans (((cell_far (p := ⟨gb570, _, none⟩) NB557_570.out _).trans (((cell_far (p := ⟨gb570, _, none⟩) NB557_570.out _).trans (((cell_far (p := ⟨gb570, _, none⟩) NB557_570.out _).trans (((cell_far (p := ⟨gb570, _, none⟩) NB557_570.out _).trans (hHeld.2.2.2.1)))))))))))))))))), ((cell_far (p := ⟨gb570, _, none⟩) NB557_570.out _).trans (((cell_far (p := ⟨gb570, _, none⟩) NB557_570.out _).trans (((cell_far (p := ⟨gb570, _, none⟩) NB557_570.out _).trans (((cell_far (p := ⟨gb570, _, none⟩) NB557_570.out _).trans (((cell_far (p := ⟨gb570, _, none⟩) NB557_570.out _).trans (((cell_far (p := ⟨gb570, _, none⟩) NB557_570.out _).trans (((cell_far (p := ⟨gb570, _, none⟩) NB557_570.out _).trans (((cell_far (p := ⟨gb570, _, none⟩) NB557_570.out _).trans (((cell_far (p := ⟨gb570, _, none⟩) NB557_570.out _).trans (hHeld.2.2.2.2.1)))))))))))))))))), ((cell_far (p := ⟨gb570, _, none⟩) NB557_570.out _).trans (((cell_far (p := ⟨gb570, _, none⟩) NB557_570.out _).trans (((cell_far (p := ⟨gb570, _, none⟩) NB557_570.out _).trans (((cell_far (p := ⟨gb570, _, none⟩) NB557_570.out _).trans (((cell_far (p := ⟨gb570, _, none⟩) NB557_570.out _).trans (((cell_far (p := ⟨gb570, _, none⟩) NB557_570.out _).trans (((cell_far (p := ⟨gb570, _, none⟩) NB557_570.out _).trans (((cell_far (p := ⟨gb570, _, none⟩) NB557_570.out _).trans (((cell_far (p := ⟨gb570, _, none⟩) NB557_570.out _).trans (hHeld.2.2.2.2.2.1)))))))))))))))))), ((cell_far (p := ⟨gb570, _, none⟩) NB557_570.out _).trans (((cell_far (p := ⟨gb570, _, none⟩) NB557_570.out _).trans (((cell_far (p := ⟨gb570, _, none⟩) NB557_570.out _).trans (((cell_far (p := ⟨gb570, _, none⟩) NB557_570.out _).trans (((cell_far (p := ⟨gb570, _, none⟩) NB557_570.out _).trans (((cell_far (p := ⟨gb570, _, none⟩) NB557_570.out _).trans (((cell_far (p := ⟨gb570, _, none⟩) NB557_570.out _).trans (((cell_far (p := ⟨gb570, _, none⟩) NB557_570.out _).trans (((cell_far (p := ⟨gb570, _, none⟩) NB557_570.out _).trans (hHeld.2.2.2.2.2.2.1)))))))))))))))))), ((cell_far (p := ⟨gb570, _, none⟩) NB557_570.out _).trans (((cell_far (p := ⟨gb570, _, none⟩) NB557_570.out _).trans (((cell_far (p := ⟨gb570, _, none⟩) NB557_570.out _).trans (((cell_far (p := ⟨gb570, _, none⟩) NB557_570.out _).trans (((cell_far (p := ⟨gb570, _, none⟩) NB557_570.out _).trans (((cell_far (p := ⟨gb570, _, none⟩) NB557_570.out _).trans (((cell_far (p := ⟨gb570, _, none⟩) NB557_570.out _).trans (((cell_far (p := ⟨gb570, _, none⟩) NB557_570.out _).trans (((cell_far (p := ⟨gb570, _, none⟩) NB557_570.out _).trans (hHeld.2.2.2.2.2.2.2.1)))))))))))))))))), ((cell_far (p := ⟨gb570, _, none⟩) NB559_570.out _).trans (((cell_far (p := ⟨gb570, _, none⟩) NB559_570.out _).trans (((cell_far (p := ⟨gb570, _, none⟩) NB559_570.out _).trans (((cell_far (p := ⟨gb570, _, none⟩) NB559_570.out _).trans (((cell_far (p := ⟨gb570, _, none⟩) NB559_570.out _).trans (((cell_far (p := ⟨gb570, _, none⟩) NB559_570.out _).trans (((cell_far (p := ⟨gb570, _, none⟩) NB559_570.out _).trans (((cell_far (p := ⟨gb570, _, none⟩) NB559_570.out _).trans (((cell_far (p := ⟨gb570, _, none⟩) NB559_570.out _).trans (hHeld.2.2.2.2.2.2.2.2.1)))))))))))))))))), ((cell_far (p := ⟨gb570, _, none⟩) NB559_570.out _).trans (((cell_far (p := ⟨gb570, _, none⟩) NB559_570.out _).trans (((cell_far (p := ⟨gb570, _, none⟩) NB559_570.out _).trans (((cell_far (p := ⟨gb570, _, none⟩) NB559_570.out _).trans (((cell_far (p := ⟨gb570, _, none⟩) NB559_570.out _).trans (((cell_far (p := ⟨gb570, _, none⟩) NB559_570.out _).trans (((cell_far (p := ⟨gb570, _, none⟩) NB559_570.out _).trans (((cell_far (p := ⟨gb570, _, none⟩) NB559_570.out _).trans (((cell_far (p := ⟨gb570, _, none⟩) NB559_570.out _).trans (hHeld.2.2.2.2.2.2.2.2.2.1)))))))))))))))))), ((cell_far (p := ⟨gb570, _, none⟩) NB559_570.out _).trans (((cell_far (p := ⟨gb570, _, none⟩) NB559_570.out _).trans (((cell_far (p := ⟨gb570, _, none⟩) NB559_570.out _).trans (((cell_far (p := ⟨gb570, _, none⟩) NB559_570.out _).trans (((cell_far (p := ⟨gb570, _, none⟩) NB559_570.out _).trans (((cell_far (p := ⟨gb570, _, none⟩) NB559_570.out _).trans (((cell_far (p := ⟨gb570, _, none⟩) NB559_570.out _).trans (((cell_far (p := ⟨gb570, _, none⟩) NB559_570.out _).trans (((cell_far (p := ⟨gb570, _, none⟩) NB559_570.out _).trans (hHeld.2.2.2.2.2.2.2.2.2.2))))))))))))))))))⟩ (fun hHeld => ?_)
    clear hK K
    refine done_ (done_of HT_.out (by kernel_rfl)) ?_
    have hnb156 := NB570_556.out
    have hnc156 := NB556_570.out
    have hnb157 := NB570_557.out
    have hnc157 := NB557_570.out
    have hnb158 := NB570_558.out
    have hnc158 := NB558_570.out
    have hnb159 := NB570_559.out
    have hnc159 := NB559_570.out
    have hnb160 := NB570_560.out
    have hnc160 := NB560_570.out
    have hnb161 := NB570_566.out
    have hnc161 := NB566_570.out
    have hcz162_0 : w146.cell? ⟨gb570, 0, none⟩ = some (.int .u64 0) := (blk_cell BK570.out 0).trans rfl
    have hcz162_1 : w146.cell? ⟨gb570, 1, none⟩ = some (.int .u64 0) := (blk_cell BK570.out 1).trans rfl
    have hcz162_2 : w146.cell? ⟨gb570, 2, none⟩ = some (.int .u64 0) := (blk_cell BK570.out 2).trans rfl
    have hcz162_3 : w146.cell? ⟨gb570, 3, none⟩ = some (.bool false) := (blk_cell BK570.out 3).trans rfl
    have hcz162_4 : w146.cell? ⟨gb570, 4, none⟩ = some (.int .u64 0) := (blk_cell BK570.out 4).trans rfl
    have hcz162_5 : w146.cell? ⟨gb570, 5, none⟩ = some (.bool false) := (blk_cell BK570.out 5).trans rfl
    have hcz162_6 : w146.cell? ⟨gb570, 6, none⟩ = some (.int .u64 0) := (blk_cell BK570.out 6).trans rfl
    have hcz162_7 : w146.cell? ⟨gb570, 7, none⟩ = some (.int .u64 0) := (blk_cell BK570.out 7).trans rfl
    have hcz162_8 : w146.cell? ⟨gb570, 8, none⟩ = some (.int .u64 0) := (blk_cell BK570.out 8).trans rfl
    have hfz162_0 := blk_frozen BK570.out 0
    have hfz162_1 := blk_frozen BK570.out 1
    have hfz162_2 := blk_frozen BK570.out 2
    have hfz162_3 := blk_frozen BK570.out 3
    have hfz162_4 := blk_frozen BK570.out 4
    have hfz162_5 := blk_frozen BK570.out 5
    have hfz162_6 := blk_frozen BK570.out 6
    have hfz162_7 := blk_frozen BK570.out 7
    have hfz162_8 := blk_frozen BK570.out 8
    have hnb163 := NB560_556.out
    have hnc163 := NB556_560.out
    have hnb164 := NB560_559.out
    have hnc164 := NB559_560.out
    have hcz165_0 : w146.cell? ⟨gb560, 0, none⟩ = some (.int .u64 0) := (blk_cell BK560.out 0).trans rfl
    have hcz165_1 : w146.cell? ⟨gb560, 1, none⟩ = some (.int .u64 0) := (blk_cell BK560.out 1).trans rfl
    have hcz165_2 : w146.cell? ⟨gb560, 2, none⟩ = some (.int .u64 0) := (blk_cell BK560.out 2).trans rfl
    have hcz165_3 : w146.cell? ⟨gb560, 3, none⟩ = some (.bool false) := (blk_cell BK560.out 3).trans rfl
    have hcz165_4 : w146.cell? ⟨gb560, 4, none⟩ = some (.int .u64 0) := (blk_cell BK560.out 4).trans rfl
    have hcz165_5 : w146.cell? ⟨gb560, 5, none⟩ = some (.bool false) := (blk_cell BK560.out 5).trans rfl
    have hcz165_6 : w146.cell? ⟨gb560, 6, none⟩ = some (.int .u64 0) := (blk_cell BK560.out 6).trans rfl
    have hcz165_7 : w146.cell? ⟨gb560, 7, none⟩ = some (.int .u64 0) := (blk_cell BK560.out 7).trans rfl
    have hcz165_8 : w146.cell? ⟨gb560, 8, none⟩ = some (.int .u64 0) := (blk_cell BK560.out 8).trans rfl
    have hfz165_0 := blk_frozen BK560.out 0
    have hfz165_1 := blk_frozen BK560.out 1
    have hfz165_2 := blk_frozen BK560.out 2
    have hfz165_3 := blk_frozen BK560.out 3
    have hfz165_4 := blk_frozen BK560.out 4
    have hfz165_5 := blk_frozen BK560.out 5
    have hfz165_6 := blk_frozen BK560.out 6
    have hfz165_7 := blk_frozen BK560.out 7
    have hfz165_8 := blk_frozen BK560.out 8
    try go_wp2
    with_reducible refine bodyPost_ret (results_cell_row rfl _ _ gb560 58 #[.int .u64 t561, .int .u64 t562, .int .u64 t563, .bool false, .int .u64 t565, .bool false, .int .u64 t567, .int .u64 t568, .int .u64 t569] (0, 0) _ rfl (put9_ (far9_ BK560.out NB560_570.out)) Try.underlying58 rfl (by kernel_rfl)) rfl ?_
    exact ⟨re, bw HB⟩

end Go.Proofs.Ytokfhdpokemekaa.Q
