/- Written by the session's own program hyb.py: what functions of the program compute; Lean checks it. -/
import Derived.Test.YtokfhdpokemekaaQx0
namespace Go.Proofs.Ytokfhdpokemekaa.Q
open Go.RowKit Go.Proofs.YtokfhdpokemekaaW.PrintWords Go.Proofs.YtokfhdpokemekaaW.PrintLast Go.Proofs.YtokfhdpokemekaaW.PrintMore Go.Proofs.YtokfhdpokemekaaW.PrintShort
attribute [local go_sem] run_Add64 run_Sub64
attribute [local go_sem] max2_int min2_int max_two min_two max_three min_three max_four min_four   -- for this text's walks alone
set_option linter.unusedVariables false
set_option linter.unusedSimpArgs false

/-! ### turnstileref04_plus: function 74 -/
def turnstileref04_plus.f (a0_0 : Int) (a0_1 : Int) (a1_0 : Int) (a1_1 : Int) : Option (Int × Int) := if (IntKind.u64.wrap (a0_1 + a1_1)) < a0_1 then (some (IntKind.u64.wrap ((IntKind.u64.wrap (a0_0 + a1_0)) + 1), IntKind.u64.wrap (a0_1 + a1_1))) else (some (IntKind.u64.wrap (a0_0 + a1_0), IntKind.u64.wrap (a0_1 + a1_1)))
set_option maxHeartbeats 8000000 in
set_option maxRecDepth 100000 in
theorem turnstileref04_plus.calls (a0_0 : Int) (a0_1 : Int) (a1_0 : Int) (a1_1 : Int) (r1 : Int) (r2 : Int) (w : World) (h : turnstileref04_plus.f a0_0 a0_1 a1_0 a1_1 = some (r1, r2)) :
    Calls Try.prog 74 #[.agg #[.int .u64 a0_0, .int .u64 a0_1], .agg #[.int .u64 a1_0, .int .u64 a1_1]] w fun e w' => e = .returned (.agg #[.int .u64 r1, .int .u64 r2]) ∧ Below w.heap.size w w' := by
  have hu104 := Try.underlying104
  have HB := Aside0.mk (Below.refl w.heap.size w)
  have H : (if (IntKind.u64.wrap (a0_1 + a1_1)) < a0_1 then (some (IntKind.u64.wrap ((IntKind.u64.wrap (a0_0 + a1_0)) + 1), IntKind.u64.wrap (a0_1 + a1_1))) else (some (IntKind.u64.wrap (a0_0 + a1_0), IntKind.u64.wrap (a0_1 + a1_1)))) = some (r1, r2) := h
  clear h
  by_cases c3 : (IntKind.u64.wrap (a0_1 + a1_1)) < a0_1
  · rw [if_pos c3] at H
    have c3b0 : decide ((IntKind.u64.wrap (a0_1 + a1_1)) < a0_1) = true := decide_eq_true c3
    clear c3
    simp only [Option.some.injEq, Prod.mk.injEq] at H
    obtain ⟨rfl, rfl⟩ := H
    go_enter Try.func74, Try.ntmps74
    go_wp2_with (first | ((with_reducible refine gate_dst (N := 2) rfl ?_); refine bx 2 #[.int .u64 a0_0, .int .u64 a0_1] 104 ?_; intro gb282 hg w4 hbox hb; have n0_ := bs HB hb; have n1_ := Aside0.mk (hbox); have n2_ := sz HB hg; have n3_ := sz HB hg; clear HB; have HB := n0_; have BK282 := n1_; have GW282 := n2_; have GE282 := n3_; clear n0_ n1_ n2_ n3_; clear hb hbox hg) | ((with_reducible refine gate_dst (N := 3) rfl ?_); refine bx 3 #[.int .u64 a1_0, .int .u64 a1_1] 104 ?_; intro gb283 hg w5 hbox hb; have n0_ := bb BK282 hb; have n1_ := bs HB hb; have n2_ := Aside0.mk (hbox); have n3_ := sz HB hg; have n4_ := sz HB hg; have n5_ := nl BK282 hg; have n6_ := nr BK282 hg; clear BK282; clear HB; have BK282 := n0_; have HB := n1_; have BK283 := n2_; have GW283 := n3_; have GE283 := n4_; have NB282_283 := n5_; have NB283_282 := n6_; clear n0_ n1_ n2_ n3_ n4_ n5_ n6_; clear hb hbox hg) | ((with_reducible refine gate_dst (N := 4) rfl ?_); refine bx 4 #[.int .u64 0, .int .u64 0] 104 ?_; intro gb284 hg w6 hbox hb; have n0_ := bb BK282 hb; have n1_ := bb BK283 hb; have n2_ := bs HB hb; have n3_ := Aside0.mk (hbox); have n4_ := sz HB hg; have n5_ := sz HB hg; have n6_ := nl BK282 hg; have n7_ := nr BK282 hg; have n8_ := nl BK283 hg; have n9_ := nr BK283 hg; clear BK282; clear BK283; clear HB; have BK282 := n0_; have BK283 := n1_; have HB := n2_; have BK284 := n3_; have GW284 := n4_; have GE284 := n5_; have NB282_284 := n6_; have NB284_282 := n7_; have NB283_284 := n8_; have NB284_283 := n9_; clear n0_ n1_ n2_ n3_ n4_ n5_ n6_ n7_ n8_ n9_; clear hb hbox hg; have hnb7 := NB282_283.out; have hnc7 := NB283_282.out; have hnb8 := NB282_284.out; have hnc8 := NB284_282.out; obtain ⟨hcz9_0, hcz9_1, hfz9_0, hfz9_1⟩ := bc2 BK282; have hnb10 := NB283_284.out; have hnc10 := NB284_283.out; obtain ⟨hcz11_0, hcz11_1, hfz11_0, hfz11_1⟩ := bc2 BK283; obtain ⟨hcz12_0, hcz12_1, hfz12_0, hfz12_1⟩ := bc2 BK284))
    refine bodyPost_ret (results_cell_row rfl _ _ gb284 104 #[.int .u64 (IntKind.u64.wrap ((IntKind.u64.wrap (a0_0 + a1_0)) + 1)), .int .u64 (IntKind.u64.wrap (a0_1 + a1_1))] (0, 0) _ rfl (bk BK284) Try.underlying104 rfl (by kernel_rfl)) rfl ?_
    exact ⟨re, bw HB⟩
  · rw [if_neg c3] at H
    have c3b0 : decide ((IntKind.u64.wrap (a0_1 + a1_1)) < a0_1) = false := decide_eq_false c3
    clear c3
    simp only [Option.some.injEq, Prod.mk.injEq] at H
    obtain ⟨rfl, rfl⟩ := H
    go_enter Try.func74, Try.ntmps74
    go_wp2_with (first | ((with_reducible refine gate_dst (N := 2) rfl ?_); refine bx 2 #[.int .u64 a0_0, .int .u64 a0_1] 104 ?_; intro gb282 hg w13 hbox hb; have n0_ := bs HB hb; have n1_ := Aside0.mk (hbox); have n2_ := sz HB hg; have n3_ := sz HB hg; clear HB; have HB := n0_; have BK282 := n1_; have GW282 := n2_; have GE282 := n3_; clear n0_ n1_ n2_ n3_; clear hb hbox hg) | ((with_reducible refine gate_dst (N := 3) rfl ?_); refine bx 3 #[.int .u64 a1_0, .int .u64 a1_1] 104 ?_; intro gb283 hg w14 hbox hb; have n0_ := bb BK282 hb; have n1_ := bs HB hb; have n2_ := Aside0.mk (hbox); have n3_ := sz HB hg; have n4_ := sz HB hg; have n5_ := nl BK282 hg; have n6_ := nr BK282 hg; clear BK282; clear HB; have BK282 := n0_; have HB := n1_; have BK283 := n2_; have GW283 := n3_; have GE283 := n4_; have NB282_283 := n5_; have NB283_282 := n6_; clear n0_ n1_ n2_ n3_ n4_ n5_ n6_; clear hb hbox hg) | ((with_reducible refine gate_dst (N := 4) rfl ?_); refine bx 4 #[.int .u64 0, .int .u64 0] 104 ?_; intro gb284 hg w15 hbox hb; have n0_ := bb BK282 hb; have n1_ := bb BK283 hb; have n2_ := bs HB hb; have n3_ := Aside0.mk (hbox); have n4_ := sz HB hg; have n5_ := sz HB hg; have n6_ := nl BK282 hg; have n7_ := nr BK282 hg; have n8_ := nl BK283 hg; have n9_ := nr BK283 hg; clear BK282; clear BK283; clear HB; have BK282 := n0_; have BK283 := n1_; have HB := n2_; have BK284 := n3_; have GW284 := n4_; have GE284 := n5_; have NB282_284 := n6_; have NB284_282 := n7_; have NB283_284 := n8_; have NB284_283 := n9_; clear n0_ n1_ n2_ n3_ n4_ n5_ n6_ n7_ n8_ n9_; clear hb hbox hg; have hnb16 := NB282_283.out; have hnc16 := NB283_282.out; have hnb17 := NB282_284.out; have hnc17 := NB284_282.out; obtain ⟨hcz18_0, hcz18_1, hfz18_0, hfz18_1⟩ := bc2 BK282; have hnb19 := NB283_284.out; have hnc19 := NB284_283.out; obtain ⟨hcz20_0, hcz20_1, hfz20_0, hfz20_1⟩ := bc2 BK283; obtain ⟨hcz21_0, hcz21_1, hfz21_0, hfz21_1⟩ := bc2 BK284))
    refine bodyPost_ret (results_cell_row rfl _ _ gb284 104 #[.int .u64 (IntKind.u64.wrap (a0_0 + a1_0)), .int .u64 (IntKind.u64.wrap (a0_1 + a1_1))] (0, 0) _ rfl (bk BK284) Try.underlying104 rfl (by kernel_rfl)) rfl ?_
    exact ⟨re, bw HB⟩

/-! ### turnstileref04_of: function 75 -/
def turnstileref04_of.f (a0 : Int) : Option (Int × Int) := some (0, a0)
set_option maxHeartbeats 8000000 in
set_option maxRecDepth 100000 in
theorem turnstileref04_of.calls (a0 : Int) (r1 : Int) (r2 : Int) (w : World) (h : turnstileref04_of.f a0 = some (r1, r2)) :
    Calls Try.prog 75 #[.int .u64 a0] w fun e w' => e = .returned (.agg #[.int .u64 r1, .int .u64 r2]) ∧ Below w.heap.size w w' := by
  have hu104 := Try.underlying104
  have HB := Aside0.mk (Below.refl w.heap.size w)
  have H : (some (0, a0)) = some (r1, r2) := h
  clear h
  simp only [Option.some.injEq, Prod.mk.injEq] at H
  obtain ⟨rfl, rfl⟩ := H
  go_enter Try.func75, Try.ntmps75
  go_wp2_with (first | ((with_reducible refine gate_dst (N := 2) rfl ?_); refine bx 2 #[.int .u64 0, .int .u64 0] 104 ?_; intro gb285 hg w2 hbox hb; have n0_ := bs HB hb; have n1_ := Aside0.mk (hbox); have n2_ := sz HB hg; have n3_ := sz HB hg; clear HB; have HB := n0_; have BK285 := n1_; have GW285 := n2_; have GE285 := n3_; clear n0_ n1_ n2_ n3_; clear hb hbox hg; obtain ⟨hcz3_0, hcz3_1, hfz3_0, hfz3_1⟩ := bc2 BK285))
  refine bodyPost_ret (results_cell_row rfl _ _ gb285 104 #[.int .u64 0, .int .u64 a0] (0, 0) _ rfl (bk BK285) Try.underlying104 rfl (by kernel_rfl)) rfl ?_
  exact ⟨re, bw HB⟩

/-! ### turnstileref04_later: function 76 -/
def turnstileref04_later.f (a0 : Int) (a1 : Int) : Option (Int) := if a0 > a1 then (some a0) else (some a1)
set_option maxHeartbeats 8000000 in
set_option maxRecDepth 100000 in
theorem turnstileref04_later.calls (a0 : Int) (a1 : Int) (r : Int) (w : World) (h : turnstileref04_later.f a0 a1 = some r) :
    Calls Try.prog 76 #[.int .u64 a0, .int .u64 a1] w fun e w' => e = .returned (.int .u64 r) ∧ Drawn0 w w' := by
  have H : (if a0 > a1 then (some a0) else (some a1)) = some r := h
  clear h
  by_cases c3 : a0 > a1
  · rw [if_pos c3] at H
    have c3b0 : decide (a1 < a0) = true := decide_eq_true c3
    clear c3
    obtain rfl := Option.some.inj H
    go_enter Try.func76, Try.ntmps76
    go_wp2
    go_ret
    exact ⟨rs, by repeat (first | exact Drawn0.refl _ | apply Drawn0.step)⟩
  · rw [if_neg c3] at H
    have c3b0 : decide (a1 < a0) = false := decide_eq_false c3
    clear c3
    obtain rfl := Option.some.inj H
    go_enter Try.func76, Try.ntmps76
    go_wp2
    go_ret
    exact ⟨rs, by repeat (first | exact Drawn0.refl _ | apply Drawn0.step)⟩

/-! ### turnstileref04_times: function 77 -/
def turnstileref04_times.f (a0 : Int) (a1 : Int) : Option (Int × Int) := (turnstileref04_of.f (IntKind.u64.wrap ((IntKind.u64.wrap (Int.tdiv a0 4294967296)) * (Int.tmod a1 4294967296)))).bind fun bt287 => ((turnstileref04_of.f (IntKind.u64.wrap ((Int.tmod a0 4294967296) * (IntKind.u64.wrap (Int.tdiv a1 4294967296))))).bind fun bt289 => ((turnstileref04_plus.f bt287.1 bt287.2 bt289.1 bt289.2).bind fun bt291 => ((turnstileref04_of.f (IntKind.u64.wrap ((Int.tmod a0 4294967296) * (Int.tmod a1 4294967296)))).bind fun bt294 => ((turnstileref04_plus.f (IntKind.u64.wrap ((IntKind.u64.wrap (Int.tdiv a0 4294967296)) * (IntKind.u64.wrap (Int.tdiv a1 4294967296)))) 0 bt294.1 bt294.2).bind fun bt296 => ((turnstileref04_plus.f bt296.1 bt296.2 (IntKind.u64.wrap ((IntKind.u64.wrap (bt291.1 * 4294967296)) + (IntKind.u64.wrap (Int.tdiv bt291.2 4294967296)))) (IntKind.u64.wrap (bt291.2 * 4294967296))).bind fun bt299 => (some (bt299.1, bt299.2)))))))
set_option maxHeartbeats 8000000 in
set_option maxRecDepth 100000 in
theorem turnstileref04_times.calls (a0 : Int) (a1 : Int) (r1 : Int) (r2 : Int) (w : World) (h : turnstileref04_times.f a0 a1 = some (r1, r2)) :
    Calls Try.prog 77 #[.int .u64 a0, .int .u64 a1] w fun e w' => e = .returned (.agg #[.int .u64 r1, .int .u64 r2]) ∧ Below w.heap.size w w' := by
  have hu104 := Try.underlying104
  have HB := Aside0.mk (Below.refl w.heap.size w)
  have H : ((turnstileref04_of.f (IntKind.u64.wrap ((IntKind.u64.wrap (Int.tdiv a0 4294967296)) * (Int.tmod a1 4294967296)))).bind fun bt287 => ((turnstileref04_of.f (IntKind.u64.wrap ((Int.tmod a0 4294967296) * (IntKind.u64.wrap (Int.tdiv a1 4294967296))))).bind fun bt289 => ((turnstileref04_plus.f bt287.1 bt287.2 bt289.1 bt289.2).bind fun bt291 => ((turnstileref04_of.f (IntKind.u64.wrap ((Int.tmod a0 4294967296) * (Int.tmod a1 4294967296)))).bind fun bt294 => ((turnstileref04_plus.f (IntKind.u64.wrap ((IntKind.u64.wrap (Int.tdiv a0 4294967296)) * (IntKind.u64.wrap (Int.tdiv a1 4294967296)))) 0 bt294.1 bt294.2).bind fun bt296 => ((turnstileref04_plus.f bt296.1 bt296.2 (IntKind.u64.wrap ((IntKind.u64.wrap (bt291.1 * 4294967296)) + (IntKind.u64.wrap (Int.tdiv bt291.2 4294967296)))) (IntKind.u64.wrap (bt291.2 * 4294967296))).bind fun bt299 => (some (bt299.1, bt299.2)))))))) = some (r1, r2) := h
  clear h
  replace H := Option.bind_eq_some_iff.mp H
  obtain ⟨⟨t287, t288⟩, A30, H⟩ := H
  replace H : ((turnstileref04_of.f (IntKind.u64.wrap ((Int.tmod a0 4294967296) * (IntKind.u64.wrap (Int.tdiv a1 4294967296))))).bind fun bt289 => ((turnstileref04_plus.f t287 t288 bt289.1 bt289.2).bind fun bt291 => ((turnstileref04_of.f (IntKind.u64.wrap ((Int.tmod a0 4294967296) * (Int.tmod a1 4294967296)))).bind fun bt294 => ((turnstileref04_plus.f (IntKind.u64.wrap ((IntKind.u64.wrap (Int.tdiv a0 4294967296)) * (IntKind.u64.wrap (Int.tdiv a1 4294967296)))) 0 bt294.1 bt294.2).bind fun bt296 => ((turnstileref04_plus.f bt296.1 bt296.2 (IntKind.u64.wrap ((IntKind.u64.wrap (bt291.1 * 4294967296)) + (IntKind.u64.wrap (Int.tdiv bt291.2 4294967296)))) (IntKind.u64.wrap (bt291.2 * 4294967296))).bind fun bt299 => (some (bt299.1, bt299.2))))))) = some (r1, r2) := H
  have A3 := Aside0.mk A30
  clear A30
  replace H := Option.bind_eq_some_iff.mp H
  obtain ⟨⟨t289, t290⟩, A40, H⟩ := H
  replace H : ((turnstileref04_plus.f t287 t288 t289 t290).bind fun bt291 => ((turnstileref04_of.f (IntKind.u64.wrap ((Int.tmod a0 4294967296) * (Int.tmod a1 4294967296)))).bind fun bt294 => ((turnstileref04_plus.f (IntKind.u64.wrap ((IntKind.u64.wrap (Int.tdiv a0 4294967296)) * (IntKind.u64.wrap (Int.tdiv a1 4294967296)))) 0 bt294.1 bt294.2).bind fun bt296 => ((turnstileref04_plus.f bt296.1 bt296.2 (IntKind.u64.wrap ((IntKind.u64.wrap (bt291.1 * 4294967296)) + (IntKind.u64.wrap (Int.tdiv bt291.2 4294967296)))) (IntKind.u64.wrap (bt291.2 * 4294967296))).bind fun bt299 => (some (bt299.1, bt299.2)))))) = some (r1, r2) := H
  have A4 := Aside0.mk A40
  clear A40
  replace H := Option.bind_eq_some_iff.mp H
  obtain ⟨⟨t291, t292⟩, A50, H⟩ := H
  replace H : ((turnstileref04_of.f (IntKind.u64.wrap ((Int.tmod a0 4294967296) * (Int.tmod a1 4294967296)))).bind fun bt294 => ((turnstileref04_plus.f (IntKind.u64.wrap ((IntKind.u64.wrap (Int.tdiv a0 4294967296)) * (IntKind.u64.wrap (Int.tdiv a1 4294967296)))) 0 bt294.1 bt294.2).bind fun bt296 => ((turnstileref04_plus.f bt296.1 bt296.2 (IntKind.u64.wrap ((IntKind.u64.wrap (t291 * 4294967296)) + (IntKind.u64.wrap (Int.tdiv t292 4294967296)))) (IntKind.u64.wrap (t292 * 4294967296))).bind fun bt299 => (some (bt299.1, bt299.2))))) = some (r1, r2) := H
  have A5 := Aside0.mk A50
  clear A50
  replace H := Option.bind_eq_some_iff.mp H
  obtain ⟨⟨t294, t295⟩, A60, H⟩ := H
  replace H : ((turnstileref04_plus.f (IntKind.u64.wrap ((IntKind.u64.wrap (Int.tdiv a0 4294967296)) * (IntKind.u64.wrap (Int.tdiv a1 4294967296)))) 0 t294 t295).bind fun bt296 => ((turnstileref04_plus.f bt296.1 bt296.2 (IntKind.u64.wrap ((IntKind.u64.wrap (t291 * 4294967296)) + (IntKind.u64.wrap (Int.tdiv t292 4294967296)))) (IntKind.u64.wrap (t292 * 4294967296))).bind fun bt299 => (some (bt299.1, bt299.2)))) = some (r1, r2) := H
  have A6 := Aside0.mk A60
  clear A60
  replace H := Option.bind_eq_some_iff.mp H
  obtain ⟨⟨t296, t297⟩, A70, H⟩ := H
  replace H : ((turnstileref04_plus.f t296 t297 (IntKind.u64.wrap ((IntKind.u64.wrap (t291 * 4294967296)) + (IntKind.u64.wrap (Int.tdiv t292 4294967296)))) (IntKind.u64.wrap (t292 * 4294967296))).bind fun bt299 => (some (bt299.1, bt299.2))) = some (r1, r2) := H
  have A7 := Aside0.mk A70
  clear A70
  replace H := Option.bind_eq_some_iff.mp H
  obtain ⟨⟨t299, t300⟩, A80, H⟩ := H
  replace H : (some (t299, t300)) = some (r1, r2) := H
  have A8 := Aside0.mk A80
  clear A80
  simp only [Option.some.injEq, Prod.mk.injEq] at H
  obtain ⟨rfl, rfl⟩ := H
  go_enter Try.func77, Try.ntmps77
  go_wp2_with (first | ((with_reducible refine gate_dst (N := 4) rfl ?_); refine bx 4 #[.int .u64 0, .int .u64 0] 104 ?_; intro gb286 hg w9 hbox hb; have n0_ := bs HB hb; have n1_ := Aside0.mk (hbox); have n2_ := sz HB hg; have n3_ := sz HB hg; clear HB; have HB := n0_; have BK286 := n1_; have GW286 := n2_; have GE286 := n3_; clear n0_ n1_ n2_ n3_; clear hb hbox hg) | ((with_reducible refine gate_callee (f := 75) rfl ?_); refine gm (some 22) Try.func75 #[.int .u64 (IntKind.u64.wrap ((IntKind.u64.wrap (Int.tdiv a0 4294967296)) * (Int.tmod a1 4294967296)))] (turnstileref04_of.calls (IntKind.u64.wrap ((IntKind.u64.wrap (Int.tdiv a0 4294967296)) * (Int.tmod a1 4294967296))) t287 t288 _ A3.out) ?_; intro w10 hb; have n0_ := bb BK286 hb; have n1_ := bs HB hb; clear BK286; clear HB; have BK286 := n0_; have HB := n1_; clear n0_ n1_; (try clear hb); (try clear hb2); (try clear hk); (try clear hi)) | ((with_reducible refine gate_callee (f := 75) rfl ?_); refine gm (some 26) Try.func75 #[.int .u64 (IntKind.u64.wrap ((Int.tmod a0 4294967296) * (IntKind.u64.wrap (Int.tdiv a1 4294967296))))] (turnstileref04_of.calls (IntKind.u64.wrap ((Int.tmod a0 4294967296) * (IntKind.u64.wrap (Int.tdiv a1 4294967296)))) t289 t290 _ A4.out) ?_; intro w11 hb; have n0_ := bb BK286 hb; have n1_ := bs HB hb; clear BK286; clear HB; have BK286 := n0_; have HB := n1_; clear n0_ n1_; (try clear hb); (try clear hb2); (try clear hk); (try clear hi)) | ((with_reducible refine gate_callee (f := 74) rfl ?_); refine gm (some 27) Try.func74 #[.agg #[.int .u64 t287, .int .u64 t288], .agg #[.int .u64 t289, .int .u64 t290]] (turnstileref04_plus.calls t287 t288 t289 t290 t291 t292 _ A5.out) ?_; intro w12 hb; have n0_ := bb BK286 hb; have n1_ := bs HB hb; clear BK286; clear HB; have BK286 := n0_; have HB := n1_; clear n0_ n1_; (try clear hb); (try clear hb2); (try clear hk); (try clear hi)) | ((with_reducible refine gate_dst (N := 9) rfl ?_); refine bx 9 #[.int .u64 0, .int .u64 0] 104 ?_; intro gb293 hg w13 hbox hb; have n0_ := bb BK286 hb; have n1_ := bs HB hb; have n2_ := Aside0.mk (hbox); have n3_ := sz HB hg; have n4_ := sz HB hg; have n5_ := nl BK286 hg; have n6_ := nr BK286 hg; clear BK286; clear HB; have BK286 := n0_; have HB := n1_; have BK293 := n2_; have GW293 := n3_; have GE293 := n4_; have NB286_293 := n5_; have NB293_286 := n6_; clear n0_ n1_ n2_ n3_ n4_ n5_ n6_; clear hb hbox hg; have hnb14 := NB293_286.out; have hnc14 := NB286_293.out; obtain ⟨hcz15_0, hcz15_1, hfz15_0, hfz15_1⟩ := bc2 BK293) | ((with_reducible refine gate_callee (f := 75) rfl ?_); refine gm (some 35) Try.func75 #[.int .u64 (IntKind.u64.wrap ((Int.tmod a0 4294967296) * (Int.tmod a1 4294967296)))] (turnstileref04_of.calls (IntKind.u64.wrap ((Int.tmod a0 4294967296) * (Int.tmod a1 4294967296))) t294 t295 _ A6.out) ?_; intro w16 hb; have n0_ := bb BK286 hb; have n1_ := bbp (.cells #[.int .u64 t291, .int .u64 t292] 104 (0, 0)) BK293 hb; have n2_ := bs HB hb; clear BK286; clear BK293; clear HB; have BK286 := n0_; have BK293 := n1_; have HB := n2_; clear n0_ n1_ n2_; (try clear hb); (try clear hb2); (try clear hk); (try clear hi)) | ((with_reducible refine gate_callee (f := 74) rfl ?_); refine gm (some 36) Try.func74 #[.agg #[.int .u64 (IntKind.u64.wrap ((IntKind.u64.wrap (Int.tdiv a0 4294967296)) * (IntKind.u64.wrap (Int.tdiv a1 4294967296)))), .int .u64 0], .agg #[.int .u64 t294, .int .u64 t295]] (turnstileref04_plus.calls (IntKind.u64.wrap ((IntKind.u64.wrap (Int.tdiv a0 4294967296)) * (IntKind.u64.wrap (Int.tdiv a1 4294967296)))) 0 t294 t295 t296 t297 _ A7.out) ?_; intro w17 hb; have n0_ := bb BK286 hb; have n1_ := bb BK293 hb; have n2_ := bs HB hb; clear BK286; clear BK293; clear HB; have BK286 := n0_; have BK293 := n1_; have HB := n2_; clear n0_ n1_ n2_; (try clear hb); (try clear hb2); (try clear hk); (try clear hi)) | ((with_reducible refine gate_dst (N := 10) rfl ?_); refine bx 10 #[.int .u64 0, .int .u64 0] 104 ?_; intro gb298 hg w18 hbox hb; have n0_ := bb BK286 hb; have n1_ := bb BK293 hb; have n2_ := bs HB hb; have n3_ := Aside0.mk (hbox); have n4_ := sz HB hg; have n5_ := sz HB hg; have n6_ := nl BK286 hg; have n7_ := nr BK286 hg; have n8_ := nl BK293 hg; have n9_ := nr BK293 hg; clear BK286; clear BK293; clear HB; have BK286 := n0_; have BK293 := n1_; have HB := n2_; have BK298 := n3_; have GW298 := n4_; have GE298 := n5_; have NB286_298 := n6_; have NB298_286 := n7_; have NB293_298 := n8_; have NB298_293 := n9_; clear n0_ n1_ n2_ n3_ n4_ n5_ n6_ n7_ n8_ n9_; clear hb hbox hg; have hnb19 := NB298_286.out; have hnc19 := NB286_298.out; have hnb20 := NB298_293.out; have hnc20 := NB293_298.out; obtain ⟨hcz21_0, hcz21_1, hfz21_0, hfz21_1⟩ := bc2 BK298; obtain ⟨hcz22_0, hcz22_1, hfz22_0, hfz22_1⟩ := bc2 BK293) | ((with_reducible refine gate_callee (f := 74) rfl ?_); refine gm (some 49) Try.func74 #[.agg #[.int .u64 t296, .int .u64 t297], .agg #[.int .u64 (IntKind.u64.wrap ((IntKind.u64.wrap (t291 * 4294967296)) + (IntKind.u64.wrap (Int.tdiv t292 4294967296)))), .int .u64 (IntKind.u64.wrap (t292 * 4294967296))]] (turnstileref04_plus.calls t296 t297 (IntKind.u64.wrap ((IntKind.u64.wrap (t291 * 4294967296)) + (IntKind.u64.wrap (Int.tdiv t292 4294967296)))) (IntKind.u64.wrap (t292 * 4294967296)) t299 t300 _ A8.out) ?_; intro w23 hb; have n0_ := bb BK286 hb; have n1_ := bb BK293 hb; have n2_ := bbp (.cells #[.int .u64 t296, .int .u64 t297] 104 (0, 0)) BK298 hb; have n3_ := bs HB hb; clear BK286; clear BK293; clear BK298; clear HB; have BK286 := n0_; have BK293 := n1_; have BK298 := n2_; have HB := n3_; clear n0_ n1_ n2_ n3_; (try clear hb); (try clear hb2); (try clear hk); (try clear hi); obtain ⟨hcz24_0, hcz24_1, hfz24_0, hfz24_1⟩ := bc2 BK286))
  refine bodyPost_ret (results_cell_row rfl _ _ gb286 104 #[.int .u64 t299, .int .u64 t300] (0, 0) _ rfl (bk BK286) Try.underlying104 rfl (by kernel_rfl)) rfl ?_
  exact ⟨re, bw HB⟩

/-! ### turnstileref04_above: function 92 -/
def turnstileref04_above.f (a0_0 : Int) (a0_1 : Int) (a1_0 : Int) (a1_1 : Int) : Option (Bool) := if a0_0 > a1_0 then (some true) else (if a0_0 = a1_0 then (some (decide (a0_1 > a1_1))) else (some false))
set_option maxHeartbeats 8000000 in
set_option maxRecDepth 100000 in
theorem turnstileref04_above.calls (a0_0 : Int) (a0_1 : Int) (a1_0 : Int) (a1_1 : Int) (r : Bool) (w : World) (h : turnstileref04_above.f a0_0 a0_1 a1_0 a1_1 = some r) :
    Calls Try.prog 92 #[.agg #[.int .u64 a0_0, .int .u64 a0_1], .agg #[.int .u64 a1_0, .int .u64 a1_1]] w fun e w' => e = .returned (.bool r) ∧ Below w.heap.size w w' := by
  have hu104 := Try.underlying104
  have HB := Aside0.mk (Below.refl w.heap.size w)
  have H : (if a0_0 > a1_0 then (some true) else (if a0_0 = a1_0 then (some (decide (a0_1 > a1_1))) else (some false))) = some r := h
  clear h
  by_cases c3 : a0_0 > a1_0
  · rw [if_pos c3] at H
    have c3b0 : decide (a1_0 < a0_0) = true := decide_eq_true c3
    clear c3
    obtain rfl := Option.some.inj H
    go_enter Try.func92, Try.ntmps92
    go_wp2_with (first | ((with_reducible refine gate_dst (N := 2) rfl ?_); refine bx 2 #[.int .u64 a0_0, .int .u64 a0_1] 104 ?_; intro gb301 hg w4 hbox hb; have n0_ := bs HB hb; have n1_ := Aside0.mk (hbox); have n2_ := sz HB hg; have n3_ := sz HB hg; clear HB; have HB := n0_; have BK301 := n1_; have GW301 := n2_; have GE301 := n3_; clear n0_ n1_ n2_ n3_; clear hb hbox hg) | ((with_reducible refine gate_dst (N := 3) rfl ?_); refine bx 3 #[.int .u64 a1_0, .int .u64 a1_1] 104 ?_; intro gb302 hg w5 hbox hb; have n0_ := bb BK301 hb; have n1_ := bs HB hb; have n2_ := Aside0.mk (hbox); have n3_ := sz HB hg; have n4_ := sz HB hg; have n5_ := nl BK301 hg; have n6_ := nr BK301 hg; clear BK301; clear HB; have BK301 := n0_; have HB := n1_; have BK302 := n2_; have GW302 := n3_; have GE302 := n4_; have NB301_302 := n5_; have NB302_301 := n6_; clear n0_ n1_ n2_ n3_ n4_ n5_ n6_; clear hb hbox hg; have hnb6 := NB301_302.out; have hnc6 := NB302_301.out; obtain ⟨hcz7_0, hcz7_1, hfz7_0, hfz7_1⟩ := bc2 BK301; obtain ⟨hcz8_0, hcz8_1, hfz8_0, hfz8_1⟩ := bc2 BK302))
    go_ret
    exact ⟨re, bw HB⟩
  · rw [if_neg c3] at H
    have c3b0 : decide (a1_0 < a0_0) = false := decide_eq_false c3
    clear c3
    by_cases c9 : a0_0 = a1_0
    · rw [if_pos c9] at H
      have c9b0 : (a0_0 == a1_0) = true := beq_iff_eq.mpr c9
      have c9b1 : (a0_0 != a1_0) = false := bne_eq_false_iff_eq.mpr c9
      clear c9
      obtain rfl := Option.some.inj H
      go_enter Try.func92, Try.ntmps92
      go_wp2_with (first | ((with_reducible refine gate_dst (N := 2) rfl ?_); refine bx 2 #[.int .u64 a0_0, .int .u64 a0_1] 104 ?_; intro gb301 hg w10 hbox hb; have n0_ := bs HB hb; have n1_ := Aside0.mk (hbox); have n2_ := sz HB hg; have n3_ := sz HB hg; clear HB; have HB := n0_; have BK301 := n1_; have GW301 := n2_; have GE301 := n3_; clear n0_ n1_ n2_ n3_; clear hb hbox hg) | ((with_reducible refine gate_dst (N := 3) rfl ?_); refine bx 3 #[.int .u64 a1_0, .int .u64 a1_1] 104 ?_; intro gb302 hg w11 hbox hb; have n0_ := bb BK301 hb; have n1_ := bs HB hb; have n2_ := Aside0.mk (hbox); have n3_ := sz HB hg; have n4_ := sz HB hg; have n5_ := nl BK301 hg; have n6_ := nr BK301 hg; clear BK301; clear HB; have BK301 := n0_; have HB := n1_; have BK302 := n2_; have GW302 := n3_; have GE302 := n4_; have NB301_302 := n5_; have NB302_301 := n6_; clear n0_ n1_ n2_ n3_ n4_ n5_ n6_; clear hb hbox hg; have hnb12 := NB301_302.out; have hnc12 := NB302_301.out; obtain ⟨hcz13_0, hcz13_1, hfz13_0, hfz13_1⟩ := bc2 BK301; obtain ⟨hcz14_0, hcz14_1, hfz14_0, hfz14_1⟩ := bc2 BK302))
      go_ret
      exact ⟨re, bw HB⟩
    · rw [if_neg c9] at H
      have c9b0 : (a0_0 == a1_0) = false := beq_eq_false_iff_ne.mpr c9
      have c9b1 : (a0_0 != a1_0) = true := bne_iff_ne.mpr c9
      obtain rfl := Option.some.inj H
      go_enter Try.func92, Try.ntmps92
      go_wp2_with (first | ((with_reducible refine gate_dst (N := 2) rfl ?_); refine bx 2 #[.int .u64 a0_0, .int .u64 a0_1] 104 ?_; intro gb301 hg w15 hbox hb; have n0_ := bs HB hb; have n1_ := Aside0.mk (hbox); have n2_ := sz HB hg; have n3_ := sz HB hg; clear HB; have HB := n0_; have BK301 := n1_; have GW301 := n2_; have GE301 := n3_; clear n0_ n1_ n2_ n3_; clear hb hbox hg) | ((with_reducible refine gate_dst (N := 3) rfl ?_); refine bx 3 #[.int .u64 a1_0, .int .u64 a1_1] 104 ?_; intro gb302 hg w16 hbox hb; have n0_ := bb BK301 hb; have n1_ := bs HB hb; have n2_ := Aside0.mk (hbox); have n3_ := sz HB hg; have n4_ := sz HB hg; have n5_ := nl BK301 hg; have n6_ := nr BK301 hg; clear BK301; clear HB; have BK301 := n0_; have HB := n1_; have BK302 := n2_; have GW302 := n3_; have GE302 := n4_; have NB301_302 := n5_; have NB302_301 := n6_; clear n0_ n1_ n2_ n3_ n4_ n5_ n6_; clear hb hbox hg; have hnb17 := NB301_302.out; have hnc17 := NB302_301.out; obtain ⟨hcz18_0, hcz18_1, hfz18_0, hfz18_1⟩ := bc2 BK301; obtain ⟨hcz19_0, hcz19_1, hfz19_0, hfz19_1⟩ := bc2 BK302))
      go_ret
      exact ⟨re, bw HB⟩

end Go.Proofs.Ytokfhdpokemekaa.Q
