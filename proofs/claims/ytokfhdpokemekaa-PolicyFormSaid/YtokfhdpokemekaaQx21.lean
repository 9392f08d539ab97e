/- Written by the session's own program hyb.py: what functions of the program compute; Lean checks it. -/
import Derived.Test.YtokfhdpokemekaaQx0
import Derived.Test.YtokfhdpokemekaaQx1
import Derived.Test.YtokfhdpokemekaaQx16
import Derived.Test.YtokfhdpokemekaaQx17
import Derived.Test.YtokfhdpokemekaaQx18
import Derived.Test.YtokfhdpokemekaaQx19
import Derived.Test.YtokfhdpokemekaaQx20
namespace Go.Proofs.Ytokfhdpokemekaa.Q
open Go.RowKit Go.Proofs.YtokfhdpokemekaaW.PrintWords Go.Proofs.YtokfhdpokemekaaW.PrintLast Go.Proofs.YtokfhdpokemekaaW.PrintMore Go.Proofs.YtokfhdpokemekaaW.PrintShort
attribute [local go_sem] run_Add64 run_Sub64
attribute [local go_sem] max2_int min2_int max_two min_two max_three min_three max_four min_four   -- for this text's walks alone
set_option linter.unusedVariables false
set_option linter.unusedSimpArgs false

attribute [local go_sem high] eqA29
/-! ### turnstilelaw06_awake: function 14 -/
mutual
def turnstilelaw06_awake.j0 : Nat → Bool → Option (Bool)
  | 0, _ => none
  | k + 1, x21 => if x21 = true then (some false) else ((turnstilelaw06_grid.f).bind fun bt229 => ((policy_Admit.f k bt229.1 bt229.2.1 bt229.2.2.1 bt229.2.2.2.1 bt229.2.2.2.2 0 2 2 250 2).bind fun bt234 => (if bt234.2.2.2.1 = true then (turnstilelaw06_awake.j1 k true bt234.1 bt234.2.1 bt234.2.2.1) else (if (!(bt234.1 == 0) || (!(bt234.2.1 == 2) || (!(bt234.2.2.1 == 2)))) = true then (turnstilelaw06_awake.j1 k true bt234.1 bt234.2.1 bt234.2.2.1) else (turnstilelaw06_awake.j1 k (bt234.2.2.2.2 != 300) bt234.1 bt234.2.1 bt234.2.2.1)))))
def turnstilelaw06_awake.j1 : Nat → Bool → Int → Int → Int → Option (Bool)
  | 0, _, _, _, _ => none
  | k + 1, x38, x229000, x229001, x229002 => if x38 = true then (some false) else ((turnstilelaw06_flow.f).bind fun bt239 => ((policy_Valid.f bt239.1 bt239.2.1 bt239.2.2.1 bt239.2.2.2.1 bt239.2.2.2.2).bind fun t244 => (if t244 = true then ((turnstilelaw06_grid.f).bind fun bt245 => ((policy_Fits.f bt245.1 bt245.2.1 bt245.2.2.1 bt245.2.2.2.1 bt245.2.2.2.2 x229000 x229001 x229002).bind fun t250 => (if t250 = true then ((turnstilelaw06_flow.f).bind fun bt251 => ((policy_Left.f k bt251.1 bt251.2.1 bt251.2.2.1 bt251.2.2.2.1 bt251.2.2.2.2 0 0 0 5).bind fun t256 => (if t256 = 3 then ((turnstilelaw06_grid.f).bind fun bt257 => ((policy_Covers.f bt257.1 bt257.2.1 bt257.2.2.1 bt257.2.2.2.1 bt257.2.2.2.2 x229000 x229001 x229002 0 1 9).bind fun t262 => (if t262 = true then ((turnstilelaw06_flow.f).bind fun bt263 => ((policy_Max.f bt263.1 bt263.2.1 bt263.2.2.1 bt263.2.2.2.1 bt263.2.2.2.2 3 0 0 5 0 0).bind fun bt268 => (some (bt268.1 == 5 && (bt268.2.1 == 0 && (bt268.2.2 == 0)))))) else (some false)))) else (some false)))) else (some false)))) else (some false))))
end
def turnstilelaw06_awake.f (k : Nat)  : Option (Bool) := (turnstilelaw06_flow.f).bind fun bt218 => ((policy_Admit.f k bt218.1 bt218.2.1 bt218.2.2.1 bt218.2.2.2.1 bt218.2.2.2.2 0 0 0 5 3).bind fun bt223 => (if bt223.2.2.2.1 = true then (if (!(bt223.1 == 35) || (!(bt223.2.1 == 0) || (!(bt223.2.2.1 == 0)))) = true then (turnstilelaw06_awake.j0 k true) else (turnstilelaw06_awake.j0 k (bt223.2.2.2.2 != 0))) else (turnstilelaw06_awake.j0 k true)))
theorem turnstilelaw06_awake.mono_l : ∀ k, (∀ y0, LeO (turnstilelaw06_awake.j0 k y0) (turnstilelaw06_awake.j0 (k + 1) y0)) ∧ (∀ y0 y1 y2 y3, LeO (turnstilelaw06_awake.j1 k y0 y1 y2 y3) (turnstilelaw06_awake.j1 (k + 1) y0 y1 y2 y3))
  | 0 => ⟨fun _ r h => by simp [turnstilelaw06_awake.j0] at h, fun _ _ _ _ r h => by simp [turnstilelaw06_awake.j1] at h⟩
  | k + 1 => by
    obtain ⟨ih0, ih1⟩ := turnstilelaw06_awake.mono_l k
    refine ⟨?_, ?_⟩
    · intro y0
      unfold turnstilelaw06_awake.j0
      repeat' first
      | (with_reducible exact ih0 _)
      | (with_reducible exact ih1 _ _ _ _)
      | (with_reducible exact policy_Admit.mono _ _ _ _ _ _ _ _ _ _ _)
      | (with_reducible exact policy_Left.mono _ _ _ _ _ _ _ _ _ _)
      | (with_reducible exact LeO.refl _)
      | (with_reducible exact LeO.none _)
      | (with_reducible refine LeO.ite ?_ ?_)
      | (with_reducible refine LeO.bind ?_ (fun _ => ?_))
      | exact ih0 _
      | exact ih1 _ _ _ _
      | exact policy_Admit.mono _ _ _ _ _ _ _ _ _ _ _
      | exact policy_Left.mono _ _ _ _ _ _ _ _ _ _
      | exact LeO.none _
      | refine LeO.ite ?_ ?_
      | refine LeO.bind ?_ (fun _ => ?_)
    · intro y0 y1 y2 y3
      unfold turnstilelaw06_awake.j1
      repeat' first
      | (with_reducible exact ih0 _)
      | (with_reducible exact ih1 _ _ _ _)
      | (with_reducible exact policy_Admit.mono _ _ _ _ _ _ _ _ _ _ _)
      | (with_reducible exact policy_Left.mono _ _ _ _ _ _ _ _ _ _)
      | (with_reducible exact LeO.refl _)
      | (with_reducible exact LeO.none _)
      | (with_reducible refine LeO.ite ?_ ?_)
      | (with_reducible refine LeO.bind ?_ (fun _ => ?_))
      | exact ih0 _
      | exact ih1 _ _ _ _
      | exact policy_Admit.mono _ _ _ _ _ _ _ _ _ _ _
      | exact policy_Left.mono _ _ _ _ _ _ _ _ _ _
      | exact LeO.none _
      | refine LeO.ite ?_ ?_
      | refine LeO.bind ?_ (fun _ => ?_)
theorem turnstilelaw06_awake.mono : ∀ k, LeO (turnstilelaw06_awake.f k ) (turnstilelaw06_awake.f (k + 1) ) := by
  intro  k
  obtain ⟨ih0, ih1⟩ := turnstilelaw06_awake.mono_l k
  unfold turnstilelaw06_awake.f
  repeat' first
      | (with_reducible exact ih0 _)
      | (with_reducible exact ih1 _ _ _ _)
      | (with_reducible exact policy_Admit.mono _ _ _ _ _ _ _ _ _ _ _)
      | (with_reducible exact policy_Left.mono _ _ _ _ _ _ _ _ _ _)
      | (with_reducible exact LeO.refl _)
      | (with_reducible exact LeO.none _)
      | (with_reducible refine LeO.ite ?_ ?_)
      | (with_reducible refine LeO.bind ?_ (fun _ => ?_))
      | exact ih0 _
      | exact ih1 _ _ _ _
      | exact policy_Admit.mono _ _ _ _ _ _ _ _ _ _ _
      | exact policy_Left.mono _ _ _ _ _ _ _ _ _ _
      | exact LeO.none _
      | refine LeO.ite ?_ ?_
      | refine LeO.bind ?_ (fun _ => ?_)
def turnstilelaw06_awake.T7 : Bool × List (List Nat × List Nat) := (true, [([], []), ([0, 0], [0]), ([1, 1], [1]), ([2, 2], [2]), ([2], [2]), ([3, 4, 3, 2], [2, 3, 4]), ([2, 5], [2, 5]), ([6, 5], [6]), ([7, 7], [7]), ([7], [7]), ([8, 9, 8, 7], [7, 8, 9]), ([10, 7], [7, 10]), ([7, 11], [7, 11]), ([12, 10], [12]), ([13, 13], [13]), ([13], [13]), ([13], [13]), ([14, 15, 16, 14, 13], [13, 14, 15, 16]), ([13, 17], [13, 17]), ([18, 17], [18]), ([19, 19], [19]), ([19], [19]), ([19], [19]), ([20, 21, 22, 20, 19], [19, 20, 21, 22]), ([19], [19]), ([23, 24, 19], [19, 23, 24]), ([19, 25], [19, 25]), ([26, 23, 0, 1, 2, 3, 4, 5, 6, 7, 8, 9, 10, 11, 12, 13, 14, 15, 16, 17, 18, 19, 20, 21, 22, 23, 24, 25, 26], [26])])
def turnstilelaw06_awake.B7 : List Nat := [0, 1, 3, 7, 7, 31, 63, 127, 255, 255, 1023, 2047, 4095, 8191, 16383, 16383, 16383, 131071, 262143, 524287, 1048575, 1048575, 1048575, 8388607, 1048575, 33554431, 67108863, 134217727]
theorem turnstilelaw06_awake.tab7 : rtab .any (opsOf Try.f14 7) = turnstilelaw06_awake.T7 := by kernel_rfl
theorem turnstilelaw06_awake.bits7 : waitsOk turnstilelaw06_awake.T7.2 turnstilelaw06_awake.B7 = true := by kernel_rfl
set_option maxHeartbeats 8000000 in
set_option maxRecDepth 100000 in
theorem turnstilelaw06_awake.calls (k : Nat)  (r : Bool) (w : World) (h : turnstilelaw06_awake.f k  = some r) :
    Calls Try.prog 14 #[] w fun e w' => e = .returned (.bool r) ∧ Below w.heap.size w w' := by
  have hu29 := Try.underlying29
  have HB := Aside0.mk (Below.refl w.heap.size w)
  have H : ((turnstilelaw06_flow.f).bind fun bt218 => ((policy_Admit.f k bt218.1 bt218.2.1 bt218.2.2.1 bt218.2.2.2.1 bt218.2.2.2.2 0 0 0 5 3).bind fun bt223 => (if bt223.2.2.2.1 = true then (if (!(bt223.1 == 35) || (!(bt223.2.1 == 0) || (!(bt223.2.2.1 == 0)))) = true then (turnstilelaw06_awake.j0 k true) else (turnstilelaw06_awake.j0 k (bt223.2.2.2.2 != 0))) else (turnstilelaw06_awake.j0 k true)))) = some r := h
  clear h
  replace H := Option.bind_eq_some_iff.mp H
  obtain ⟨⟨t218, t219, t220, t221, t222⟩, A10, H⟩ := H
  replace H : ((policy_Admit.f k t218 t219 t220 t221 t222 0 0 0 5 3).bind fun bt223 => (if bt223.2.2.2.1 = true then (if (!(bt223.1 == 35) || (!(bt223.2.1 == 0) || (!(bt223.2.2.1 == 0)))) = true then (turnstilelaw06_awake.j0 k true) else (turnstilelaw06_awake.j0 k (bt223.2.2.2.2 != 0))) else (turnstilelaw06_awake.j0 k true))) = some r := H
  have A1 := Aside0.mk A10
  clear A10
  replace H := Option.bind_eq_some_iff.mp H
  obtain ⟨⟨t223, t224, t225, t226, t227⟩, A20, H⟩ := H
  replace H : (if t226 = true then (if (!(t223 == 35) || (!(t224 == 0) || (!(t225 == 0)))) = true then (turnstilelaw06_awake.j0 k true) else (turnstilelaw06_awake.j0 k (t227 != 0))) else (turnstilelaw06_awake.j0 k true)) = some r := H
  have A2 := Aside0.mk A20
  clear A20
  have HC3 := Aside0.mk H
  clear H
  go_enter Try.func14, Try.ntmps14
  go_upto_region 2 with (first | ((with_reducible refine gate_callee (f := 39) rfl ?_); refine gm (some 5) Try.func39 #[] (turnstilelaw06_flow.calls  t218 t219 t220 t221 t222 _ A1.out) ?_; intro w4 hb; have n0_ := bs HB hb; clear HB; have HB := n0_; clear n0_; (try clear hb); (try clear hb2); (try clear hk); (try clear hi)) | ((with_reducible refine gate_callee (f := 16) rfl ?_); refine gm (some 7) Try.func16 #[.agg #[.int .i64 t218, .int .u64 t219, .int .u64 t220, .int .u64 t221, .int .u64 t222], .agg #[.int .u64 0, .int .u64 0, .int .u64 0], .int .u64 5, .int .u64 3] (policy_Admit.calls k t218 t219 t220 t221 t222 0 0 0 5 3 t223 t224 t225 t226 t227 _ A2.out) ?_; intro w5 hb; have n0_ := bs HB hb; clear HB; have HB := n0_; clear n0_; (try clear hb); (try clear hb2); (try clear hk); (try clear hi)) | ((with_reducible refine gate_dst (N := 1) rfl ?_); refine bx 1 #[.int .u64 0, .int .u64 0, .int .u64 0] 29 ?_; intro gb228 hg w6 hbox hb; have n0_ := bs HB hb; have n1_ := Aside0.mk (hbox); have n2_ := sz HB hg; have n3_ := sz HB hg; clear HB; have HB := n0_; have BK228 := n1_; have GW228 := n2_; have GE228 := n3_; clear n0_ n1_ n2_ n3_; clear hb hbox hg; obtain ⟨hcz7_0, hcz7_1, hcz7_2, hfz7_0, hfz7_1, hfz7_2⟩ := bc3 BK228))
  (try simp only [Act.put, List.setIfInBounds_toArray, List.set_cons_zero, List.set_cons_succ])
  go_cut [21] (fun v21 wc => ∃ (kq : Nat) (x21_2 : Bool), v21 = .bool x21_2 ∧ Aside0 (turnstilelaw06_awake.j0 kq x21_2 = some r) ∧ Aside0 (kq ≤ k) ∧ Aside0 (wc.heap[gb228]? = some (.cells #[.int .u64 t223, .int .u64 t224, .int .u64 t225] 29 (0, 0))) ∧ Aside0 (Below w.heap.size w wc))
  case first =>
    have H := HC3.out
    clear HC3
    by_cases c8 : t226 = true
    · subst c8
      have H1 : (if (!(t223 == 35) || (!(t224 == 0) || (!(t225 == 0)))) = true then (turnstilelaw06_awake.j0 k true) else (turnstilelaw06_awake.j0 k (t227 != 0))) = some r := by rw [if_pos rfl] at H; exact H
      clear H
      have H := H1
      clear H1
      by_cases c9 : (!(t223 == 35) || (!(t224 == 0) || (!(t225 == 0)))) = true
      · rw [if_pos c9] at H
        have c9b0 : (!(t223 == 35) || (!(t224 == 0) || (!(t225 == 0)))) = true := c9
        clear c9
        (first | rw [c9b0] | (simp only [i64_w, i32_w]; rw [c9b0]) | skip)
        have H' := Aside0.mk H
        clear H
        obtain ⟨hcz10_0, hcz10_1, hcz10_2, hfz10_0, hfz10_1, hfz10_2⟩ := bc3 BK228
        go_wp2
        go_meet
        case rel => exact ⟨_, (true), rs, H', ⟨by first | omega | exact Nat.le_refl _⟩, ⟨bk BK228⟩, ⟨bw HB⟩⟩
      · rw [if_neg c9] at H
        have c9b0 : (!(t223 == 35) || (!(t224 == 0) || (!(t225 == 0)))) = false := by simpa using c9
        clear c9
        (first | rw [c9b0] | (simp only [i64_w, i32_w]; rw [c9b0]) | skip)
        have H' := Aside0.mk H
        clear H
        obtain ⟨hcz11_0, hcz11_1, hcz11_2, hfz11_0, hfz11_1, hfz11_2⟩ := bc3 BK228
        go_wp2
        go_meet
        case rel => exact ⟨_, ((t227 != 0)), rs, H', ⟨by first | omega | exact Nat.le_refl _⟩, ⟨bk BK228⟩, ⟨bw HB⟩⟩
    · replace c8 := Bool.eq_false_iff.mpr c8
      subst c8
      have H1 : (turnstilelaw06_awake.j0 k true) = some r := by rw [if_neg (show ¬ (false = true) by decide)] at H; exact H
      clear H
      have H := H1
      clear H1
      have H' := Aside0.mk H
      clear H
      go_wp2
      go_meet
      case rel => exact ⟨_, (true), rs, H', ⟨by first | omega | exact Nat.le_refl _⟩, ⟨bk BK228⟩, ⟨bw HB⟩⟩
  case rest =>
    clear HC3
    try clear c1
    try clear p2
    try clear c3
    try clear c8
    try clear c9
    try clear c9b0
    try clear hcz10_0
    try clear hcz10_1
    try clear hcz10_2
    try clear hcz11_0
    try clear hcz11_1
    try clear hcz11_2
    try clear hcz7_0
    try clear hcz7_1
    try clear hcz7_2
    try clear hfz10_0
    try clear hfz10_1
    try clear hfz10_2
    try clear hfz11_0
    try clear hfz11_1
    try clear hfz11_2
    try clear hfz7_0
    try clear hfz7_1
    try clear hfz7_2
    obtain ⟨kq, x21_2, rfl, HA, HJ2, BK228, HB⟩ := hcut
    cases kq with
    | zero => exact absurd HA.out (by simp [turnstilelaw06_awake.j0])
    | succ kj2 =>
      have H := HA.out
      clear HA
      simp only [turnstilelaw06_awake.j0] at H
      by_cases c12 : x21_2 = true
      · subst c12
        have H1 : (some false) = some r := by rw [if_pos rfl] at H; exact H
        clear H
        have H := H1
        clear H1
        obtain rfl := Option.some.inj H
        go_wp2
        go_ret
        exact ⟨re, bw HB⟩
      · replace c12 := Bool.eq_false_iff.mpr c12
        subst c12
        have H1 : ((turnstilelaw06_grid.f).bind fun bt229 => ((policy_Admit.f kj2 bt229.1 bt229.2.1 bt229.2.2.1 bt229.2.2.2.1 bt229.2.2.2.2 0 2 2 250 2).bind fun bt234 => (if bt234.2.2.2.1 = true then (turnstilelaw06_awake.j1 kj2 true bt234.1 bt234.2.1 bt234.2.2.1) else (if (!(bt234.1 == 0) || (!(bt234.2.1 == 2) || (!(bt234.2.2.1 == 2)))) = true then (turnstilelaw06_awake.j1 kj2 true bt234.1 bt234.2.1 bt234.2.2.1) else (turnstilelaw06_awake.j1 kj2 (bt234.2.2.2.2 != 300) bt234.1 bt234.2.1 bt234.2.2.1))))) = some r := by rw [if_neg (show ¬ (false = true) by decide)] at H; exact H
        clear H
        have H := H1
        clear H1
        replace H := Option.bind_eq_some_iff.mp H
        obtain ⟨⟨t229, t230, t231, t232, t233⟩, A130, H⟩ := H
        replace H : ((policy_Admit.f kj2 t229 t230 t231 t232 t233 0 2 2 250 2).bind fun bt234 => (if bt234.2.2.2.1 = true then (turnstilelaw06_awake.j1 kj2 true bt234.1 bt234.2.1 bt234.2.2.1) else (if (!(bt234.1 == 0) || (!(bt234.2.1 == 2) || (!(bt234.2.2.1 == 2)))) = true then (turnstilelaw06_awake.j1 kj2 true bt234.1 bt234.2.1 bt234.2.2.1) else (turnstilelaw06_awake.j1 kj2 (bt234.2.2.2.2 != 300) bt234.1 bt234.2.1 bt234.2.2.1)))) = some r := H
        have A13 := Aside0.mk A130
        clear A130
        replace H := Option.bind_eq_some_iff.mp H
        obtain ⟨⟨t234, t235, t236, t237, t238⟩, A140, H⟩ := H
        replace H : (if t237 = true then (turnstilelaw06_awake.j1 kj2 true t234 t235 t236) else (if (!(t234 == 0) || (!(t235 == 2) || (!(t236 == 2)))) = true then (turnstilelaw06_awake.j1 kj2 true t234 t235 t236) else (turnstilelaw06_awake.j1 kj2 (t238 != 300) t234 t235 t236))) = some r := H
        have A14 := Aside0.mk A140
        clear A140
        have HC15 := Aside0.mk H
        clear H
        go_upto_region 5 with (first | ((with_reducible refine gate_callee (f := 40) rfl ?_); refine gm (some 23) Try.func40 #[] (turnstilelaw06_grid.calls  t229 t230 t231 t232 t233 _ A13.out) ?_; intro w16 hb; have n0_ := bb BK228 hb; have n1_ := bs HB hb; clear BK228; clear HB; have BK228 := n0_; have HB := n1_; clear n0_ n1_; (try clear hb); (try clear hb2); (try clear hk); (try clear hi)) | ((with_reducible refine gate_callee (f := 16) rfl ?_); refine gm (some 25) Try.func16 #[.agg #[.int .i64 t229, .int .u64 t230, .int .u64 t231, .int .u64 t232, .int .u64 t233], .agg #[.int .u64 0, .int .u64 2, .int .u64 2], .int .u64 250, .int .u64 2] (policy_Admit.calls kj2 t229 t230 t231 t232 t233 0 2 2 250 2 t234 t235 t236 t237 t238 _ A14.out) ?_; intro w17 hb; have n0_ := bb BK228 hb; have n1_ := bs HB hb; clear BK228; clear HB; have BK228 := n0_; have HB := n1_; clear n0_ n1_; (try clear hb); (try clear hb2); (try clear hk); (try clear hi); obtain ⟨hcz18_0, hcz18_1, hcz18_2, hfz18_0, hfz18_1, hfz18_2⟩ := bc3 BK228))
        (try simp only [Act.put, List.setIfInBounds_toArray, List.set_cons_zero, List.set_cons_succ])
        go_cut [38] (fun v38 wc => ∃ (kq : Nat) (x38_14 : Bool), v38 = .bool x38_14 ∧ Aside0 (turnstilelaw06_awake.j1 kq x38_14 t234 t235 t236 = some r) ∧ Aside0 (kq ≤ kj2) ∧ Aside0 (wc.heap[gb228]? = some (.cells #[.int .u64 t234, .int .u64 t235, .int .u64 t236] 29 (0, 0))) ∧ Aside0 (Below w.heap.size w wc))
        case first =>
          have H := HC15.out
          clear HC15
          by_cases c19 : t237 = true
          · subst c19
            have H1 : (turnstilelaw06_awake.j1 kj2 true t234 t235 t236) = some r := by rw [if_pos rfl] at H; exact H
            clear H
            have H := H1
            clear H1
            have H' := Aside0.mk H
            clear H
            go_wp2
            go_meet
            case rel => exact ⟨_, (true), rs, H', ⟨by have := HJ2.out; first | omega | exact Nat.le_refl _⟩, ⟨bk BK228⟩, ⟨bw HB⟩⟩
          · replace c19 := Bool.eq_false_iff.mpr c19
            subst c19
            have H1 : (if (!(t234 == 0) || (!(t235 == 2) || (!(t236 == 2)))) = true then (turnstilelaw06_awake.j1 kj2 true t234 t235 t236) else (turnstilelaw06_awake.j1 kj2 (t238 != 300) t234 t235 t236)) = some r := by rw [if_neg (show ¬ (false = true) by decide)] at H; exact H
            clear H
            have H := H1
            clear H1
            by_cases c20 : (!(t234 == 0) || (!(t235 == 2) || (!(t236 == 2)))) = true
            · rw [if_pos c20] at H
              have c20b0 : (!(t234 == 0) || (!(t235 == 2) || (!(t236 == 2)))) = true := c20
              clear c20
              (first | rw [c20b0] | (simp only [i64_w, i32_w]; rw [c20b0]) | skip)
              have H' := Aside0.mk H
              clear H
              obtain ⟨hcz21_0, hcz21_1, hcz21_2, hfz21_0, hfz21_1, hfz21_2⟩ := bc3 BK228
              go_wp2
              go_meet
              case rel => exact ⟨_, (true), rs, H', ⟨by have := HJ2.out; first | omega | exact Nat.le_refl _⟩, ⟨bk BK228⟩, ⟨bw HB⟩⟩
            · rw [if_neg c20] at H
              have c20b0 : (!(t234 == 0) || (!(t235 == 2) || (!(t236 == 2)))) = false := by simpa using c20
              clear c20
              (first | rw [c20b0] | (simp only [i64_w, i32_w]; rw [c20b0]) | skip)
              have H' := Aside0.mk H
              clear H
              obtain ⟨hcz22_0, hcz22_1, hcz22_2, hfz22_0, hfz22_1, hfz22_2⟩ := bc3 BK228
              go_wp2
              go_meet
              case rel => exact ⟨_, ((t238 != 300)), rs, H', ⟨by have := HJ2.out; first | omega | exact Nat.le_refl _⟩, ⟨bk BK228⟩, ⟨bw HB⟩⟩
        case rest =>
          clear HC15
          try clear c1
          try clear c2
          try clear p2
          try clear c3
          try clear c4
          try clear c8
          try clear c9
          try clear c9b0
          try clear c12
          try clear c14
          try clear c16
          try clear c19
          try clear c20
          try clear c20b0
          try clear hcz10_0
          try clear hcz10_1
          try clear hcz10_2
          try clear hcz11_0
          try clear hcz11_1
          try clear hcz11_2
          try clear hcz18_0
          try clear hcz18_1
          try clear hcz18_2
          try clear hcz21_0
          try clear hcz21_1
          try clear hcz21_2
          try clear hcz22_0
          try clear hcz22_1
          try clear hcz22_2
          try clear hcz7_0
          try clear hcz7_1
          try clear hcz7_2
          try clear hfz10_0
          try clear hfz10_1
          try clear hfz10_2
          try clear hfz11_0
          try clear hfz11_1
          try clear hfz11_2
          try clear hfz18_0
          try clear hfz18_1
          try clear hfz18_2
          try clear hfz21_0
          try clear hfz21_1
          try clear hfz21_2
          try clear hfz22_0
          try clear hfz22_1
          try clear hfz22_2
          try clear hfz7_0
          try clear hfz7_1
          try clear hfz7_2
          try clear p2
          obtain ⟨kq, x38_14, rfl, HA, HJ14, BK228, HB⟩ := hcut
          cases kq with
          | zero => exact absurd HA.out (by simp [turnstilelaw06_awake.j1])
          | succ kj14 =>
            have H := HA.out
            clear HA
            simp only [turnstilelaw06_awake.j1] at H
            by_cases c23 : x38_14 = true
            · subst c23
              have H1 : (some false) = some r := by rw [if_pos rfl] at H; exact H
              clear H
              have H := H1
              clear H1
              obtain rfl := Option.some.inj H
              go_wp2
              go_ret
              exact ⟨re, bw HB⟩
            · replace c23 := Bool.eq_false_iff.mpr c23
              subst c23
              have H1 : ((turnstilelaw06_flow.f).bind fun bt239 => ((policy_Valid.f bt239.1 bt239.2.1 bt239.2.2.1 bt239.2.2.2.1 bt239.2.2.2.2).bind fun t244 => (if t244 = true then ((turnstilelaw06_grid.f).bind fun bt245 => ((policy_Fits.f bt245.1 bt245.2.1 bt245.2.2.1 bt245.2.2.2.1 bt245.2.2.2.2 t234 t235 t236).bind fun t250 => (if t250 = true then ((turnstilelaw06_flow.f).bind fun bt251 => ((policy_Left.f kj14 bt251.1 bt251.2.1 bt251.2.2.1 bt251.2.2.2.1 bt251.2.2.2.2 0 0 0 5).bind fun t256 => (if t256 = 3 then ((turnstilelaw06_grid.f).bind fun bt257 => ((policy_Covers.f bt257.1 bt257.2.1 bt257.2.2.1 bt257.2.2.2.1 bt257.2.2.2.2 t234 t235 t236 0 1 9).bind fun t262 => (if t262 = true then ((turnstilelaw06_flow.f).bind fun bt263 => ((policy_Max.f bt263.1 bt263.2.1 bt263.2.2.1 bt263.2.2.2.1 bt263.2.2.2.2 3 0 0 5 0 0).bind fun bt268 => (some (bt268.1 == 5 && (bt268.2.1 == 0 && (bt268.2.2 == 0)))))) else (some false)))) else (some false)))) else (some false)))) else (some false)))) = some r := by rw [if_neg (show ¬ (false = true) by decide)] at H; exact H
              clear H
              have H := H1
              clear H1
              replace H := Option.bind_eq_some_iff.mp H
              obtain ⟨⟨t239, t240, t241, t242, t243⟩, A240, H⟩ := H
              replace H : ((policy_Valid.f t239 t240 t241 t242 t243).bind fun t244 => (if t244 = true then ((turnstilelaw06_grid.f).bind fun bt245 => ((policy_Fits.f bt245.1 bt245.2.1 bt245.2.2.1 bt245.2.2.2.1 bt245.2.2.2.2 t234 t235 t236).bind fun t250 => (if t250 = true then ((turnstilelaw06_flow.f).bind fun bt251 => ((policy_Left.f kj14 bt251.1 bt251.2.1 bt251.2.2.1 bt251.2.2.2.1 bt251.2.2.2.2 0 0 0 5).bind fun t256 => (if t256 = 3 then ((turnstilelaw06_grid.f).bind fun bt257 => ((policy_Covers.f bt257.1 bt257.2.1 bt257.2.2.1 bt257.2.2.2.1 bt257.2.2.2.2 t234 t235 t236 0 1 9).bind fun t262 => (if t262 = true then ((turnstilelaw06_flow.f).bind fun bt263 => ((policy_Max.f bt263.1 bt263.2.1 bt263.2.2.1 bt263.2.2.2.1 bt263.2.2.2.2 3 0 0 5 0 0).bind fun bt268 => (some (bt268.1 == 5 && (bt268.2.1 == 0 && (bt268.2.2 == 0)))))) else (some false)))) else (some false)))) else (some false)))) else (some false))) = some r := H
              have A24 := Aside0.mk A240
              clear A240
              replace H := Option.bind_eq_some_iff.mp H
              obtain ⟨t244, A250, H⟩ := H
              replace H : (if t244 = true then ((turnstilelaw06_grid.f).bind fun bt245 => ((policy_Fits.f bt245.1 bt245.2.1 bt245.2.2.1 bt245.2.2.2.1 bt245.2.2.2.2 t234 t235 t236).bind fun t250 => (if t250 = true then ((turnstilelaw06_flow.f).bind fun bt251 => ((policy_Left.f kj14 bt251.1 bt251.2.1 bt251.2.2.1 bt251.2.2.2.1 bt251.2.2.2.2 0 0 0 5).bind fun t256 => (if t256 = 3 then ((turnstilelaw06_grid.f).bind fun bt257 => ((policy_Covers.f bt257.1 bt257.2.1 bt257.2.2.1 bt257.2.2.2.1 bt257.2.2.2.2 t234 t235 t236 0 1 9).bind fun t262 => (if t262 = true then ((turnstilelaw06_flow.f).bind fun bt263 => ((policy_Max.f bt263.1 bt263.2.1 bt263.2.2.1 bt263.2.2.2.1 bt263.2.2.2.2 3 0 0 5 0 0).bind fun bt268 => (some (bt268.1 == 5 && (bt268.2.1 == 0 && (bt268.2.2 == 0)))))) else (some false)))) else (some false)))) else (some false)))) else (some false)) = some r := H
              have A25 := Aside0.mk A250
              clear A250
              by_cases c26 : t244 = true
              · subst c26
                have H1 : ((turnstilelaw06_grid.f).bind fun bt245 => ((policy_Fits.f bt245.1 bt245.2.1 bt245.2.2.1 bt245.2.2.2.1 bt245.2.2.2.2 t234 t235 t236).bind fun t250 => (if t250 = true then ((turnstilelaw06_flow.f).bind fun bt251 => ((policy_Left.f kj14 bt251.1 bt251.2.1 bt251.2.2.1 bt251.2.2.2.1 bt251.2.2.2.2 0 0 0 5).bind fun t256 => (if t256 = 3 then ((turnstilelaw06_grid.f).bind fun bt257 => ((policy_Covers.f bt257.1 bt257.2.1 bt257.2.2.1 bt257.2.2.2.1 bt257.2.2.2.2 t234 t235 t236 0 1 9).bind fun t262 => (if t262 = true then ((turnstilelaw06_flow.f).bind fun bt263 => ((policy_Max.f bt263.1 bt263.2.1 bt263.2.2.1 bt263.2.2.2.1 bt263.2.2.2.2 3 0 0 5 0 0).bind fun bt268 => (some (bt268.1 == 5 && (bt268.2.1 == 0 && (bt268.2.2 == 0)))))) else (some false)))) else (some false)))) else (some false)))) = some r := by rw [if_pos rfl] at H; exact H
                clear H
                have H := H1
                clear H1
                replace H := Option.bind_eq_some_iff.mp H
                obtain ⟨⟨t245, t246, t247, t248, t249⟩, A270, H⟩ := H
                replace H : ((policy_Fits.f t245 t246 t247 t248 t249 t234 t235 t236).bind fun t250 => (if t250 = true then ((turnstilelaw06_flow.f).bind fun bt251 => ((policy_Left.f kj14 bt251.1 bt251.2.1 bt251.2.2.1 bt251.2.2.2.1 bt251.2.2.2.2 0 0 0 5).bind fun t256 => (if t256 = 3 then ((turnstilelaw06_grid.f).bind fun bt257 => ((policy_Covers.f bt257.1 bt257.2.1 bt257.2.2.1 bt257.2.2.2.1 bt257.2.2.2.2 t234 t235 t236 0 1 9).bind fun t262 => (if t262 = true then ((turnstilelaw06_flow.f).bind fun bt263 => ((policy_Max.f bt263.1 bt263.2.1 bt263.2.2.1 bt263.2.2.2.1 bt263.2.2.2.2 3 0 0 5 0 0).bind fun bt268 => (some (bt268.1 == 5 && (bt268.2.1 == 0 && (bt268.2.2 == 0)))))) else (some false)))) else (some false)))) else (some false))) = some r := H
                have A27 := Aside0.mk A270
                clear A270
                replace H := Option.bind_eq_some_iff.mp H
                obtain ⟨t250, A280, H⟩ := H
                replace H : (if t250 = true then ((turnstilelaw06_flow.f).bind fun bt251 => ((policy_Left.f kj14 bt251.1 bt251.2.1 bt251.2.2.1 bt251.2.2.2.1 bt251.2.2.2.2 0 0 0 5).bind fun t256 => (if t256 = 3 then ((turnstilelaw06_grid.f).bind fun bt257 => ((policy_Covers.f bt257.1 bt257.2.1 bt257.2.2.1 bt257.2.2.2.1 bt257.2.2.2.2 t234 t235 t236 0 1 9).bind fun t262 => (if t262 = true then ((turnstilelaw06_flow.f).bind fun bt263 => ((policy_Max.f bt263.1 bt263.2.1 bt263.2.2.1 bt263.2.2.2.1 bt263.2.2.2.2 3 0 0 5 0 0).bind fun bt268 => (some (bt268.1 == 5 && (bt268.2.1 == 0 && (bt268.2.2 == 0)))))) else (some false)))) else (some false)))) else (some false)) = some r := H
                have A28 := Aside0.mk A280
                clear A280
                by_cases c29 : t250 = true
                · subst c29
                  have H1 : ((turnstilelaw06_flow.f).bind fun bt251 => ((policy_Left.f kj14 bt251.1 bt251.2.1 bt251.2.2.1 bt251.2.2.2.1 bt251.2.2.2.2 0 0 0 5).bind fun t256 => (if t256 = 3 then ((turnstilelaw06_grid.f).bind fun bt257 => ((policy_Covers.f bt257.1 bt257.2.1 bt257.2.2.1 bt257.2.2.2.1 bt257.2.2.2.2 t234 t235 t236 0 1 9).bind fun t262 => (if t262 = true then ((turnstilelaw06_flow.f).bind fun bt263 => ((policy_Max.f bt263.1 bt263.2.1 bt263.2.2.1 bt263.2.2.2.1 bt263.2.2.2.2 3 0 0 5 0 0).bind fun bt268 => (some (bt268.1 == 5 && (bt268.2.1 == 0 && (bt268.2.2 == 0)))))) else (some false)))) else (some false)))) = some r := by rw [if_pos rfl] at H; exact H
                  clear H
                  have H := H1
                  clear H1
                  replace H := Option.bind_eq_some_iff.mp H
                  obtain ⟨⟨t251, t252, t253, t254, t255⟩, A300, H⟩ := H
                  replace H : ((policy_Left.f kj14 t251 t252 t253 t254 t255 0 0 0 5).bind fun t256 => (if t256 = 3 then ((turnstilelaw06_grid.f).bind fun bt257 => ((policy_Covers.f bt257.1 bt257.2.1 bt257.2.2.1 bt257.2.2.2.1 bt257.2.2.2.2 t234 t235 t236 0 1 9).bind fun t262 => (if t262 = true then ((turnstilelaw06_flow.f).bind fun bt263 => ((policy_Max.f bt263.1 bt263.2.1 bt263.2.2.1 bt263.2.2.2.1 bt263.2.2.2.2 3 0 0 5 0 0).bind fun bt268 => (some (bt268.1 == 5 && (bt268.2.1 == 0 && (bt268.2.2 == 0)))))) else (some false)))) else (some false))) = some r := H
                  have A30 := Aside0.mk A300
                  clear A300
                  replace H := Option.bind_eq_some_iff.mp H
                  obtain ⟨t256, A310, H⟩ := H
                  replace H : (if t256 = 3 then ((turnstilelaw06_grid.f).bind fun bt257 => ((policy_Covers.f bt257.1 bt257.2.1 bt257.2.2.1 bt257.2.2.2.1 bt257.2.2.2.2 t234 t235 t236 0 1 9).bind fun t262 => (if t262 = true then ((turnstilelaw06_flow.f).bind fun bt263 => ((policy_Max.f bt263.1 bt263.2.1 bt263.2.2.1 bt263.2.2.2.1 bt263.2.2.2.2 3 0 0 5 0 0).bind fun bt268 => (some (bt268.1 == 5 && (bt268.2.1 == 0 && (bt268.2.2 == 0)))))) else (some false)))) else (some false)) = some r := H
                  have A31 := Aside0.mk A310
                  clear A310
                  by_cases c32 : t256 = 3
                  · rw [if_pos c32] at H
                    have c32b0 : (t256 == 3) = true := beq_iff_eq.mpr c32
                    have c32b1 : (t256 != 3) = false := bne_eq_false_iff_eq.mpr c32
                    clear c32
                    replace H := Option.bind_eq_some_iff.mp H
                    obtain ⟨⟨t257, t258, t259, t260, t261⟩, A330, H⟩ := H
                    replace H : ((policy_Covers.f t257 t258 t259 t260 t261 t234 t235 t236 0 1 9).bind fun t262 => (if t262 = true then ((turnstilelaw06_flow.f).bind fun bt263 => ((policy_Max.f bt263.1 bt263.2.1 bt263.2.2.1 bt263.2.2.2.1 bt263.2.2.2.2 3 0 0 5 0 0).bind fun bt268 => (some (bt268.1 == 5 && (bt268.2.1 == 0 && (bt268.2.2 == 0)))))) else (some false))) = some r := H
                    have A33 := Aside0.mk A330
                    clear A330
                    replace H := Option.bind_eq_some_iff.mp H
                    obtain ⟨t262, A340, H⟩ := H
                    replace H : (if t262 = true then ((turnstilelaw06_flow.f).bind fun bt263 => ((policy_Max.f bt263.1 bt263.2.1 bt263.2.2.1 bt263.2.2.2.1 bt263.2.2.2.2 3 0 0 5 0 0).bind fun bt268 => (some (bt268.1 == 5 && (bt268.2.1 == 0 && (bt268.2.2 == 0)))))) else (some false)) = some r := H
                    have A34 := Aside0.mk A340
                    clear A340
                    by_cases c35 : t262 = true
                    · subst c35
                      have H1 : ((turnstilelaw06_flow.f).bind fun bt263 => ((policy_Max.f bt263.1 bt263.2.1 bt263.2.2.1 bt263.2.2.2.1 bt263.2.2.2.2 3 0 0 5 0 0).bind fun bt268 => (some (bt268.1 == 5 && (bt268.2.1 == 0 && (bt268.2.2 == 0)))))) = some r := by rw [if_pos rfl] at H; exact H
                      clear H
                      have H := H1
                      clear H1
                      replace H := Option.bind_eq_some_iff.mp H
                      obtain ⟨⟨t263, t264, t265, t266, t267⟩, A360, H⟩ := H
                      replace H : ((policy_Max.f t263 t264 t265 t266 t267 3 0 0 5 0 0).bind fun bt268 => (some (bt268.1 == 5 && (bt268.2.1 == 0 && (bt268.2.2 == 0))))) = some r := H
                      have A36 := Aside0.mk A360
                      clear A360
                      replace H := Option.bind_eq_some_iff.mp H
                      obtain ⟨⟨t268, t269, t270⟩, A370, H⟩ := H
                      replace H : (some (t268 == 5 && (t269 == 0 && (t270 == 0)))) = some r := H
                      have A37 := Aside0.mk A370
                      clear A370
                      obtain rfl := Option.some.inj H
                      try go_wp2
                      have n0_ := Aside0.mk (blk_drew BK228.out)
                      have n1_ := Aside0.mk (below_drew1 HB.out)
                      clear BK228
                      clear HB
                      have BK228 := n0_
                      have HB := n1_
                      clear n0_ n1_
                      refine start_ (n := 28) (S := fun w' => w'.cell? ⟨gb228, 0, none⟩ = some (.int .u64 t234) ∧ w'.cell? ⟨gb228, 1, none⟩ = some (.int .u64 t235) ∧ w'.cell? ⟨gb228, 2, none⟩ = some (.int .u64 t236)) (ds := []) #[false, false, false, false, false, false, false, false, false, false, false, false, false, false, false, false, false, false, false, false, false, false, false, false, false, false, false, false] (by kernel_rfl) rfl rfl ⟨(blk_cell BK228.out 0).trans rfl, (blk_cell BK228.out 1).trans rfl, (blk_cell BK228.out 2).trans rfl⟩ (fun hHeld => ?_); refine with_tabW turnstilelaw06_awake.tab7 turnstilelaw06_awake.bits7 (fun HT_ HW_ => ?_)
                      generalize wc.drew = w38 at BK228 HB hHeld ⊢
                      refine one_ (i := 0) (N := some 39) #[true, false, false, false, false, false, false, false, false, false, false, false, false, false, false, false, false, false, false, false, false, false, false, false, false, false, false, false] rfl rfl (one_of HT_.out (by kernel_rfl)) (by decide) (fun K hK => ?_)
                      refine ge Try.func39 #[] ?_
                      with_reducible refine (turnstilelaw06_flow.calls  t239 t240 t241 t242 t243 _ A24.out).mono ?_
                      rintro e w39 ⟨rfl, hb⟩
                      refine ⟨_, rfl, ?_⟩
                      have n0_ := bb BK228 hb
                      have n1_ := bs HB hb
                      clear BK228
                      clear HB
                      have BK228 := n0_
                      have HB := n1_
                      clear n0_ n1_
                      (try clear hb)
                      (try clear hb2)
                      (try clear hk)
                      (try clear hi)
                      refine hK.out _ _ ⟨(blk_cell BK228.out 0).trans rfl, (blk_cell BK228.out 1).trans rfl, (blk_cell BK228.out 2).trans rfl⟩ (fun hHeld => ?_)
                      clear hK K
                      refine norm_ (a' := ?_) ?_ ?_
                      rotate_left
                      · show Act.put _ (some 39) _ = _
                        simp only [Act.put, List.setIfInBounds_toArray, List.set_cons_zero, List.set_cons_succ, i64_w, i32_w]
                        rfl
                      refine one_ (i := 1) (N := some 40) #[true, true, false, false, false, false, false, false, false, false, false, false, false, false, false, false, false, false, false, false, false, false, false, false, false, false, false, false] rfl rfl (one_of HT_.out (by kernel_rfl)) (by decide) (fun K hK => ?_)
                      refine ge Try.func18 #[.agg #[.int .i64 t239, .int .u64 t240, .int .u64 t241, .int .u64 t242, .int .u64 t243]] ?_
                      with_reducible refine (policy_Valid.calls t239 t240 t241 t242 t243 true _ A25.out).mono ?_
                      rintro e w40 ⟨rfl, hb⟩
                      refine ⟨_, rfl, ?_⟩
                      have n0_ := bb BK228 hb
                      have n1_ := bs HB hb
                      clear BK228
                      clear HB
                      have BK228 := n0_
                      have HB := n1_
                      clear n0_ n1_
                      (try clear hb)
                      (try clear hb2)
                      (try clear hk)
                      (try clear hi)
                      refine hK.out _ _ ⟨(blk_cell BK228.out 0).trans rfl, (blk_cell BK228.out 1).trans rfl, (blk_cell BK228.out 2).trans rfl⟩ (fun hHeld => ?_)
                      clear hK K
                      refine norm_ (a' := ?_) ?_ ?_
                      rotate_left
                      · show Act.put _ (some 40) _ = _
                        simp only [Act.put, List.setIfInBounds_toArray, List.set_cons_zero, List.set_cons_succ, i64_w, i32_w]
                        rfl
                      refine chain_ (fuel := 24) [(2, 0, some 41), (4, 1, some 43)] #[true, true, true, false, true, false, false, false, false, false, false, false, false, false, false, false, false, false, false, false, false, false, false, false, false, false, false, false] HT_.out HW_.out (by kernel_rfl) (fun _ _ _ _ _ h => h) (Or.inr hHeld) rfl ?_
                      refine lkP ?_; refine lkT ?_; refine .nil ?_
                      refine one_ (i := 3) (N := some 42) #[true, true, true, true, true, false, false, false, false, false, false, false, false, false, false, false, false, false, false, false, false, false, false, false, false, false, false, false] rfl rfl (one_of HT_.out (by kernel_rfl)) (by decide) (fun K hK => ?_)
                      refine ge Try.func40 #[] ?_
                      with_reducible refine (turnstilelaw06_grid.calls  t245 t246 t247 t248 t249 _ A27.out).mono ?_
                      rintro e w41 ⟨rfl, hb⟩
                      refine ⟨_, rfl, ?_⟩
                      have n0_ := bb BK228 hb
                      have n1_ := bs HB hb
                      clear BK228
                      clear HB
                      have BK228 := n0_
                      have HB := n1_
                      clear n0_ n1_
                      (try clear hb)
                      (try clear hb2)
                      (try clear hk)
                      (try clear hi)
                      refine hK.out _ _ ⟨(blk_cell BK228.out 0).trans rfl, (blk_cell BK228.out 1).trans rfl, (blk_cell BK228.out 2).trans rfl⟩ (fun hHeld => ?_)
                      clear hK K
                      refine norm_ (a' := ?_) ?_ ?_
                      rotate_left
                      · show Act.put _ (some 42) _ = _
                        simp only [Act.put, List.setIfInBounds_toArray, List.set_cons_zero, List.set_cons_succ, i64_w, i32_w]
                        rfl
                      refine one_ (i := 5) (N := some 44) #[true, true, true, true, true, true, false, false, false, false, false, false, false, false, false, false, false, false, false, false, false, false, false, false, false, false, false, false] rfl rfl (one_of HT_.out (by kernel_rfl)) (by decide) (fun K hK => ?_)
                      refine ge Try.func25 #[.agg #[.int .i64 t245, .int .u64 t246, .int .u64 t247, .int .u64 t248, .int .u64 t249], .agg #[.int .u64 t234, .int .u64 t235, .int .u64 t236]] ?_
                      with_reducible refine (policy_Fits.calls t245 t246 t247 t248 t249 t234 t235 t236 true _ A28.out).mono ?_
                      rintro e w42 ⟨rfl, hb⟩
                      refine ⟨_, rfl, ?_⟩
                      have n0_ := bb BK228 hb
                      have n1_ := bs HB hb
                      clear BK228
                      clear HB
                      have BK228 := n0_
                      have HB := n1_
                      clear n0_ n1_
                      (try clear hb)
                      (try clear hb2)
                      (try clear hk)
                      (try clear hi)
                      refine hK.out _ _ ⟨(blk_cell BK228.out 0).trans rfl, (blk_cell BK228.out 1).trans rfl, (blk_cell BK228.out 2).trans rfl⟩ (fun hHeld => ?_)
                      clear hK K
                      refine norm_ (a' := ?_) ?_ ?_
                      rotate_left
                      · show Act.put _ (some 44) _ = _
                        simp only [Act.put, List.setIfInBounds_toArray, List.set_cons_zero, List.set_cons_succ, i64_w, i32_w]
                        rfl
                      refine chain_ (fuel := 19) [(6, 0, some 45), (7, 0, some 46), (9, 0, some 48)] #[true, true, true, true, true, true, true, true, false, true, false, false, false, false, false, false, false, false, false, false, false, false, false, false, false, false, false, false] HT_.out HW_.out (by kernel_rfl) (fun _ _ _ _ _ h => h) (Or.inl (by decide)) rfl ?_
                      (iterate 3 refine lkP ?_); refine .nil ?_
                      refine one_ (i := 8) (N := some 47) #[true, true, true, true, true, true, true, true, true, true, false, false, false, false, false, false, false, false, false, false, false, false, false, false, false, false, false, false] rfl rfl (one_of HT_.out (by kernel_rfl)) (by decide) (fun K hK => ?_)
                      refine ge Try.func39 #[] ?_
                      with_reducible refine (turnstilelaw06_flow.calls  t251 t252 t253 t254 t255 _ A30.out).mono ?_
                      rintro e w43 ⟨rfl, hb⟩
                      refine ⟨_, rfl, ?_⟩
                      have n0_ := bb BK228 hb
                      have n1_ := bs HB hb
                      clear BK228
                      clear HB
                      have BK228 := n0_
                      have HB := n1_
                      clear n0_ n1_
                      (try clear hb)
                      (try clear hb2)
                      (try clear hk)
                      (try clear hi)
                      refine hK.out _ _ ⟨(blk_cell BK228.out 0).trans rfl, (blk_cell BK228.out 1).trans rfl, (blk_cell BK228.out 2).trans rfl⟩ (fun hHeld => ?_)
                      clear hK K
                      refine norm_ (a' := ?_) ?_ ?_
                      rotate_left
                      · show Act.put _ (some 47) _ = _
                        simp only [Act.put, List.setIfInBounds_toArray, List.set_cons_zero, List.set_cons_succ, i64_w, i32_w]
                        rfl
                      refine one_ (i := 10) (N := some 49) #[true, true, true, true, true, true, true, true, true, true, true, false, false, false, false, false, false, false, false, false, false, false, false, false, false, false, false, false] rfl rfl (one_of HT_.out (by kernel_rfl)) (by decide) (fun K hK => ?_)
                      refine ge Try.func17 #[.agg #[.int .i64 t251, .int .u64 t252, .int .u64 t253, .int .u64 t254, .int .u64 t255], .agg #[.int .u64 0, .int .u64 0, .int .u64 0], .int .u64 5] ?_
                      with_reducible refine (policy_Left.calls kj14 t251 t252 t253 t254 t255 0 0 0 5 t256 _ A31.out).mono ?_
                      rintro e w44 ⟨rfl, hb⟩
                      refine ⟨_, rfl, ?_⟩
                      have n0_ := bb BK228 hb
                      have n1_ := bs HB hb
                      clear BK228
                      clear HB
                      have BK228 := n0_
                      have HB := n1_
                      clear n0_ n1_
                      (try clear hb)
                      (try clear hb2)
                      (try clear hk)
                      (try clear hi)
                      refine hK.out _ _ ⟨(blk_cell BK228.out 0).trans rfl, (blk_cell BK228.out 1).trans rfl, (blk_cell BK228.out 2).trans rfl⟩ (fun hHeld => ?_)
                      clear hK K
                      refine norm_ (a' := ?_) ?_ ?_
                      rotate_left
                      · show Act.put _ (some 49) _ = _
                        simp only [Act.put, List.setIfInBounds_toArray, List.set_cons_zero, List.set_cons_succ, i64_w, i32_w]
                        rfl
                      refine chain_ (fuel := 12) [(11, 0, some 50), (12, 0, some 51), (13, 0, some 52), (16, 0, some 55), (15, 1, some 54)] #[true, true, true, true, true, true, true, true, true, true, true, true, true, true, false, true, true, false, false, false, false, false, false, false, false, false, false, false] HT_.out HW_.out (by kernel_rfl) (fun _ _ _ _ _ h => h) (Or.inr hHeld) rfl ?_
                      (iterate 4 refine lkP ?_); refine lkT ?_; refine .nil ?_
                      refine one_ (i := 14) (N := some 53) #[true, true, true, true, true, true, true, true, true, true, true, true, true, true, true, true, true, false, false, false, false, false, false, false, false, false, false, false] rfl rfl (one_of HT_.out (by kernel_rfl)) (by decide) (fun K hK => ?_)
                      refine ge Try.func40 #[] ?_
                      with_reducible refine (turnstilelaw06_grid.calls  t257 t258 t259 t260 t261 _ A33.out).mono ?_
                      rintro e w45 ⟨rfl, hb⟩
                      refine ⟨_, rfl, ?_⟩
                      have n0_ := bb BK228 hb
                      have n1_ := bs HB hb
                      clear BK228
                      clear HB
                      have BK228 := n0_
                      have HB := n1_
                      clear n0_ n1_
                      (try clear hb)
                      (try clear hb2)
                      (try clear hk)
                      (try clear hi)
                      refine hK.out _ _ ⟨(blk_cell BK228.out 0).trans rfl, (blk_cell BK228.out 1).trans rfl, (blk_cell BK228.out 2).trans rfl⟩ (fun hHeld => ?_)
                      clear hK K
                      refine norm_ (a' := ?_) ?_ ?_
                      rotate_left
                      · show Act.put _ (some 53) _ = _
                        simp only [Act.put, List.setIfInBounds_toArray, List.set_cons_zero, List.set_cons_succ, i64_w, i32_w]
                        rfl
                      refine one_ (i := 17) (N := some 56) #[true, true, true, true, true, true, true, true, true, true, true, true, true, true, true, true, true, true, false, false, false, false, false, false, false, false, false, false] rfl rfl (one_of HT_.out (by kernel_rfl)) (by decide) (fun K hK => ?_)
                      refine ge Try.func27 #[.agg #[.int .i64 t257, .int .u64 t258, .int .u64 t259, .int .u64 t260, .int .u64 t261], .agg #[.int .u64 t234, .int .u64 t235, .int .u64 t236], .agg #[.int .u64 0, .int .u64 1, .int .u64 9]] ?_
                      with_reducible refine (policy_Covers.calls t257 t258 t259 t260 t261 t234 t235 t236 0 1 9 true _ A34.out).mono ?_
                      rintro e w46 ⟨rfl, hb⟩
                      refine ⟨_, rfl, ?_⟩
                      have n0_ := bb BK228 hb
                      have n1_ := bs HB hb
                      clear BK228
                      clear HB
                      have BK228 := n0_
                      have HB := n1_
                      clear n0_ n1_
                      (try clear hb)
                      (try clear hb2)
                      (try clear hk)
                      (try clear hi)
                      refine hK.out _ _ ⟨(blk_cell BK228.out 0).trans rfl, (blk_cell BK228.out 1).trans rfl, (blk_cell BK228.out 2).trans rfl⟩ (fun hHeld => ?_)
                      clear hK K
                      refine norm_ (a' := ?_) ?_ ?_
                      rotate_left
                      · show Act.put _ (some 56) _ = _
                        simp only [Act.put, List.setIfInBounds_toArray, List.set_cons_zero, List.set_cons_succ, i64_w, i32_w]
                        rfl
                      refine chain_ (fuel := 5) [(18, 0, some 57), (19, 0, some 58), (21, 0, some 60), (22, 0, some 61), (24, 0, some 63)] #[true, true, true, true, true, true, true, true, true, true, true, true, true, true, true, true, true, true, true, true, false, true, true, false, true, false, false, false] HT_.out HW_.out (by kernel_rfl) (fun _ _ _ _ _ h => h) (Or.inl (by decide)) rfl ?_
                      (iterate 5 refine lkP ?_); refine .nil ?_
                      refine one_ (i := 20) (N := some 59) #[true, true, true, true, true, true, true, true, true, true, true, true, true, true, true, true, true, true, true, true, true, true, true, false, true, false, false, false] rfl rfl (one_of HT_.out (by kernel_rfl)) (by decide) (fun K hK => ?_)
                      refine ge Try.func39 #[] ?_
                      with_reducible refine (turnstilelaw06_flow.calls  t263 t264 t265 t266 t267 _ A36.out).mono ?_
                      rintro e w47 ⟨rfl, hb⟩
                      refine ⟨_, rfl, ?_⟩
                      have n0_ := bb BK228 hb
                      have n1_ := bs HB hb
                      clear BK228
                      clear HB
                      have BK228 := n0_
                      have HB := n1_
                      clear n0_ n1_
                      (try clear hb)
                      (try clear hb2)
                      (try clear hk)
                      (try clear hi)
                      refine hK.out _ _ ⟨(blk_cell BK228.out 0).trans rfl, (blk_cell BK228.out 1).trans rfl, (blk_cell BK228.out 2).trans rfl⟩ (fun hHeld => ?_)
                      clear hK K
                      refine norm_ (a' := ?_) ?_ ?_
                      rotate_left
                      · show Act.put _ (some 59) _ = _
                        simp only [Act.put, List.setIfInBounds_toArray, List.set_cons_zero, List.set_cons_succ, i64_w, i32_w]
                        rfl
                      refine one_ (i := 23) (N := some 62) #[true, true, true, true, true, true, true, true, true, true, true, true, true, true, true, true, true, true, true, true, true, true, true, true, true, false, false, false] rfl rfl (one_of HT_.out (by kernel_rfl)) (by decide) (fun K hK => ?_)
                      refine ge Try.func26 #[.agg #[.int .i64 t263, .int .u64 t264, .int .u64 t265, .int .u64 t266, .int .u64 t267], .agg #[.int .u64 3, .int .u64 0, .int .u64 0], .agg #[.int .u64 5, .int .u64 0, .int .u64 0]] ?_
                      with_reducible refine (policy_Max.calls t263 t264 t265 t266 t267 3 0 0 5 0 0 t268 t269 t270 _ A37.out).mono ?_
                      rintro e w48 ⟨rfl, hb⟩
                      refine ⟨_, rfl, ?_⟩
                      have n0_ := bb BK228 hb
                      have n1_ := bs HB hb
                      clear BK228
                      clear HB
                      have BK228 := n0_
                      have HB := n1_
                      clear n0_ n1_
                      (try clear hb)
                      (try clear hb2)
                      (try clear hk)
                      (try clear hi)
                      refine hK.out _ _ ⟨(blk_cell BK228.out 0).trans rfl, (blk_cell BK228.out 1).trans rfl, (blk_cell BK228.out 2).trans rfl⟩ (fun hHeld => ?_)
                      clear hK K
                      refine norm_ (a' := ?_) ?_ ?_
                      rotate_left
                      · show Act.put _ (some 62) _ = _
                        simp only [Act.put, List.setIfInBounds_toArray, List.set_cons_zero, List.set_cons_succ, i64_w, i32_w]
                        rfl
                      refine chain_ (fuel := 0) [(25, 0, some 64), (26, 0, some 65), (27, 0, some 0)] #[true, true, true, true, true, true, true, true, true, true, true, true, true, true, true, true, true, true, true, true, true, true, true, true, true, true, true, true] HT_.out HW_.out (by kernel_rfl) (fun _ _ _ _ _ h => h) (Or.inl (by decide)) rfl ?_
                      (iterate 3 refine lkP ?_); refine .nil ?_
                      refine done_ (done_of HT_.out (by kernel_rfl)) ?_
                      try go_wp2
                      go_ret
                      exact ⟨re, bw HB⟩
                    · replace c35 := Bool.eq_false_iff.mpr c35
                      subst c35
                      have H1 : (some false) = some r := by rw [if_neg (show ¬ (false = true) by decide)] at H; exact H
                      clear H
                      have H := H1
                      clear H1
                      obtain rfl := Option.some.inj H
                      try go_wp2
                      have n0_ := Aside0.mk (blk_drew BK228.out)
                      have n1_ := Aside0.mk (below_drew1 HB.out)
                      clear BK228
                      clear HB
                      have BK228 := n0_
                      have HB := n1_
                      clear n0_ n1_
                      refine start_ (n := 28) (S := fun w' => w'.cell? ⟨gb228, 0, none⟩ = some (.int .u64 t234) ∧ w'.cell? ⟨gb228, 1, none⟩ = some (.int .u64 t235) ∧ w'.cell? ⟨gb228, 2, none⟩ = some (.int .u64 t236)) (ds := []) #[false, false, false, false, false, false, false, false, false, false, false, false, false, false, false, false, false, false, false, false, false, false, false, false, false, false, false, false] (by kernel_rfl) rfl rfl ⟨(blk_cell BK228.out 0).trans rfl, (blk_cell BK228.out 1).trans rfl, (blk_cell BK228.out 2).trans rfl⟩ (fun hHeld => ?_); refine with_tabW turnstilelaw06_awake.tab7 turnstilelaw06_awake.bits7 (fun HT_ HW_ => ?_)
                      generalize wc.drew = w49 at BK228 HB hHeld ⊢
                      refine one_ (i := 0) (N := some 39) #[true, false, false, false, false, false, false, false, false, false, false, false, false, false, false, false, false, false, false, false, false, false, false, false, false, false, false, false] rfl rfl (one_of HT_.out (by kernel_rfl)) (by decide) (fun K hK => ?_)
                      refine ge Try.func39 #[] ?_
                      with_reducible refine (turnstilelaw06_flow.calls  t239 t240 t241 t242 t243 _ A24.out).mono ?_
                      rintro e w50 ⟨rfl, hb⟩
                      refine ⟨_, rfl, ?_⟩
                      have n0_ := bb BK228 hb
                      have n1_ := bs HB hb
                      clear BK228
                      clear HB
                      have BK228 := n0_
                      have HB := n1_
                      clear n0_ n1_
                      (try clear hb)
                      (try clear hb2)
                      (try clear hk)
                      (try clear hi)
                      refine hK.out _ _ ⟨(blk_cell BK228.out 0).trans rfl, (blk_cell BK228.out 1).trans rfl, (blk_cell BK228.out 2).trans rfl⟩ (fun hHeld => ?_)
                      clear hK K
                      refine norm_ (a' := ?_) ?_ ?_
                      rotate_left
                      · show Act.put _ (some 39) _ = _
                        simp only [Act.put, List.setIfInBounds_toArray, List.set_cons_zero, List.set_cons_succ, i64_w, i32_w]
                        rfl
                      refine one_ (i := 1) (N := some 40) #[true, true, false, false, false, false, false, false, false, false, false, false, false, false, false, false, false, false, false, false, false, false, false, false, false, false, false, false] rfl rfl (one_of HT_.out (by kernel_rfl)) (by decide) (fun K hK => ?_)
                      refine ge Try.func18 #[.agg #[.int .i64 t239, .int .u64 t240, .int .u64 t241, .int .u64 t242, .int .u64 t243]] ?_
                      with_reducible refine (policy_Valid.calls t239 t240 t241 t242 t243 true _ A25.out).mono ?_
                      rintro e w51 ⟨rfl, hb⟩
                      refine ⟨_, rfl, ?_⟩
                      have n0_ := bb BK228 hb
                      have n1_ := bs HB hb
                      clear BK228
                      clear HB
                      have BK228 := n0_
                      have HB := n1_
                      clear n0_ n1_
                      (try clear hb)
                      (try clear hb2)
                      (try clear hk)
                      (try clear hi)
                      refine hK.out _ _ ⟨(blk_cell BK228.out 0).trans rfl, (blk_cell BK228.out 1).trans rfl, (blk_cell BK228.out 2).trans rfl⟩ (fun hHeld => ?_)
                      clear hK K
                      refine norm_ (a' := ?_) ?_ ?_
                      rotate_left
                      · show Act.put _ (some 40) _ = _
                        simp only [Act.put, List.setIfInBounds_toArray, List.set_cons_zero, List.set_cons_succ, i64_w, i32_w]
                        rfl
                      refine chain_ (fuel := 24) [(2, 0, some 41), (4, 1, some 43)] #[true, true, true, false, true, false, false, false, false, false, false, false, false, false, false, false, false, false, false, false, false, false, false, false, false, false, false, false] HT_.out HW_.out (by kernel_rfl) (fun _ _ _ _ _ h => h) (Or.inr hHeld) rfl ?_
                      refine lkP ?_; refine lkT ?_; refine .nil ?_
                      refine one_ (i := 3) (N := some 42) #[true, true, true, true, true, false, false, false, false, false, false, false, false, false, false, false, false, false, false, false, false, false, false, false, false, false, false, false] rfl rfl (one_of HT_.out (by kernel_rfl)) (by decide) (fun K hK => ?_)
                      refine ge Try.func40 #[] ?_
                      with_reducible refine (turnstilelaw06_grid.calls  t245 t246 t247 t248 t249 _ A27.out).mono ?_
                      rintro e w52 ⟨rfl, hb⟩
                      refine ⟨_, rfl, ?_⟩
                      have n0_ := bb BK228 hb
                      have n1_ := bs HB hb
                      clear BK228
                      clear HB
                      have BK228 := n0_
                      have HB := n1_
                      clear n0_ n1_
                      (try clear hb)
                      (try clear hb2)
                      (try clear hk)
                      (try clear hi)
                      refine hK.out _ _ ⟨(blk_cell BK228.out 0).trans rfl, (blk_cell BK228.out 1).trans rfl, (blk_cell BK228.out 2).trans rfl⟩ (fun hHeld => ?_)
                      clear hK K
                      refine norm_ (a' := ?_) ?_ ?_
                      rotate_left
                      · show Act.put _ (some 42) _ = _
                        simp only [Act.put, List.setIfInBounds_toArray, List.set_cons_zero, List.set_cons_succ, i64_w, i32_w]
                        rfl
                      refine one_ (i := 5) (N := some 44) #[true, true, true, true, true, true, false, false, false, false, false, false, false, false, false, false, false, false, false, false, false, false, false, false, false, false, false, false] rfl rfl (one_of HT_.out (by kernel_rfl)) (by decide) (fun K hK => ?_)
                      refine ge Try.func25 #[.agg #[.int .i64 t245, .int .u64 t246, .int .u64 t247, .int .u64 t248, .int .u64 t249], .agg #[.int .u64 t234, .int .u64 t235, .int .u64 t236]] ?_
                      with_reducible refine (policy_Fits.calls t245 t246 t247 t248 t249 t234 t235 t236 true _ A28.out).mono ?_
                      rintro e w53 ⟨rfl, hb⟩
                      refine ⟨_, rfl, ?_⟩
                      have n0_ := bb BK228 hb
                      have n1_ := bs HB hb
                      clear BK228
                      clear HB
                      have BK228 := n0_
                      have HB := n1_
                      clear n0_ n1_
                      (try clear hb)
                      (try clear hb2)
                      (try clear hk)
                      (try clear hi)
                      refine hK.out _ _ ⟨(blk_cell BK228.out 0).trans rfl, (blk_cell BK228.out 1).trans rfl, (blk_cell BK228.out 2).trans rfl⟩ (fun hHeld => ?_)
                      clear hK K
                      refine norm_ (a' := ?_) ?_ ?_
                      rotate_left
                      · show Act.put _ (some 44) _ = _
                        simp only [Act.put, List.setIfInBounds_toArray, List.set_cons_zero, List.set_cons_succ, i64_w, i32_w]
                        rfl
                      refine chain_ (fuel := 19) [(6, 0, some 45), (7, 0, some 46), (9, 0, some 48)] #[true, true, true, true, true, true, true, true, false, true, false, false, false, false, false, false, false, false, false, false, false, false, false, false, false, false, false, false] HT_.out HW_.out (by kernel_rfl) (fun _ _ _ _ _ h => h) (Or.inl (by decide)) rfl ?_
                      (iterate 3 refine lkP ?_); refine .nil ?_
                      refine one_ (i := 8) (N := some 47) #[true, true, true, true, true, true, true, true, true, true, false, false, false, false, false, false, false, false, false, false, false, false, false, false, false, false, false, false] rfl rfl (one_of HT_.out (by kernel_rfl)) (by decide) (fun K hK => ?_)
                      refine ge Try.func39 #[] ?_
                      with_reducible refine (turnstilelaw06_flow.calls  t251 t252 t253 t254 t255 _ A30.out).mono ?_
                      rintro e w54 ⟨rfl, hb⟩
                      refine ⟨_, rfl, ?_⟩
                      have n0_ := bb BK228 hb
                      have n1_ := bs HB hb
                      clear BK228
                      clear HB
                      have BK228 := n0_
                      have HB := n1_
                      clear n0_ n1_
                      (try clear hb)
                      (try clear hb2)
                      (try clear hk)
                      (try clear hi)
                      refine hK.out _ _ ⟨(blk_cell BK228.out 0).trans rfl, (blk_cell BK228.out 1).trans rfl, (blk_cell BK228.out 2).trans rfl⟩ (fun hHeld => ?_)
                      clear hK K
                      refine norm_ (a' := ?_) ?_ ?_
                      rotate_left
                      · show Act.put _ (some 47) _ = _
                        simp only [Act.put, List.setIfInBounds_toArray, List.set_cons_zero, List.set_cons_succ, i64_w, i32_w]
                        rfl
                      refine one_ (i := 10) (N := some 49) #[true, true, true, true, true, true, true, true, true, true, true, false, false, false, false, false, false, false, false, false, false, false, false, false, false, false, false, false] rfl rfl (one_of HT_.out (by kernel_rfl)) (by decide) (fun K hK => ?_)
                      refine ge Try.func17 #[.agg #[.int .i64 t251, .int .u64 t252, .int .u64 t253, .int .u64 t254, .int .u64 t255], .agg #[.int .u64 0, .int .u64 0, .int .u64 0], .int .u64 5] ?_
                      with_reducible refine (policy_Left.calls kj14 t251 t252 t253 t254 t255 0 0 0 5 t256 _ A31.out).mono ?_
                      rintro e w55 ⟨rfl, hb⟩
                      refine ⟨_, rfl, ?_⟩
                      have n0_ := bb BK228 hb
                      have n1_ := bs HB hb
                      clear BK228
                      clear HB
                      have BK228 := n0_
                      have HB := n1_
                      clear n0_ n1_
                      (try clear hb)
                      (try clear hb2)
                      (try clear hk)
                      (try clear hi)
                      refine hK.out _ _ ⟨(blk_cell BK228.out 0).trans rfl, (blk_cell BK228.out 1).trans rfl, (blk_cell BK228.out 2).trans rfl⟩ (fun hHeld => ?_)
                      clear hK K
                      refine norm_ (a' := ?_) ?_ ?_
                      rotate_left
                      · show Act.put _ (some 49) _ = _
                        simp only [Act.put, List.setIfInBounds_toArray, List.set_cons_zero, List.set_cons_succ, i64_w, i32_w]
                        rfl
                      refine chain_ (fuel := 12) [(11, 0, some 50), (12, 0, some 51), (13, 0, some 52), (16, 0, some 55), (15, 1, some 54)] #[true, true, true, true, true, true, true, true, true, true, true, true, true, true, false, true, true, false, false, false, false, false, false, false, false, false, false, false] HT_.out HW_.out (by kernel_rfl) (fun _ _ _ _ _ h => h) (Or.inr hHeld) rfl ?_
                      (iterate 4 refine lkP ?_); refine lkT ?_; refine .nil ?_
                      refine one_ (i := 14) (N := some 53) #[true, true, true, true, true, true, true, true, true, true, true, true, true, true, true, true, true, false, false, false, false, false, false, false, false, false, false, false] rfl rfl (one_of HT_.out (by kernel_rfl)) (by decide) (fun K hK => ?_)
                      refine ge Try.func40 #[] ?_
                      with_reducible refine (turnstilelaw06_grid.calls  t257 t258 t259 t260 t261 _ A33.out).mono ?_
                      rintro e w56 ⟨rfl, hb⟩
                      refine ⟨_, rfl, ?_⟩
                      have n0_ := bb BK228 hb
                      have n1_ := bs HB hb
                      clear BK228
                      clear HB
                      have BK228 := n0_
                      have HB := n1_
                      clear n0_ n1_
                      (try clear hb)
                      (try clear hb2)
                      (try clear hk)
                      (try clear hi)
                      refine hK.out _ _ ⟨(blk_cell BK228.out 0).trans rfl, (blk_cell BK228.out 1).trans rfl, (blk_cell BK228.out 2).trans rfl⟩ (fun hHeld => ?_)
                      clear hK K
                      refine norm_ (a' := ?_) ?_ ?_
                      rotate_left
                      · show Act.put _ (some 53) _ = _
                        simp only [Act.put, List.setIfInBounds_toArray, List.set_cons_zero, List.set_cons_succ, i64_w, i32_w]
                        rfl
                      refine one_ (i := 17) (N := some 56) #[true, true, true, true, true, true, true, true, true, true, true, true, true, true, true, true, true, true, false, false, false, false, false, false, false, false, false, false] rfl rfl (one_of HT_.out (by kernel_rfl)) (by decide) (fun K hK => ?_)
                      refine ge Try.func27 #[.agg #[.int .i64 t257, .int .u64 t258, .int .u64 t259, .int .u64 t260, .int .u64 t261], .agg #[.int .u64 t234, .int .u64 t235, .int .u64 t236], .agg #[.int .u64 0, .int .u64 1, .int .u64 9]] ?_
                      with_reducible refine (policy_Covers.calls t257 t258 t259 t260 t261 t234 t235 t236 0 1 9 false _ A34.out).mono ?_
                      rintro e w57 ⟨rfl, hb⟩
                      refine ⟨_, rfl, ?_⟩
                      have n0_ := bb BK228 hb
                      have n1_ := bs HB hb
                      clear BK228
                      clear HB
                      have BK228 := n0_
                      have HB := n1_
                      clear n0_ n1_
                      (try clear hb)
                      (try clear hb2)
                      (try clear hk)
                      (try clear hi)
                      refine hK.out _ _ ⟨(blk_cell BK228.out 0).trans rfl, (blk_cell BK228.out 1).trans rfl, (blk_cell BK228.out 2).trans rfl⟩ (fun hHeld => ?_)
                      clear hK K
                      refine norm_ (a' := ?_) ?_ ?_
                      rotate_left
                      · show Act.put _ (some 56) _ = _
                        simp only [Act.put, List.setIfInBounds_toArray, List.set_cons_zero, List.set_cons_succ, i64_w, i32_w]
                        rfl
                      refine chain_ (fuel := 0) [(18, 0, some 57), (19, 0, some 58), (20, 2, some 59), (21, 2, some 60), (22, 2, some 61), (23, 2, some 62), (24, 2, some 63), (25, 2, some 64), (26, 0, some 65), (27, 0, some 0)] #[true, true, true, true, true, true, true, true, true, true, true, true, true, true, true, true, true, true, true, true, true, true, true, true, true, true, true, true] HT_.out HW_.out (by kernel_rfl) (fun _ _ _ _ _ h => h) (Or.inl (by decide)) rfl ?_
                      (iterate 2 refine lkP ?_); (iterate 6 refine lkO ?_); (iterate 2 refine lkP ?_); refine .nil ?_
                      refine done_ (done_of HT_.out (by kernel_rfl)) ?_
                      try go_wp2
                      go_ret
                      exact ⟨re, bw HB⟩
                  · rw [if_neg c32] at H
                    have c32b0 : (t256 == 3) = false := beq_eq_false_iff_ne.mpr c32
                    have c32b1 : (t256 != 3) = true := bne_iff_ne.mpr c32
                    obtain rfl := Option.some.inj H
                    try go_wp2
                    have n0_ := Aside0.mk (blk_drew BK228.out)
                    have n1_ := Aside0.mk (below_drew1 HB.out)
                    clear BK228
                    clear HB
                    have BK228 := n0_
                    have HB := n1_
                    clear n0_ n1_
                    refine start_ (n := 28) (S := fun w' => w'.cell? ⟨gb228, 0, none⟩ = some (.int .u64 t234) ∧ w'.cell? ⟨gb228, 1, none⟩ = some (.int .u64 t235) ∧ w'.cell? ⟨gb228, 2, none⟩ = some (.int .u64 t236)) (ds := []) #[false, false, false, false, false, false, false, false, false, false, false, false, false, false, false, false, false, false, false, false, false, false, false, false, false, false, false, false] (by kernel_rfl) rfl rfl ⟨(blk_cell BK228.out 0).trans rfl, (blk_cell BK228.out 1).trans rfl, (blk_cell BK228.out 2).trans rfl⟩ (fun hHeld => ?_); refine with_tabW turnstilelaw06_awake.tab7 turnstilelaw06_awake.bits7 (fun HT_ HW_ => ?_)
                    generalize wc.drew = w58 at BK228 HB hHeld ⊢
                    refine one_ (i := 0) (N := some 39) #[true, false, false, false, false, false, false, false, false, false, false, false, false, false, false, false, false, false, false, false, false, false, false, false, false, false, false, false] rfl rfl (one_of HT_.out (by kernel_rfl)) (by decide) (fun K hK => ?_)
                    refine ge Try.func39 #[] ?_
                    with_reducible refine (turnstilelaw06_flow.calls  t239 t240 t241 t242 t243 _ A24.out).mono ?_
                    rintro e w59 ⟨rfl, hb⟩
                    refine ⟨_, rfl, ?_⟩
                    have n0_ := bb BK228 hb
                    have n1_ := bs HB hb
                    clear BK228
                    clear HB
                    have BK228 := n0_
                    have HB := n1_
                    clear n0_ n1_
                    (try clear hb)
                    (try clear hb2)
                    (try clear hk)
                    (try clear hi)
                    refine hK.out _ _ ⟨(blk_cell BK228.out 0).trans rfl, (blk_cell BK228.out 1).trans rfl, (blk_cell BK228.out 2).trans rfl⟩ (fun hHeld => ?_)
                    clear hK K
                    refine norm_ (a' := ?_) ?_ ?_
                    rotate_left
                    · show Act.put _ (some 39) _ = _
                      simp only [Act.put, List.setIfInBounds_toArray, List.set_cons_zero, List.set_cons_succ, i64_w, i32_w]
                      rfl
                    refine one_ (i := 1) (N := some 40) #[true, true, false, false, false, false, false, false, false, false, false, false, false, false, false, false, false, false, false, false, false, false, false, false, false, false, false, false] rfl rfl (one_of HT_.out (by kernel_rfl)) (by decide) (fun K hK => ?_)
                    refine ge Try.func18 #[.agg #[.int .i64 t239, .int .u64 t240, .int .u64 t241, .int .u64 t242, .int .u64 t243]] ?_
                    with_reducible refine (policy_Valid.calls t239 t240 t241 t242 t243 true _ A25.out).mono ?_
                    rintro e w60 ⟨rfl, hb⟩
                    refine ⟨_, rfl, ?_⟩
                    have n0_ := bb BK228 hb
                    have n1_ := bs HB hb
                    clear BK228
                    clear HB
                    have BK228 := n0_
                    have HB := n1_
                    clear n0_ n1_
                    (try clear hb)
                    (try clear hb2)
                    (try clear hk)
                    (try clear hi)
                    refine hK.out _ _ ⟨(blk_cell BK228.out 0).trans rfl, (blk_cell BK228.out 1).trans rfl, (blk_cell BK228.out 2).trans rfl⟩ (fun hHeld => ?_)
                    clear hK K
                    refine norm_ (a' := ?_) ?_ ?_
                    rotate_left
                    · show Act.put _ (some 40) _ = _
                      simp only [Act.put, List.setIfInBounds_toArray, List.set_cons_zero, List.set_cons_succ, i64_w, i32_w]
                      rfl
                    refine chain_ (fuel := 24) [(2, 0, some 41), (4, 1, some 43)] #[true, true, true, false, true, false, false, false, false, false, false, false, false, false, false, false, false, false, false, false, false, false, false, false, false, false, false, false] HT_.out HW_.out (by kernel_rfl) (fun _ _ _ _ _ h => h) (Or.inr hHeld) rfl ?_
                    refine lkP ?_; refine lkT ?_; refine .nil ?_
                    refine one_ (i := 3) (N := some 42) #[true, true, true, true, true, false, false, false, false, false, false, false, false, false, false, false, false, false, false, false, false, false, false, false, false, false, false, false] rfl rfl (one_of HT_.out (by kernel_rfl)) (by decide) (fun K hK => ?_)
                    refine ge Try.func40 #[] ?_
                    with_reducible refine (turnstilelaw06_grid.calls  t245 t246 t247 t248 t249 _ A27.out).mono ?_
                    rintro e w61 ⟨rfl, hb⟩
                    refine ⟨_, rfl, ?_⟩
                    have n0_ := bb BK228 hb
                    have n1_ := bs HB hb
                    clear BK228
                    clear HB
                    have BK228 := n0_
                    have HB := n1_
                    clear n0_ n1_
                    (try clear hb)
                    (try clear hb2)
                    (try clear hk)
                    (try clear hi)
                    refine hK.out _ _ ⟨(blk_cell BK228.out 0).trans rfl, (blk_cell BK228.out 1).trans rfl, (blk_cell BK228.out 2).trans rfl⟩ (fun hHeld => ?_)
                    clear hK K
                    refine norm_ (a' := ?_) ?_ ?_
                    rotate_left
                    · show Act.put _ (some 42) _ = _
                      simp only [Act.put, List.setIfInBounds_toArray, List.set_cons_zero, List.set_cons_succ, i64_w, i32_w]
                      rfl
                    refine one_ (i := 5) (N := some 44) #[true, true, true, true, true, true, false, false, false, false, false, false, false, false, false, false, false, false, false, false, false, false, false, false, false, false, false, false] rfl rfl (one_of HT_.out (by kernel_rfl)) (by decide) (fun K hK => ?_)
                    refine ge Try.func25 #[.agg #[.int .i64 t245, .int .u64 t246, .int .u64 t247, .int .u64 t248, .int .u64 t249], .agg #[.int .u64 t234, .int .u64 t235, .int .u64 t236]] ?_
                    with_reducible refine (policy_Fits.calls t245 t246 t247 t248 t249 t234 t235 t236 true _ A28.out).mono ?_
                    rintro e w62 ⟨rfl, hb⟩
                    refine ⟨_, rfl, ?_⟩
                    have n0_ := bb BK228 hb
                    have n1_ := bs HB hb
                    clear BK228
                    clear HB
                    have BK228 := n0_
                    have HB := n1_
                    clear n0_ n1_
                    (try clear hb)
                    (try clear hb2)
                    (try clear hk)
                    (try clear hi)
                    refine hK.out _ _ ⟨(blk_cell BK228.out 0).trans rfl, (blk_cell BK228.out 1).trans rfl, (blk_cell BK228.out 2).trans rfl⟩ (fun hHeld => ?_)
                    clear hK K
                    refine norm_ (a' := ?_) ?_ ?_
                    rotate_left
                    · show Act.put _ (some 44) _ = _
                      simp only [Act.put, List.setIfInBounds_toArray, List.set_cons_zero, List.set_cons_succ, i64_w, i32_w]
                      rfl
                    refine chain_ (fuel := 19) [(6, 0, some 45), (7, 0, some 46), (9, 0, some 48)] #[true, true, true, true, true, true, true, true, false, true, false, false, false, false, false, false, false, false, false, false, false, false, false, false, false, false, false, false] HT_.out HW_.out (by kernel_rfl) (fun _ _ _ _ _ h => h) (Or.inl (by decide)) rfl ?_
                    (iterate 3 refine lkP ?_); refine .nil ?_
                    refine one_ (i := 8) (N := some 47) #[true, true, true, true, true, true, true, true, true, true, false, false, false, false, false, false, false, false, false, false, false, false, false, false, false, false, false, false] rfl rfl (one_of HT_.out (by kernel_rfl)) (by decide) (fun K hK => ?_)
                    refine ge Try.func39 #[] ?_
                    with_reducible refine (turnstilelaw06_flow.calls  t251 t252 t253 t254 t255 _ A30.out).mono ?_
                    rintro e w63 ⟨rfl, hb⟩
                    refine ⟨_, rfl, ?_⟩
                    have n0_ := bb BK228 hb
                    have n1_ := bs HB hb
                    clear BK228
                    clear HB
                    have BK228 := n0_
                    have HB := n1_
                    clear n0_ n1_
                    (try clear hb)
                    (try clear hb2)
                    (try clear hk)
                    (try clear hi)
                    refine hK.out _ _ ⟨(blk_cell BK228.out 0).trans rfl, (blk_cell BK228.out 1).trans rfl, (blk_cell BK228.out 2).trans rfl⟩ (fun hHeld => ?_)
                    clear hK K
                    refine norm_ (a' := ?_) ?_ ?_
                    rotate_left
                    · show Act.put _ (some 47) _ = _
                      simp only [Act.put, List.setIfInBounds_toArray, List.set_cons_zero, List.set_cons_succ, i64_w, i32_w]
                      rfl
                    refine one_ (i := 10) (N := some 49) #[true, true, true, true, true, true, true, true, true, true, true, false, false, false, false, false, false, false, false, false, false, false, false, false, false, false, false, false] rfl rfl (one_of HT_.out (by kernel_rfl)) (by decide) (fun K hK => ?_)
                    refine ge Try.func17 #[.agg #[.int .i64 t251, .int .u64 t252, .int .u64 t253, .int .u64 t254, .int .u64 t255], .agg #[.int .u64 0, .int .u64 0, .int .u64 0], .int .u64 5] ?_
                    with_reducible refine (policy_Left.calls kj14 t251 t252 t253 t254 t255 0 0 0 5 t256 _ A31.out).mono ?_
                    rintro e w64 ⟨rfl, hb⟩
                    refine ⟨_, rfl, ?_⟩
                    have n0_ := bb BK228 hb
                    have n1_ := bs HB hb
                    clear BK228
                    clear HB
                    have BK228 := n0_
                    have HB := n1_
                    clear n0_ n1_
                    (try clear hb)
                    (try clear hb2)
                    (try clear hk)
                    (try clear hi)
                    refine hK.out _ _ ⟨(blk_cell BK228.out 0).trans rfl, (blk_cell BK228.out 1).trans rfl, (blk_cell BK228.out 2).trans rfl⟩ (fun hHeld => ?_)
                    clear hK K
                    refine norm_ (a' := ?_) ?_ ?_
                    rotate_left
                    · show Act.put _ (some 49) _ = _
                      simp only [Act.put, List.setIfInBounds_toArray, List.set_cons_zero, List.set_cons_succ, i64_w, i32_w]
                      rfl
                    refine chain_ (fuel := 0) [(11, 0, some 50), (12, 0, some 51), (13, 0, some 52), (14, 2, some 53), (15, 2, some 54), (16, 2, some 55), (17, 2, some 56), (18, 0, some 57), (19, 0, some 58), (20, 2, some 59), (21, 2, some 60), (22, 2, some 61), (23, 2, some 62), (24, 2, some 63), (25, 2, some 64), (26, 0, some 65), (27, 0, some 0)] #[true, true, true, true, true, true, true, true, true, true, true, true, true, true, true, true, true, true, true, true, true, true, true, true, true, true, true, true] HT_.out HW_.out (by kernel_rfl) (fun _ _ _ _ _ h => h) (Or.inl (by decide)) rfl ?_
                    (iterate 3 refine lkP ?_); (iterate 4 refine lkO ?_); (iterate 2 refine lkP ?_); (iterate 6 refine lkO ?_); (iterate 2 refine lkP ?_); refine .nil ?_
                    refine done_ (done_of HT_.out (by kernel_rfl)) ?_
                    try go_wp2
                    go_ret
                    exact ⟨re, bw HB⟩
                · replace c29 := Bool.eq_false_iff.mpr c29
                  subst c29
                  have H1 : (some false) = some r := by rw [if_neg (show ¬ (false = true) by decide)] at H; exact H
                  clear H
                  have H := H1
                  clear H1
                  obtain rfl := Option.some.inj H
                  try go_wp2
                  have n0_ := Aside0.mk (blk_drew BK228.out)
                  have n1_ := Aside0.mk (below_drew1 HB.out)
                  clear BK228
                  clear HB
                  have BK228 := n0_
                  have HB := n1_
                  clear n0_ n1_
                  refine start_ (n := 28) (S := fun w' => w'.cell? ⟨gb228, 0, none⟩ = some (.int .u64 t234) ∧ w'.cell? ⟨gb228, 1, none⟩ = some (.int .u64 t235) ∧ w'.cell? ⟨gb228, 2, none⟩ = some (.int .u64 t236)) (ds := []) #[false, false, false, false, false, false, false, false, false, false, false, false, false, false, false, false, false, false, false, false, false, false, false, false, false, false, false, false] (by kernel_rfl) rfl rfl ⟨(blk_cell BK228.out 0).trans rfl, (blk_cell BK228.out 1).trans rfl, (blk_cell BK228.out 2).trans rfl⟩ (fun hHeld => ?_); refine with_tabW turnstilelaw06_awake.tab7 turnstilelaw06_awake.bits7 (fun HT_ HW_ => ?_)
                  generalize wc.drew = w65 at BK228 HB hHeld ⊢
                  refine one_ (i := 0) (N := some 39) #[true, false, false, false, false, false, false, false, false, false, false, false, false, false, false, false, false, false, false, false, false, false, false, false, false, false, false, false] rfl rfl (one_of HT_.out (by kernel_rfl)) (by decide) (fun K hK => ?_)
                  refine ge Try.func39 #[] ?_
                  with_reducible refine (turnstilelaw06_flow.calls  t239 t240 t241 t242 t243 _ A24.out).mono ?_
                  rintro e w66 ⟨rfl, hb⟩
                  refine ⟨_, rfl, ?_⟩
                  have n0_ := bb BK228 hb
                  have n1_ := bs HB hb
                  clear BK228
                  clear HB
                  have BK228 := n0_
                  have HB := n1_
                  clear n0_ n1_
                  (try clear hb)
                  (try clear hb2)
                  (try clear hk)
                  (try clear hi)
                  refine hK.out _ _ ⟨(blk_cell BK228.out 0).trans rfl, (blk_cell BK228.out 1).trans rfl, (blk_cell BK228.out 2).trans rfl⟩ (fun hHeld => ?_)
                  clear hK K
                  refine norm_ (a' := ?_) ?_ ?_
                  rotate_left
                  · show Act.put _ (some 39) _ = _
                    simp only [Act.put, List.setIfInBounds_toArray, List.set_cons_zero, List.set_cons_succ, i64_w, i32_w]
                    rfl
                  refine one_ (i := 1) (N := some 40) #[true, true, false, false, false, false, false, false, false, false, false, false, false, false, false, false, false, false, false, false, false, false, false, false, false, false, false, false] rfl rfl (one_of HT_.out (by kernel_rfl)) (by decide) (fun K hK => ?_)
                  refine ge Try.func18 #[.agg #[.int .i64 t239, .int .u64 t240, .int .u64 t241, .int .u64 t242, .int .u64 t243]] ?_
                  with_reducible refine (policy_Valid.calls t239 t240 t241 t242 t243 true _ A25.out).mono ?_
                  rintro e w67 ⟨rfl, hb⟩
                  refine ⟨_, rfl, ?_⟩
                  have n0_ := bb BK228 hb
                  have n1_ := bs HB hb
                  clear BK228
                  clear HB
                  have BK228 := n0_
                  have HB := n1_
                  clear n0_ n1_
                  (try clear hb)
                  (try clear hb2)
                  (try clear hk)
                  (try clear hi)
                  refine hK.out _ _ ⟨(blk_cell BK228.out 0).trans rfl, (blk_cell BK228.out 1).trans rfl, (blk_cell BK228.out 2).trans rfl⟩ (fun hHeld => ?_)
                  clear hK K
                  refine norm_ (a' := ?_) ?_ ?_
                  rotate_left
                  · show Act.put _ (some 40) _ = _
                    simp only [Act.put, List.setIfInBounds_toArray, List.set_cons_zero, List.set_cons_succ, i64_w, i32_w]
                    rfl
                  refine chain_ (fuel := 24) [(2, 0, some 41), (4, 1, some 43)] #[true, true, true, false, true, false, false, false, false, false, false, false, false, false, false, false, false, false, false, false, false, false, false, false, false, false, false, false] HT_.out HW_.out (by kernel_rfl) (fun _ _ _ _ _ h => h) (Or.inr hHeld) rfl ?_
                  refine lkP ?_; refine lkT ?_; refine .nil ?_
                  refine one_ (i := 3) (N := some 42) #[true, true, true, true, true, false, false, false, false, false, false, false, false, false, false, false, false, false, false, false, false, false, false, false, false, false, false, false] rfl rfl (one_of HT_.out (by kernel_rfl)) (by decide) (fun K hK => ?_)
                  refine ge Try.func40 #[] ?_
                  with_reducible refine (turnstilelaw06_grid.calls  t245 t246 t247 t248 t249 _ A27.out).mono ?_
                  rintro e w68 ⟨rfl, hb⟩
                  refine ⟨_, rfl, ?_⟩
                  have n0_ := bb BK228 hb
                  have n1_ := bs HB hb
                  clear BK228
                  clear HB
                  have BK228 := n0_
                  have HB := n1_
                  clear n0_ n1_
                  (try clear hb)
                  (try clear hb2)
                  (try clear hk)
                  (try clear hi)
                  refine hK.out _ _ ⟨(blk_cell BK228.out 0).trans rfl, (blk_cell BK228.out 1).trans rfl, (blk_cell BK228.out 2).trans rfl⟩ (fun hHeld => ?_)
                  clear hK K
                  refine norm_ (a' := ?_) ?_ ?_
                  rotate_left
                  · show Act.put _ (some 42) _ = _
                    simp only [Act.put, List.setIfInBounds_toArray, List.set_cons_zero, List.set_cons_succ, i64_w, i32_w]
                    rfl
                  refine one_ (i := 5) (N := some 44) #[true, true, true, true, true, true, false, false, false, false, false, false, false, false, false, false, false, false, false, false, false, false, false, false, false, false, false, false] rfl rfl (one_of HT_.out (by kernel_rfl)) (by decide) (fun K hK => ?_)
                  refine ge Try.func25 #[.agg #[.int .i64 t245, .int .u64 t246, .int .u64 t247, .int .u64 t248, .int .u64 t249], .agg #[.int .u64 t234, .int .u64 t235, .int .u64 t236]] ?_
                  with_reducible refine (policy_Fits.calls t245 t246 t247 t248 t249 t234 t235 t236 false _ A28.out).mono ?_
                  rintro e w69 ⟨rfl, hb⟩
                  refine ⟨_, rfl, ?_⟩
                  have n0_ := bb BK228 hb
                  have n1_ := bs HB hb
                  clear BK228
                  clear HB
                  have BK228 := n0_
                  have HB := n1_
                  clear n0_ n1_
                  (try clear hb)
                  (try clear hb2)
                  (try clear hk)
                  (try clear hi)
                  refine hK.out _ _ ⟨(blk_cell BK228.out 0).trans rfl, (blk_cell BK228.out 1).trans rfl, (blk_cell BK228.out 2).trans rfl⟩ (fun hHeld => ?_)
                  clear hK K
                  refine norm_ (a' := ?_) ?_ ?_
                  rotate_left
                  · show Act.put _ (some 44) _ = _
                    simp only [Act.put, List.setIfInBounds_toArray, List.set_cons_zero, List.set_cons_succ, i64_w, i32_w]
                    rfl
                  refine chain_ (fuel := 0) [(6, 0, some 45), (7, 0, some 46), (8, 2, some 47), (9, 2, some 48), (10, 2, some 49), (11, 2, some 50), (12, 0, some 51), (13, 0, some 52), (14, 2, some 53), (15, 2, some 54), (16, 2, some 55), (17, 2, some 56), (18, 0, some 57), (19, 0, some 58), (20, 2, some 59), (21, 2, some 60), (22, 2, some 61), (23, 2, some 62), (24, 2, some 63), (25, 2, some 64), (26, 0, some 65), (27, 0, some 0)] #[true, true, true, true, true, true, true, true, true, true, true, true, true, true, true, true, true, true, true, true, true, true, true, true, true, true, true, true] HT_.out HW_.out (by kernel_rfl) (fun _ _ _ _ _ h => h) (Or.inl (by decide)) rfl ?_
                  (iterate 2 refine lkP ?_); (iterate 4 refine lkO ?_); (iterate 2 refine lkP ?_); (iterate 4 refine lkO ?_); (iterate 2 refine lkP ?_); (iterate 6 refine lkO ?_); (iterate 2 refine lkP ?_); refine .nil ?_
                  refine done_ (done_of HT_.out (by kernel_rfl)) ?_
                  try go_wp2
                  go_ret
                  exact ⟨re, bw HB⟩
              · replace c26 := Bool.eq_false_iff.mpr c26
                subst c26
                have H1 : (some false) = some r := by rw [if_neg (show ¬ (false = true) by decide)] at H; exact H
                clear H
                have H := H1
                clear H1
                obtain rfl := Option.some.inj H
                try go_wp2
                have n0_ := Aside0.mk (blk_drew BK228.out)
                have n1_ := Aside0.mk (below_drew1 HB.out)
                clear BK228
                clear HB
                have BK228 := n0_
                have HB := n1_
                clear n0_ n1_
                refine start_ (n := 28) (S := fun w' => True) (ds := []) #[false, false, false, false, false, false, false, false, false, false, false, false, false, false, false, false, false, false, false, false, false, false, false, false, false, false, false, false] (by kernel_rfl) rfl rfl trivial (fun hHeld => ?_); refine with_tabW turnstilelaw06_awake.tab7 turnstilelaw06_awake.bits7 (fun HT_ HW_ => ?_)
                generalize wc.drew = w70 at BK228 HB hHeld ⊢
                refine one_ (i := 0) (N := some 39) #[true, false, false, false, false, false, false, false, false, false, false, false, false, false, false, false, false, false, false, false, false, false, false, false, false, false, false, false] rfl rfl (one_of HT_.out (by kernel_rfl)) (by decide) (fun K hK => ?_)
                refine ge Try.func39 #[] ?_
                with_reducible refine (turnstilelaw06_flow.calls  t239 t240 t241 t242 t243 _ A24.out).mono ?_
                rintro e w71 ⟨rfl, hb⟩
                refine ⟨_, rfl, ?_⟩
                have n0_ := bb BK228 hb
                have n1_ := bs HB hb
                clear BK228
                clear HB
                have BK228 := n0_
                have HB := n1_
                clear n0_ n1_
                (try clear hb)
                (try clear hb2)
                (try clear hk)
                (try clear hi)
                refine hK.out _ _ trivial (fun hHeld => ?_)
                clear hK K
                refine norm_ (a' := ?_) ?_ ?_
                rotate_left
                · show Act.put _ (some 39) _ = _
                  simp only [Act.put, List.setIfInBounds_toArray, List.set_cons_zero, List.set_cons_succ, i64_w, i32_w]
                  rfl
                refine one_ (i := 1) (N := some 40) #[true, true, false, false, false, false, false, false, false, false, false, false, false, false, false, false, false, false, false, false, false, false, false, false, false, false, false, false] rfl rfl (one_of HT_.out (by kernel_rfl)) (by decide) (fun K hK => ?_)
                refine ge Try.func18 #[.agg #[.int .i64 t239, .int .u64 t240, .int .u64 t241, .int .u64 t242, .int .u64 t243]] ?_
                with_reducible refine (policy_Valid.calls t239 t240 t241 t242 t243 false _ A25.out).mono ?_
                rintro e w72 ⟨rfl, hb⟩
                refine ⟨_, rfl, ?_⟩
                have n0_ := bb BK228 hb
                have n1_ := bs HB hb
                clear BK228
                clear HB
                have BK228 := n0_
                have HB := n1_
                clear n0_ n1_
                (try clear hb)
                (try clear hb2)
                (try clear hk)
                (try clear hi)
                refine hK.out _ _ trivial (fun hHeld => ?_)
                clear hK K
                refine norm_ (a' := ?_) ?_ ?_
                rotate_left
                · show Act.put _ (some 40) _ = _
                  simp only [Act.put, List.setIfInBounds_toArray, List.set_cons_zero, List.set_cons_succ, i64_w, i32_w]
                  rfl
                refine chain_ (fuel := 0) [(2, 0, some 41), (3, 2, some 42), (4, 2, some 43), (5, 2, some 44), (6, 0, some 45), (7, 0, some 46), (8, 2, some 47), (9, 2, some 48), (10, 2, some 49), (11, 2, some 50), (12, 0, some 51), (13, 0, some 52), (14, 2, some 53), (15, 2, some 54), (16, 2, some 55), (17, 2, some 56), (18, 0, some 57), (19, 0, some 58), (20, 2, some 59), (21, 2, some 60), (22, 2, some 61), (23, 2, some 62), (24, 2, some 63), (25, 2, some 64), (26, 0, some 65), (27, 0, some 0)] #[true, true, true, true, true, true, true, true, true, true, true, true, true, true, true, true, true, true, true, true, true, true, true, true, true, true, true, true] HT_.out HW_.out (by kernel_rfl) (fun _ _ _ _ _ h => h) (Or.inl (by decide)) rfl ?_
                refine lkP ?_; (iterate 3 refine lkO ?_); (iterate 2 refine lkP ?_); (iterate 4 refine lkO ?_); (iterate 2 refine lkP ?_); (iterate 4 refine lkO ?_); (iterate 2 refine lkP ?_); (iterate 6 refine lkO ?_); (iterate 2 refine lkP ?_); refine .nil ?_
                refine done_ (done_of HT_.out (by kernel_rfl)) ?_
                try go_wp2
                go_ret
                exact ⟨re, bw HB⟩

end Go.Proofs.Ytokfhdpokemekaa.Q
