/- Written by the session's own program hyb.py: what functions of the program compute; Lean checks it. -/
import Derived.Test.YtokfhdpokemekaaQx0
import Derived.Test.YtokfhdpokemekaaQx23
import Derived.Test.YtokfhdpokemekaaQx24
namespace Go.Proofs.Ytokfhdpokemekaa.Q
open Go.RowKit Go.Proofs.YtokfhdpokemekaaW.PrintWords Go.Proofs.YtokfhdpokemekaaW.PrintLast Go.Proofs.YtokfhdpokemekaaW.PrintMore Go.Proofs.YtokfhdpokemekaaW.PrintShort
attribute [local go_sem] run_Add64 run_Sub64
attribute [local go_sem] max2_int min2_int max_two min_two max_three min_three max_four min_four   -- for this text's walks alone
set_option linter.unusedVariables false
set_option linter.unusedSimpArgs false

/-! ### turnstileref04_Admit: function 62 -/
def turnstileref04_Admit.f (k : Nat) (a0 : Int) (a1 : Int) (a2 : Int) (a3 : Int) (a4 : Int) : Option (Int × Bool) := (turnstileref04_fits.f k a0 a1 a2 a3 a4).bind fun t326 => (if t326 = true then ((turnstileref04_later.f a2 a3).bind fun t327 => ((turnstileref04_of.f t327).bind fun bt328 => ((turnstileref04_times.f a4 a0).bind fun bt330 => ((turnstileref04_plus.f bt328.1 bt328.2 bt330.1 bt330.2).bind fun bt332 => (some (bt332.2, true)))))) else (some (a2, false)))
theorem turnstileref04_Admit.mono : ∀ a0 a1 a2 a3 a4 k, LeO (turnstileref04_Admit.f k a0 a1 a2 a3 a4) (turnstileref04_Admit.f (k + 1) a0 a1 a2 a3 a4) := by
  intro a0 a1 a2 a3 a4 k
  unfold turnstileref04_Admit.f
  repeat' first
      | (with_reducible exact turnstileref04_fits.mono _ _ _ _ _ _)
      | (with_reducible exact LeO.refl _)
      | (with_reducible exact LeO.none _)
      | (with_reducible refine LeO.ite ?_ ?_)
      | (with_reducible refine LeO.bind ?_ (fun _ => ?_))
      | exact turnstileref04_fits.mono _ _ _ _ _ _
      | exact LeO.none _
      | refine LeO.ite ?_ ?_
      | refine LeO.bind ?_ (fun _ => ?_)
set_option maxHeartbeats 8000000 in
set_option maxRecDepth 100000 in
theorem turnstileref04_Admit.calls (k : Nat) (a0 : Int) (a1 : Int) (a2 : Int) (a3 : Int) (a4 : Int) (r1 : Int) (r2 : Bool) (w : World) (h : turnstileref04_Admit.f k a0 a1 a2 a3 a4 = some (r1, r2)) :
    Calls Try.prog 62 #[.int .u64 a0, .int .u64 a1, .int .u64 a2, .int .u64 a3, .int .u64 a4] w fun e w' => e = .returned (.tuple #[.int .u64 r1, .bool r2]) ∧ Below w.heap.size w w' := by
  have hu104 := Try.underlying104
  have HB := Aside0.mk (Below.refl w.heap.size w)
  have H : ((turnstileref04_fits.f k a0 a1 a2 a3 a4).bind fun t326 => (if t326 = true then ((turnstileref04_later.f a2 a3).bind fun t327 => ((turnstileref04_of.f t327).bind fun bt328 => ((turnstileref04_times.f a4 a0).bind fun bt330 => ((turnstileref04_plus.f bt328.1 bt328.2 bt330.1 bt330.2).bind fun bt332 => (some (bt332.2, true)))))) else (some (a2, false)))) = some (r1, r2) := h
  clear h
  replace H := Option.bind_eq_some_iff.mp H
  obtain ⟨t326, A60, H⟩ := H
  replace H : (if t326 = true then ((turnstileref04_later.f a2 a3).bind fun t327 => ((turnstileref04_of.f t327).bind fun bt328 => ((turnstileref04_times.f a4 a0).bind fun bt330 => ((turnstileref04_plus.f bt328.1 bt328.2 bt330.1 bt330.2).bind fun bt332 => (some (bt332.2, true)))))) else (some (a2, false))) = some (r1, r2) := H
  have A6 := Aside0.mk A60
  clear A60
  by_cases c7 : t326 = true
  · subst c7
    have H1 : ((turnstileref04_later.f a2 a3).bind fun t327 => ((turnstileref04_of.f t327).bind fun bt328 => ((turnstileref04_times.f a4 a0).bind fun bt330 => ((turnstileref04_plus.f bt328.1 bt328.2 bt330.1 bt330.2).bind fun bt332 => (some (bt332.2, true)))))) = some (r1, r2) := by rw [if_pos rfl] at H; exact H
    clear H
    have H := H1
    clear H1
    replace H := Option.bind_eq_some_iff.mp H
    obtain ⟨t327, A80, H⟩ := H
    replace H : ((turnstileref04_of.f t327).bind fun bt328 => ((turnstileref04_times.f a4 a0).bind fun bt330 => ((turnstileref04_plus.f bt328.1 bt328.2 bt330.1 bt330.2).bind fun bt332 => (some (bt332.2, true))))) = some (r1, r2) := H
    have A8 := Aside0.mk A80
    clear A80
    replace H := Option.bind_eq_some_iff.mp H
    obtain ⟨⟨t328, t329⟩, A90, H⟩ := H
    replace H : ((turnstileref04_times.f a4 a0).bind fun bt330 => ((turnstileref04_plus.f t328 t329 bt330.1 bt330.2).bind fun bt332 => (some (bt332.2, true)))) = some (r1, r2) := H
    have A9 := Aside0.mk A90
    clear A90
    replace H := Option.bind_eq_some_iff.mp H
    obtain ⟨⟨t330, t331⟩, A100, H⟩ := H
    replace H : ((turnstileref04_plus.f t328 t329 t330 t331).bind fun bt332 => (some (bt332.2, true))) = some (r1, r2) := H
    have A10 := Aside0.mk A100
    clear A100
    replace H := Option.bind_eq_some_iff.mp H
    obtain ⟨⟨t332, t333⟩, A110, H⟩ := H
    replace H : (some (t333, true)) = some (r1, r2) := H
    have A11 := Aside0.mk A110
    clear A110
    simp only [Option.some.injEq, Prod.mk.injEq] at H
    obtain ⟨rfl, rfl⟩ := H
    go_enter Try.func62, Try.ntmps62
    go_wp2_with (first | ((with_reducible refine gate_callee (f := 73) rfl ?_); refine gm (some 18) Try.func73 #[.int .u64 a0, .int .u64 a1, .int .u64 a2, .int .u64 a3, .int .u64 a4] (turnstileref04_fits.calls k a0 a1 a2 a3 a4 true _ A6.out) ?_; intro w12 hb; have n0_ := bs HB hb; clear HB; have HB := n0_; clear n0_; (try clear hb); (try clear hb2); (try clear hk); (try clear hi)) | ((with_reducible refine gate_callee (f := 76) rfl ?_); refine gl (some 23) Try.func76 #[.int .u64 a2, .int .u64 a3] ?_; (with_reducible refine (turnstileref04_later.calls a2 a3 t327 _ A8.out).mono ?_); rintro e w' ⟨rfl, ⟨nd, rfl⟩⟩; refine ⟨_, rfl, ?_⟩; (try (rw [drewN_self w12]; generalize hq_ : World.drewN w12 _ = w12; have n0_ : Aside0 (Below w.heap.size w w12) := ⟨by rw [← hq_]; exact (bw HB)⟩; clear HB hq_; have HB := n0_; clear n0_))) | ((with_reducible refine gate_callee (f := 75) rfl ?_); refine gm (some 24) Try.func75 #[.int .u64 t327] (turnstileref04_of.calls t327 t328 t329 _ A9.out) ?_; intro w13 hb; have n0_ := bs HB hb; clear HB; have HB := n0_; clear n0_; (try clear hb); (try clear hb2); (try clear hk); (try clear hi)) | ((with_reducible refine gate_callee (f := 77) rfl ?_); refine gm (some 27) Try.func77 #[.int .u64 a4, .int .u64 a0] (turnstileref04_times.calls a4 a0 t330 t331 _ A10.out) ?_; intro w14 hb; have n0_ := bs HB hb; clear HB; have HB := n0_; clear n0_; (try clear hb); (try clear hb2); (try clear hk); (try clear hi)) | ((with_reducible refine gate_callee (f := 74) rfl ?_); refine gm (some 28) Try.func74 #[.agg #[.int .u64 t328, .int .u64 t329], .agg #[.int .u64 t330, .int .u64 t331]] (turnstileref04_plus.calls t328 t329 t330 t331 t332 t333 _ A11.out) ?_; intro w15 hb; have n0_ := bs HB hb; clear HB; have HB := n0_; clear n0_; (try clear hb); (try clear hb2); (try clear hk); (try clear hi)) | ((with_reducible refine gate_dst (N := 12) rfl ?_); refine bx 12 #[.int .u64 0, .int .u64 0] 104 ?_; intro gb334 hg w16 hbox hb; have n0_ := bs HB hb; have n1_ := Aside0.mk (hbox); have n2_ := sz HB hg; have n3_ := sz HB hg; clear HB; have HB := n0_; have BK334 := n1_; have GW334 := n2_; have GE334 := n3_; clear n0_ n1_ n2_ n3_; clear hb hbox hg; obtain ⟨hcz17_0, hcz17_1, hfz17_0, hfz17_1⟩ := bc2 BK334))
    go_ret2
    exact ⟨re, bw HB⟩
  · replace c7 := Bool.eq_false_iff.mpr c7
    subst c7
    have H1 : (some (a2, false)) = some (r1, r2) := by rw [if_neg (show ¬ (false = true) by decide)] at H; exact H
    clear H
    have H := H1
    clear H1
    simp only [Option.some.injEq, Prod.mk.injEq] at H
    obtain ⟨rfl, rfl⟩ := H
    go_enter Try.func62, Try.ntmps62
    go_wp2_with (first | ((with_reducible refine gate_callee (f := 73) rfl ?_); refine gm (some 18) Try.func73 #[.int .u64 a0, .int .u64 a1, .int .u64 a2, .int .u64 a3, .int .u64 a4] (turnstileref04_fits.calls k a0 a1 a2 a3 a4 false _ A6.out) ?_; intro w18 hb; have n0_ := bs HB hb; clear HB; have HB := n0_; clear n0_; (try clear hb); (try clear hb2); (try clear hk); (try clear hi)))
    go_ret2
    exact ⟨re, bw HB⟩

/-! ### turnstileref04_Retry: function 63 -/
mutual
def turnstileref04_Retry.j0 : Nat → Int → Int → Int → Int → Int → Bool → Option (Int)
  | 0, _, _, _, _, _, _ => none
  | k + 1, x0, x1, x2, x3, x4, x32 => if x32 = true then (some 18446744073709551615) else (turnstileref04_Retry.l0 k x0 x1 x2 x4 x3 x2)
def turnstileref04_Retry.l0 : Nat → Int → Int → Int → Int → Int → Int → Option (Int)
  | 0, _, _, _, _, _, _ => none
  | k + 1, x0, x1, x2, x4, x11, x12 => if (IntKind.u64.wrap (x12 - x11)) > 1 then ((turnstileref04_fits.f k x0 x1 x2 (IntKind.u64.wrap (x11 + (IntKind.u64.wrap (Int.tdiv (IntKind.u64.wrap (x12 - x11)) 2)))) x4).bind fun t337 => (if t337 = true then (turnstileref04_Retry.l0 k x0 x1 x2 x4 x11 (IntKind.u64.wrap (x11 + (IntKind.u64.wrap (Int.tdiv (IntKind.u64.wrap (x12 - x11)) 2))))) else (turnstileref04_Retry.l0 k x0 x1 x2 x4 (IntKind.u64.wrap (x11 + (IntKind.u64.wrap (Int.tdiv (IntKind.u64.wrap (x12 - x11)) 2)))) x12))) else (some x12)
end
def turnstileref04_Retry.f (k : Nat) (a0 : Int) (a1 : Int) (a2 : Int) (a3 : Int) (a4 : Int) : Option (Int) := (turnstileref04_fits.f k a0 a1 a2 a3 a4).bind fun t335 => (if t335 = true then (some a3) else (if a3 ≥ a2 then (turnstileref04_Retry.j0 k a0 a1 a2 a3 a4 true) else ((turnstileref04_fits.f k a0 a1 a2 a2 a4).bind fun t336 => (turnstileref04_Retry.j0 k a0 a1 a2 a3 a4 (!t336)))))
theorem turnstileref04_Retry.mono_l : ∀ k, (∀ y0 y1 y2 y3 y4 y5, LeO (turnstileref04_Retry.j0 k y0 y1 y2 y3 y4 y5) (turnstileref04_Retry.j0 (k + 1) y0 y1 y2 y3 y4 y5)) ∧ (∀ y0 y1 y2 y3 y4 y5, LeO (turnstileref04_Retry.l0 k y0 y1 y2 y3 y4 y5) (turnstileref04_Retry.l0 (k + 1) y0 y1 y2 y3 y4 y5))
  | 0 => ⟨fun _ _ _ _ _ _ r h => by simp [turnstileref04_Retry.j0] at h, fun _ _ _ _ _ _ r h => by simp [turnstileref04_Retry.l0] at h⟩
  | k + 1 => by
    obtain ⟨ih0, ih1⟩ := turnstileref04_Retry.mono_l k
    refine ⟨?_, ?_⟩
    · intro y0 y1 y2 y3 y4 y5
      unfold turnstileref04_Retry.j0
      repeat' first
      | (with_reducible exact ih0 _ _ _ _ _ _)
      | (with_reducible exact ih1 _ _ _ _ _ _)
      | (with_reducible exact turnstileref04_fits.mono _ _ _ _ _ _)
      | (with_reducible exact LeO.refl _)
      | (with_reducible exact LeO.none _)
      | (with_reducible refine LeO.ite ?_ ?_)
      | (with_reducible refine LeO.bind ?_ (fun _ => ?_))
      | exact ih0 _ _ _ _ _ _
      | exact ih1 _ _ _ _ _ _
      | exact turnstileref04_fits.mono _ _ _ _ _ _
      | exact LeO.none _
      | refine LeO.ite ?_ ?_
      | refine LeO.bind ?_ (fun _ => ?_)
    · intro y0 y1 y2 y3 y4 y5
      unfold turnstileref04_Retry.l0
      repeat' first
      | (with_reducible exact ih0 _ _ _ _ _ _)
      | (with_reducible exact ih1 _ _ _ _ _ _)
      | (with_reducible exact turnstileref04_fits.mono _ _ _ _ _ _)
      | (with_reducible exact LeO.refl _)
      | (with_reducible exact LeO.none _)
      | (with_reducible refine LeO.ite ?_ ?_)
      | (with_reducible refine LeO.bind ?_ (fun _ => ?_))
      | exact ih0 _ _ _ _ _ _
      | exact ih1 _ _ _ _ _ _
      | exact turnstileref04_fits.mono _ _ _ _ _ _
      | exact LeO.none _
      | refine LeO.ite ?_ ?_
      | refine LeO.bind ?_ (fun _ => ?_)
theorem turnstileref04_Retry.mono : ∀ a0 a1 a2 a3 a4 k, LeO (turnstileref04_Retry.f k a0 a1 a2 a3 a4) (turnstileref04_Retry.f (k + 1) a0 a1 a2 a3 a4) := by
  intro a0 a1 a2 a3 a4 k
  obtain ⟨ih0, ih1⟩ := turnstileref04_Retry.mono_l k
  unfold turnstileref04_Retry.f
  repeat' first
      | (with_reducible exact ih0 _ _ _ _ _ _)
      | (with_reducible exact ih1 _ _ _ _ _ _)
      | (with_reducible exact turnstileref04_fits.mono _ _ _ _ _ _)
      | (with_reducible exact LeO.refl _)
      | (with_reducible exact LeO.none _)
      | (with_reducible refine LeO.ite ?_ ?_)
      | (with_reducible refine LeO.bind ?_ (fun _ => ?_))
      | exact ih0 _ _ _ _ _ _
      | exact ih1 _ _ _ _ _ _
      | exact turnstileref04_fits.mono _ _ _ _ _ _
      | exact LeO.none _
      | refine LeO.ite ?_ ?_
      | refine LeO.bind ?_ (fun _ => ?_)
set_option maxHeartbeats 8000000 in
set_option maxRecDepth 100000 in
theorem turnstileref04_Retry.calls (k : Nat) (a0 : Int) (a1 : Int) (a2 : Int) (a3 : Int) (a4 : Int) (r : Int) (w : World) (h : turnstileref04_Retry.f k a0 a1 a2 a3 a4 = some r) :
    Calls Try.prog 63 #[.int .u64 a0, .int .u64 a1, .int .u64 a2, .int .u64 a3, .int .u64 a4] w fun e w' => e = .returned (.int .u64 r) ∧ Below w.heap.size w w' := by
  have HB := Aside0.mk (Below.refl w.heap.size w)
  have H : ((turnstileref04_fits.f k a0 a1 a2 a3 a4).bind fun t335 => (if t335 = true then (some a3) else (if a3 ≥ a2 then (turnstileref04_Retry.j0 k a0 a1 a2 a3 a4 true) else ((turnstileref04_fits.f k a0 a1 a2 a2 a4).bind fun t336 => (turnstileref04_Retry.j0 k a0 a1 a2 a3 a4 (!t336)))))) = some r := h
  clear h
  replace H := Option.bind_eq_some_iff.mp H
  obtain ⟨t335, A60, H⟩ := H
  replace H : (if t335 = true then (some a3) else (if a3 ≥ a2 then (turnstileref04_Retry.j0 k a0 a1 a2 a3 a4 true) else ((turnstileref04_fits.f k a0 a1 a2 a2 a4).bind fun t336 => (turnstileref04_Retry.j0 k a0 a1 a2 a3 a4 (!t336))))) = some r := H
  have A6 := Aside0.mk A60
  clear A60
  by_cases c7 : t335 = true
  · subst c7
    have H1 : (some a3) = some r := by rw [if_pos rfl] at H; exact H
    clear H
    have H := H1
    clear H1
    obtain rfl := Option.some.inj H
    go_enter Try.func63, Try.ntmps63
    go_wp2_with (first | ((with_reducible refine gate_callee (f := 73) rfl ?_); refine gm (some 19) Try.func73 #[.int .u64 a0, .int .u64 a1, .int .u64 a2, .int .u64 a3, .int .u64 a4] (turnstileref04_fits.calls k a0 a1 a2 a3 a4 true _ A6.out) ?_; intro w8 hb; have n0_ := bs HB hb; clear HB; have HB := n0_; clear n0_; (try clear hb); (try clear hb2); (try clear hk); (try clear hi)))
    go_ret
    exact ⟨re, bw HB⟩
  · replace c7 := Bool.eq_false_iff.mpr c7
    subst c7
    have H1 : (if a3 ≥ a2 then (turnstileref04_Retry.j0 k a0 a1 a2 a3 a4 true) else ((turnstileref04_fits.f k a0 a1 a2 a2 a4).bind fun t336 => (turnstileref04_Retry.j0 k a0 a1 a2 a3 a4 (!t336)))) = some r := by rw [if_neg (show ¬ (false = true) by decide)] at H; exact H
    clear H
    have H := H1
    clear H1
    have HC9 := Aside0.mk H
    clear H
    go_enter Try.func63, Try.ntmps63
    go_upto_region 3 with (first | ((with_reducible refine gate_callee (f := 73) rfl ?_); refine gm (some 19) Try.func73 #[.int .u64 a0, .int .u64 a1, .int .u64 a2, .int .u64 a3, .int .u64 a4] (turnstileref04_fits.calls k a0 a1 a2 a3 a4 false _ A6.out) ?_; intro w10 hb; have n0_ := bs HB hb; clear HB; have HB := n0_; clear n0_; (try clear hb); (try clear hb2); (try clear hk); (try clear hi)))
    (try simp only [Act.put, List.setIfInBounds_toArray, List.set_cons_zero, List.set_cons_succ])
    go_cut [32] (fun v32 wc => ∃ (kq : Nat) (x32_8 : Bool), v32 = .bool x32_8 ∧ Aside0 (turnstileref04_Retry.j0 kq a0 a1 a2 a3 a4 x32_8 = some r) ∧ Aside0 (kq ≤ k) ∧ Aside0 (Below w.heap.size w wc))
    case first =>
      have H := HC9.out
      clear HC9
      by_cases c11 : a3 ≥ a2
      · rw [if_pos c11] at H
        have c11b0 : decide (a2 ≤ a3) = true := decide_eq_true c11
        clear c11
        (first | rw [c11b0] | (simp only [i64_w, i32_w]; rw [c11b0]) | skip)
        have H' := Aside0.mk H
        clear H
        go_wp2
        go_meet
        case rel => exact ⟨_, (true), rs, H', ⟨by first | omega | exact Nat.le_refl _⟩, ⟨bw HB⟩⟩
      · rw [if_neg c11] at H
        have c11b0 : decide (a2 ≤ a3) = false := decide_eq_false c11
        clear c11
        (first | rw [c11b0] | (simp only [i64_w, i32_w]; rw [c11b0]) | skip)
        replace H := Option.bind_eq_some_iff.mp H
        obtain ⟨t336, A120, H⟩ := H
        replace H : (turnstileref04_Retry.j0 k a0 a1 a2 a3 a4 (!t336)) = some r := H
        have A12 := Aside0.mk A120
        clear A120
        have H' := Aside0.mk H
        clear H
        go_wp2_with (first | (go_at_call 73; (with_reducible refine (turnstileref04_fits.calls k a0 a1 a2 a2 a4 t336 _ A12.out).mono ?_); rintro e w13 ⟨rfl, hb⟩; have n0_ := bs HB hb; clear HB; have HB := n0_; clear n0_; (try clear hb); (try clear hb2); (try clear hk); (try clear hi)))
        go_meet
        case rel => exact ⟨_, (!t336), rs, H', ⟨by first | omega | exact Nat.le_refl _⟩, ⟨bw HB⟩⟩
    case rest =>
      clear HC9
      try clear c1
      try clear p2
      try clear c6
      try clear c7
      try clear c11
      try clear c11b0
      obtain ⟨kq, x32_8, rfl, HA, HJ8, HB⟩ := hcut
      cases kq with
      | zero => exact absurd HA.out (by simp [turnstileref04_Retry.j0])
      | succ kj8 =>
        have H := HA.out
        clear HA
        simp only [turnstileref04_Retry.j0] at H
        by_cases c14 : x32_8 = true
        · subst c14
          have H1 : (some 18446744073709551615) = some r := by rw [if_pos rfl] at H; exact H
          clear H
          have H := H1
          clear H1
          obtain rfl := Option.some.inj H
          go_wp2
          go_ret
          exact ⟨re, bw HB⟩
        · replace c14 := Bool.eq_false_iff.mpr c14
          subst c14
          have H1 : (turnstileref04_Retry.l0 kj8 a0 a1 a2 a4 a3 a2) = some r := by rw [if_neg (show ¬ (false = true) by decide)] at H; exact H
          clear H
          have H := H1
          clear H1
          have H' := Aside0.mk H
          clear H
          go_wp2
          go_loopg [11, 12] kj8 (fun kq v11 v12 w' => ∃ (x11_2 : Int) (x12_2 : Int), v11 = .int .u64 x11_2 ∧ v12 = .int .u64 x12_2 ∧ Aside0 (turnstileref04_Retry.l0 kq a0 a1 a2 a4 x11_2 x12_2 = some r) ∧ Aside0 (kq ≤ kj8) ∧ Aside0 (Below w.heap.size w w'))
          case atStart => exact ⟨(a3), (a2), rs, rs, H', ⟨Nat.le_refl _⟩, ⟨bw HB⟩⟩
          case round =>
            clear H'
            try clear c1
            try clear p2
            try clear c6
            try clear c7
            try clear c11
            try clear c11b0
            try clear c14
            try clear p2
            obtain ⟨x11_2, x12_2, rfl, rfl, HA, HK2, HB⟩ := hrel
            cases gk with
            | zero => exact absurd HA.out (by simp [turnstileref04_Retry.l0])
            | succ k2 =>
              have H := HA.out
              clear HA
              simp only [turnstileref04_Retry.l0] at H
              by_cases c15 : (IntKind.u64.wrap (x12_2 - x11_2)) > 1
              · rw [if_pos c15] at H
                have c15b0 : decide (1 < (IntKind.u64.wrap (x12_2 - x11_2))) = true := decide_eq_true c15
                clear c15
                replace H := Option.bind_eq_some_iff.mp H
                obtain ⟨t337, A160, H⟩ := H
                replace H : (if t337 = true then (turnstileref04_Retry.l0 k2 a0 a1 a2 a4 x11_2 (IntKind.u64.wrap (x11_2 + (IntKind.u64.wrap (Int.tdiv (IntKind.u64.wrap (x12_2 - x11_2)) 2))))) else (turnstileref04_Retry.l0 k2 a0 a1 a2 a4 (IntKind.u64.wrap (x11_2 + (IntKind.u64.wrap (Int.tdiv (IntKind.u64.wrap (x12_2 - x11_2)) 2)))) x12_2)) = some r := H
                have A16 := Aside0.mk A160
                clear A160
                by_cases c17 : t337 = true
                · subst c17
                  have H1 : (turnstileref04_Retry.l0 k2 a0 a1 a2 a4 x11_2 (IntKind.u64.wrap (x11_2 + (IntKind.u64.wrap (Int.tdiv (IntKind.u64.wrap (x12_2 - x11_2)) 2))))) = some r := by rw [if_pos rfl] at H; exact H
                  clear H
                  have H := H1
                  clear H1
                  have H' := Aside0.mk H
                  clear H
                  go_wp2_with (first | ((with_reducible refine gate_callee (f := 73) rfl ?_); refine gm (some 50) Try.func73 #[.int .u64 a0, .int .u64 a1, .int .u64 a2, .int .u64 (IntKind.u64.wrap (x11_2 + (IntKind.u64.wrap (Int.tdiv (IntKind.u64.wrap (x12_2 - x11_2)) 2)))), .int .u64 a4] (turnstileref04_fits.calls k2 a0 a1 a2 (IntKind.u64.wrap (x11_2 + (IntKind.u64.wrap (Int.tdiv (IntKind.u64.wrap (x12_2 - x11_2)) 2)))) a4 true _ A16.out) ?_; intro w18 hb; have n0_ := bs HB hb; clear HB; have HB := n0_; clear n0_; (try clear hb); (try clear hb2); (try clear hk); (try clear hi)))
                  go_roundg k2
                  case measure => have := HJ8.out; have := HK2.out; omega
                  case rel => exact ⟨(x11_2), (IntKind.u64.wrap (x11_2 + (IntKind.u64.wrap (Int.tdiv (IntKind.u64.wrap (x12_2 - x11_2)) 2)))), rs, rs, H', ⟨by have := HJ8.out; have := HK2.out; omega⟩, ⟨bw HB⟩⟩
                · replace c17 := Bool.eq_false_iff.mpr c17
                  subst c17
                  have H1 : (turnstileref04_Retry.l0 k2 a0 a1 a2 a4 (IntKind.u64.wrap (x11_2 + (IntKind.u64.wrap (Int.tdiv (IntKind.u64.wrap (x12_2 - x11_2)) 2)))) x12_2) = some r := by rw [if_neg (show ¬ (false = true) by decide)] at H; exact H
                  clear H
                  have H := H1
                  clear H1
                  have H' := Aside0.mk H
                  clear H
                  go_wp2_with (first | ((with_reducible refine gate_callee (f := 73) rfl ?_); refine gm (some 50) Try.func73 #[.int .u64 a0, .int .u64 a1, .int .u64 a2, .int .u64 (IntKind.u64.wrap (x11_2 + (IntKind.u64.wrap (Int.tdiv (IntKind.u64.wrap (x12_2 - x11_2)) 2)))), .int .u64 a4] (turnstileref04_fits.calls k2 a0 a1 a2 (IntKind.u64.wrap (x11_2 + (IntKind.u64.wrap (Int.tdiv (IntKind.u64.wrap (x12_2 - x11_2)) 2)))) a4 false _ A16.out) ?_; intro w19 hb; have n0_ := bs HB hb; clear HB; have HB := n0_; clear n0_; (try clear hb); (try clear hb2); (try clear hk); (try clear hi)))
                  go_roundg k2
                  case measure => have := HJ8.out; have := HK2.out; omega
                  case rel => exact ⟨(IntKind.u64.wrap (x11_2 + (IntKind.u64.wrap (Int.tdiv (IntKind.u64.wrap (x12_2 - x11_2)) 2)))), (x12_2), rs, rs, H', ⟨by have := HJ8.out; have := HK2.out; omega⟩, ⟨bw HB⟩⟩
              · rw [if_neg c15] at H
                have c15b0 : decide (1 < (IntKind.u64.wrap (x12_2 - x11_2))) = false := decide_eq_false c15
                clear c15
                obtain rfl := Option.some.inj H
                go_wp2
                go_ret
                exact ⟨re, bw HB⟩

/-! ### turnstileref05_Left: function 67 -/
def turnstileref05_Left.f (a0 : Int) (a1 : Int) (a2 : Int) (a3 : Int) (a4 : Int) : Option (Int) := if a1 = 0 then (some 0) else (if (IntKind.u64.wrap (Int.tdiv a4 a1)) > a2 then (some a0) else (if (IntKind.u64.wrap (Int.tdiv a4 a1)) < a2 then (some 0) else (if a3 ≥ a0 then (some 0) else (some (IntKind.u64.wrap (a0 - a3))))))
set_option maxHeartbeats 8000000 in
set_option maxRecDepth 100000 in
theorem turnstileref05_Left.calls (a0 : Int) (a1 : Int) (a2 : Int) (a3 : Int) (a4 : Int) (r : Int) (w : World) (h : turnstileref05_Left.f a0 a1 a2 a3 a4 = some r) :
    Calls Try.prog 67 #[.int .u64 a0, .int .u64 a1, .int .u64 a2, .int .u64 a3, .int .u64 a4] w fun e w' => e = .returned (.int .u64 r) ∧ Drawn0 w w' := by
  have H : (if a1 = 0 then (some 0) else (if (IntKind.u64.wrap (Int.tdiv a4 a1)) > a2 then (some a0) else (if (IntKind.u64.wrap (Int.tdiv a4 a1)) < a2 then (some 0) else (if a3 ≥ a0 then (some 0) else (some (IntKind.u64.wrap (a0 - a3))))))) = some r := h
  clear h
  by_cases c6 : a1 = 0
  · rw [if_pos c6] at H
    have c6b0 : (a1 == 0) = true := beq_iff_eq.mpr c6
    have c6b1 : (a1 != 0) = false := bne_eq_false_iff_eq.mpr c6
    clear c6
    obtain rfl := Option.some.inj H
    go_enter Try.func67, Try.ntmps67
    go_wp2
    go_ret
    exact ⟨rs, by repeat (first | exact Drawn0.refl _ | apply Drawn0.step)⟩
  · rw [if_neg c6] at H
    have c6b0 : (a1 == 0) = false := beq_eq_false_iff_ne.mpr c6
    have c6b1 : (a1 != 0) = true := bne_iff_ne.mpr c6
    by_cases c7 : (IntKind.u64.wrap (Int.tdiv a4 a1)) > a2
    · rw [if_pos c7] at H
      have c7b0 : decide (a2 < (IntKind.u64.wrap (Int.tdiv a4 a1))) = true := decide_eq_true c7
      clear c7
      obtain rfl := Option.some.inj H
      go_enter Try.func67, Try.ntmps67
      go_wp2
      go_ret
      exact ⟨rs, by repeat (first | exact Drawn0.refl _ | apply Drawn0.step)⟩
    · rw [if_neg c7] at H
      have c7b0 : decide (a2 < (IntKind.u64.wrap (Int.tdiv a4 a1))) = false := decide_eq_false c7
      clear c7
      by_cases c8 : (IntKind.u64.wrap (Int.tdiv a4 a1)) < a2
      · rw [if_pos c8] at H
        have c8b0 : decide ((IntKind.u64.wrap (Int.tdiv a4 a1)) < a2) = true := decide_eq_true c8
        clear c8
        obtain rfl := Option.some.inj H
        go_enter Try.func67, Try.ntmps67
        go_wp2
        go_ret
        exact ⟨rs, by repeat (first | exact Drawn0.refl _ | apply Drawn0.step)⟩
      · rw [if_neg c8] at H
        have c8b0 : decide ((IntKind.u64.wrap (Int.tdiv a4 a1)) < a2) = false := decide_eq_false c8
        clear c8
        by_cases c9 : a3 ≥ a0
        · rw [if_pos c9] at H
          have c9b0 : decide (a0 ≤ a3) = true := decide_eq_true c9
          clear c9
          obtain rfl := Option.some.inj H
          go_enter Try.func67, Try.ntmps67
          go_wp2
          go_ret
          exact ⟨rs, by repeat (first | exact Drawn0.refl _ | apply Drawn0.step)⟩
        · rw [if_neg c9] at H
          have c9b0 : decide (a0 ≤ a3) = false := decide_eq_false c9
          clear c9
          obtain rfl := Option.some.inj H
          go_enter Try.func67, Try.ntmps67
          go_wp2
          go_ret
          exact ⟨rs, by repeat (first | exact Drawn0.refl _ | apply Drawn0.step)⟩

end Go.Proofs.Ytokfhdpokemekaa.Q
