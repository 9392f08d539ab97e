/- Written by the session's own program hyb.py: what functions of the program compute; Lean checks it. -/
import Derived.Test.YtokfhdpokemekaaQx0
import Derived.Test.YtokfhdpokemekaaQx23
namespace Go.Proofs.Ytokfhdpokemekaa.Q
open Go.RowKit Go.Proofs.YtokfhdpokemekaaW.PrintWords Go.Proofs.YtokfhdpokemekaaW.PrintLast Go.Proofs.YtokfhdpokemekaaW.PrintMore Go.Proofs.YtokfhdpokemekaaW.PrintShort
attribute [local go_sem] run_Add64 run_Sub64
attribute [local go_sem] max2_int min2_int max_two min_two max_three min_three max_four min_four   -- for this text's walks alone
set_option linter.unusedVariables false
set_option linter.unusedSimpArgs false

/-! ### turnstileref04_fits: function 73 -/
def turnstileref04_fits.j0 : Nat → Int → Int → Int → Int → Int → Bool → Option (Bool)
  | 0, _, _, _, _, _, _ => none
  | k + 1, x0, x1, x2, x3, x4, x18 => if x18 = true then (some false) else ((turnstileref04_later.f x2 x3).bind fun t303 => ((turnstileref04_of.f t303).bind fun bt304 => ((turnstileref04_times.f (IntKind.u64.wrap (x4 - 1)) x0).bind fun bt307 => ((turnstileref04_plus.f bt304.1 bt304.2 bt307.1 bt307.2).bind fun bt309 => ((turnstileref04_of.f x3).bind fun bt312 => ((turnstileref04_of.f x1).bind fun bt314 => ((turnstileref04_plus.f bt312.1 bt312.2 bt314.1 bt314.2).bind fun bt316 => ((turnstileref04_above.f bt309.1 bt309.2 bt316.1 bt316.2).bind fun t318 => (if t318 = true then (some false) else ((turnstileref04_times.f x4 x0).bind fun bt319 => ((turnstileref04_plus.f bt304.1 bt304.2 bt319.1 bt319.2).bind fun bt321 => ((turnstileref04_of.f 18446744073709551615).bind fun bt323 => ((turnstileref04_above.f bt321.1 bt321.2 bt323.1 bt323.2).bind fun t325 => (some (!t325)))))))))))))))
def turnstileref04_fits.f (k : Nat) (a0 : Int) (a1 : Int) (a2 : Int) (a3 : Int) (a4 : Int) : Option (Bool) := if a4 = 0 then (turnstileref04_fits.j0 k a0 a1 a2 a3 a4 true) else (turnstileref04_fits.j0 k a0 a1 a2 a3 a4 (a0 == 0))
theorem turnstileref04_fits.mono_l : ∀ k, (∀ y0 y1 y2 y3 y4 y5, LeO (turnstileref04_fits.j0 k y0 y1 y2 y3 y4 y5) (turnstileref04_fits.j0 (k + 1) y0 y1 y2 y3 y4 y5))
  | 0 => fun _ _ _ _ _ _ r h => by simp [turnstileref04_fits.j0] at h
  | k + 1 => by
    have ih0 := turnstileref04_fits.mono_l k
    · intro y0 y1 y2 y3 y4 y5
      unfold turnstileref04_fits.j0
      repeat' first
      | (with_reducible exact ih0 _ _ _ _ _ _)
      | (with_reducible exact LeO.refl _)
      | (with_reducible exact LeO.none _)
      | (with_reducible refine LeO.ite ?_ ?_)
      | (with_reducible refine LeO.bind ?_ (fun _ => ?_))
      | exact ih0 _ _ _ _ _ _
      | exact LeO.none _
      | refine LeO.ite ?_ ?_
      | refine LeO.bind ?_ (fun _ => ?_)
theorem turnstileref04_fits.mono : ∀ a0 a1 a2 a3 a4 k, LeO (turnstileref04_fits.f k a0 a1 a2 a3 a4) (turnstileref04_fits.f (k + 1) a0 a1 a2 a3 a4) := by
  intro a0 a1 a2 a3 a4 k
  have ih0 := turnstileref04_fits.mono_l k
  unfold turnstileref04_fits.f
  repeat' first
      | (with_reducible exact ih0 _ _ _ _ _ _)
      | (with_reducible exact LeO.refl _)
      | (with_reducible exact LeO.none _)
      | (with_reducible refine LeO.ite ?_ ?_)
      | (with_reducible refine LeO.bind ?_ (fun _ => ?_))
      | exact ih0 _ _ _ _ _ _
      | exact LeO.none _
      | refine LeO.ite ?_ ?_
      | refine LeO.bind ?_ (fun _ => ?_)
def turnstileref04_fits.T4 : Bool × List (List Nat × List Nat) := (true, [([], []), ([], []), ([1], [1]), ([], []), ([2, 3], [2, 3]), ([0, 4, 4], [0, 4]), ([], []), ([6, 5, 5, 0, 1, 2, 3, 4, 5, 6], [5, 6])])
def turnstileref04_fits.B4 : List Nat := [0, 0, 2, 0, 14, 31, 0, 127]
theorem turnstileref04_fits.tab4 : rtab .any (opsOf Try.f73 4) = turnstileref04_fits.T4 := by kernel_rfl
theorem turnstileref04_fits.bits4 : waitsOk turnstileref04_fits.T4.2 turnstileref04_fits.B4 = true := by kernel_rfl
def turnstileref04_fits.T7 : Bool × List (List Nat × List Nat) := (true, [([], []), ([], []), ([], []), ([1, 2], [1, 2]), ([0, 3, 3], [0, 3]), ([4], []), ([4, 5, 5], [4, 5]), ([6], [6]), ([7, 6, 0, 1, 2, 3, 4, 5, 6, 7], [7])])
def turnstileref04_fits.B7 : List Nat := [0, 0, 0, 6, 15, 31, 63, 127, 255]
theorem turnstileref04_fits.tab7 : rtab .any (opsOf Try.f73 7) = turnstileref04_fits.T7 := by kernel_rfl
theorem turnstileref04_fits.bits7 : waitsOk turnstileref04_fits.T7.2 turnstileref04_fits.B7 = true := by kernel_rfl
set_option maxHeartbeats 8000000 in
set_option maxRecDepth 100000 in
theorem turnstileref04_fits.calls (k : Nat) (a0 : Int) (a1 : Int) (a2 : Int) (a3 : Int) (a4 : Int) (r : Bool) (w : World) (h : turnstileref04_fits.f k a0 a1 a2 a3 a4 = some r) :
    Calls Try.prog 73 #[.int .u64 a0, .int .u64 a1, .int .u64 a2, .int .u64 a3, .int .u64 a4] w fun e w' => e = .returned (.bool r) ∧ Below w.heap.size w w' := by
  have hu104 := Try.underlying104
  have HB := Aside0.mk (Below.refl w.heap.size w)
  have H : (if a4 = 0 then (turnstileref04_fits.j0 k a0 a1 a2 a3 a4 true) else (turnstileref04_fits.j0 k a0 a1 a2 a3 a4 (a0 == 0))) = some r := h
  clear h
  have HC6 := Aside0.mk H
  clear H
  go_enter Try.func73, Try.ntmps73
  go_upto_region 1 with (fail)
  go_cut [18] (fun v18 wc => ∃ (kq : Nat) (x18_5 : Bool), v18 = .bool x18_5 ∧ Aside0 (turnstileref04_fits.j0 kq a0 a1 a2 a3 a4 x18_5 = some r) ∧ Aside0 (kq ≤ k) ∧ Aside0 (Below w.heap.size w wc))
  case first =>
    have H := HC6.out
    clear HC6
    by_cases c7 : a4 = 0
    · rw [if_pos c7] at H
      have c7b0 : (a4 == 0) = true := beq_iff_eq.mpr c7
      have c7b1 : (a4 != 0) = false := bne_eq_false_iff_eq.mpr c7
      clear c7
      (first | rw [c7b0] | (simp only [i64_w, i32_w]; rw [c7b0]) | skip)
      have H' := Aside0.mk H
      clear H
      go_wp2
      go_meet
      case rel => exact ⟨_, (true), rs, H', ⟨by first | omega | exact Nat.le_refl _⟩, ⟨bw HB⟩⟩
    · rw [if_neg c7] at H
      have c7b0 : (a4 == 0) = false := beq_eq_false_iff_ne.mpr c7
      have c7b1 : (a4 != 0) = true := bne_iff_ne.mpr c7
      (first | rw [c7b0] | (simp only [i64_w, i32_w]; rw [c7b0]) | skip)
      have H' := Aside0.mk H
      clear H
      go_wp2
      go_meet
      case rel => exact ⟨_, ((a0 == 0)), rs, H', ⟨by first | omega | exact Nat.le_refl _⟩, ⟨bw HB⟩⟩
  case rest =>
    clear HC6
    try clear p2
    try clear c7
    try clear c7b0
    try clear c7b1
    obtain ⟨kq, x18_5, rfl, HA, HJ5, HB⟩ := hcut
    cases kq with
    | zero => exact absurd HA.out (by simp [turnstileref04_fits.j0])
    | succ kj5 =>
      have H := HA.out
      clear HA
      simp only [turnstileref04_fits.j0] at H
      by_cases c8 : x18_5 = true
      · subst c8
        have H1 : (some false) = some r := by rw [if_pos rfl] at H; exact H
        clear H
        have H := H1
        clear H1
        obtain rfl := Option.some.inj H
        go_wp2
        go_ret
        exact ⟨re, bw HB⟩
      · replace c8 := Bool.eq_false_iff.mpr c8
        subst c8
        have H1 : ((turnstileref04_later.f a2 a3).bind fun t303 => ((turnstileref04_of.f t303).bind fun bt304 => ((turnstileref04_times.f (IntKind.u64.wrap (a4 - 1)) a0).bind fun bt307 => ((turnstileref04_plus.f bt304.1 bt304.2 bt307.1 bt307.2).bind fun bt309 => ((turnstileref04_of.f a3).bind fun bt312 => ((turnstileref04_of.f a1).bind fun bt314 => ((turnstileref04_plus.f bt312.1 bt312.2 bt314.1 bt314.2).bind fun bt316 => ((turnstileref04_above.f bt309.1 bt309.2 bt316.1 bt316.2).bind fun t318 => (if t318 = true then (some false) else ((turnstileref04_times.f a4 a0).bind fun bt319 => ((turnstileref04_plus.f bt304.1 bt304.2 bt319.1 bt319.2).bind fun bt321 => ((turnstileref04_of.f 18446744073709551615).bind fun bt323 => ((turnstileref04_above.f bt321.1 bt321.2 bt323.1 bt323.2).bind fun t325 => (some (!t325))))))))))))))) = some r := by rw [if_neg (show ¬ (false = true) by decide)] at H; exact H
        clear H
        have H := H1
        clear H1
        replace H := Option.bind_eq_some_iff.mp H
        obtain ⟨t303, A90, H⟩ := H
        replace H : ((turnstileref04_of.f t303).bind fun bt304 => ((turnstileref04_times.f (IntKind.u64.wrap (a4 - 1)) a0).bind fun bt307 => ((turnstileref04_plus.f bt304.1 bt304.2 bt307.1 bt307.2).bind fun bt309 => ((turnstileref04_of.f a3).bind fun bt312 => ((turnstileref04_of.f a1).bind fun bt314 => ((turnstileref04_plus.f bt312.1 bt312.2 bt314.1 bt314.2).bind fun bt316 => ((turnstileref04_above.f bt309.1 bt309.2 bt316.1 bt316.2).bind fun t318 => (if t318 = true then (some false) else ((turnstileref04_times.f a4 a0).bind fun bt319 => ((turnstileref04_plus.f bt304.1 bt304.2 bt319.1 bt319.2).bind fun bt321 => ((turnstileref04_of.f 18446744073709551615).bind fun bt323 => ((turnstileref04_above.f bt321.1 bt321.2 bt323.1 bt323.2).bind fun t325 => (some (!t325)))))))))))))) = some r := H
        have A9 := Aside0.mk A90
        clear A90
        replace H := Option.bind_eq_some_iff.mp H
        obtain ⟨⟨t304, t305⟩, A100, H⟩ := H
        replace H : ((turnstileref04_times.f (IntKind.u64.wrap (a4 - 1)) a0).bind fun bt307 => ((turnstileref04_plus.f t304 t305 bt307.1 bt307.2).bind fun bt309 => ((turnstileref04_of.f a3).bind fun bt312 => ((turnstileref04_of.f a1).bind fun bt314 => ((turnstileref04_plus.f bt312.1 bt312.2 bt314.1 bt314.2).bind fun bt316 => ((turnstileref04_above.f bt309.1 bt309.2 bt316.1 bt316.2).bind fun t318 => (if t318 = true then (some false) else ((turnstileref04_times.f a4 a0).bind fun bt319 => ((turnstileref04_plus.f t304 t305 bt319.1 bt319.2).bind fun bt321 => ((turnstileref04_of.f 18446744073709551615).bind fun bt323 => ((turnstileref04_above.f bt321.1 bt321.2 bt323.1 bt323.2).bind fun t325 => (some (!t325))))))))))))) = some r := H
        have A10 := Aside0.mk A100
        clear A100
        replace H := Option.bind_eq_some_iff.mp H
        obtain ⟨⟨t307, t308⟩, A110, H⟩ := H
        replace H : ((turnstileref04_plus.f t304 t305 t307 t308).bind fun bt309 => ((turnstileref04_of.f a3).bind fun bt312 => ((turnstileref04_of.f a1).bind fun bt314 => ((turnstileref04_plus.f bt312.1 bt312.2 bt314.1 bt314.2).bind fun bt316 => ((turnstileref04_above.f bt309.1 bt309.2 bt316.1 bt316.2).bind fun t318 => (if t318 = true then (some false) else ((turnstileref04_times.f a4 a0).bind fun bt319 => ((turnstileref04_plus.f t304 t305 bt319.1 bt319.2).bind fun bt321 => ((turnstileref04_of.f 18446744073709551615).bind fun bt323 => ((turnstileref04_above.f bt321.1 bt321.2 bt323.1 bt323.2).bind fun t325 => (some (!t325)))))))))))) = some r := H
        have A11 := Aside0.mk A110
        clear A110
        replace H := Option.bind_eq_some_iff.mp H
        obtain ⟨⟨t309, t310⟩, A120, H⟩ := H
        replace H : ((turnstileref04_of.f a3).bind fun bt312 => ((turnstileref04_of.f a1).bind fun bt314 => ((turnstileref04_plus.f bt312.1 bt312.2 bt314.1 bt314.2).bind fun bt316 => ((turnstileref04_above.f t309 t310 bt316.1 bt316.2).bind fun t318 => (if t318 = true then (some false) else ((turnstileref04_times.f a4 a0).bind fun bt319 => ((turnstileref04_plus.f t304 t305 bt319.1 bt319.2).bind fun bt321 => ((turnstileref04_of.f 18446744073709551615).bind fun bt323 => ((turnstileref04_above.f bt321.1 bt321.2 bt323.1 bt323.2).bind fun t325 => (some (!t325))))))))))) = some r := H
        have A12 := Aside0.mk A120
        clear A120
        replace H := Option.bind_eq_some_iff.mp H
        obtain ⟨⟨t312, t313⟩, A130, H⟩ := H
        replace H : ((turnstileref04_of.f a1).bind fun bt314 => ((turnstileref04_plus.f t312 t313 bt314.1 bt314.2).bind fun bt316 => ((turnstileref04_above.f t309 t310 bt316.1 bt316.2).bind fun t318 => (if t318 = true then (some false) else ((turnstileref04_times.f a4 a0).bind fun bt319 => ((turnstileref04_plus.f t304 t305 bt319.1 bt319.2).bind fun bt321 => ((turnstileref04_of.f 18446744073709551615).bind fun bt323 => ((turnstileref04_above.f bt321.1 bt321.2 bt323.1 bt323.2).bind fun t325 => (some (!t325)))))))))) = some r := H
        have A13 := Aside0.mk A130
        clear A130
        replace H := Option.bind_eq_some_iff.mp H
        obtain ⟨⟨t314, t315⟩, A140, H⟩ := H
        replace H : ((turnstileref04_plus.f t312 t313 t314 t315).bind fun bt316 => ((turnstileref04_above.f t309 t310 bt316.1 bt316.2).bind fun t318 => (if t318 = true then (some false) else ((turnstileref04_times.f a4 a0).bind fun bt319 => ((turnstileref04_plus.f t304 t305 bt319.1 bt319.2).bind fun bt321 => ((turnstileref04_of.f 18446744073709551615).bind fun bt323 => ((turnstileref04_above.f bt321.1 bt321.2 bt323.1 bt323.2).bind fun t325 => (some (!t325))))))))) = some r := H
        have A14 := Aside0.mk A140
        clear A140
        replace H := Option.bind_eq_some_iff.mp H
        obtain ⟨⟨t316, t317⟩, A150, H⟩ := H
        replace H : ((turnstileref04_above.f t309 t310 t316 t317).bind fun t318 => (if t318 = true then (some false) else ((turnstileref04_times.f a4 a0).bind fun bt319 => ((turnstileref04_plus.f t304 t305 bt319.1 bt319.2).bind fun bt321 => ((turnstileref04_of.f 18446744073709551615).bind fun bt323 => ((turnstileref04_above.f bt321.1 bt321.2 bt323.1 bt323.2).bind fun t325 => (some (!t325)))))))) = some r := H
        have A15 := Aside0.mk A150
        clear A150
        replace H := Option.bind_eq_some_iff.mp H
        obtain ⟨t318, A160, H⟩ := H
        replace H : (if t318 = true then (some false) else ((turnstileref04_times.f a4 a0).bind fun bt319 => ((turnstileref04_plus.f t304 t305 bt319.1 bt319.2).bind fun bt321 => ((turnstileref04_of.f 18446744073709551615).bind fun bt323 => ((turnstileref04_above.f bt321.1 bt321.2 bt323.1 bt323.2).bind fun t325 => (some (!t325))))))) = some r := H
        have A16 := Aside0.mk A160
        clear A160
        by_cases c17 : t318 = true
        · subst c17
          have H1 : (some false) = some r := by rw [if_pos rfl] at H; exact H
          clear H
          have H := H1
          clear H1
          obtain rfl := Option.some.inj H
          try go_wp2_with (first | ((with_reducible refine gate_callee (f := 76) rfl ?_); refine gl (some 21) Try.func76 #[.int .u64 a2, .int .u64 a3] ?_; (with_reducible refine (turnstileref04_later.calls a2 a3 t303 _ A9.out).mono ?_); rintro e w' ⟨rfl, ⟨nd, rfl⟩⟩; refine ⟨_, rfl, ?_⟩; (try (rw [drewN_self wc]; generalize hq_ : World.drewN wc _ = wc; have n0_ : Aside0 (Below w.heap.size w wc) := ⟨by rw [← hq_]; exact (bw HB)⟩; clear HB hq_; have HB := n0_; clear n0_))) | ((with_reducible refine gate_callee (f := 75) rfl ?_); refine gm (some 22) Try.func75 #[.int .u64 t303] (turnstileref04_of.calls t303 t304 t305 _ A10.out) ?_; intro w18 hb; have n0_ := bs HB hb; clear HB; have HB := n0_; clear n0_; (try clear hb); (try clear hb2); (try clear hk); (try clear hi)) | ((with_reducible refine gate_dst (N := 11) rfl ?_); refine bx 11 #[.int .u64 0, .int .u64 0] 104 ?_; intro gb306 hg w19 hbox hb; have n0_ := bs HB hb; have n1_ := Aside0.mk (hbox); have n2_ := sz HB hg; have n3_ := sz HB hg; clear HB; have HB := n0_; have BK306 := n1_; have GW306 := n2_; have GE306 := n3_; clear n0_ n1_ n2_ n3_; clear hb hbox hg; obtain ⟨hcz20_0, hcz20_1, hfz20_0, hfz20_1⟩ := bc2 BK306))
          have n0_ : Aside0 (((w19.setCell ⟨gb306, 0, none⟩ (.int .u64 t304)).setCell ⟨gb306, 1, none⟩ (.int .u64 t305)).heap[gb306]? = some (.cells #[.int .u64 t304, .int .u64 t305] 104 (0, 0))) := ⟨bk BK306⟩
          have n1_ : Aside0 (Below w.heap.size w ((w19.setCell ⟨gb306, 0, none⟩ (.int .u64 t304)).setCell ⟨gb306, 1, none⟩ (.int .u64 t305))) := ⟨bw HB⟩
          (try clear BK306)
          (try clear HB)
          generalize ((w19.setCell ⟨gb306, 0, none⟩ (.int .u64 t304)).setCell ⟨gb306, 1, none⟩ (.int .u64 t305)) = w21 at n0_ n1_ ⊢
          have BK306 := n0_
          have HB := n1_
          clear n0_ n1_
          have n0_ := Aside0.mk (blk_drew BK306.out)
          have n1_ := Aside0.mk (below_drew1 HB.out)
          clear BK306
          clear HB
          have BK306 := n0_
          have HB := n1_
          clear n0_ n1_
          refine start_ (n := 8) (S := fun w' => w'.cell? ⟨gb306, 0, none⟩ = some (.int .u64 t304) ∧ w'.cell? ⟨gb306, 1, none⟩ = some (.int .u64 t305)) (ds := []) #[false, false, false, false, false, false, false, false] (by kernel_rfl) rfl rfl ⟨(blk_cell BK306.out 0).trans rfl, (blk_cell BK306.out 1).trans rfl⟩ (fun hHeld => ?_); refine with_tabW turnstileref04_fits.tab4 turnstileref04_fits.bits4 (fun HT_ HW_ => ?_)
          generalize w21.drew = w22 at BK306 HB hHeld ⊢
          refine chain_ (fuel := 4) [(1, 0, some 24), (2, 0, some 25), (3, 0, some 26), (0, 1, some 23)] #[true, true, true, true, false, false, false, false] HT_.out HW_.out (by kernel_rfl) (fun _ _ _ _ _ h => h) (Or.inr hHeld) rfl ?_
          (iterate 3 refine lkP ?_); refine lkT ?_; refine .nil ?_
          refine join_ (σ := Nat) 1 #[true, true, true, true, true, true, true, false] (fun s_ => [(27, .agg #[.int .u64 t307, .int .u64 t308]), (28, .agg #[.int .u64 t309, .int .u64 t310]), (12, .pointer (some ⟨s_, 0, none⟩))]) (fun s_ w' => (w'.cell? ⟨gb306, 0, none⟩ = some (.int .u64 t304) ∧ w'.cell? ⟨gb306, 1, none⟩ = some (.int .u64 t305)) ∧ (w'.heap[gb306]? = some (.cells #[.int .u64 t304, .int .u64 t305] 104 (0, 0))) ∧ (w'.heap[s_]? = some (.cells #[.int .u64 0, .int .u64 0] 104 (0, 0))) ∧ (w.heap.size ≤ s_) ∧ (w.heap.size ≤ s_) ∧ (gb306 ≠ s_) ∧ (s_ ≠ gb306) ∧ (Below w.heap.size w w')) ?_ ?_
          rotate_left
          · intro hCont
            refine two_ (i := 4) (j := 6) (Ni := some 27) (Nj := some 12) #[true, true, true, true, true, false, false, false] #[true, true, true, true, false, false, true, false] rfl rfl rfl rfl (two_of HT_.out (by kernel_rfl)) (by decide) (by decide) (fun K hK => ?_) (fun K hK => ?_)
            · skip
              refine ge Try.func77 #[.int .u64 (IntKind.u64.wrap (a4 - 1)), .int .u64 a0] ?_
              with_reducible refine (turnstileref04_times.calls (IntKind.u64.wrap (a4 - 1)) a0 t307 t308 _ A11.out).mono ?_
              rintro e w23 ⟨rfl, hb⟩
              refine ⟨_, rfl, ?_⟩
              have n0_ := bb BK306 hb
              have n1_ := bs HB hb
              clear BK306
              clear HB
              have BK306 := n0_
              have HB := n1_
              clear n0_ n1_
              (try clear hb)
              (try clear hb2)
              (try clear hk)
              (try clear hi)
              refine hK.out _ _ ⟨(blk_cell BK306.out 0).trans rfl, (blk_cell BK306.out 1).trans rfl⟩ (fun hHeld => ?_)
              clear hK K
              refine norm_ (a' := ?_) ?_ ?_
              rotate_left
              · show Act.put _ (some 27) _ = _
                simp only [Act.put, List.setIfInBounds_toArray, List.set_cons_zero, List.set_cons_succ, i64_w, i32_w]
                rfl
              refine two_ (i := 5) (j := 6) (Ni := some 28) (Nj := some 12) #[true, true, true, true, true, true, false, false] #[true, true, true, true, true, false, true, false] rfl rfl rfl rfl (two_of HT_.out (by kernel_rfl)) (by decide) (by decide) (fun K hK => ?_) (fun K hK => ?_)
              · skip
                refine ge Try.func74 #[.agg #[.int .u64 t304, .int .u64 t305], .agg #[.int .u64 t307, .int .u64 t308]] ?_
                with_reducible refine (turnstileref04_plus.calls t304 t305 t307 t308 t309 t310 _ A12.out).mono ?_
                rintro e w24 ⟨rfl, hb⟩
                refine ⟨_, rfl, ?_⟩
                have n0_ := bb BK306 hb
                have n1_ := bs HB hb
                clear BK306
                clear HB
                have BK306 := n0_
                have HB := n1_
                clear n0_ n1_
                (try clear hb)
                (try clear hb2)
                (try clear hk)
                (try clear hi)
                refine hK.out _ _ ⟨(blk_cell BK306.out 0).trans rfl, (blk_cell BK306.out 1).trans rfl⟩ (fun hHeld => ?_)
                clear hK K
                refine norm_ (a' := ?_) ?_ ?_
                rotate_left
                · show Act.put _ (some 28) _ = _
                  simp only [Act.put, List.setIfInBounds_toArray, List.set_cons_zero, List.set_cons_succ, i64_w, i32_w]
                  rfl
                refine one_ (i := 6) (N := some 12) #[true, true, true, true, true, true, true, false] rfl rfl (one_of HT_.out (by kernel_rfl)) (by decide) (fun K hK => ?_)
                refine box_step ?hg (N := 12) ?hd (cs := #[.int .u64 0, .int .u64 0]) (t := 104) ?hr ?_; (case hd => rfl); (case hg => rfl); (case hr => first | (go_simp; done) | (go_simp; rfl))
                intro gb311 hg w25 hbox hb
                have n0_ := bb BK306 hb
                have n1_ := bs HB hb
                have n2_ := Aside0.mk (hbox)
                have n3_ := sz HB hg
                have n4_ := sz HB hg
                have n5_ := nl BK306 hg
                have n6_ := nr BK306 hg
                clear BK306
                clear HB
                have BK306 := n0_
                have HB := n1_
                have BK311 := n2_
                have GW311 := n3_
                have GE311 := n4_
                have NB306_311 := n5_
                have NB311_306 := n6_
                clear n0_ n1_ n2_ n3_ n4_ n5_ n6_
                clear hb hbox hg
                refine hK.out _ _ ⟨(blk_cell BK306.out 0).trans rfl, (blk_cell BK306.out 1).trans rfl⟩ (fun hHeld => ?_)
                clear hK K
                refine norm_ (a' := ?_) ?_ ?_
                rotate_left
                · show Act.put _ (some 12) _ = _
                  simp only [Act.put, List.setIfInBounds_toArray, List.set_cons_zero, List.set_cons_succ, i64_w, i32_w]
                  rfl
                exact norm_ (by simp only [putAll, Act.put, List.setIfInBounds_toArray, List.set_cons_zero, List.set_cons_succ]) (hCont (gb311) _ ⟨hHeld, (bk BK306), (bk BK311), GW311.out, GE311.out, NB306_311.out, NB311_306.out, (bw HB)⟩)
              · skip
                refine box_step ?hg (N := 12) ?hd (cs := #[.int .u64 0, .int .u64 0]) (t := 104) ?hr ?_; (case hd => rfl); (case hg => rfl); (case hr => first | (go_simp; done) | (go_simp; rfl))
                intro gb311 hg w24 hbox hb
                have n0_ := bb BK306 hb
                have n1_ := bs HB hb
                have n2_ := Aside0.mk (hbox)
                have n3_ := sz HB hg
                have n4_ := sz HB hg
                have n5_ := nl BK306 hg
                have n6_ := nr BK306 hg
                clear BK306
                clear HB
                have BK306 := n0_
                have HB := n1_
                have BK311 := n2_
                have GW311 := n3_
                have GE311 := n4_
                have NB306_311 := n5_
                have NB311_306 := n6_
                clear n0_ n1_ n2_ n3_ n4_ n5_ n6_
                clear hb hbox hg
                refine hK.out _ _ ⟨(blk_cell BK306.out 0).trans rfl, (blk_cell BK306.out 1).trans rfl⟩ (fun hHeld => ?_)
                clear hK K
                refine norm_ (a' := ?_) ?_ ?_
                rotate_left
                · show Act.put _ (some 12) _ = _
                  simp only [Act.put, List.setIfInBounds_toArray, List.set_cons_zero, List.set_cons_succ, i64_w, i32_w]
                  rfl
                refine one_ (i := 5) (N := some 28) #[true, true, true, true, true, true, true, false] rfl rfl (one_of HT_.out (by kernel_rfl)) (by decide) (fun K hK => ?_)
                refine ge Try.func74 #[.agg #[.int .u64 t304, .int .u64 t305], .agg #[.int .u64 t307, .int .u64 t308]] ?_
                with_reducible refine (turnstileref04_plus.calls t304 t305 t307 t308 t309 t310 _ A12.out).mono ?_
                rintro e w25 ⟨rfl, hb⟩
                refine ⟨_, rfl, ?_⟩
                have n0_ := bb BK306 hb
                have n1_ := bb BK311 hb
                have n2_ := bs HB hb
                clear BK306
                clear BK311
                clear HB
                have BK306 := n0_
                have BK311 := n1_
                have HB := n2_
                clear n0_ n1_ n2_
                (try clear hb)
                (try clear hb2)
                (try clear hk)
                (try clear hi)
                refine hK.out _ _ ⟨(blk_cell BK306.out 0).trans rfl, (blk_cell BK306.out 1).trans rfl⟩ (fun hHeld => ?_)
                clear hK K
                refine norm_ (a' := ?_) ?_ ?_
                rotate_left
                · show Act.put _ (some 28) _ = _
                  simp only [Act.put, List.setIfInBounds_toArray, List.set_cons_zero, List.set_cons_succ, i64_w, i32_w]
                  rfl
                exact norm_ (by simp only [putAll, Act.put, List.setIfInBounds_toArray, List.set_cons_zero, List.set_cons_succ]) (hCont (gb311) _ ⟨hHeld, (bk BK306), (bk BK311), GW311.out, GE311.out, NB306_311.out, NB311_306.out, (bw HB)⟩)
            · skip
              refine box_step ?hg (N := 12) ?hd (cs := #[.int .u64 0, .int .u64 0]) (t := 104) ?hr ?_; (case hd => rfl); (case hg => rfl); (case hr => first | (go_simp; done) | (go_simp; rfl))
              intro gb311 hg w23 hbox hb
              have n0_ := bb BK306 hb
              have n1_ := bs HB hb
              have n2_ := Aside0.mk (hbox)
              have n3_ := sz HB hg
              have n4_ := sz HB hg
              have n5_ := nl BK306 hg
              have n6_ := nr BK306 hg
              clear BK306
              clear HB
              have BK306 := n0_
              have HB := n1_
              have BK311 := n2_
              have GW311 := n3_
              have GE311 := n4_
              have NB306_311 := n5_
              have NB311_306 := n6_
              clear n0_ n1_ n2_ n3_ n4_ n5_ n6_
              clear hb hbox hg
              refine hK.out _ _ ⟨(blk_cell BK306.out 0).trans rfl, (blk_cell BK306.out 1).trans rfl⟩ (fun hHeld => ?_)
              clear hK K
              refine norm_ (a' := ?_) ?_ ?_
              rotate_left
              · show Act.put _ (some 12) _ = _
                simp only [Act.put, List.setIfInBounds_toArray, List.set_cons_zero, List.set_cons_succ, i64_w, i32_w]
                rfl
              refine one_ (i := 4) (N := some 27) #[true, true, true, true, true, false, true, false] rfl rfl (one_of HT_.out (by kernel_rfl)) (by decide) (fun K hK => ?_)
              refine ge Try.func77 #[.int .u64 (IntKind.u64.wrap (a4 - 1)), .int .u64 a0] ?_
              with_reducible refine (turnstileref04_times.calls (IntKind.u64.wrap (a4 - 1)) a0 t307 t308 _ A11.out).mono ?_
              rintro e w24 ⟨rfl, hb⟩
              refine ⟨_, rfl, ?_⟩
              have n0_ := bb BK306 hb
              have n1_ := bb BK311 hb
              have n2_ := bs HB hb
              clear BK306
              clear BK311
              clear HB
              have BK306 := n0_
              have BK311 := n1_
              have HB := n2_
              clear n0_ n1_ n2_
              (try clear hb)
              (try clear hb2)
              (try clear hk)
              (try clear hi)
              refine hK.out _ _ ⟨(blk_cell BK306.out 0).trans rfl, (blk_cell BK306.out 1).trans rfl⟩ (fun hHeld => ?_)
              clear hK K
              refine norm_ (a' := ?_) ?_ ?_
              rotate_left
              · show Act.put _ (some 27) _ = _
                simp only [Act.put, List.setIfInBounds_toArray, List.set_cons_zero, List.set_cons_succ, i64_w, i32_w]
                rfl
              refine one_ (i := 5) (N := some 28) #[true, true, true, true, true, true, true, false] rfl rfl (one_of HT_.out (by kernel_rfl)) (by decide) (fun K hK => ?_)
              refine ge Try.func74 #[.agg #[.int .u64 t304, .int .u64 t305], .agg #[.int .u64 t307, .int .u64 t308]] ?_
              with_reducible refine (turnstileref04_plus.calls t304 t305 t307 t308 t309 t310 _ A12.out).mono ?_
              rintro e w25 ⟨rfl, hb⟩
              refine ⟨_, rfl, ?_⟩
              have n0_ := bb BK306 hb
              have n1_ := bb BK311 hb
              have n2_ := bs HB hb
              clear BK306
              clear BK311
              clear HB
              have BK306 := n0_
              have BK311 := n1_
              have HB := n2_
              clear n0_ n1_ n2_
              (try clear hb)
              (try clear hb2)
              (try clear hk)
              (try clear hi)
              refine hK.out _ _ ⟨(blk_cell BK306.out 0).trans rfl, (blk_cell BK306.out 1).trans rfl⟩ (fun hHeld => ?_)
              clear hK K
              refine norm_ (a' := ?_) ?_ ?_
              rotate_left
              · show Act.put _ (some 28) _ = _
                simp only [Act.put, List.setIfInBounds_toArray, List.set_cons_zero, List.set_cons_succ, i64_w, i32_w]
                rfl
              exact norm_ (by simp only [putAll, Act.put, List.setIfInBounds_toArray, List.set_cons_zero, List.set_cons_succ]) (hCont (gb311) _ ⟨hHeld, (bk BK306), (bk BK311), GW311.out, GE311.out, NB306_311.out, NB311_306.out, (bw HB)⟩)
          rintro gb311 w26 ⟨hS_, h0_, h1_, h2_, h3_, h4_, h5_, h6_⟩
          have n0_ : Aside0 (w26.heap[gb306]? = some (.cells #[.int .u64 t304, .int .u64 t305] 104 (0, 0))) := ⟨h0_⟩
          have n1_ : Aside0 (w26.heap[gb311]? = some (.cells #[.int .u64 0, .int .u64 0] 104 (0, 0))) := ⟨h1_⟩
          have n2_ : Aside0 (w.heap.size ≤ gb311) := ⟨h2_⟩
          have n3_ : Aside0 (w.heap.size ≤ gb311) := ⟨h3_⟩
          have n4_ : Aside0 (gb306 ≠ gb311) := ⟨h4_⟩
          have n5_ : Aside0 (gb311 ≠ gb306) := ⟨h5_⟩
          have n6_ : Aside0 (Below w.heap.size w w26) := ⟨h6_⟩
          clear BK306
          clear HB
          clear h0_ h1_ h2_ h3_ h4_ h5_ h6_
          have BK306 := n0_
          have BK311 := n1_
          have GW311 := n2_
          have GE311 := n3_
          have NB306_311 := n4_
          have NB311_306 := n5_
          have HB := n6_
          clear n0_ n1_ n2_ n3_ n4_ n5_ n6_
          have hHeld : w26.cell? ⟨gb306, 0, none⟩ = some (.int .u64 t304) ∧ w26.cell? ⟨gb306, 1, none⟩ = some (.int .u64 t305) := hS_
          refine norm_ (a' := ?_) ?_ ?_
          rotate_left
          · simp only [putAll, Act.put, List.setIfInBounds_toArray, List.set_cons_zero, List.set_cons_succ]
            rfl
          refine one_ (i := 7) (N := none) #[true, true, true, true, true, true, true, true] rfl rfl (one_of HT_.out (by kernel_rfl)) (by decide) (fun K hK => ?_)
          have hs27 : w26.cell? ⟨gb311, 0, none⟩ = some (.int .u64 0) := (blk_cell BK311.out 0).trans rfl
          have hfs27 := blk_frozen BK311.out 0
          have hns27_0 := NB306_311.out
          have hms27_0 := NB311_306.out
          have hs28 : w26.cell? ⟨gb311, 1, none⟩ = some (.int .u64 0) := (blk_cell BK311.out 1).trans rfl
          have hfs28 := blk_frozen BK311.out 1
          have hns28_0 := NB306_311.out
          have hms28_0 := NB311_306.out
          refine skip_ (w1 := ?_) (by rfl) rfl ?_ ?_
          rotate_left
          · go_simp
            rfl
          refine hK.out _ _ ⟨((cell_far (p := ⟨gb311, _, none⟩) NB306_311.out _).trans (((cell_far (p := ⟨gb311, _, none⟩) NB306_311.out _).trans (hHeld.1)))), ((cell_far (p := ⟨gb311, _, none⟩) NB306_311.out _).trans (((cell_far (p := ⟨gb311, _, none⟩) NB306_311.out _).trans (hHeld.2))))⟩ (fun hHeld => ?_)
          clear hK K
          refine done_ (done_of HT_.out (by kernel_rfl)) ?_
          try go_wp2
          have n0_ : Aside0 (((w26.setCell ⟨gb311, 0, none⟩ (.int .u64 t309)).setCell ⟨gb311, 1, none⟩ (.int .u64 t310)).heap[gb306]? = some (.cells #[.int .u64 t304, .int .u64 t305] 104 (0, 0))) := ⟨bk BK306⟩
          have n1_ : Aside0 (((w26.setCell ⟨gb311, 0, none⟩ (.int .u64 t309)).setCell ⟨gb311, 1, none⟩ (.int .u64 t310)).heap[gb311]? = some (.cells #[.int .u64 t309, .int .u64 t310] 104 (0, 0))) := ⟨bk BK311⟩
          have n2_ : Aside0 (Below w.heap.size w ((w26.setCell ⟨gb311, 0, none⟩ (.int .u64 t309)).setCell ⟨gb311, 1, none⟩ (.int .u64 t310))) := ⟨bw HB⟩
          (try clear BK306)
          (try clear BK311)
          (try clear HB)
          generalize ((w26.setCell ⟨gb311, 0, none⟩ (.int .u64 t309)).setCell ⟨gb311, 1, none⟩ (.int .u64 t310)) = w29 at n0_ n1_ n2_ ⊢
          have BK306 := n0_
          have BK311 := n1_
          have HB := n2_
          clear n0_ n1_ n2_
          have n0_ := Aside0.mk (blk_drew BK306.out)
          have n1_ := Aside0.mk (blk_drew BK311.out)
          have n2_ := Aside0.mk (below_drew1 HB.out)
          clear BK306
          clear BK311
          clear HB
          have BK306 := n0_
          have BK311 := n1_
          have HB := n2_
          clear n0_ n1_ n2_
          refine start_ (n := 7) (S := fun w' => w'.cell? ⟨gb311, 0, none⟩ = some (.int .u64 t309) ∧ w'.cell? ⟨gb311, 1, none⟩ = some (.int .u64 t310)) (ds := []) #[false, false, false, false, false, false, false] (by kernel_rfl) rfl rfl ⟨(blk_cell BK311.out 0).trans rfl, (blk_cell BK311.out 1).trans rfl⟩ (fun hHeld => ?_)
          generalize w29.drew = w30 at BK306 BK311 HB hHeld ⊢
          refine pure_ (i := 1) (N := some 30) (v := ?_) (a' := ?_) #[false, true, false, false, false, false, false] rfl rfl (by kernel_rfl) (fun _ _ _ h => h) (Or.inl ⟨by rfl, ?_⟩) ?_ ?_
          rotate_left
          · intro w'
            go_simp
            with_reducible rfl
          rotate_left
          · simp only [Act.put, List.setIfInBounds_toArray, List.set_cons_zero, List.set_cons_succ, i64_w, i32_w]
            rfl
          refine pure_ (i := 3) (N := some 32) (v := ?_) (a' := ?_) #[false, true, false, true, false, false, false] rfl rfl (by kernel_rfl) (fun _ _ _ h => h) (Or.inl ⟨by rfl, ?_⟩) ?_ ?_
          rotate_left
          · intro w'
            go_simp
            with_reducible rfl
          rotate_left
          · simp only [Act.put, List.setIfInBounds_toArray, List.set_cons_zero, List.set_cons_succ, i64_w, i32_w]
            rfl
          refine take_ (i := 0) (N := some 29) (v := ?_) (a' := ?_) #[true, true, false, true, false, false, false] rfl rfl (by kernel_rfl) (fun _ _ _ h => h) (Or.inl ⟨by rfl, ?_⟩) hHeld ?_ ?_
          rotate_left
          · rintro w' ⟨s0, s1⟩
            go_simp
            with_reducible rfl
          rotate_left
          · simp only [Act.put, List.setIfInBounds_toArray, List.set_cons_zero, List.set_cons_succ, i64_w, i32_w]
            rfl
          refine one_ (i := 2) (N := some 31) #[true, true, true, true, false, false, false] rfl rfl (by kernel_rfl) (by decide) (fun K hK => ?_)
          refine ge Try.func75 #[.int .u64 a3] ?_
          with_reducible refine (turnstileref04_of.calls a3 t312 t313 _ A13.out).mono ?_
          rintro e w31 ⟨rfl, hb⟩
          refine ⟨_, rfl, ?_⟩
          have n0_ := bb BK306 hb
          have n1_ := bb BK311 hb
          have n2_ := bs HB hb
          clear BK306
          clear BK311
          clear HB
          have BK306 := n0_
          have BK311 := n1_
          have HB := n2_
          clear n0_ n1_ n2_
          (try clear hb)
          (try clear hb2)
          (try clear hk)
          (try clear hi)
          refine hK.out _ _ ⟨(blk_cell BK311.out 0).trans rfl, (blk_cell BK311.out 1).trans rfl⟩ (fun hHeld => ?_)
          clear hK K
          refine norm_ (a' := ?_) ?_ ?_
          rotate_left
          · show Act.put _ (some 31) _ = _
            simp only [Act.put, List.setIfInBounds_toArray, List.set_cons_zero, List.set_cons_succ, i64_w, i32_w]
            rfl
          refine one_ (i := 4) (N := some 33) #[true, true, true, true, true, false, false] rfl rfl (by kernel_rfl) (by decide) (fun K hK => ?_)
          refine ge Try.func75 #[.int .u64 a1] ?_
          with_reducible refine (turnstileref04_of.calls a1 t314 t315 _ A14.out).mono ?_
          rintro e w32 ⟨rfl, hb⟩
          refine ⟨_, rfl, ?_⟩
          have n0_ := bb BK306 hb
          have n1_ := bb BK311 hb
          have n2_ := bs HB hb
          clear BK306
          clear BK311
          clear HB
          have BK306 := n0_
          have BK311 := n1_
          have HB := n2_
          clear n0_ n1_ n2_
          (try clear hb)
          (try clear hb2)
          (try clear hk)
          (try clear hi)
          refine hK.out _ _ ⟨(blk_cell BK311.out 0).trans rfl, (blk_cell BK311.out 1).trans rfl⟩ (fun hHeld => ?_)
          clear hK K
          refine norm_ (a' := ?_) ?_ ?_
          rotate_left
          · show Act.put _ (some 33) _ = _
            simp only [Act.put, List.setIfInBounds_toArray, List.set_cons_zero, List.set_cons_succ, i64_w, i32_w]
            rfl
          refine one_ (i := 5) (N := some 34) #[true, true, true, true, true, true, false] rfl rfl (by kernel_rfl) (by decide) (fun K hK => ?_)
          refine ge Try.func74 #[.agg #[.int .u64 t312, .int .u64 t313], .agg #[.int .u64 t314, .int .u64 t315]] ?_
          with_reducible refine (turnstileref04_plus.calls t312 t313 t314 t315 t316 t317 _ A15.out).mono ?_
          rintro e w33 ⟨rfl, hb⟩
          refine ⟨_, rfl, ?_⟩
          have n0_ := bb BK306 hb
          have n1_ := bb BK311 hb
          have n2_ := bs HB hb
          clear BK306
          clear BK311
          clear HB
          have BK306 := n0_
          have BK311 := n1_
          have HB := n2_
          clear n0_ n1_ n2_
          (try clear hb)
          (try clear hb2)
          (try clear hk)
          (try clear hi)
          refine hK.out _ _ ⟨(blk_cell BK311.out 0).trans rfl, (blk_cell BK311.out 1).trans rfl⟩ (fun hHeld => ?_)
          clear hK K
          refine norm_ (a' := ?_) ?_ ?_
          rotate_left
          · show Act.put _ (some 34) _ = _
            simp only [Act.put, List.setIfInBounds_toArray, List.set_cons_zero, List.set_cons_succ, i64_w, i32_w]
            rfl
          refine one_ (i := 6) (N := some 35) #[true, true, true, true, true, true, true] rfl rfl (by kernel_rfl) (by decide) (fun K hK => ?_)
          refine ge Try.func92 #[.agg #[.int .u64 t309, .int .u64 t310], .agg #[.int .u64 t316, .int .u64 t317]] ?_
          with_reducible refine (turnstileref04_above.calls t309 t310 t316 t317 true _ A16.out).mono ?_
          rintro e w34 ⟨rfl, hb⟩
          refine ⟨_, rfl, ?_⟩
          have n0_ := bb BK306 hb
          have n1_ := bb BK311 hb
          have n2_ := bs HB hb
          clear BK306
          clear BK311
          clear HB
          have BK306 := n0_
          have BK311 := n1_
          have HB := n2_
          clear n0_ n1_ n2_
          (try clear hb)
          (try clear hb2)
          (try clear hk)
          (try clear hi)
          refine hK.out _ _ ⟨(blk_cell BK311.out 0).trans rfl, (blk_cell BK311.out 1).trans rfl⟩ (fun hHeld => ?_)
          clear hK K
          refine norm_ (a' := ?_) ?_ ?_
          rotate_left
          · show Act.put _ (some 35) _ = _
            simp only [Act.put, List.setIfInBounds_toArray, List.set_cons_zero, List.set_cons_succ, i64_w, i32_w]
            rfl
          refine done_ (by kernel_rfl) ?_
          try go_wp2
          go_ret
          exact ⟨re, bw HB⟩
        · replace c17 := Bool.eq_false_iff.mpr c17
          subst c17
          have H1 : ((turnstileref04_times.f a4 a0).bind fun bt319 => ((turnstileref04_plus.f t304 t305 bt319.1 bt319.2).bind fun bt321 => ((turnstileref04_of.f 18446744073709551615).bind fun bt323 => ((turnstileref04_above.f bt321.1 bt321.2 bt323.1 bt323.2).bind fun t325 => (some (!t325)))))) = some r := by rw [if_neg (show ¬ (false = true) by decide)] at H; exact H
          clear H
          have H := H1
          clear H1
          replace H := Option.bind_eq_some_iff.mp H
          obtain ⟨⟨t319, t320⟩, A350, H⟩ := H
          replace H : ((turnstileref04_plus.f t304 t305 t319 t320).bind fun bt321 => ((turnstileref04_of.f 18446744073709551615).bind fun bt323 => ((turnstileref04_above.f bt321.1 bt321.2 bt323.1 bt323.2).bind fun t325 => (some (!t325))))) = some r := H
          have A35 := Aside0.mk A350
          clear A350
          replace H := Option.bind_eq_some_iff.mp H
          obtain ⟨⟨t321, t322⟩, A360, H⟩ := H
          replace H : ((turnstileref04_of.f 18446744073709551615).bind fun bt323 => ((turnstileref04_above.f t321 t322 bt323.1 bt323.2).bind fun t325 => (some (!t325)))) = some r := H
          have A36 := Aside0.mk A360
          clear A360
          replace H := Option.bind_eq_some_iff.mp H
          obtain ⟨⟨t323, t324⟩, A370, H⟩ := H
          replace H : ((turnstileref04_above.f t321 t322 t323 t324).bind fun t325 => (some (!t325))) = some r := H
          have A37 := Aside0.mk A370
          clear A370
          replace H := Option.bind_eq_some_iff.mp H
          obtain ⟨t325, A380, H⟩ := H
          replace H : (some (!t325)) = some r := H
          have A38 := Aside0.mk A380
          clear A380
          obtain rfl := Option.some.inj H
          try go_wp2_with (first | ((with_reducible refine gate_callee (f := 76) rfl ?_); refine gl (some 21) Try.func76 #[.int .u64 a2, .int .u64 a3] ?_; (with_reducible refine (turnstileref04_later.calls a2 a3 t303 _ A9.out).mono ?_); rintro e w' ⟨rfl, ⟨nd, rfl⟩⟩; refine ⟨_, rfl, ?_⟩; (try (rw [drewN_self wc]; generalize hq_ : World.drewN wc _ = wc; have n0_ : Aside0 (Below w.heap.size w wc) := ⟨by rw [← hq_]; exact (bw HB)⟩; clear HB hq_; have HB := n0_; clear n0_))) | ((with_reducible refine gate_callee (f := 75) rfl ?_); refine gm (some 22) Try.func75 #[.int .u64 t303] (turnstileref04_of.calls t303 t304 t305 _ A10.out) ?_; intro w39 hb; have n0_ := bs HB hb; clear HB; have HB := n0_; clear n0_; (try clear hb); (try clear hb2); (try clear hk); (try clear hi)) | ((with_reducible refine gate_dst (N := 11) rfl ?_); refine bx 11 #[.int .u64 0, .int .u64 0] 104 ?_; intro gb306 hg w40 hbox hb; have n0_ := bs HB hb; have n1_ := Aside0.mk (hbox); have n2_ := sz HB hg; have n3_ := sz HB hg; clear HB; have HB := n0_; have BK306 := n1_; have GW306 := n2_; have GE306 := n3_; clear n0_ n1_ n2_ n3_; clear hb hbox hg; obtain ⟨hcz41_0, hcz41_1, hfz41_0, hfz41_1⟩ := bc2 BK306))
          have n0_ : Aside0 (((w40.setCell ⟨gb306, 0, none⟩ (.int .u64 t304)).setCell ⟨gb306, 1, none⟩ (.int .u64 t305)).heap[gb306]? = some (.cells #[.int .u64 t304, .int .u64 t305] 104 (0, 0))) := ⟨bk BK306⟩
          have n1_ : Aside0 (Below w.heap.size w ((w40.setCell ⟨gb306, 0, none⟩ (.int .u64 t304)).setCell ⟨gb306, 1, none⟩ (.int .u64 t305))) := ⟨bw HB⟩
          (try clear BK306)
          (try clear HB)
          generalize ((w40.setCell ⟨gb306, 0, none⟩ (.int .u64 t304)).setCell ⟨gb306, 1, none⟩ (.int .u64 t305)) = w42 at n0_ n1_ ⊢
          have BK306 := n0_
          have HB := n1_
          clear n0_ n1_
          have n0_ := Aside0.mk (blk_drew BK306.out)
          have n1_ := Aside0.mk (below_drew1 HB.out)
          clear BK306
          clear HB
          have BK306 := n0_
          have HB := n1_
          clear n0_ n1_
          refine start_ (n := 8) (S := fun w' => w'.cell? ⟨gb306, 0, none⟩ = some (.int .u64 t304) ∧ w'.cell? ⟨gb306, 1, none⟩ = some (.int .u64 t305)) (ds := []) #[false, false, false, false, false, false, false, false] (by kernel_rfl) rfl rfl ⟨(blk_cell BK306.out 0).trans rfl, (blk_cell BK306.out 1).trans rfl⟩ (fun hHeld => ?_); refine with_tabW turnstileref04_fits.tab4 turnstileref04_fits.bits4 (fun HT_ HW_ => ?_)
          generalize w42.drew = w43 at BK306 HB hHeld ⊢
          refine chain_ (fuel := 4) [(1, 0, some 24), (2, 0, some 25), (3, 0, some 26), (0, 1, some 23)] #[true, true, true, true, false, false, false, false] HT_.out HW_.out (by kernel_rfl) (fun _ _ _ _ _ h => h) (Or.inr hHeld) rfl ?_
          (iterate 3 refine lkP ?_); refine lkT ?_; refine .nil ?_
          refine join_ (σ := Nat) 1 #[true, true, true, true, true, true, true, false] (fun s_ => [(27, .agg #[.int .u64 t307, .int .u64 t308]), (28, .agg #[.int .u64 t309, .int .u64 t310]), (12, .pointer (some ⟨s_, 0, none⟩))]) (fun s_ w' => (w'.cell? ⟨gb306, 0, none⟩ = some (.int .u64 t304) ∧ w'.cell? ⟨gb306, 1, none⟩ = some (.int .u64 t305)) ∧ (w'.heap[gb306]? = some (.cells #[.int .u64 t304, .int .u64 t305] 104 (0, 0))) ∧ (w'.heap[s_]? = some (.cells #[.int .u64 0, .int .u64 0] 104 (0, 0))) ∧ (w.heap.size ≤ s_) ∧ (w.heap.size ≤ s_) ∧ (gb306 ≠ s_) ∧ (s_ ≠ gb306) ∧ (Below w.heap.size w w')) ?_ ?_
          rotate_left
          · intro hCont
            refine two_ (i := 4) (j := 6) (Ni := some 27) (Nj := some 12) #[true, true, true, true, true, false, false, false] #[true, true, true, true, false, false, true, false] rfl rfl rfl rfl (two_of HT_.out (by kernel_rfl)) (by decide) (by decide) (fun K hK => ?_) (fun K hK => ?_)
            · skip
              refine ge Try.func77 #[.int .u64 (IntKind.u64.wrap (a4 - 1)), .int .u64 a0] ?_
              with_reducible refine (turnstileref04_times.calls (IntKind.u64.wrap (a4 - 1)) a0 t307 t308 _ A11.out).mono ?_
              rintro e w44 ⟨rfl, hb⟩
              refine ⟨_, rfl, ?_⟩
              have n0_ := bb BK306 hb
              have n1_ := bs HB hb
              clear BK306
              clear HB
              have BK306 := n0_
              have HB := n1_
              clear n0_ n1_
              (try clear hb)
              (try clear hb2)
              (try clear hk)
              (try clear hi)
              refine hK.out _ _ ⟨(blk_cell BK306.out 0).trans rfl, (blk_cell BK306.out 1).trans rfl⟩ (fun hHeld => ?_)
              clear hK K
              refine norm_ (a' := ?_) ?_ ?_
              rotate_left
              · show Act.put _ (some 27) _ = _
                simp only [Act.put, List.setIfInBounds_toArray, List.set_cons_zero, List.set_cons_succ, i64_w, i32_w]
                rfl
              refine two_ (i := 5) (j := 6) (Ni := some 28) (Nj := some 12) #[true, true, true, true, true, true, false, false] #[true, true, true, true, true, false, true, false] rfl rfl rfl rfl (two_of HT_.out (by kernel_rfl)) (by decide) (by decide) (fun K hK => ?_) (fun K hK => ?_)
              · skip
                refine ge Try.func74 #[.agg #[.int .u64 t304, .int .u64 t305], .agg #[.int .u64 t307, .int .u64 t308]] ?_
                with_reducible refine (turnstileref04_plus.calls t304 t305 t307 t308 t309 t310 _ A12.out).mono ?_
                rintro e w45 ⟨rfl, hb⟩
                refine ⟨_, rfl, ?_⟩
                have n0_ := bb BK306 hb
                have n1_ := bs HB hb
                clear BK306
                clear HB
                have BK306 := n0_
                have HB := n1_
                clear n0_ n1_
                (try clear hb)
                (try clear hb2)
                (try clear hk)
                (try clear hi)
                refine hK.out _ _ ⟨(blk_cell BK306.out 0).trans rfl, (blk_cell BK306.out 1).trans rfl⟩ (fun hHeld => ?_)
                clear hK K
                refine norm_ (a' := ?_) ?_ ?_
                rotate_left
                · show Act.put _ (some 28) _ = _
                  simp only [Act.put, List.setIfInBounds_toArray, List.set_cons_zero, List.set_cons_succ, i64_w, i32_w]
                  rfl
                refine one_ (i := 6) (N := some 12) #[true, true, true, true, true, true, true, false] rfl rfl (one_of HT_.out (by kernel_rfl)) (by decide) (fun K hK => ?_)
                refine box_step ?hg (N := 12) ?hd (cs := #[.int .u64 0, .int .u64 0]) (t := 104) ?hr ?_; (case hd => rfl); (case hg => rfl); (case hr => first | (go_simp; done) | (go_simp; rfl))
                intro gb311 hg w46 hbox hb
                have n0_ := bb BK306 hb
                have n1_ := bs HB hb
                have n2_ := Aside0.mk (hbox)
                have n3_ := sz HB hg
                have n4_ := sz HB hg
                have n5_ := nl BK306 hg
                have n6_ := nr BK306 hg
                clear BK306
                clear HB
                have BK306 := n0_
                have HB := n1_
                have BK311 := n2_
                have GW311 := n3_
                have GE311 := n4_
                have NB306_311 := n5_
                have NB311_306 := n6_
                clear n0_ n1_ n2_ n3_ n4_ n5_ n6_
                clear hb hbox hg
                refine hK.out _ _ ⟨(blk_cell BK306.out 0).trans rfl, (blk_cell BK306.out 1).trans rfl⟩ (fun hHeld => ?_)
                clear hK K
                refine norm_ (a' := ?_) ?_ ?_
                rotate_left
                · show Act.put _ (some 12) _ = _
                  simp only [Act.put, List.setIfInBounds_toArray, List.set_cons_zero, List.set_cons_succ, i64_w, i32_w]
                  rfl
                exact norm_ (by simp only [putAll, Act.put, List.setIfInBounds_toArray, List.set_cons_zero, List.set_cons_succ]) (hCont (gb311) _ ⟨hHeld, (bk BK306), (bk BK311), GW311.out, GE311.out, NB306_311.out, NB311_306.out, (bw HB)⟩)
              · skip
                refine box_step ?hg (N := 12) ?hd (cs := #[.int .u64 0, .int .u64 0]) (t := 104) ?hr ?_; (case hd => rfl); (case hg => rfl); (case hr => first | (go_simp; done) | (go_simp; rfl))
                intro gb311 hg w45 hbox hb
                have n0_ := bb BK306 hb
                have n1_ := bs HB hb
                have n2_ := Aside0.mk (hbox)
                have n3_ := sz HB hg
                have n4_ := sz HB hg
                have n5_ := nl BK306 hg
                have n6_ := nr BK306 hg
                clear BK306
                clear HB
                have BK306 := n0_
                have HB := n1_
                have BK311 := n2_
                have GW311 := n3_
                have GE311 := n4_
                have NB306_311 := n5_
                have NB311_306 := n6_
                clear n0_ n1_ n2_ n3_ n4_ n5_ n6_
                clear hb hbox hg
                refine hK.out _ _ ⟨(blk_cell BK306.out 0).trans rfl, (blk_cell BK306.out 1).trans rfl⟩ (fun hHeld => ?_)
                clear hK K
                refine norm_ (a' := ?_) ?_ ?_
                rotate_left
                · show Act.put _ (some 12) _ = _
                  simp only [Act.put, List.setIfInBounds_toArray, List.set_cons_zero, List.set_cons_succ, i64_w, i32_w]
                  rfl
                refine one_ (i := 5) (N := some 28) #[true, true, true, true, true, true, true, false] rfl rfl (one_of HT_.out (by kernel_rfl)) (by decide) (fun K hK => ?_)
                refine ge Try.func74 #[.agg #[.int .u64 t304, .int .u64 t305], .agg #[.int .u64 t307, .int .u64 t308]] ?_
                with_reducible refine (turnstileref04_plus.calls t304 t305 t307 t308 t309 t310 _ A12.out).mono ?_
                rintro e w46 ⟨rfl, hb⟩
                refine ⟨_, rfl, ?_⟩
                have n0_ := bb BK306 hb
                have n1_ := bb BK311 hb
                have n2_ := bs HB hb
                clear BK306
                clear BK311
                clear HB
                have BK306 := n0_
                have BK311 := n1_
                have HB := n2_
                clear n0_ n1_ n2_
                (try clear hb)
                (try clear hb2)
                (try clear hk)
                (try clear hi)
                refine hK.out _ _ ⟨(blk_cell BK306.out 0).trans rfl, (blk_cell BK306.out 1).trans rfl⟩ (fun hHeld => ?_)
                clear hK K
                refine norm_ (a' := ?_) ?_ ?_
                rotate_left
                · show Act.put _ (some 28) _ = _
                  simp only [Act.put, List.setIfInBounds_toArray, List.set_cons_zero, List.set_cons_succ, i64_w, i32_w]
                  rfl
                exact norm_ (by simp only [putAll, Act.put, List.setIfInBounds_toArray, List.set_cons_zero, List.set_cons_succ]) (hCont (gb311) _ ⟨hHeld, (bk BK306), (bk BK311), GW311.out, GE311.out, NB306_311.out, NB311_306.out, (bw HB)⟩)
            · skip
              refine box_step ?hg (N := 12) ?hd (cs := #[.int .u64 0, .int .u64 0]) (t := 104) ?hr ?_; (case hd => rfl); (case hg => rfl); (case hr => first | (go_simp; done) | (go_simp; rfl))
              intro gb311 hg w44 hbox hb
              have n0_ := bb BK306 hb
              have n1_ := bs HB hb
              have n2_ := Aside0.mk (hbox)
              have n3_ := sz HB hg
              have n4_ := sz HB hg
              have n5_ := nl BK306 hg
              have n6_ := nr BK306 hg
              clear BK306
              clear HB
              have BK306 := n0_
              have HB := n1_
              have BK311 := n2_
              have GW311 := n3_
              have GE311 := n4_
              have NB306_311 := n5_
              have NB311_306 := n6_
              clear n0_ n1_ n2_ n3_ n4_ n5_ n6_
              clear hb hbox hg
              refine hK.out _ _ ⟨(blk_cell BK306.out 0).trans rfl, (blk_cell BK306.out 1).trans rfl⟩ (fun hHeld => ?_)
              clear hK K
              refine norm_ (a' := ?_) ?_ ?_
              rotate_left
              · show Act.put _ (some 12) _ = _
                simp only [Act.put, List.setIfInBounds_toArray, List.set_cons_zero, List.set_cons_succ, i64_w, i32_w]
                rfl
              refine one_ (i := 4) (N := some 27) #[true, true, true, true, true, false, true, false] rfl rfl (one_of HT_.out (by kernel_rfl)) (by decide) (fun K hK => ?_)
              refine ge Try.func77 #[.int .u64 (IntKind.u64.wrap (a4 - 1)), .int .u64 a0] ?_
              with_reducible refine (turnstileref04_times.calls (IntKind.u64.wrap (a4 - 1)) a0 t307 t308 _ A11.out).mono ?_
              rintro e w45 ⟨rfl, hb⟩
              refine ⟨_, rfl, ?_⟩
              have n0_ := bb BK306 hb
              have n1_ := bb BK311 hb
              have n2_ := bs HB hb
              clear BK306
              clear BK311
              clear HB
              have BK306 := n0_
              have BK311 := n1_
              have HB := n2_
              clear n0_ n1_ n2_
              (try clear hb)
              (try clear hb2)
              (try clear hk)
              (try clear hi)
              refine hK.out _ _ ⟨(blk_cell BK306.out 0).trans rfl, (blk_cell BK306.out 1).trans rfl⟩ (fun hHeld => ?_)
              clear hK K
              refine norm_ (a' := ?_) ?_ ?_
              rotate_left
              · show Act.put _ (some 27) _ = _
                simp only [Act.put, List.setIfInBounds_toArray, List.set_cons_zero, List.set_cons_succ, i64_w, i32_w]
                rfl
              refine one_ (i := 5) (N := some 28) #[true, true, true, true, true, true, true, false] rfl rfl (one_of HT_.out (by kernel_rfl)) (by decide) (fun K hK => ?_)
              refine ge Try.func74 #[.agg #[.int .u64 t304, .int .u64 t305], .agg #[.int .u64 t307, .int .u64 t308]] ?_
              with_reducible refine (turnstileref04_plus.calls t304 t305 t307 t308 t309 t310 _ A12.out).mono ?_
              rintro e w46 ⟨rfl, hb⟩
              refine ⟨_, rfl, ?_⟩
              have n0_ := bb BK306 hb
              have n1_ := bb BK311 hb
              have n2_ := bs HB hb
              clear BK306
              clear BK311
              clear HB
              have BK306 := n0_
              have BK311 := n1_
              have HB := n2_
              clear n0_ n1_ n2_
              (try clear hb)
              (try clear hb2)
              (try clear hk)
              (try clear hi)
              refine hK.out _ _ ⟨(blk_cell BK306.out 0).trans rfl, (blk_cell BK306.out 1).trans rfl⟩ (fun hHeld => ?_)
              clear hK K
              refine norm_ (a' := ?_) ?_ ?_
              rotate_left
              · show Act.put _ (some 28) _ = _
                simp only [Act.put, List.setIfInBounds_toArray, List.set_cons_zero, List.set_cons_succ, i64_w, i32_w]
                rfl
              exact norm_ (by simp only [putAll, Act.put, List.setIfInBounds_toArray, List.set_cons_zero, List.set_cons_succ]) (hCont (gb311) _ ⟨hHeld, (bk BK306), (bk BK311), GW311.out, GE311.out, NB306_311.out, NB311_306.out, (bw HB)⟩)
          rintro gb311 w47 ⟨hS_, h0_, h1_, h2_, h3_, h4_, h5_, h6_⟩
          have n0_ : Aside0 (w47.heap[gb306]? = some (.cells #[.int .u64 t304, .int .u64 t305] 104 (0, 0))) := ⟨h0_⟩
          have n1_ : Aside0 (w47.heap[gb311]? = some (.cells #[.int .u64 0, .int .u64 0] 104 (0, 0))) := ⟨h1_⟩
          have n2_ : Aside0 (w.heap.size ≤ gb311) := ⟨h2_⟩
          have n3_ : Aside0 (w.heap.size ≤ gb311) := ⟨h3_⟩
          have n4_ : Aside0 (gb306 ≠ gb311) := ⟨h4_⟩
          have n5_ : Aside0 (gb311 ≠ gb306) := ⟨h5_⟩
          have n6_ : Aside0 (Below w.heap.size w w47) := ⟨h6_⟩
          clear BK306
          clear HB
          clear h0_ h1_ h2_ h3_ h4_ h5_ h6_
          have BK306 := n0_
          have BK311 := n1_
          have GW311 := n2_
          have GE311 := n3_
          have NB306_311 := n4_
          have NB311_306 := n5_
          have HB := n6_
          clear n0_ n1_ n2_ n3_ n4_ n5_ n6_
          have hHeld : w47.cell? ⟨gb306, 0, none⟩ = some (.int .u64 t304) ∧ w47.cell? ⟨gb306, 1, none⟩ = some (.int .u64 t305) := hS_
          refine norm_ (a' := ?_) ?_ ?_
          rotate_left
          · simp only [putAll, Act.put, List.setIfInBounds_toArray, List.set_cons_zero, List.set_cons_succ]
            rfl
          refine one_ (i := 7) (N := none) #[true, true, true, true, true, true, true, true] rfl rfl (one_of HT_.out (by kernel_rfl)) (by decide) (fun K hK => ?_)
          have hs48 : w47.cell? ⟨gb311, 0, none⟩ = some (.int .u64 0) := (blk_cell BK311.out 0).trans rfl
          have hfs48 := blk_frozen BK311.out 0
          have hns48_0 := NB306_311.out
          have hms48_0 := NB311_306.out
          have hs49 : w47.cell? ⟨gb311, 1, none⟩ = some (.int .u64 0) := (blk_cell BK311.out 1).trans rfl
          have hfs49 := blk_frozen BK311.out 1
          have hns49_0 := NB306_311.out
          have hms49_0 := NB311_306.out
          refine skip_ (w1 := ?_) (by rfl) rfl ?_ ?_
          rotate_left
          · go_simp
            rfl
          refine hK.out _ _ ⟨((cell_far (p := ⟨gb311, _, none⟩) NB306_311.out _).trans (((cell_far (p := ⟨gb311, _, none⟩) NB306_311.out _).trans (hHeld.1)))), ((cell_far (p := ⟨gb311, _, none⟩) NB306_311.out _).trans (((cell_far (p := ⟨gb311, _, none⟩) NB306_311.out _).trans (hHeld.2))))⟩ (fun hHeld => ?_)
          clear hK K
          refine done_ (done_of HT_.out (by kernel_rfl)) ?_
          try go_wp2
          have n0_ : Aside0 (((w47.setCell ⟨gb311, 0, none⟩ (.int .u64 t309)).setCell ⟨gb311, 1, none⟩ (.int .u64 t310)).heap[gb306]? = some (.cells #[.int .u64 t304, .int .u64 t305] 104 (0, 0))) := ⟨bk BK306⟩
          have n1_ : Aside0 (((w47.setCell ⟨gb311, 0, none⟩ (.int .u64 t309)).setCell ⟨gb311, 1, none⟩ (.int .u64 t310)).heap[gb311]? = some (.cells #[.int .u64 t309, .int .u64 t310] 104 (0, 0))) := ⟨bk BK311⟩
          have n2_ : Aside0 (Below w.heap.size w ((w47.setCell ⟨gb311, 0, none⟩ (.int .u64 t309)).setCell ⟨gb311, 1, none⟩ (.int .u64 t310))) := ⟨bw HB⟩
          (try clear BK306)
          (try clear BK311)
          (try clear HB)
          generalize ((w47.setCell ⟨gb311, 0, none⟩ (.int .u64 t309)).setCell ⟨gb311, 1, none⟩ (.int .u64 t310)) = w50 at n0_ n1_ n2_ ⊢
          have BK306 := n0_
          have BK311 := n1_
          have HB := n2_
          clear n0_ n1_ n2_
          have n0_ := Aside0.mk (blk_drew BK306.out)
          have n1_ := Aside0.mk (blk_drew BK311.out)
          have n2_ := Aside0.mk (below_drew1 HB.out)
          clear BK306
          clear BK311
          clear HB
          have BK306 := n0_
          have BK311 := n1_
          have HB := n2_
          clear n0_ n1_ n2_
          refine start_ (n := 7) (S := fun w' => w'.cell? ⟨gb311, 0, none⟩ = some (.int .u64 t309) ∧ w'.cell? ⟨gb311, 1, none⟩ = some (.int .u64 t310)) (ds := []) #[false, false, false, false, false, false, false] (by kernel_rfl) rfl rfl ⟨(blk_cell BK311.out 0).trans rfl, (blk_cell BK311.out 1).trans rfl⟩ (fun hHeld => ?_)
          generalize w50.drew = w51 at BK306 BK311 HB hHeld ⊢
          refine pure_ (i := 1) (N := some 30) (v := ?_) (a' := ?_) #[false, true, false, false, false, false, false] rfl rfl (by kernel_rfl) (fun _ _ _ h => h) (Or.inl ⟨by rfl, ?_⟩) ?_ ?_
          rotate_left
          · intro w'
            go_simp
            with_reducible rfl
          rotate_left
          · simp only [Act.put, List.setIfInBounds_toArray, List.set_cons_zero, List.set_cons_succ, i64_w, i32_w]
            rfl
          refine pure_ (i := 3) (N := some 32) (v := ?_) (a' := ?_) #[false, true, false, true, false, false, false] rfl rfl (by kernel_rfl) (fun _ _ _ h => h) (Or.inl ⟨by rfl, ?_⟩) ?_ ?_
          rotate_left
          · intro w'
            go_simp
            with_reducible rfl
          rotate_left
          · simp only [Act.put, List.setIfInBounds_toArray, List.set_cons_zero, List.set_cons_succ, i64_w, i32_w]
            rfl
          refine take_ (i := 0) (N := some 29) (v := ?_) (a' := ?_) #[true, true, false, true, false, false, false] rfl rfl (by kernel_rfl) (fun _ _ _ h => h) (Or.inl ⟨by rfl, ?_⟩) hHeld ?_ ?_
          rotate_left
          · rintro w' ⟨s0, s1⟩
            go_simp
            with_reducible rfl
          rotate_left
          · simp only [Act.put, List.setIfInBounds_toArray, List.set_cons_zero, List.set_cons_succ, i64_w, i32_w]
            rfl
          refine one_ (i := 2) (N := some 31) #[true, true, true, true, false, false, false] rfl rfl (by kernel_rfl) (by decide) (fun K hK => ?_)
          refine ge Try.func75 #[.int .u64 a3] ?_
          with_reducible refine (turnstileref04_of.calls a3 t312 t313 _ A13.out).mono ?_
          rintro e w52 ⟨rfl, hb⟩
          refine ⟨_, rfl, ?_⟩
          have n0_ := bb BK306 hb
          have n1_ := bb BK311 hb
          have n2_ := bs HB hb
          clear BK306
          clear BK311
          clear HB
          have BK306 := n0_
          have BK311 := n1_
          have HB := n2_
          clear n0_ n1_ n2_
          (try clear hb)
          (try clear hb2)
          (try clear hk)
          (try clear hi)
          refine hK.out _ _ ⟨(blk_cell BK311.out 0).trans rfl, (blk_cell BK311.out 1).trans rfl⟩ (fun hHeld => ?_)
          clear hK K
          refine norm_ (a' := ?_) ?_ ?_
          rotate_left
          · show Act.put _ (some 31) _ = _
            simp only [Act.put, List.setIfInBounds_toArray, List.set_cons_zero, List.set_cons_succ, i64_w, i32_w]
            rfl
          refine one_ (i := 4) (N := some 33) #[true, true, true, true, true, false, false] rfl rfl (by kernel_rfl) (by decide) (fun K hK => ?_)
          refine ge Try.func75 #[.int .u64 a1] ?_
          with_reducible refine (turnstileref04_of.calls a1 t314 t315 _ A14.out).mono ?_
          rintro e w53 ⟨rfl, hb⟩
          refine ⟨_, rfl, ?_⟩
          have n0_ := bb BK306 hb
          have n1_ := bb BK311 hb
          have n2_ := bs HB hb
          clear BK306
          clear BK311
          clear HB
          have BK306 := n0_
          have BK311 := n1_
          have HB := n2_
          clear n0_ n1_ n2_
          (try clear hb)
          (try clear hb2)
          (try clear hk)
          (try clear hi)
          refine hK.out _ _ ⟨(blk_cell BK311.out 0).trans rfl, (blk_cell BK311.out 1).trans rfl⟩ (fun hHeld => ?_)
          clear hK K
          refine norm_ (a' := ?_) ?_ ?_
          rotate_left
          · show Act.put _ (some 33) _ = _
            simp only [Act.put, List.setIfInBounds_toArray, List.set_cons_zero, List.set_cons_succ, i64_w, i32_w]
            rfl
          refine one_ (i := 5) (N := some 34) #[true, true, true, true, true, true, false] rfl rfl (by kernel_rfl) (by decide) (fun K hK => ?_)
          refine ge Try.func74 #[.agg #[.int .u64 t312, .int .u64 t313], .agg #[.int .u64 t314, .int .u64 t315]] ?_
          with_reducible refine (turnstileref04_plus.calls t312 t313 t314 t315 t316 t317 _ A15.out).mono ?_
          rintro e w54 ⟨rfl, hb⟩
          refine ⟨_, rfl, ?_⟩
          have n0_ := bb BK306 hb
          have n1_ := bb BK311 hb
          have n2_ := bs HB hb
          clear BK306
          clear BK311
          clear HB
          have BK306 := n0_
          have BK311 := n1_
          have HB := n2_
          clear n0_ n1_ n2_
          (try clear hb)
          (try clear hb2)
          (try clear hk)
          (try clear hi)
          refine hK.out _ _ ⟨(blk_cell BK311.out 0).trans rfl, (blk_cell BK311.out 1).trans rfl⟩ (fun hHeld => ?_)
          clear hK K
          refine norm_ (a' := ?_) ?_ ?_
          rotate_left
          · show Act.put _ (some 34) _ = _
            simp only [Act.put, List.setIfInBounds_toArray, List.set_cons_zero, List.set_cons_succ, i64_w, i32_w]
            rfl
          refine one_ (i := 6) (N := some 35) #[true, true, true, true, true, true, true] rfl rfl (by kernel_rfl) (by decide) (fun K hK => ?_)
          refine ge Try.func92 #[.agg #[.int .u64 t309, .int .u64 t310], .agg #[.int .u64 t316, .int .u64 t317]] ?_
          with_reducible refine (turnstileref04_above.calls t309 t310 t316 t317 false _ A16.out).mono ?_
          rintro e w55 ⟨rfl, hb⟩
          refine ⟨_, rfl, ?_⟩
          have n0_ := bb BK306 hb
          have n1_ := bb BK311 hb
          have n2_ := bs HB hb
          clear BK306
          clear BK311
          clear HB
          have BK306 := n0_
          have BK311 := n1_
          have HB := n2_
          clear n0_ n1_ n2_
          (try clear hb)
          (try clear hb2)
          (try clear hk)
          (try clear hi)
          refine hK.out _ _ ⟨(blk_cell BK311.out 0).trans rfl, (blk_cell BK311.out 1).trans rfl⟩ (fun hHeld => ?_)
          clear hK K
          refine norm_ (a' := ?_) ?_ ?_
          rotate_left
          · show Act.put _ (some 35) _ = _
            simp only [Act.put, List.setIfInBounds_toArray, List.set_cons_zero, List.set_cons_succ, i64_w, i32_w]
            rfl
          refine done_ (by kernel_rfl) ?_
          try go_wp2
          have n0_ := Aside0.mk (blk_drew BK306.out)
          have n1_ := Aside0.mk (blk_drew BK311.out)
          have n2_ := Aside0.mk (below_drew1 HB.out)
          clear BK306
          clear BK311
          clear HB
          have BK306 := n0_
          have BK311 := n1_
          have HB := n2_
          clear n0_ n1_ n2_
          refine start_ (n := 9) (S := fun w' => w'.cell? ⟨gb306, 0, none⟩ = some (.int .u64 t304) ∧ w'.cell? ⟨gb306, 1, none⟩ = some (.int .u64 t305)) (ds := []) #[false, false, false, false, false, false, false, false, false] (by kernel_rfl) rfl rfl ⟨(blk_cell BK306.out 0).trans rfl, (blk_cell BK306.out 1).trans rfl⟩ (fun hHeld => ?_); refine with_tabW turnstileref04_fits.tab7 turnstileref04_fits.bits7 (fun HT_ HW_ => ?_)
          generalize w55.drew = w56 at BK306 BK311 HB hHeld ⊢
          refine chain_ (fuel := 6) [(1, 0, some 37), (2, 0, some 38), (0, 1, some 36)] #[true, true, true, false, false, false, false, false, false] HT_.out HW_.out (by kernel_rfl) (fun _ _ _ _ _ h => h) (Or.inr hHeld) rfl ?_
          (iterate 2 refine lkP ?_); refine lkT ?_; refine .nil ?_
          refine one_ (i := 3) (N := some 39) #[true, true, true, true, false, false, false, false, false] rfl rfl (one_of HT_.out (by kernel_rfl)) (by decide) (fun K hK => ?_)
          refine ge Try.func77 #[.int .u64 a4, .int .u64 a0] ?_
          with_reducible refine (turnstileref04_times.calls a4 a0 t319 t320 _ A35.out).mono ?_
          rintro e w57 ⟨rfl, hb⟩
          refine ⟨_, rfl, ?_⟩
          have n0_ := bb BK306 hb
          have n1_ := bb BK311 hb
          have n2_ := bs HB hb
          clear BK306
          clear BK311
          clear HB
          have BK306 := n0_
          have BK311 := n1_
          have HB := n2_
          clear n0_ n1_ n2_
          (try clear hb)
          (try clear hb2)
          (try clear hk)
          (try clear hi)
          refine hK.out _ _ ⟨(blk_cell BK306.out 0).trans rfl, (blk_cell BK306.out 1).trans rfl⟩ (fun hHeld => ?_)
          clear hK K
          refine norm_ (a' := ?_) ?_ ?_
          rotate_left
          · show Act.put _ (some 39) _ = _
            simp only [Act.put, List.setIfInBounds_toArray, List.set_cons_zero, List.set_cons_succ, i64_w, i32_w]
            rfl
          refine one_ (i := 4) (N := some 40) #[true, true, true, true, true, false, false, false, false] rfl rfl (one_of HT_.out (by kernel_rfl)) (by decide) (fun K hK => ?_)
          refine ge Try.func74 #[.agg #[.int .u64 t304, .int .u64 t305], .agg #[.int .u64 t319, .int .u64 t320]] ?_
          with_reducible refine (turnstileref04_plus.calls t304 t305 t319 t320 t321 t322 _ A36.out).mono ?_
          rintro e w58 ⟨rfl, hb⟩
          refine ⟨_, rfl, ?_⟩
          have n0_ := bb BK306 hb
          have n1_ := bb BK311 hb
          have n2_ := bs HB hb
          clear BK306
          clear BK311
          clear HB
          have BK306 := n0_
          have BK311 := n1_
          have HB := n2_
          clear n0_ n1_ n2_
          (try clear hb)
          (try clear hb2)
          (try clear hk)
          (try clear hi)
          refine hK.out _ _ ⟨(blk_cell BK306.out 0).trans rfl, (blk_cell BK306.out 1).trans rfl⟩ (fun hHeld => ?_)
          clear hK K
          refine norm_ (a' := ?_) ?_ ?_
          rotate_left
          · show Act.put _ (some 40) _ = _
            simp only [Act.put, List.setIfInBounds_toArray, List.set_cons_zero, List.set_cons_succ, i64_w, i32_w]
            rfl
          refine one_ (i := 5) (N := some 41) #[true, true, true, true, true, true, false, false, false] rfl rfl (one_of HT_.out (by kernel_rfl)) (by decide) (fun K hK => ?_)
          refine ge Try.func75 #[.int .u64 18446744073709551615] ?_
          with_reducible refine (turnstileref04_of.calls 18446744073709551615 t323 t324 _ A37.out).mono ?_
          rintro e w59 ⟨rfl, hb⟩
          refine ⟨_, rfl, ?_⟩
          have n0_ := bb BK306 hb
          have n1_ := bb BK311 hb
          have n2_ := bs HB hb
          clear BK306
          clear BK311
          clear HB
          have BK306 := n0_
          have BK311 := n1_
          have HB := n2_
          clear n0_ n1_ n2_
          (try clear hb)
          (try clear hb2)
          (try clear hk)
          (try clear hi)
          refine hK.out _ _ ⟨(blk_cell BK306.out 0).trans rfl, (blk_cell BK306.out 1).trans rfl⟩ (fun hHeld => ?_)
          clear hK K
          refine norm_ (a' := ?_) ?_ ?_
          rotate_left
          · show Act.put _ (some 41) _ = _
            simp only [Act.put, List.setIfInBounds_toArray, List.set_cons_zero, List.set_cons_succ, i64_w, i32_w]
            rfl
          refine one_ (i := 6) (N := some 42) #[true, true, true, true, true, true, true, false, false] rfl rfl (one_of HT_.out (by kernel_rfl)) (by decide) (fun K hK => ?_)
          refine ge Try.func92 #[.agg #[.int .u64 t321, .int .u64 t322], .agg #[.int .u64 t323, .int .u64 t324]] ?_
          with_reducible refine (turnstileref04_above.calls t321 t322 t323 t324 t325 _ A38.out).mono ?_
          rintro e w60 ⟨rfl, hb⟩
          refine ⟨_, rfl, ?_⟩
          have n0_ := bb BK306 hb
          have n1_ := bb BK311 hb
          have n2_ := bs HB hb
          clear BK306
          clear BK311
          clear HB
          have BK306 := n0_
          have BK311 := n1_
          have HB := n2_
          clear n0_ n1_ n2_
          (try clear hb)
          (try clear hb2)
          (try clear hk)
          (try clear hi)
          refine hK.out _ _ ⟨(blk_cell BK306.out 0).trans rfl, (blk_cell BK306.out 1).trans rfl⟩ (fun hHeld => ?_)
          clear hK K
          refine norm_ (a' := ?_) ?_ ?_
          rotate_left
          · show Act.put _ (some 42) _ = _
            simp only [Act.put, List.setIfInBounds_toArray, List.set_cons_zero, List.set_cons_succ, i64_w, i32_w]
            rfl
          refine chain_ (fuel := 0) [(7, 0, some 43), (8, 0, some 10)] #[true, true, true, true, true, true, true, true, true] HT_.out HW_.out (by kernel_rfl) (fun _ _ _ _ _ h => h) (Or.inl (by decide)) rfl ?_
          (iterate 2 refine lkP ?_); refine .nil ?_
          refine done_ (done_of HT_.out (by kernel_rfl)) ?_
          try go_wp2
          go_ret
          exact ⟨re, bw HB⟩

end Go.Proofs.Ytokfhdpokemekaa.Q
