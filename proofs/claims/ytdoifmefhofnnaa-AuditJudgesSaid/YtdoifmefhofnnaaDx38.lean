/- Written by the session's own program hyb.py: what functions of the program compute; Lean checks it. -/
import Derived.Test.YtdoifmefhofnnaaDx0
import Derived.Test.YtdoifmefhofnnaaDx3
import Derived.Test.YtdoifmefhofnnaaDx22
import Derived.Test.YtdoifmefhofnnaaDx24
import Derived.Test.YtdoifmefhofnnaaDx26
import Derived.Test.YtdoifmefhofnnaaDx35
import Derived.Test.YtdoifmefhofnnaaDx36
import Derived.Test.YtdoifmefhofnnaaDx37
namespace Go.Proofs.Ytdoifmefhofnnaa.D
open Go.RowKit Go.Proofs.YtdoifmefhofnnaaW.PrintWords Go.Proofs.YtdoifmefhofnnaaW.PrintLast Go.Proofs.YtdoifmefhofnnaaW.PrintMore Go.Proofs.YtdoifmefhofnnaaW.PrintShort
attribute [local go_sem] run_Add64 run_Sub64
attribute [local go_sem] max2_int min2_int max_two min_two max_three min_three max_four min_four   -- for this text's walks alone
set_option linter.unusedVariables false
set_option linter.unusedSimpArgs false

attribute [local go_sem high] eqA40
/-! ### turnstilelaw24_judged: function 10 -/
def turnstilelaw24_judged.h (k : Nat) (a0_0 : Int) (a0_1 : Int) (a0_2 : Int) (a0_3 : Int) (a0_4 : Int) (l1 : List (S31)) (full t512 : List (S31)) : Option (Bool) := ((audit_Conforms.f k a0_0 a0_1 a0_2 a0_3 a0_4 t512).bind fun t515 => ((turnstileref24_Conforms.f k a0_0 a0_1 a0_2 a0_3 a0_4 l1).bind fun t516 => (if (t515 != t516) = true then (some false) else ((audit_Level.f k a0_0 a0_1 a0_2 a0_3 a0_4 t512).bind fun bt517 => ((turnstileref24_Level.f k a0_0 a0_1 a0_2 a0_3 a0_4 l1).bind fun bt522 => (if (bt517.1 == bt522.1 && (bt517.2.1 == bt522.2.1 && (bt517.2.2.1 == bt522.2.2.1))) = true then (if (bt517.2.2.2 == bt522.2.2.2) = true then ((turnstilelaw24_kept.l0 k l1 full 0).bind fun t527 => (some t527)) else (some false)) else (some false)))))))
def turnstilelaw24_judged.f (k : Nat) (a0_0 : Int) (a0_1 : Int) (a0_2 : Int) (a0_3 : Int) (a0_4 : Int) (l1 : List (S31)) : Option (Bool) := (turnstilelaw24_events.g k l1).bind fun full => (if full.length = l1.length + 9 ∧ full.length ≤ 4611686018427387904 then turnstilelaw24_judged.h k a0_0 a0_1 a0_2 a0_3 a0_4 l1 full (full.take l1.length) else none)
theorem turnstilelaw24_judged.tk {α : Type} {d : Kd α} {e base c : Nat} {ok : Nat → Prop} {W : World} {A : Option Addr} {full t : List α} (h : d.R e W base ok (.slice A full.length c) full) (ht : t = full.take t.length ∧ t.length ≤ full.length) : d.R e W base ok (.slice A t.length c) t := by
  have h3 := Kd.R_take (m := t.length) h ht.2
  rw [← ht.1] at h3
  exact h3
set_option maxHeartbeats 8000000 in
set_option maxRecDepth 100000 in
theorem turnstilelaw24_judged.calls (k : Nat) (a0_0 : Int) (a0_1 : Int) (a0_2 : Int) (a0_3 : Int) (a0_4 : Int) (A1 : Option Addr) (c1 : Nat) (l1 : List (S31)) (r : Bool) (w : World) (hr1 : Kd.C k31 w A1 l1.length l1) (hc1 : l1.length ≤ c1) (h : turnstilelaw24_judged.f k a0_0 a0_1 a0_2 a0_3 a0_4 l1 = some r) :
    Calls Try.prog 10 #[.agg #[.int .i64 a0_0, .int .u64 a0_1, .int .u64 a0_2, .int .u64 a0_3, .int .u64 a0_4], .slice A1 l1.length c1] w fun e w' => e = .returned (.bool r) ∧ Below w.heap.size w w' := by
  have hu24 := Try.underlying24
  have hu40 := Try.underlying40
  have HR1 := Aside0.mk hr1
  have HC1 := Aside0.mk hc1
  clear hr1 hc1
  have HB := Aside0.mk (Below.refl w.heap.size w)
  unfold turnstilelaw24_judged.f at h
  obtain ⟨full, A30, H⟩ := Option.bind_eq_some_iff.mp h
  clear h
  by_cases hf : full.length = l1.length + 9 ∧ full.length ≤ 4611686018427387904
  case neg => rw [if_neg hf] at H; exact absurd H (by simp)
  rw [if_pos hf] at H
  have HFL := Aside0.mk hf
  clear hf
  obtain ⟨t512, hT_⟩ : ∃ t_, full.take l1.length = t_ := ⟨_, rfl⟩
  rw [hT_] at H
  have HT := Aside0.mk hT_
  have HTL : Aside0 (t512.length = l1.length) := ⟨by rw [← hT_, List.length_take]; have := HFL.out.1; omega⟩
  clear hT_
  unfold turnstilelaw24_judged.h at H
  replace H : ((audit_Conforms.f k a0_0 a0_1 a0_2 a0_3 a0_4 t512).bind fun t515 => ((turnstileref24_Conforms.f k a0_0 a0_1 a0_2 a0_3 a0_4 l1).bind fun t516 => (if (t515 != t516) = true then (some false) else ((audit_Level.f k a0_0 a0_1 a0_2 a0_3 a0_4 t512).bind fun bt517 => ((turnstileref24_Level.f k a0_0 a0_1 a0_2 a0_3 a0_4 l1).bind fun bt522 => (if (bt517.1 == bt522.1 && (bt517.2.1 == bt522.2.1 && (bt517.2.2.1 == bt522.2.2.1))) = true then (if (bt517.2.2.2 == bt522.2.2.2) = true then ((turnstilelaw24_kept.l0 k l1 full 0).bind fun t527 => (some t527)) else (some false)) else (some false))))))) = some r := H
  have A3 := Aside0.mk A30
  clear A30
  replace H := Option.bind_eq_some_iff.mp H
  obtain ⟨t515, A40, H⟩ := H
  replace H : ((turnstileref24_Conforms.f k a0_0 a0_1 a0_2 a0_3 a0_4 l1).bind fun t516 => (if (t515 != t516) = true then (some false) else ((audit_Level.f k a0_0 a0_1 a0_2 a0_3 a0_4 t512).bind fun bt517 => ((turnstileref24_Level.f k a0_0 a0_1 a0_2 a0_3 a0_4 l1).bind fun bt522 => (if (bt517.1 == bt522.1 && (bt517.2.1 == bt522.2.1 && (bt517.2.2.1 == bt522.2.2.1))) = true then (if (bt517.2.2.2 == bt522.2.2.2) = true then ((turnstilelaw24_kept.l0 k l1 full 0).bind fun t527 => (some t527)) else (some false)) else (some false)))))) = some r := H
  have A4 := Aside0.mk A40
  clear A40
  replace H := Option.bind_eq_some_iff.mp H
  obtain ⟨t516, A50, H⟩ := H
  replace H : (if (t515 != t516) = true then (some false) else ((audit_Level.f k a0_0 a0_1 a0_2 a0_3 a0_4 t512).bind fun bt517 => ((turnstileref24_Level.f k a0_0 a0_1 a0_2 a0_3 a0_4 l1).bind fun bt522 => (if (bt517.1 == bt522.1 && (bt517.2.1 == bt522.2.1 && (bt517.2.2.1 == bt522.2.2.1))) = true then (if (bt517.2.2.2 == bt522.2.2.2) = true then ((turnstilelaw24_kept.l0 k l1 full 0).bind fun t527 => (some t527)) else (some false)) else (some false))))) = some r := H
  have A5 := Aside0.mk A50
  clear A50
  by_cases c6 : (t515 != t516) = true
  · rw [if_pos c6] at H
    have c6b0 : (t515 != t516) = true := c6
    (try (have c6b1 : decide (t515 = t516) = false := by simpa using c6))
    (try (have c6b2 : (t515 == t516) = false := by simpa using c6))
    (try (have c6b3 : ¬ (t515 = t516) := by simpa using c6))
    clear c6
    obtain rfl := Option.some.inj H
    go_enter Try.func10, Try.ntmps10
    try go_wp2_with (first | ((with_reducible refine gate_dst (N := 2) rfl ?_); refine bx 2 #[.int .i64 a0_0, .int .u64 a0_1, .int .u64 a0_2, .int .u64 a0_3, .int .u64 a0_4] 24 ?_; intro gb511 hg w7 hbox hb; have BK511 := Aside0.mk (hbox); have GW511 := sz HB hg; have GE511 := sz HB hg; replace HB := bs HB hb; clear hb hbox hg) | ((with_reducible refine gate_callee (f := 11) rfl ?_); refine gl (some 11) Try.func11 #[.slice A1 l1.length c1] ?_; (with_reducible refine (turnstilelaw24_events.calls2 k _ _ l1 full t512 _ ?side1 ?side2 A3.out HT.out).mono ?_); (case side1 => exact co (Kd.C_below HR1.out HB.out)); (case side2 => exact HC1.out); rintro e w8 ⟨Ao_, co_, rfl, ht0, ho0, hb⟩; refine ⟨_, rfl, ?_⟩; have HTT := Aside0.mk ht0; clear ht0; have HO514 := Aside0.mk (Kd.R_lower ho0 (below_size (bw HB))); replace BK511 := bb BK511 hb; replace HB := bs HB hb; (try clear hb); (try clear hb2); (try clear hk); (try clear hi); (try clear ho0)))
    replace HO514 := Aside0.mk (Kd.R_drew HO514.out)
    replace BK511 := Aside0.mk (blk_drew BK511.out)
    replace HB := Aside0.mk (below_drew1 HB.out)
    refine start_ (n := 7) (S := fun w' => w'.cell? ⟨gb511, 0, none⟩ = some (.int .i64 a0_0) ∧ w'.cell? ⟨gb511, 1, none⟩ = some (.int .u64 a0_1) ∧ w'.cell? ⟨gb511, 2, none⟩ = some (.int .u64 a0_2) ∧ w'.cell? ⟨gb511, 3, none⟩ = some (.int .u64 a0_3) ∧ w'.cell? ⟨gb511, 4, none⟩ = some (.int .u64 a0_4)) (ds := []) #[false, false, false, false, false, false, false] (by kernel_rfl) rfl rfl ⟨(blk_cell BK511.out 0).trans rfl, (blk_cell BK511.out 1).trans rfl, (blk_cell BK511.out 2).trans rfl, (blk_cell BK511.out 3).trans rfl, (blk_cell BK511.out 4).trans rfl⟩ (fun hHeld => ?_)
    generalize w8.drew = w9 at HO514 BK511 HB hHeld ⊢
    refine pure_ (i := 1) (N := some 13) (v := ?_) (a' := ?_) #[false, true, false, false, false, false, false] rfl rfl (by kernel_rfl) (fun _ _ _ h => h) (Or.inl ⟨by rfl, ?_⟩) ?_ ?_
    rotate_left
    · intro w'
      go_simp
      with_reducible rfl
    rotate_left
    · simp only [Act.put, List.setIfInBounds_toArray, List.set_cons_zero, List.set_cons_succ, i64_w, i32_w]
      rfl
    refine pure_ (i := 4) (N := some 16) (v := ?_) (a' := ?_) #[false, true, false, false, true, false, false] rfl rfl (by kernel_rfl) (fun _ _ _ h => h) (Or.inl ⟨by rfl, ?_⟩) ?_ ?_
    rotate_left
    · intro w'
      go_simp
      with_reducible rfl
    rotate_left
    · simp only [Act.put, List.setIfInBounds_toArray, List.set_cons_zero, List.set_cons_succ, i64_w, i32_w]
      rfl
    refine take_ (i := 0) (N := some 12) (v := ?_) (a' := ?_) #[true, true, false, false, true, false, false] rfl rfl (by kernel_rfl) (fun _ _ _ h => h) (Or.inl ⟨by rfl, ?_⟩) hHeld ?_ ?_
    rotate_left
    · rintro w' ⟨s0, s1, s2, s3, s4⟩
      go_simp
      with_reducible rfl
    rotate_left
    · simp only [Act.put, List.setIfInBounds_toArray, List.set_cons_zero, List.set_cons_succ, i64_w, i32_w]
      rfl
    refine take_ (i := 3) (N := some 15) (v := ?_) (a' := ?_) #[true, true, false, true, true, false, false] rfl rfl (by kernel_rfl) (fun _ _ _ h => h) (Or.inl ⟨by rfl, ?_⟩) hHeld ?_ ?_
    rotate_left
    · rintro w' ⟨s0, s1, s2, s3, s4⟩
      go_simp
      with_reducible rfl
    rotate_left
    · simp only [Act.put, List.setIfInBounds_toArray, List.set_cons_zero, List.set_cons_succ, i64_w, i32_w]
      rfl
    refine one_ (i := 2) (N := some 14) #[true, true, true, true, true, false, false] rfl rfl (by kernel_rfl) (by decide) (fun K hK => ?_)
    refine ge Try.func12 #[.agg #[.int .i64 a0_0, .int .u64 a0_1, .int .u64 a0_2, .int .u64 a0_3, .int .u64 a0_4], .slice Ao_ t512.length co_] ?_
    with_reducible refine (audit_Conforms.calls k a0_0 a0_1 a0_2 a0_3 a0_4 _ _ t512 t515 _ ?side1 ?side2 A4.out).mono ?_
    (case side1 => exact co (Kd.R_reads' (turnstilelaw24_judged.tk HO514.out HTT.out)).2.2)
    (case side2 => exact (Kd.R_reads' (turnstilelaw24_judged.tk HO514.out HTT.out)).2.1)
    rintro e w11 ⟨rfl, hb⟩
    refine ⟨_, rfl, ?_⟩
    replace HO514 := Aside0.mk (Kd.R_below (ro HO514) hb)
    replace BK511 := bb BK511 hb
    replace HB := bs HB hb
    (try clear hb)
    (try clear hb2)
    (try clear hk)
    (try clear hi)
    refine hK.out _ _ ⟨(blk_cell BK511.out 0).trans rfl, (blk_cell BK511.out 1).trans rfl, (blk_cell BK511.out 2).trans rfl, (blk_cell BK511.out 3).trans rfl, (blk_cell BK511.out 4).trans rfl⟩ (fun hHeld => ?_)
    clear hK K
    refine norm_ (a' := ?_) ?_ ?_
    rotate_left
    · show Act.put _ (some 14) _ = _
      simp only [Act.put, List.setIfInBounds_toArray, List.set_cons_zero, List.set_cons_succ, i64_w, i32_w]
      rfl
    refine one_ (i := 5) (N := some 17) #[true, true, true, true, true, true, false] rfl rfl (by kernel_rfl) (by decide) (fun K hK => ?_)
    refine ge Try.func13 #[.agg #[.int .i64 a0_0, .int .u64 a0_1, .int .u64 a0_2, .int .u64 a0_3, .int .u64 a0_4], .slice A1 l1.length c1] ?_
    with_reducible refine (turnstileref24_Conforms.calls k a0_0 a0_1 a0_2 a0_3 a0_4 _ _ l1 t516 _ ?side1 ?side2 A5.out).mono ?_
    (case side1 => exact co (Kd.C_below HR1.out HB.out))
    (case side2 => exact HC1.out)
    rintro e w12 ⟨rfl, hb⟩
    refine ⟨_, rfl, ?_⟩
    replace HO514 := Aside0.mk (Kd.R_below (ro HO514) hb)
    replace BK511 := bb BK511 hb
    replace HB := bs HB hb
    (try clear hb)
    (try clear hb2)
    (try clear hk)
    (try clear hi)
    refine hK.out _ _ ⟨(blk_cell BK511.out 0).trans rfl, (blk_cell BK511.out 1).trans rfl, (blk_cell BK511.out 2).trans rfl, (blk_cell BK511.out 3).trans rfl, (blk_cell BK511.out 4).trans rfl⟩ (fun hHeld => ?_)
    clear hK K
    refine norm_ (a' := ?_) ?_ ?_
    rotate_left
    · show Act.put _ (some 17) _ = _
      simp only [Act.put, List.setIfInBounds_toArray, List.set_cons_zero, List.set_cons_succ, i64_w, i32_w]
      rfl
    refine pure_ (i := 6) (N := some 18) (v := ?_) (a' := ?_) #[true, true, true, true, true, true, true] rfl rfl (by kernel_rfl) (fun _ _ _ h => h) (Or.inl ⟨by rfl, ?_⟩) ?_ ?_
    rotate_left
    · intro w'
      go_simp
      with_reducible rfl
    rotate_left
    · simp only [Act.put, List.setIfInBounds_toArray, List.set_cons_zero, List.set_cons_succ, i64_w, i32_w]
      rfl
    refine done_ (by kernel_rfl) ?_
    try go_wp2
    go_ret
    exact ⟨re, bw HB⟩
  · rw [if_neg c6] at H
    have c6b0 : (t515 != t516) = false := by simpa using c6
    (try (have c6b1 : decide (t515 = t516) = true := by simpa using c6))
    (try (have c6b2 : (t515 == t516) = true := by simpa using c6))
    clear c6
    replace H := Option.bind_eq_some_iff.mp H
    obtain ⟨⟨t517, t518, t519, t520⟩, A130, H⟩ := H
    replace H : ((turnstileref24_Level.f k a0_0 a0_1 a0_2 a0_3 a0_4 l1).bind fun bt522 => (if (t517 == bt522.1 && (t518 == bt522.2.1 && (t519 == bt522.2.2.1))) = true then (if (t520 == bt522.2.2.2) = true then ((turnstilelaw24_kept.l0 k l1 full 0).bind fun t527 => (some t527)) else (some false)) else (some false))) = some r := H
    have A13 := Aside0.mk A130
    clear A130
    replace H := Option.bind_eq_some_iff.mp H
    obtain ⟨⟨t522, t523, t524, t525⟩, A140, H⟩ := H
    replace H : (if (t517 == t522 && (t518 == t523 && (t519 == t524))) = true then (if (t520 == t525) = true then ((turnstilelaw24_kept.l0 k l1 full 0).bind fun t527 => (some t527)) else (some false)) else (some false)) = some r := H
    have A14 := Aside0.mk A140
    clear A140
    by_cases c15 : (t517 == t522 && (t518 == t523 && (t519 == t524))) = true
    · rw [if_pos c15] at H
      have c15b0 : (t517 == t522 && (t518 == t523 && (t519 == t524))) = true := c15
      (try (have c15b1 : decide (t517 = t522 && (t518 == t523 && (t519 == t524))) = true := by simpa using c15))
      (try (have c15b2 : (t517 == t522 && (t518 == t523 && (t519 == t524))) = true := by simpa using c15))
      clear c15
      by_cases c16 : (t520 == t525) = true
      · rw [if_pos c16] at H
        have c16b0 : (t520 == t525) = true := c16
        (try (have c16b1 : decide (t520 = t525) = true := by simpa using c16))
        (try (have c16b2 : (t520 == t525) = true := by simpa using c16))
        clear c16
        replace H := Option.bind_eq_some_iff.mp H
        obtain ⟨t527, A170, H⟩ := H
        replace H : (some t527) = some r := H
        have A17 := Aside0.mk A170
        clear A170
        obtain rfl := Option.some.inj H
        go_enter Try.func10, Try.ntmps10
        try go_wp2_with (first | ((with_reducible refine gate_dst (N := 2) rfl ?_); refine bx 2 #[.int .i64 a0_0, .int .u64 a0_1, .int .u64 a0_2, .int .u64 a0_3, .int .u64 a0_4] 24 ?_; intro gb511 hg w18 hbox hb; have BK511 := Aside0.mk (hbox); have GW511 := sz HB hg; have GE511 := sz HB hg; replace HB := bs HB hb; clear hb hbox hg) | ((with_reducible refine gate_callee (f := 11) rfl ?_); refine gl (some 11) Try.func11 #[.slice A1 l1.length c1] ?_; (with_reducible refine (turnstilelaw24_events.calls2 k _ _ l1 full t512 _ ?side1 ?side2 A3.out HT.out).mono ?_); (case side1 => exact co (Kd.C_below HR1.out HB.out)); (case side2 => exact HC1.out); rintro e w19 ⟨Ao_, co_, rfl, ht0, ho0, hb⟩; refine ⟨_, rfl, ?_⟩; have HTT := Aside0.mk ht0; clear ht0; have HO514 := Aside0.mk (Kd.R_lower ho0 (below_size (bw HB))); replace BK511 := bb BK511 hb; replace HB := bs HB hb; (try clear hb); (try clear hb2); (try clear hk); (try clear hi); (try clear ho0)))
        replace HO514 := Aside0.mk (Kd.R_drew HO514.out)
        replace BK511 := Aside0.mk (blk_drew BK511.out)
        replace HB := Aside0.mk (below_drew1 HB.out)
        refine start_ (n := 7) (S := fun w' => w'.cell? ⟨gb511, 0, none⟩ = some (.int .i64 a0_0) ∧ w'.cell? ⟨gb511, 1, none⟩ = some (.int .u64 a0_1) ∧ w'.cell? ⟨gb511, 2, none⟩ = some (.int .u64 a0_2) ∧ w'.cell? ⟨gb511, 3, none⟩ = some (.int .u64 a0_3) ∧ w'.cell? ⟨gb511, 4, none⟩ = some (.int .u64 a0_4)) (ds := []) #[false, false, false, false, false, false, false] (by kernel_rfl) rfl rfl ⟨(blk_cell BK511.out 0).trans rfl, (blk_cell BK511.out 1).trans rfl, (blk_cell BK511.out 2).trans rfl, (blk_cell BK511.out 3).trans rfl, (blk_cell BK511.out 4).trans rfl⟩ (fun hHeld => ?_)
        generalize w19.drew = w20 at HO514 BK511 HB hHeld ⊢
        refine pure_ (i := 1) (N := some 13) (v := ?_) (a' := ?_) #[false, true, false, false, false, false, false] rfl rfl (by kernel_rfl) (fun _ _ _ h => h) (Or.inl ⟨by rfl, ?_⟩) ?_ ?_
        rotate_left
        · intro w'
          go_simp
          with_reducible rfl
        rotate_left
        · simp only [Act.put, List.setIfInBounds_toArray, List.set_cons_zero, List.set_cons_succ, i64_w, i32_w]
          rfl
        refine pure_ (i := 4) (N := some 16) (v := ?_) (a' := ?_) #[false, true, false, false, true, false, false] rfl rfl (by kernel_rfl) (fun _ _ _ h => h) (Or.inl ⟨by rfl, ?_⟩) ?_ ?_
        rotate_left
        · intro w'
          go_simp
          with_reducible rfl
        rotate_left
        · simp only [Act.put, List.setIfInBounds_toArray, List.set_cons_zero, List.set_cons_succ, i64_w, i32_w]
          rfl
        refine take_ (i := 0) (N := some 12) (v := ?_) (a' := ?_) #[true, true, false, false, true, false, false] rfl rfl (by kernel_rfl) (fun _ _ _ h => h) (Or.inl ⟨by rfl, ?_⟩) hHeld ?_ ?_
        rotate_left
        · rintro w' ⟨s0, s1, s2, s3, s4⟩
          go_simp
          with_reducible rfl
        rotate_left
        · simp only [Act.put, List.setIfInBounds_toArray, List.set_cons_zero, List.set_cons_succ, i64_w, i32_w]
          rfl
        refine take_ (i := 3) (N := some 15) (v := ?_) (a' := ?_) #[true, true, false, true, true, false, false] rfl rfl (by kernel_rfl) (fun _ _ _ h => h) (Or.inl ⟨by rfl, ?_⟩) hHeld ?_ ?_
        rotate_left
        · rintro w' ⟨s0, s1, s2, s3, s4⟩
          go_simp
          with_reducible rfl
        rotate_left
        · simp only [Act.put, List.setIfInBounds_toArray, List.set_cons_zero, List.set_cons_succ, i64_w, i32_w]
          rfl
        refine one_ (i := 2) (N := some 14) #[true, true, true, true, true, false, false] rfl rfl (by kernel_rfl) (by decide) (fun K hK => ?_)
        refine ge Try.func12 #[.agg #[.int .i64 a0_0, .int .u64 a0_1, .int .u64 a0_2, .int .u64 a0_3, .int .u64 a0_4], .slice Ao_ t512.length co_] ?_
        with_reducible refine (audit_Conforms.calls k a0_0 a0_1 a0_2 a0_3 a0_4 _ _ t512 t515 _ ?side1 ?side2 A4.out).mono ?_
        (case side1 => exact co (Kd.R_reads' (turnstilelaw24_judged.tk HO514.out HTT.out)).2.2)
        (case side2 => exact (Kd.R_reads' (turnstilelaw24_judged.tk HO514.out HTT.out)).2.1)
        rintro e w22 ⟨rfl, hb⟩
        refine ⟨_, rfl, ?_⟩
        replace HO514 := Aside0.mk (Kd.R_below (ro HO514) hb)
        replace BK511 := bb BK511 hb
        replace HB := bs HB hb
        (try clear hb)
        (try clear hb2)
        (try clear hk)
        (try clear hi)
        refine hK.out _ _ ⟨(blk_cell BK511.out 0).trans rfl, (blk_cell BK511.out 1).trans rfl, (blk_cell BK511.out 2).trans rfl, (blk_cell BK511.out 3).trans rfl, (blk_cell BK511.out 4).trans rfl⟩ (fun hHeld => ?_)
        clear hK K
        refine norm_ (a' := ?_) ?_ ?_
        rotate_left
        · show Act.put _ (some 14) _ = _
          simp only [Act.put, List.setIfInBounds_toArray, List.set_cons_zero, List.set_cons_succ, i64_w, i32_w]
          rfl
        refine one_ (i := 5) (N := some 17) #[true, true, true, true, true, true, false] rfl rfl (by kernel_rfl) (by decide) (fun K hK => ?_)
        refine ge Try.func13 #[.agg #[.int .i64 a0_0, .int .u64 a0_1, .int .u64 a0_2, .int .u64 a0_3, .int .u64 a0_4], .slice A1 l1.length c1] ?_
        with_reducible refine (turnstileref24_Conforms.calls k a0_0 a0_1 a0_2 a0_3 a0_4 _ _ l1 t516 _ ?side1 ?side2 A5.out).mono ?_
        (case side1 => exact co (Kd.C_below HR1.out HB.out))
        (case side2 => exact HC1.out)
        rintro e w23 ⟨rfl, hb⟩
        refine ⟨_, rfl, ?_⟩
        replace HO514 := Aside0.mk (Kd.R_below (ro HO514) hb)
        replace BK511 := bb BK511 hb
        replace HB := bs HB hb
        (try clear hb)
        (try clear hb2)
        (try clear hk)
        (try clear hi)
        refine hK.out _ _ ⟨(blk_cell BK511.out 0).trans rfl, (blk_cell BK511.out 1).trans rfl, (blk_cell BK511.out 2).trans rfl, (blk_cell BK511.out 3).trans rfl, (blk_cell BK511.out 4).trans rfl⟩ (fun hHeld => ?_)
        clear hK K
        refine norm_ (a' := ?_) ?_ ?_
        rotate_left
        · show Act.put _ (some 17) _ = _
          simp only [Act.put, List.setIfInBounds_toArray, List.set_cons_zero, List.set_cons_succ, i64_w, i32_w]
          rfl
        refine pure_ (i := 6) (N := some 18) (v := ?_) (a' := ?_) #[true, true, true, true, true, true, true] rfl rfl (by kernel_rfl) (fun _ _ _ h => h) (Or.inl ⟨by rfl, ?_⟩) ?_ ?_
        rotate_left
        · intro w'
          go_simp
          with_reducible rfl
        rotate_left
        · simp only [Act.put, List.setIfInBounds_toArray, List.set_cons_zero, List.set_cons_succ, i64_w, i32_w]
          rfl
        refine done_ (by kernel_rfl) ?_
        obtain ⟨hcz24_0, hcz24_1, hcz24_2, hcz24_3, hcz24_4, hfz24_0, hfz24_1, hfz24_2, hfz24_3, hfz24_4⟩ := bc5 BK511
        try go_wp2_with (first | ((with_reducible refine gate_callee (f := 17) rfl ?_); refine gl (some 22) Try.func17 #[.agg #[.int .i64 a0_0, .int .u64 a0_1, .int .u64 a0_2, .int .u64 a0_3, .int .u64 a0_4], .slice Ao_ t512.length co_] ?_; (with_reducible refine (audit_Level.calls k a0_0 a0_1 a0_2 a0_3 a0_4 _ _ t512 t517 t518 t519 t520 _ ?side1 ?side2 A13.out).mono ?_); (case side1 => exact co (Kd.R_reads' (turnstilelaw24_judged.tk HO514.out HTT.out)).2.2); (case side2 => exact (Kd.R_reads' (turnstilelaw24_judged.tk HO514.out HTT.out)).2.1); rintro e w25 ⟨rfl, hb⟩; refine ⟨_, rfl, ?_⟩; replace HO514 := Aside0.mk (Kd.R_below (ro HO514) hb); replace BK511 := bb BK511 hb; replace HB := bs HB hb; (try clear hb); (try clear hb2); (try clear hk); (try clear hi)) | ((with_reducible refine gate_dst (N := 6) rfl ?_); refine bx 6 #[.int .u64 0, .int .u64 0, .int .u64 0] 40 ?_; intro gb521 hg w26 hbox hb; have BK521 := Aside0.mk (hbox); have GW521 := sz HB hg; have GE521 := sz HB hg; have NB511_521 := nl BK511 hg; have NB521_511 := nr BK511 hg; replace HO514 := Aside0.mk (Kd.R_below (ro HO514) hb); replace BK511 := bb BK511 hb; replace HB := bs HB hb; clear hb hbox hg; have hnb27 := NB521_511.out; have hnc27 := NB511_521.out; obtain ⟨hcz28_0, hcz28_1, hcz28_2, hfz28_0, hfz28_1, hfz28_2⟩ := bc3 BK521; obtain ⟨hcz29_0, hcz29_1, hcz29_2, hcz29_3, hcz29_4, hfz29_0, hfz29_1, hfz29_2, hfz29_3, hfz29_4⟩ := bc5 BK511) | ((with_reducible refine gate_callee (f := 27) rfl ?_); refine gl (some 28) Try.func27 #[.agg #[.int .i64 a0_0, .int .u64 a0_1, .int .u64 a0_2, .int .u64 a0_3, .int .u64 a0_4], .slice A1 l1.length c1] ?_; (with_reducible refine (turnstileref24_Level.calls k a0_0 a0_1 a0_2 a0_3 a0_4 _ _ l1 t522 t523 t524 t525 _ ?side1 ?side2 A14.out).mono ?_); (case side1 => exact Kd.C_below HR1.out (bw HB)); (case side2 => exact HC1.out); rintro e w30 ⟨rfl, hb⟩; refine ⟨_, rfl, ?_⟩; have n0_ := Aside0.mk (Kd.R_below (by (with_reducible repeat (first | apply Kd.R_alloc | apply Kd.R_drewN | apply Kd.R_drew)); exact (Kd.R_mono (Kd.R_far (p := ⟨gb521, 2, none⟩) (Kd.R_far (p := ⟨gb521, 1, none⟩) (Kd.R_far (p := ⟨gb521, 0, none⟩) (Kd.R_types HO514.out BK521.out (by decide)) (fun _ hk => hk.2) (.int .u64 t517)) (fun _ hk => hk.2) (.int .u64 t518)) (fun _ hk => hk.2) (.int .u64 t519)) (fun _ h_ => h_.1))) hb); have n1_ := bb BK511 hb; have n2_ := bbp (.cells #[.int .u64 t517, .int .u64 t518, .int .u64 t519] 40 (0, 0)) BK521 hb; have n3_ := bs HB hb; clear HO514; clear BK511; clear BK521; clear HB; have HO514 := n0_; have BK511 := n1_; have BK521 := n2_; have HB := n3_; clear n0_ n1_ n2_ n3_; (try clear hb); (try clear hb2); (try clear hk); (try clear hi)) | ((with_reducible refine gate_dst (N := 8) rfl ?_); refine bx 8 #[.int .u64 0, .int .u64 0, .int .u64 0] 40 ?_; intro gb526 hg w31 hbox hb; have BK526 := Aside0.mk (hbox); have GW526 := sz HB hg; have GE526 := sz HB hg; have NB511_526 := nl BK511 hg; have NB526_511 := nr BK511 hg; have NB521_526 := nl BK521 hg; have NB526_521 := nr BK521 hg; replace HO514 := Aside0.mk (Kd.R_below (ro HO514) hb); replace BK511 := bb BK511 hb; replace BK521 := bb BK521 hb; replace HB := bs HB hb; clear hb hbox hg; have hnb32 := NB526_511.out; have hnc32 := NB511_526.out; have hnb33 := NB526_521.out; have hnc33 := NB521_526.out; obtain ⟨hcz34_0, hcz34_1, hcz34_2, hfz34_0, hfz34_1, hfz34_2⟩ := bc3 BK526; obtain ⟨hcz35_0, hcz35_1, hcz35_2, hfz35_0, hfz35_1, hfz35_2⟩ := bc3 BK521) | (go_at_call 28; (with_reducible refine (turnstilelaw24_kept.calls k _ _ _ full _ _ l1 t527 _ HTL.out ?side1 HFL.out.1 HFL.out.2 ?side2 ?side3 ?side4 A17.out).mono ?_); (case side1 => refine (Kd.R_reads' (e := 31) (base := w.heap.size) (ok := fun k_ => True) (n := full.length) (c := co_) ?_).2.2; exact (by (with_reducible repeat (first | apply Kd.R_alloc | apply Kd.R_drewN | apply Kd.R_drew)); exact (Kd.R_mono (Kd.R_far (p := ⟨gb526, 2, none⟩) (Kd.R_far (p := ⟨gb526, 1, none⟩) (Kd.R_far (p := ⟨gb526, 0, none⟩) (Kd.R_types HO514.out BK526.out (by decide)) (fun _ hk => hk.2) (.int .u64 t522)) (fun _ hk => hk.2) (.int .u64 t523)) (fun _ hk => hk.2) (.int .u64 t524)) (fun _ h_ => h_.1)))); (case side2 => exact (Kd.R_reads' HO514.out).2.1); (case side3 => exact Kd.C_below HR1.out (bw HB)); (case side4 => exact HC1.out); rintro e w' ⟨rfl, ⟨nd, rfl⟩⟩))
        go_ret
        exact ⟨re, bw HB⟩
      · rw [if_neg c16] at H
        have c16b0 : (t520 == t525) = false := by simpa using c16
        (try (have c16b1 : decide (t520 = t525) = false := by simpa using c16))
        (try (have c16b2 : (t520 == t525) = false := by simpa using c16))
        (try (have c16b3 : ¬ (t520 = t525) := by simpa using c16))
        clear c16
        obtain rfl := Option.some.inj H
        go_enter Try.func10, Try.ntmps10
        try go_wp2_with (first | ((with_reducible refine gate_dst (N := 2) rfl ?_); refine bx 2 #[.int .i64 a0_0, .int .u64 a0_1, .int .u64 a0_2, .int .u64 a0_3, .int .u64 a0_4] 24 ?_; intro gb511 hg w36 hbox hb; have BK511 := Aside0.mk (hbox); have GW511 := sz HB hg; have GE511 := sz HB hg; replace HB := bs HB hb; clear hb hbox hg) | ((with_reducible refine gate_callee (f := 11) rfl ?_); refine gl (some 11) Try.func11 #[.slice A1 l1.length c1] ?_; (with_reducible refine (turnstilelaw24_events.calls2 k _ _ l1 full t512 _ ?side1 ?side2 A3.out HT.out).mono ?_); (case side1 => exact co (Kd.C_below HR1.out HB.out)); (case side2 => exact HC1.out); rintro e w37 ⟨Ao_, co_, rfl, ht0, ho0, hb⟩; refine ⟨_, rfl, ?_⟩; have HTT := Aside0.mk ht0; clear ht0; have HO514 := Aside0.mk (Kd.R_lower ho0 (below_size (bw HB))); replace BK511 := bb BK511 hb; replace HB := bs HB hb; (try clear hb); (try clear hb2); (try clear hk); (try clear hi); (try clear ho0)))
        replace HO514 := Aside0.mk (Kd.R_drew HO514.out)
        replace BK511 := Aside0.mk (blk_drew BK511.out)
        replace HB := Aside0.mk (below_drew1 HB.out)
        refine start_ (n := 7) (S := fun w' => w'.cell? ⟨gb511, 0, none⟩ = some (.int .i64 a0_0) ∧ w'.cell? ⟨gb511, 1, none⟩ = some (.int .u64 a0_1) ∧ w'.cell? ⟨gb511, 2, none⟩ = some (.int .u64 a0_2) ∧ w'.cell? ⟨gb511, 3, none⟩ = some (.int .u64 a0_3) ∧ w'.cell? ⟨gb511, 4, none⟩ = some (.int .u64 a0_4)) (ds := []) #[false, false, false, false, false, false, false] (by kernel_rfl) rfl rfl ⟨(blk_cell BK511.out 0).trans rfl, (blk_cell BK511.out 1).trans rfl, (blk_cell BK511.out 2).trans rfl, (blk_cell BK511.out 3).trans rfl, (blk_cell BK511.out 4).trans rfl⟩ (fun hHeld => ?_)
        generalize w37.drew = w38 at HO514 BK511 HB hHeld ⊢
        refine pure_ (i := 1) (N := some 13) (v := ?_) (a' := ?_) #[false, true, false, false, false, false, false] rfl rfl (by kernel_rfl) (fun _ _ _ h => h) (Or.inl ⟨by rfl, ?_⟩) ?_ ?_
        rotate_left
        · intro w'
          go_simp
          with_reducible rfl
        rotate_left
        · simp only [Act.put, List.setIfInBounds_toArray, List.set_cons_zero, List.set_cons_succ, i64_w, i32_w]
          rfl
        refine pure_ (i := 4) (N := some 16) (v := ?_) (a' := ?_) #[false, true, false, false, true, false, false] rfl rfl (by kernel_rfl) (fun _ _ _ h => h) (Or.inl ⟨by rfl, ?_⟩) ?_ ?_
        rotate_left
        · intro w'
          go_simp
          with_reducible rfl
        rotate_left
        · simp only [Act.put, List.setIfInBounds_toArray, List.set_cons_zero, List.set_cons_succ, i64_w, i32_w]
          rfl
        refine take_ (i := 0) (N := some 12) (v := ?_) (a' := ?_) #[true, true, false, false, true, false, false] rfl rfl (by kernel_rfl) (fun _ _ _ h => h) (Or.inl ⟨by rfl, ?_⟩) hHeld ?_ ?_
        rotate_left
        · rintro w' ⟨s0, s1, s2, s3, s4⟩
          go_simp
          with_reducible rfl
        rotate_left
        · simp only [Act.put, List.setIfInBounds_toArray, List.set_cons_zero, List.set_cons_succ, i64_w, i32_w]
          rfl
        refine take_ (i := 3) (N := some 15) (v := ?_) (a' := ?_) #[true, true, false, true, true, false, false] rfl rfl (by kernel_rfl) (fun _ _ _ h => h) (Or.inl ⟨by rfl, ?_⟩) hHeld ?_ ?_
        rotate_left
        · rintro w' ⟨s0, s1, s2, s3, s4⟩
          go_simp
          with_reducible rfl
        rotate_left
        · simp only [Act.put, List.setIfInBounds_toArray, List.set_cons_zero, List.set_cons_succ, i64_w, i32_w]
          rfl
        refine one_ (i := 2) (N := some 14) #[true, true, true, true, true, false, false] rfl rfl (by kernel_rfl) (by decide) (fun K hK => ?_)
        refine ge Try.func12 #[.agg #[.int .i64 a0_0, .int .u64 a0_1, .int .u64 a0_2, .int .u64 a0_3, .int .u64 a0_4], .slice Ao_ t512.length co_] ?_
        with_reducible refine (audit_Conforms.calls k a0_0 a0_1 a0_2 a0_3 a0_4 _ _ t512 t515 _ ?side1 ?side2 A4.out).mono ?_
        (case side1 => exact co (Kd.R_reads' (turnstilelaw24_judged.tk HO514.out HTT.out)).2.2)
        (case side2 => exact (Kd.R_reads' (turnstilelaw24_judged.tk HO514.out HTT.out)).2.1)
        rintro e w40 ⟨rfl, hb⟩
        refine ⟨_, rfl, ?_⟩
        replace HO514 := Aside0.mk (Kd.R_below (ro HO514) hb)
        replace BK511 := bb BK511 hb
        replace HB := bs HB hb
        (try clear hb)
        (try clear hb2)
        (try clear hk)
        (try clear hi)
        refine hK.out _ _ ⟨(blk_cell BK511.out 0).trans rfl, (blk_cell BK511.out 1).trans rfl, (blk_cell BK511.out 2).trans rfl, (blk_cell BK511.out 3).trans rfl, (blk_cell BK511.out 4).trans rfl⟩ (fun hHeld => ?_)
        clear hK K
        refine norm_ (a' := ?_) ?_ ?_
        rotate_left
        · show Act.put _ (some 14) _ = _
          simp only [Act.put, List.setIfInBounds_toArray, List.set_cons_zero, List.set_cons_succ, i64_w, i32_w]
          rfl
        refine one_ (i := 5) (N := some 17) #[true, true, true, true, true, true, false] rfl rfl (by kernel_rfl) (by decide) (fun K hK => ?_)
        refine ge Try.func13 #[.agg #[.int .i64 a0_0, .int .u64 a0_1, .int .u64 a0_2, .int .u64 a0_3, .int .u64 a0_4], .slice A1 l1.length c1] ?_
        with_reducible refine (turnstileref24_Conforms.calls k a0_0 a0_1 a0_2 a0_3 a0_4 _ _ l1 t516 _ ?side1 ?side2 A5.out).mono ?_
        (case side1 => exact co (Kd.C_below HR1.out HB.out))
        (case side2 => exact HC1.out)
        rintro e w41 ⟨rfl, hb⟩
        refine ⟨_, rfl, ?_⟩
        replace HO514 := Aside0.mk (Kd.R_below (ro HO514) hb)
        replace BK511 := bb BK511 hb
        replace HB := bs HB hb
        (try clear hb)
        (try clear hb2)
        (try clear hk)
        (try clear hi)
        refine hK.out _ _ ⟨(blk_cell BK511.out 0).trans rfl, (blk_cell BK511.out 1).trans rfl, (blk_cell BK511.out 2).trans rfl, (blk_cell BK511.out 3).trans rfl, (blk_cell BK511.out 4).trans rfl⟩ (fun hHeld => ?_)
        clear hK K
        refine norm_ (a' := ?_) ?_ ?_
        rotate_left
        · show Act.put _ (some 17) _ = _
          simp only [Act.put, List.setIfInBounds_toArray, List.set_cons_zero, List.set_cons_succ, i64_w, i32_w]
          rfl
        refine pure_ (i := 6) (N := some 18) (v := ?_) (a' := ?_) #[true, true, true, true, true, true, true] rfl rfl (by kernel_rfl) (fun _ _ _ h => h) (Or.inl ⟨by rfl, ?_⟩) ?_ ?_
        rotate_left
        · intro w'
          go_simp
          with_reducible rfl
        rotate_left
        · simp only [Act.put, List.setIfInBounds_toArray, List.set_cons_zero, List.set_cons_succ, i64_w, i32_w]
          rfl
        refine done_ (by kernel_rfl) ?_
        obtain ⟨hcz42_0, hcz42_1, hcz42_2, hcz42_3, hcz42_4, hfz42_0, hfz42_1, hfz42_2, hfz42_3, hfz42_4⟩ := bc5 BK511
        try go_wp2_with (first | ((with_reducible refine gate_callee (f := 17) rfl ?_); refine gl (some 22) Try.func17 #[.agg #[.int .i64 a0_0, .int .u64 a0_1, .int .u64 a0_2, .int .u64 a0_3, .int .u64 a0_4], .slice Ao_ t512.length co_] ?_; (with_reducible refine (audit_Level.calls k a0_0 a0_1 a0_2 a0_3 a0_4 _ _ t512 t517 t518 t519 t520 _ ?side1 ?side2 A13.out).mono ?_); (case side1 => exact co (Kd.R_reads' (turnstilelaw24_judged.tk HO514.out HTT.out)).2.2); (case side2 => exact (Kd.R_reads' (turnstilelaw24_judged.tk HO514.out HTT.out)).2.1); rintro e w43 ⟨rfl, hb⟩; refine ⟨_, rfl, ?_⟩; replace HO514 := Aside0.mk (Kd.R_below (ro HO514) hb); replace BK511 := bb BK511 hb; replace HB := bs HB hb; (try clear hb); (try clear hb2); (try clear hk); (try clear hi)) | ((with_reducible refine gate_dst (N := 6) rfl ?_); refine bx 6 #[.int .u64 0, .int .u64 0, .int .u64 0] 40 ?_; intro gb521 hg w44 hbox hb; have BK521 := Aside0.mk (hbox); have GW521 := sz HB hg; have GE521 := sz HB hg; have NB511_521 := nl BK511 hg; have NB521_511 := nr BK511 hg; replace HO514 := Aside0.mk (Kd.R_below (ro HO514) hb); replace BK511 := bb BK511 hb; replace HB := bs HB hb; clear hb hbox hg; have hnb45 := NB521_511.out; have hnc45 := NB511_521.out; obtain ⟨hcz46_0, hcz46_1, hcz46_2, hfz46_0, hfz46_1, hfz46_2⟩ := bc3 BK521; obtain ⟨hcz47_0, hcz47_1, hcz47_2, hcz47_3, hcz47_4, hfz47_0, hfz47_1, hfz47_2, hfz47_3, hfz47_4⟩ := bc5 BK511) | ((with_reducible refine gate_callee (f := 27) rfl ?_); refine gl (some 28) Try.func27 #[.agg #[.int .i64 a0_0, .int .u64 a0_1, .int .u64 a0_2, .int .u64 a0_3, .int .u64 a0_4], .slice A1 l1.length c1] ?_; (with_reducible refine (turnstileref24_Level.calls k a0_0 a0_1 a0_2 a0_3 a0_4 _ _ l1 t522 t523 t524 t525 _ ?side1 ?side2 A14.out).mono ?_); (case side1 => exact Kd.C_below HR1.out (bw HB)); (case side2 => exact HC1.out); rintro e w48 ⟨rfl, hb⟩; refine ⟨_, rfl, ?_⟩; have n0_ := Aside0.mk (Kd.R_below (by (with_reducible repeat (first | apply Kd.R_alloc | apply Kd.R_drewN | apply Kd.R_drew)); exact (Kd.R_mono (Kd.R_far (p := ⟨gb521, 2, none⟩) (Kd.R_far (p := ⟨gb521, 1, none⟩) (Kd.R_far (p := ⟨gb521, 0, none⟩) (Kd.R_types HO514.out BK521.out (by decide)) (fun _ hk => hk.2) (.int .u64 t517)) (fun _ hk => hk.2) (.int .u64 t518)) (fun _ hk => hk.2) (.int .u64 t519)) (fun _ h_ => h_.1))) hb); have n1_ := bb BK511 hb; have n2_ := bbp (.cells #[.int .u64 t517, .int .u64 t518, .int .u64 t519] 40 (0, 0)) BK521 hb; have n3_ := bs HB hb; clear HO514; clear BK511; clear BK521; clear HB; have HO514 := n0_; have BK511 := n1_; have BK521 := n2_; have HB := n3_; clear n0_ n1_ n2_ n3_; (try clear hb); (try clear hb2); (try clear hk); (try clear hi)) | ((with_reducible refine gate_dst (N := 8) rfl ?_); refine bx 8 #[.int .u64 0, .int .u64 0, .int .u64 0] 40 ?_; intro gb526 hg w49 hbox hb; have BK526 := Aside0.mk (hbox); have GW526 := sz HB hg; have GE526 := sz HB hg; have NB511_526 := nl BK511 hg; have NB526_511 := nr BK511 hg; have NB521_526 := nl BK521 hg; have NB526_521 := nr BK521 hg; replace HO514 := Aside0.mk (Kd.R_below (ro HO514) hb); replace BK511 := bb BK511 hb; replace BK521 := bb BK521 hb; replace HB := bs HB hb; clear hb hbox hg; have hnb50 := NB526_511.out; have hnc50 := NB511_526.out; have hnb51 := NB526_521.out; have hnc51 := NB521_526.out; obtain ⟨hcz52_0, hcz52_1, hcz52_2, hfz52_0, hfz52_1, hfz52_2⟩ := bc3 BK526; obtain ⟨hcz53_0, hcz53_1, hcz53_2, hfz53_0, hfz53_1, hfz53_2⟩ := bc3 BK521))
        go_ret
        exact ⟨re, bw HB⟩
    · rw [if_neg c15] at H
      have c15b0 : (t517 == t522 && (t518 == t523 && (t519 == t524))) = false := by simpa using c15
      (try (have c15b1 : decide (t517 = t522 && (t518 == t523 && (t519 == t524))) = false := by simpa using c15))
      (try (have c15b2 : (t517 == t522 && (t518 == t523 && (t519 == t524))) = false := by simpa using c15))
      (try (have c15b3 : ¬ (t517 = t522 && (t518 == t523 && (t519 == t524))) := by simpa using c15))
      clear c15
      obtain rfl := Option.some.inj H
      go_enter Try.func10, Try.ntmps10
      try go_wp2_with (first | ((with_reducible refine gate_dst (N := 2) rfl ?_); refine bx 2 #[.int .i64 a0_0, .int .u64 a0_1, .int .u64 a0_2, .int .u64 a0_3, .int .u64 a0_4] 24 ?_; intro gb511 hg w54 hbox hb; have BK511 := Aside0.mk (hbox); have GW511 := sz HB hg; have GE511 := sz HB hg; replace HB := bs HB hb; clear hb hbox hg) | ((with_reducible refine gate_callee (f := 11) rfl ?_); refine gl (some 11) Try.func11 #[.slice A1 l1.length c1] ?_; (with_reducible refine (turnstilelaw24_events.calls2 k _ _ l1 full t512 _ ?side1 ?side2 A3.out HT.out).mono ?_); (case side1 => exact co (Kd.C_below HR1.out HB.out)); (case side2 => exact HC1.out); rintro e w55 ⟨Ao_, co_, rfl, ht0, ho0, hb⟩; refine ⟨_, rfl, ?_⟩; have HTT := Aside0.mk ht0; clear ht0; have HO514 := Aside0.mk (Kd.R_lower ho0 (below_size (bw HB))); replace BK511 := bb BK511 hb; replace HB := bs HB hb; (try clear hb); (try clear hb2); (try clear hk); (try clear hi); (try clear ho0)))
      replace HO514 := Aside0.mk (Kd.R_drew HO514.out)
      replace BK511 := Aside0.mk (blk_drew BK511.out)
      replace HB := Aside0.mk (below_drew1 HB.out)
      refine start_ (n := 7) (S := fun w' => w'.cell? ⟨gb511, 0, none⟩ = some (.int .i64 a0_0) ∧ w'.cell? ⟨gb511, 1, none⟩ = some (.int .u64 a0_1) ∧ w'.cell? ⟨gb511, 2, none⟩ = some (.int .u64 a0_2) ∧ w'.cell? ⟨gb511, 3, none⟩ = some (.int .u64 a0_3) ∧ w'.cell? ⟨gb511, 4, none⟩ = some (.int .u64 a0_4)) (ds := []) #[false, false, false, false, false, false, false] (by kernel_rfl) rfl rfl ⟨(blk_cell BK511.out 0).trans rfl, (blk_cell BK511.out 1).trans rfl, (blk_cell BK511.out 2).trans rfl, (blk_cell BK511.out 3).trans rfl, (blk_cell BK511.out 4).trans rfl⟩ (fun hHeld => ?_)
      generalize w55.drew = w56 at HO514 BK511 HB hHeld ⊢
      refine pure_ (i := 1) (N := some 13) (v := ?_) (a' := ?_) #[false, true, false, false, false, false, false] rfl rfl (by kernel_rfl) (fun _ _ _ h => h) (Or.inl ⟨by rfl, ?_⟩) ?_ ?_
      rotate_left
      · intro w'
        go_simp
        with_reducible rfl
      rotate_left
      · simp only [Act.put, List.setIfInBounds_toArray, List.set_cons_zero, List.set_cons_succ, i64_w, i32_w]
        rfl
      refine pure_ (i := 4) (N := some 16) (v := ?_) (a' := ?_) #[false, true, false, false, true, false, false] rfl rfl (by kernel_rfl) (fun _ _ _ h => h) (Or.inl ⟨by rfl, ?_⟩) ?_ ?_
      rotate_left
      · intro w'
        go_simp
        with_reducible rfl
      rotate_left
      · simp only [Act.put, List.setIfInBounds_toArray, List.set_cons_zero, List.set_cons_succ, i64_w, i32_w]
        rfl
      refine take_ (i := 0) (N := some 12) (v := ?_) (a' := ?_) #[true, true, false, false, true, false, false] rfl rfl (by kernel_rfl) (fun _ _ _ h => h) (Or.inl ⟨by rfl, ?_⟩) hHeld ?_ ?_
      rotate_left
      · rintro w' ⟨s0, s1, s2, s3, s4⟩
        go_simp
        with_reducible rfl
      rotate_left
      · simp only [Act.put, List.setIfInBounds_toArray, List.set_cons_zero, List.set_cons_succ, i64_w, i32_w]
        rfl
      refine take_ (i := 3) (N := some 15) (v := ?_) (a' := ?_) #[true, true, false, true, true, false, false] rfl rfl (by kernel_rfl) (fun _ _ _ h => h) (Or.inl ⟨by rfl, ?_⟩) hHeld ?_ ?_
      rotate_left
      · rintro w' ⟨s0, s1, s2, s3, s4⟩
        go_simp
        with_reducible rfl
      rotate_left
      · simp only [Act.put, List.setIfInBounds_toArray, List.set_cons_zero, List.set_cons_succ, i64_w, i32_w]
        rfl
      refine one_ (i := 2) (N := some 14) #[true, true, true, true, true, false, false] rfl rfl (by kernel_rfl) (by decide) (fun K hK => ?_)
      refine ge Try.func12 #[.agg #[.int .i64 a0_0, .int .u64 a0_1, .int .u64 a0_2, .int .u64 a0_3, .int .u64 a0_4], .slice Ao_ t512.length co_] ?_
      with_reducible refine (audit_Conforms.calls k a0_0 a0_1 a0_2 a0_3 a0_4 _ _ t512 t515 _ ?side1 ?side2 A4.out).mono ?_
      (case side1 => exact co (Kd.R_reads' (turnstilelaw24_judged.tk HO514.out HTT.out)).2.2)
      (case side2 => exact (Kd.R_reads' (turnstilelaw24_judged.tk HO514.out HTT.out)).2.1)
      rintro e w58 ⟨rfl, hb⟩
      refine ⟨_, rfl, ?_⟩
      replace HO514 := Aside0.mk (Kd.R_below (ro HO514) hb)
      replace BK511 := bb BK511 hb
      replace HB := bs HB hb
      (try clear hb)
      (try clear hb2)
      (try clear hk)
      (try clear hi)
      refine hK.out _ _ ⟨(blk_cell BK511.out 0).trans rfl, (blk_cell BK511.out 1).trans rfl, (blk_cell BK511.out 2).trans rfl, (blk_cell BK511.out 3).trans rfl, (blk_cell BK511.out 4).trans rfl⟩ (fun hHeld => ?_)
      clear hK K
      refine norm_ (a' := ?_) ?_ ?_
      rotate_left
      · show Act.put _ (some 14) _ = _
        simp only [Act.put, List.setIfInBounds_toArray, List.set_cons_zero, List.set_cons_succ, i64_w, i32_w]
        rfl
      refine one_ (i := 5) (N := some 17) #[true, true, true, true, true, true, false] rfl rfl (by kernel_rfl) (by decide) (fun K hK => ?_)
      refine ge Try.func13 #[.agg #[.int .i64 a0_0, .int .u64 a0_1, .int .u64 a0_2, .int .u64 a0_3, .int .u64 a0_4], .slice A1 l1.length c1] ?_
      with_reducible refine (turnstileref24_Conforms.calls k a0_0 a0_1 a0_2 a0_3 a0_4 _ _ l1 t516 _ ?side1 ?side2 A5.out).mono ?_
      (case side1 => exact co (Kd.C_below HR1.out HB.out))
      (case side2 => exact HC1.out)
      rintro e w59 ⟨rfl, hb⟩
      refine ⟨_, rfl, ?_⟩
      replace HO514 := Aside0.mk (Kd.R_below (ro HO514) hb)
      replace BK511 := bb BK511 hb
      replace HB := bs HB hb
      (try clear hb)
      (try clear hb2)
      (try clear hk)
      (try clear hi)
      refine hK.out _ _ ⟨(blk_cell BK511.out 0).trans rfl, (blk_cell BK511.out 1).trans rfl, (blk_cell BK511.out 2).trans rfl, (blk_cell BK511.out 3).trans rfl, (blk_cell BK511.out 4).trans rfl⟩ (fun hHeld => ?_)
      clear hK K
      refine norm_ (a' := ?_) ?_ ?_
      rotate_left
      · show Act.put _ (some 17) _ = _
        simp only [Act.put, List.setIfInBounds_toArray, List.set_cons_zero, List.set_cons_succ, i64_w, i32_w]
        rfl
      refine pure_ (i := 6) (N := some 18) (v := ?_) (a' := ?_) #[true, true, true, true, true, true, true] rfl rfl (by kernel_rfl) (fun _ _ _ h => h) (Or.inl ⟨by rfl, ?_⟩) ?_ ?_
      rotate_left
      · intro w'
        go_simp
        with_reducible rfl
      rotate_left
      · simp only [Act.put, List.setIfInBounds_toArray, List.set_cons_zero, List.set_cons_succ, i64_w, i32_w]
        rfl
      refine done_ (by kernel_rfl) ?_
      obtain ⟨hcz60_0, hcz60_1, hcz60_2, hcz60_3, hcz60_4, hfz60_0, hfz60_1, hfz60_2, hfz60_3, hfz60_4⟩ := bc5 BK511
      try go_wp2_with (first | ((with_reducible refine gate_callee (f := 17) rfl ?_); refine gl (some 22) Try.func17 #[.agg #[.int .i64 a0_0, .int .u64 a0_1, .int .u64 a0_2, .int .u64 a0_3, .int .u64 a0_4], .slice Ao_ t512.length co_] ?_; (with_reducible refine (audit_Level.calls k a0_0 a0_1 a0_2 a0_3 a0_4 _ _ t512 t517 t518 t519 t520 _ ?side1 ?side2 A13.out).mono ?_); (case side1 => exact co (Kd.R_reads' (turnstilelaw24_judged.tk HO514.out HTT.out)).2.2); (case side2 => exact (Kd.R_reads' (turnstilelaw24_judged.tk HO514.out HTT.out)).2.1); rintro e w61 ⟨rfl, hb⟩; refine ⟨_, rfl, ?_⟩; replace HO514 := Aside0.mk (Kd.R_below (ro HO514) hb); replace BK511 := bb BK511 hb; replace HB := bs HB hb; (try clear hb); (try clear hb2); (try clear hk); (try clear hi)) | ((with_reducible refine gate_dst (N := 6) rfl ?_); refine bx 6 #[.int .u64 0, .int .u64 0, .int .u64 0] 40 ?_; intro gb521 hg w62 hbox hb; have BK521 := Aside0.mk (hbox); have GW521 := sz HB hg; have GE521 := sz HB hg; have NB511_521 := nl BK511 hg; have NB521_511 := nr BK511 hg; replace HO514 := Aside0.mk (Kd.R_below (ro HO514) hb); replace BK511 := bb BK511 hb; replace HB := bs HB hb; clear hb hbox hg; have hnb63 := NB521_511.out; have hnc63 := NB511_521.out; obtain ⟨hcz64_0, hcz64_1, hcz64_2, hfz64_0, hfz64_1, hfz64_2⟩ := bc3 BK521; obtain ⟨hcz65_0, hcz65_1, hcz65_2, hcz65_3, hcz65_4, hfz65_0, hfz65_1, hfz65_2, hfz65_3, hfz65_4⟩ := bc5 BK511) | ((with_reducible refine gate_callee (f := 27) rfl ?_); refine gl (some 28) Try.func27 #[.agg #[.int .i64 a0_0, .int .u64 a0_1, .int .u64 a0_2, .int .u64 a0_3, .int .u64 a0_4], .slice A1 l1.length c1] ?_; (with_reducible refine (turnstileref24_Level.calls k a0_0 a0_1 a0_2 a0_3 a0_4 _ _ l1 t522 t523 t524 t525 _ ?side1 ?side2 A14.out).mono ?_); (case side1 => exact Kd.C_below HR1.out (bw HB)); (case side2 => exact HC1.out); rintro e w66 ⟨rfl, hb⟩; refine ⟨_, rfl, ?_⟩; have n0_ := Aside0.mk (Kd.R_below (by (with_reducible repeat (first | apply Kd.R_alloc | apply Kd.R_drewN | apply Kd.R_drew)); exact (Kd.R_mono (Kd.R_far (p := ⟨gb521, 2, none⟩) (Kd.R_far (p := ⟨gb521, 1, none⟩) (Kd.R_far (p := ⟨gb521, 0, none⟩) (Kd.R_types HO514.out BK521.out (by decide)) (fun _ hk => hk.2) (.int .u64 t517)) (fun _ hk => hk.2) (.int .u64 t518)) (fun _ hk => hk.2) (.int .u64 t519)) (fun _ h_ => h_.1))) hb); have n1_ := bb BK511 hb; have n2_ := bbp (.cells #[.int .u64 t517, .int .u64 t518, .int .u64 t519] 40 (0, 0)) BK521 hb; have n3_ := bs HB hb; clear HO514; clear BK511; clear BK521; clear HB; have HO514 := n0_; have BK511 := n1_; have BK521 := n2_; have HB := n3_; clear n0_ n1_ n2_ n3_; (try clear hb); (try clear hb2); (try clear hk); (try clear hi)) | ((with_reducible refine gate_dst (N := 8) rfl ?_); refine bx 8 #[.int .u64 0, .int .u64 0, .int .u64 0] 40 ?_; intro gb526 hg w67 hbox hb; have BK526 := Aside0.mk (hbox); have GW526 := sz HB hg; have GE526 := sz HB hg; have NB511_526 := nl BK511 hg; have NB526_511 := nr BK511 hg; have NB521_526 := nl BK521 hg; have NB526_521 := nr BK521 hg; replace HO514 := Aside0.mk (Kd.R_below (ro HO514) hb); replace BK511 := bb BK511 hb; replace BK521 := bb BK521 hb; replace HB := bs HB hb; clear hb hbox hg; have hnb68 := NB526_511.out; have hnc68 := NB511_526.out; have hnb69 := NB526_521.out; have hnc69 := NB521_526.out; obtain ⟨hcz70_0, hcz70_1, hcz70_2, hfz70_0, hfz70_1, hfz70_2⟩ := bc3 BK526; obtain ⟨hcz71_0, hcz71_1, hcz71_2, hfz71_0, hfz71_1, hfz71_2⟩ := bc3 BK521))
      go_ret
      exact ⟨re, bw HB⟩

end Go.Proofs.Ytdoifmefhofnnaa.D
