/- Written by the session's own program hyb.py: what functions of the program compute; Lean checks it. -/
import Derived.Test.YtdoifmefhofnnaaDx0
import Derived.Test.YtdoifmefhofnnaaDx4
import Derived.Test.YtdoifmefhofnnaaDx6
import Derived.Test.YtdoifmefhofnnaaDx7
namespace Go.Proofs.Ytdoifmefhofnnaa.D
open Go.RowKit Go.Proofs.YtdoifmefhofnnaaW.PrintWords Go.Proofs.YtdoifmefhofnnaaW.PrintLast Go.Proofs.YtdoifmefhofnnaaW.PrintMore Go.Proofs.YtdoifmefhofnnaaW.PrintShort
attribute [local go_sem] run_Add64 run_Sub64
attribute [local go_sem] max2_int min2_int max_two min_two max_three min_three max_four min_four   -- for this text's walks alone
set_option linter.unusedVariables false
set_option linter.unusedSimpArgs false

attribute [local go_sem high] eqA60
/-! ### policy_rules_3: function 58 -/
def policy_rules_3.f (k : Nat) (a0_0 : Int) (a0_1 : Int) (a0_2 : Int) (a0_3 : Int) (a0_4 : Int) (a1_0 : Int) (a1_1 : Int) (a1_2 : Int) (a2 : Int) (a3 : Int) : Option (Int × Int × Int × Bool) := (gcra_Admit.f k a0_1 a0_2 a1_0 a2 a3).bind fun bt143 => (some (bt143.1, 0, 0, bt143.2))
theorem policy_rules_3.mono : ∀ a0 a1 a2 a3 a4 a5 a6 a7 a8 a9 k, LeO (policy_rules_3.f k a0 a1 a2 a3 a4 a5 a6 a7 a8 a9) (policy_rules_3.f (k + 1) a0 a1 a2 a3 a4 a5 a6 a7 a8 a9) := by
  intro a0 a1 a2 a3 a4 a5 a6 a7 a8 a9 k
  unfold policy_rules_3.f
  repeat' first
      | (with_reducible exact gcra_Admit.mono _ _ _ _ _ _)
      | (with_reducible exact LeO.refl _)
      | (with_reducible exact LeO.none _)
      | (with_reducible refine LeO.ite ?_ ?_)
      | (with_reducible refine LeO.bind ?_ (fun _ => ?_))
      | exact gcra_Admit.mono _ _ _ _ _ _
      | exact LeO.none _
      | refine LeO.ite ?_ ?_
      | refine LeO.bind ?_ (fun _ => ?_)
set_option maxHeartbeats 8000000 in
set_option maxRecDepth 100000 in
theorem policy_rules_3.calls (k : Nat) (a0_0 : Int) (a0_1 : Int) (a0_2 : Int) (a0_3 : Int) (a0_4 : Int) (a1_0 : Int) (a1_1 : Int) (a1_2 : Int) (a2 : Int) (a3 : Int) (r1 : Int) (r2 : Int) (r3 : Int) (r4 : Bool) (w : World) (h : policy_rules_3.f k a0_0 a0_1 a0_2 a0_3 a0_4 a1_0 a1_1 a1_2 a2 a3 = some (r1, r2, r3, r4)) :
    Calls Try.prog 58 #[.agg #[.int .i64 a0_0, .int .u64 a0_1, .int .u64 a0_2, .int .u64 a0_3, .int .u64 a0_4], .agg #[.int .u64 a1_0, .int .u64 a1_1, .int .u64 a1_2], .int .u64 a2, .int .u64 a3] w fun e w' => e = .returned (.tuple #[.agg #[.int .u64 r1, .int .u64 r2, .int .u64 r3], .bool r4]) ∧ Below w.heap.size w w' := by
  have hu24 := Try.underlying24
  have hu40 := Try.underlying40
  have HB := Aside0.mk (Below.refl w.heap.size w)
  have H : ((gcra_Admit.f k a0_1 a0_2 a1_0 a2 a3).bind fun bt143 => (some (bt143.1, 0, 0, bt143.2))) = some (r1, r2, r3, r4) := h
  clear h
  replace H := Option.bind_eq_some_iff.mp H
  obtain ⟨⟨t143, t144⟩, A50, H⟩ := H
  replace H : (some (t143, 0, 0, t144)) = some (r1, r2, r3, r4) := H
  have A5 := Aside0.mk A50
  clear A50
  simp only [Option.some.injEq, Prod.mk.injEq] at H
  obtain ⟨rfl, rfl, rfl, rfl⟩ := H
  go_enter Try.func58, Try.ntmps58
  go_wp2_with (first | ((with_reducible refine gate_dst (N := 4) rfl ?_); refine bx 4 #[.int .i64 a0_0, .int .u64 a0_1, .int .u64 a0_2, .int .u64 a0_3, .int .u64 a0_4] 24 ?_; intro gb140 hg w6 hbox hb; have n0_ := bs HB hb; have n1_ := Aside0.mk (hbox); have n2_ := sz HB hg; have n3_ := sz HB hg; clear HB; have HB := n0_; have BK140 := n1_; have GW140 := n2_; have GE140 := n3_; clear n0_ n1_ n2_ n3_; clear hb hbox hg) | ((with_reducible refine gate_dst (N := 5) rfl ?_); refine bx 5 #[.int .u64 a1_0, .int .u64 a1_1, .int .u64 a1_2] 40 ?_; intro gb141 hg w7 hbox hb; have n0_ := bb BK140 hb; have n1_ := bs HB hb; have n2_ := Aside0.mk (hbox); have n3_ := sz HB hg; have n4_ := sz HB hg; have n5_ := nl BK140 hg; have n6_ := nr BK140 hg; clear BK140; clear HB; have BK140 := n0_; have HB := n1_; have BK141 := n2_; have GW141 := n3_; have GE141 := n4_; have NB140_141 := n5_; have NB141_140 := n6_; clear n0_ n1_ n2_ n3_ n4_ n5_ n6_; clear hb hbox hg) | ((with_reducible refine gate_dst (N := 8) rfl ?_); refine bx 8 #[.int .u64 0, .int .u64 0, .int .u64 0] 40 ?_; intro gb142 hg w8 hbox hb; have n0_ := bb BK140 hb; have n1_ := bb BK141 hb; have n2_ := bs HB hb; have n3_ := Aside0.mk (hbox); have n4_ := sz HB hg; have n5_ := sz HB hg; have n6_ := nl BK140 hg; have n7_ := nr BK140 hg; have n8_ := nl BK141 hg; have n9_ := nr BK141 hg; clear BK140; clear BK141; clear HB; have BK140 := n0_; have BK141 := n1_; have HB := n2_; have BK142 := n3_; have GW142 := n4_; have GE142 := n5_; have NB140_142 := n6_; have NB142_140 := n7_; have NB141_142 := n8_; have NB142_141 := n9_; clear n0_ n1_ n2_ n3_ n4_ n5_ n6_ n7_ n8_ n9_; clear hb hbox hg; have hnb9 := NB140_141.out; have hnc9 := NB141_140.out; have hnb10 := NB140_142.out; have hnc10 := NB142_140.out; obtain ⟨hcz11_0, hcz11_1, hcz11_2, hcz11_3, hcz11_4, hfz11_0, hfz11_1, hfz11_2, hfz11_3, hfz11_4⟩ := bc5 BK140; have hnb12 := NB141_142.out; have hnc12 := NB142_141.out; obtain ⟨hcz13_0, hcz13_1, hcz13_2, hfz13_0, hfz13_1, hfz13_2⟩ := bc3 BK141) | ((with_reducible refine gate_callee (f := 59) rfl ?_); refine gm (some 21) Try.func59 #[.int .u64 a0_1, .int .u64 a0_2, .int .u64 a1_0, .int .u64 a2, .int .u64 a3] (gcra_Admit.calls k a0_1 a0_2 a1_0 a2 a3 t143 t144 _ A5.out) ?_; intro w14 hb; have n0_ := bb BK140 hb; have n1_ := bb BK141 hb; have n2_ := bb BK142 hb; have n3_ := bs HB hb; clear BK140; clear BK141; clear BK142; clear HB; have BK140 := n0_; have BK141 := n1_; have BK142 := n2_; have HB := n3_; clear n0_ n1_ n2_ n3_; (try clear hb); (try clear hb2); (try clear hk); (try clear hi); obtain ⟨hcz15_0, hcz15_1, hcz15_2, hfz15_0, hfz15_1, hfz15_2⟩ := bc3 BK142))
  refine bodyPost_ret (results_ct rfl _ _ gb142 40 #[.int .u64 t143, .int .u64 0, .int .u64 0] (0, 0) _ rfl (bk BK142) Try.underlying40 rfl (by kernel_rfl)) rfl ?_
  exact ⟨re, bw HB⟩

/-! ### sat_Sub: function 23 -/
def sat_Sub.f (a0 : Int) (a1 : Int) : Option (Int) := if a1 > a0 then (some 0) else (some (IntKind.u64.wrap (a0 - a1)))
set_option maxHeartbeats 8000000 in
set_option maxRecDepth 100000 in
theorem sat_Sub.calls (a0 : Int) (a1 : Int) (r : Int) (w : World) (h : sat_Sub.f a0 a1 = some r) :
    Calls Try.prog 23 #[.int .u64 a0, .int .u64 a1] w fun e w' => e = .returned (.int .u64 r) ∧ Drawn0 w w' := by
  have H : (if a1 > a0 then (some 0) else (some (IntKind.u64.wrap (a0 - a1)))) = some r := h
  clear h
  by_cases c3 : a1 > a0
  · rw [if_pos c3] at H
    have c3b0 : decide (a0 < a1) = true := decide_eq_true c3
    clear c3
    obtain rfl := Option.some.inj H
    go_enter Try.func23, Try.ntmps23
    go_wp2
    go_ret
    exact ⟨rs, by repeat (first | exact Drawn0.refl _ | apply Drawn0.step)⟩
  · rw [if_neg c3] at H
    have c3b0 : decide (a0 < a1) = false := decide_eq_false c3
    clear c3
    obtain rfl := Option.some.inj H
    go_enter Try.func23, Try.ntmps23
    go_wp2
    go_ret
    exact ⟨rs, by repeat (first | exact Drawn0.refl _ | apply Drawn0.step)⟩

/-! ### sat_Wide_Narrow: function 75 -/
def sat_Wide_Narrow.f (a0_0 : Int) (a0_1 : Int) : Option (Int × Bool) := (sat_Of.f a0_1).bind fun bt146 => (if (!(a0_0 == bt146.1) || (!(a0_1 == bt146.2))) = true then (some (0, false)) else (some (a0_1, true)))
set_option maxHeartbeats 8000000 in
set_option maxRecDepth 100000 in
theorem sat_Wide_Narrow.calls (a0_0 : Int) (a0_1 : Int) (r1 : Int) (r2 : Bool) (w : World) (h : sat_Wide_Narrow.f a0_0 a0_1 = some (r1, r2)) :
    Calls Try.prog 75 #[.agg #[.int .u64 a0_0, .int .u64 a0_1]] w fun e w' => e = .returned (.tuple #[.int .u64 r1, .bool r2]) ∧ Below w.heap.size w w' := by
  have hu60 := Try.underlying60
  have HB := Aside0.mk (Below.refl w.heap.size w)
  have H : ((sat_Of.f a0_1).bind fun bt146 => (if (!(a0_0 == bt146.1) || (!(a0_1 == bt146.2))) = true then (some (0, false)) else (some (a0_1, true)))) = some (r1, r2) := h
  clear h
  replace H := Option.bind_eq_some_iff.mp H
  obtain ⟨⟨t146, t147⟩, A20, H⟩ := H
  replace H : (if (!(a0_0 == t146) || (!(a0_1 == t147))) = true then (some (0, false)) else (some (a0_1, true))) = some (r1, r2) := H
  have A2 := Aside0.mk A20
  clear A20
  by_cases c3 : (!(a0_0 == t146) || (!(a0_1 == t147))) = true
  · rw [if_pos c3] at H
    have c3b0 : (!(a0_0 == t146) || (!(a0_1 == t147))) = true := c3
    clear c3
    simp only [Option.some.injEq, Prod.mk.injEq] at H
    obtain ⟨rfl, rfl⟩ := H
    go_enter Try.func75, Try.ntmps75
    try go_wp2_with (first | ((with_reducible refine gate_dst (N := 1) rfl ?_); refine bx 1 #[.int .u64 a0_0, .int .u64 a0_1] 60 ?_; intro gb145 hg w4 hbox hb; have n0_ := bs HB hb; have n1_ := Aside0.mk (hbox); have n2_ := sz HB hg; have n3_ := sz HB hg; clear HB; have HB := n0_; have BK145 := n1_; have GW145 := n2_; have GE145 := n3_; clear n0_ n1_ n2_ n3_; clear hb hbox hg))
    have n0_ := Aside0.mk (blk_drew BK145.out)
    have n1_ := Aside0.mk (below_drew1 HB.out)
    clear BK145
    clear HB
    have BK145 := n0_
    have HB := n1_
    clear n0_ n1_
    refine start_ (n := 5) (S := fun w' => w'.cell? ⟨gb145, 0, none⟩ = some (.int .u64 a0_0) ∧ w'.cell? ⟨gb145, 1, none⟩ = some (.int .u64 a0_1)) (ds := []) #[false, false, false, false, false] (by kernel_rfl) rfl rfl ⟨(blk_cell BK145.out 0).trans rfl, (blk_cell BK145.out 1).trans rfl⟩ (fun hHeld => ?_)
    generalize w4.drew = w5 at BK145 HB hHeld ⊢
    refine pure_ (i := 1) (N := some 5) (v := ?_) (a' := ?_) #[false, true, false, false, false] rfl rfl (by kernel_rfl) (fun _ _ _ h => h) (Or.inl ⟨by rfl, ?_⟩) ?_ ?_
    rotate_left
    · intro w'
      go_simp
      with_reducible rfl
    rotate_left
    · simp only [Act.put, List.setIfInBounds_toArray, List.set_cons_zero, List.set_cons_succ, i64_w, i32_w]
      rfl
    refine take_ (i := 0) (N := some 4) (v := ?_) (a' := ?_) #[true, true, false, false, false] rfl rfl (by kernel_rfl) (fun _ _ _ h => h) (Or.inl ⟨by rfl, ?_⟩) hHeld ?_ ?_
    rotate_left
    · rintro w' ⟨s0, s1⟩
      go_simp
      with_reducible rfl
    rotate_left
    · simp only [Act.put, List.setIfInBounds_toArray, List.set_cons_zero, List.set_cons_succ, i64_w, i32_w]
      rfl
    refine take_ (i := 2) (N := some 6) (v := ?_) (a' := ?_) #[true, true, true, false, false] rfl rfl (by kernel_rfl) (fun _ _ _ h => h) (Or.inl ⟨by rfl, ?_⟩) hHeld ?_ ?_
    rotate_left
    · rintro w' ⟨s0, s1⟩
      go_simp
      with_reducible rfl
    rotate_left
    · simp only [Act.put, List.setIfInBounds_toArray, List.set_cons_zero, List.set_cons_succ, i64_w, i32_w]
      rfl
    refine one_ (i := 3) (N := some 7) #[true, true, true, true, false] rfl rfl (by kernel_rfl) (by decide) (fun K hK => ?_)
    refine ge Try.func18 #[.int .u64 a0_1] ?_
    with_reducible refine (sat_Of.calls a0_1 t146 t147 _ A2.out).mono ?_
    rintro e w6 ⟨rfl, hb⟩
    refine ⟨_, rfl, ?_⟩
    have n0_ := bb BK145 hb
    have n1_ := bs HB hb
    clear BK145
    clear HB
    have BK145 := n0_
    have HB := n1_
    clear n0_ n1_
    (try clear hb)
    (try clear hb2)
    (try clear hk)
    (try clear hi)
    refine hK.out _ _ ⟨(blk_cell BK145.out 0).trans rfl, (blk_cell BK145.out 1).trans rfl⟩ (fun hHeld => ?_)
    clear hK K
    refine norm_ (a' := ?_) ?_ ?_
    rotate_left
    · show Act.put _ (some 7) _ = _
      simp only [Act.put, List.setIfInBounds_toArray, List.set_cons_zero, List.set_cons_succ, i64_w, i32_w]
      rfl
    refine pure_ (i := 4) (N := some 8) (v := ?_) (a' := ?_) #[true, true, true, true, true] rfl rfl (by kernel_rfl) (fun _ _ _ h => h) (Or.inl ⟨by rfl, ?_⟩) ?_ ?_
    rotate_left
    · intro w'
      go_simp
      with_reducible rfl
    rotate_left
    · simp only [Act.put, List.setIfInBounds_toArray, List.set_cons_zero, List.set_cons_succ, i64_w, i32_w]
      rfl
    refine done_ (by kernel_rfl) ?_
    try go_wp2
    go_ret2
    exact ⟨re, bw HB⟩
  · rw [if_neg c3] at H
    have c3b0 : (!(a0_0 == t146) || (!(a0_1 == t147))) = false := by simpa using c3
    clear c3
    simp only [Option.some.injEq, Prod.mk.injEq] at H
    obtain ⟨rfl, rfl⟩ := H
    go_enter Try.func75, Try.ntmps75
    try go_wp2_with (first | ((with_reducible refine gate_dst (N := 1) rfl ?_); refine bx 1 #[.int .u64 a0_0, .int .u64 a0_1] 60 ?_; intro gb145 hg w7 hbox hb; have n0_ := bs HB hb; have n1_ := Aside0.mk (hbox); have n2_ := sz HB hg; have n3_ := sz HB hg; clear HB; have HB := n0_; have BK145 := n1_; have GW145 := n2_; have GE145 := n3_; clear n0_ n1_ n2_ n3_; clear hb hbox hg))
    have n0_ := Aside0.mk (blk_drew BK145.out)
    have n1_ := Aside0.mk (below_drew1 HB.out)
    clear BK145
    clear HB
    have BK145 := n0_
    have HB := n1_
    clear n0_ n1_
    refine start_ (n := 5) (S := fun w' => w'.cell? ⟨gb145, 0, none⟩ = some (.int .u64 a0_0) ∧ w'.cell? ⟨gb145, 1, none⟩ = some (.int .u64 a0_1)) (ds := []) #[false, false, false, false, false] (by kernel_rfl) rfl rfl ⟨(blk_cell BK145.out 0).trans rfl, (blk_cell BK145.out 1).trans rfl⟩ (fun hHeld => ?_)
    generalize w7.drew = w8 at BK145 HB hHeld ⊢
    refine pure_ (i := 1) (N := some 5) (v := ?_) (a' := ?_) #[false, true, false, false, false] rfl rfl (by kernel_rfl) (fun _ _ _ h => h) (Or.inl ⟨by rfl, ?_⟩) ?_ ?_
    rotate_left
    · intro w'
      go_simp
      with_reducible rfl
    rotate_left
    · simp only [Act.put, List.setIfInBounds_toArray, List.set_cons_zero, List.set_cons_succ, i64_w, i32_w]
      rfl
    refine take_ (i := 0) (N := some 4) (v := ?_) (a' := ?_) #[true, true, false, false, false] rfl rfl (by kernel_rfl) (fun _ _ _ h => h) (Or.inl ⟨by rfl, ?_⟩) hHeld ?_ ?_
    rotate_left
    · rintro w' ⟨s0, s1⟩
      go_simp
      with_reducible rfl
    rotate_left
    · simp only [Act.put, List.setIfInBounds_toArray, List.set_cons_zero, List.set_cons_succ, i64_w, i32_w]
      rfl
    refine take_ (i := 2) (N := some 6) (v := ?_) (a' := ?_) #[true, true, true, false, false] rfl rfl (by kernel_rfl) (fun _ _ _ h => h) (Or.inl ⟨by rfl, ?_⟩) hHeld ?_ ?_
    rotate_left
    · rintro w' ⟨s0, s1⟩
      go_simp
      with_reducible rfl
    rotate_left
    · simp only [Act.put, List.setIfInBounds_toArray, List.set_cons_zero, List.set_cons_succ, i64_w, i32_w]
      rfl
    refine one_ (i := 3) (N := some 7) #[true, true, true, true, false] rfl rfl (by kernel_rfl) (by decide) (fun K hK => ?_)
    refine ge Try.func18 #[.int .u64 a0_1] ?_
    with_reducible refine (sat_Of.calls a0_1 t146 t147 _ A2.out).mono ?_
    rintro e w9 ⟨rfl, hb⟩
    refine ⟨_, rfl, ?_⟩
    have n0_ := bb BK145 hb
    have n1_ := bs HB hb
    clear BK145
    clear HB
    have BK145 := n0_
    have HB := n1_
    clear n0_ n1_
    (try clear hb)
    (try clear hb2)
    (try clear hk)
    (try clear hi)
    refine hK.out _ _ ⟨(blk_cell BK145.out 0).trans rfl, (blk_cell BK145.out 1).trans rfl⟩ (fun hHeld => ?_)
    clear hK K
    refine norm_ (a' := ?_) ?_ ?_
    rotate_left
    · show Act.put _ (some 7) _ = _
      simp only [Act.put, List.setIfInBounds_toArray, List.set_cons_zero, List.set_cons_succ, i64_w, i32_w]
      rfl
    refine pure_ (i := 4) (N := some 8) (v := ?_) (a' := ?_) #[true, true, true, true, true] rfl rfl (by kernel_rfl) (fun _ _ _ h => h) (Or.inl ⟨by rfl, ?_⟩) ?_ ?_
    rotate_left
    · intro w'
      go_simp
      with_reducible rfl
    rotate_left
    · simp only [Act.put, List.setIfInBounds_toArray, List.set_cons_zero, List.set_cons_succ, i64_w, i32_w]
      rfl
    refine done_ (by kernel_rfl) ?_
    obtain ⟨hcz10_0, hcz10_1, hfz10_0, hfz10_1⟩ := bc2 BK145
    try go_wp2
    go_ret2
    exact ⟨re, bw HB⟩

/-! ### gcra_Retry: function 61 -/
def gcra_Retry.j0 : Nat → Int → Int → Int → Int → Int → Bool → Option (Int)
  | 0, _, _, _, _, _, _ => none
  | k + 1, x0, x1, x2, x3, x4, x27 => if x27 = true then (some 18446744073709551615) else ((sat_Product.f (IntKind.u64.wrap (x4 - 1)) x0).bind fun bt149 => ((sat_Wide_Narrow.f bt149.1 bt149.2).bind fun bt151 => (if bt151.2 = true then (if bt151.1 > x1 then (some 18446744073709551615) else ((sat_Sub.f x2 (IntKind.u64.wrap (x1 - bt151.1))).bind fun t153 => (some (mx x3 t153)))) else (some 18446744073709551615))))
def gcra_Retry.f (k : Nat) (a0 : Int) (a1 : Int) (a2 : Int) (a3 : Int) (a4 : Int) : Option (Int) := if a4 = 0 then (gcra_Retry.j0 k a0 a1 a2 a3 a4 true) else (if a0 = 0 then (gcra_Retry.j0 k a0 a1 a2 a3 a4 true) else ((gcra_room.f a0 (mx a2 a3) a4).bind fun t148 => (gcra_Retry.j0 k a0 a1 a2 a3 a4 (!t148))))
theorem gcra_Retry.mono_l : ∀ k, (∀ y0 y1 y2 y3 y4 y5, LeO (gcra_Retry.j0 k y0 y1 y2 y3 y4 y5) (gcra_Retry.j0 (k + 1) y0 y1 y2 y3 y4 y5))
  | 0 => fun _ _ _ _ _ _ r h => by simp [gcra_Retry.j0] at h
  | k + 1 => by
    have ih0 := gcra_Retry.mono_l k
    · intro y0 y1 y2 y3 y4 y5
      unfold gcra_Retry.j0
      repeat' first
      | (with_reducible exact ih0 _ _ _ _ _ _)
      | (with_reducible exact LeO.refl _)
      | (with_reducible exact LeO.none _)
      | (with_reducible refine LeO.ite ?_ ?_)
      | (with_reducible refine LeO.bind ?_ (fun _ => ?_))
      | exact ih0 _ _ _ _ _ _
      | exact LeO.none _
      | refine LeO.ite ?_ ?_
      | refine LeO.bind ?_ (fun _ => ?_)
theorem gcra_Retry.mono : ∀ a0 a1 a2 a3 a4 k, LeO (gcra_Retry.f k a0 a1 a2 a3 a4) (gcra_Retry.f (k + 1) a0 a1 a2 a3 a4) := by
  intro a0 a1 a2 a3 a4 k
  have ih0 := gcra_Retry.mono_l k
  unfold gcra_Retry.f
  repeat' first
      | (with_reducible exact ih0 _ _ _ _ _ _)
      | (with_reducible exact LeO.refl _)
      | (with_reducible exact LeO.none _)
      | (with_reducible refine LeO.ite ?_ ?_)
      | (with_reducible refine LeO.bind ?_ (fun _ => ?_))
      | exact ih0 _ _ _ _ _ _
      | exact LeO.none _
      | refine LeO.ite ?_ ?_
      | refine LeO.bind ?_ (fun _ => ?_)
set_option maxHeartbeats 8000000 in
set_option maxRecDepth 100000 in
theorem gcra_Retry.calls (k : Nat) (a0 : Int) (a1 : Int) (a2 : Int) (a3 : Int) (a4 : Int) (r : Int) (w : World) (h : gcra_Retry.f k a0 a1 a2 a3 a4 = some r) :
    Calls Try.prog 61 #[.int .u64 a0, .int .u64 a1, .int .u64 a2, .int .u64 a3, .int .u64 a4] w fun e w' => e = .returned (.int .u64 r) ∧ Below w.heap.size w w' := by
  have HB := Aside0.mk (Below.refl w.heap.size w)
  have H : (if a4 = 0 then (gcra_Retry.j0 k a0 a1 a2 a3 a4 true) else (if a0 = 0 then (gcra_Retry.j0 k a0 a1 a2 a3 a4 true) else ((gcra_room.f a0 (mx a2 a3) a4).bind fun t148 => (gcra_Retry.j0 k a0 a1 a2 a3 a4 (!t148))))) = some r := h
  clear h
  have HC6 := Aside0.mk H
  clear H
  go_enter Try.func61, Try.ntmps61
  go_upto_region 1 with (fail)
  go_cut [27] (fun v27 wc => ∃ (kq : Nat) (x27_5 : Bool), v27 = .bool x27_5 ∧ Aside0 (gcra_Retry.j0 kq a0 a1 a2 a3 a4 x27_5 = some r) ∧ Aside0 (kq ≤ k) ∧ Aside0 (Below w.heap.size w wc))
  case first =>
    have H := HC6.out
    clear HC6
    by_cases c7 : a4 = 0
    · rw [if_pos c7] at H
      have c7b0 : (a4 == 0) = true := beq_iff_eq.mpr c7
      have c7b1 : (a4 != 0) = false := bne_eq_false_iff_eq.mpr c7
      clear c7
      (first | rw [c7b0] | (simp only [i64_w, i32_w]; rw [c7b0]) | skip)
      have H' := Aside0.mk H
      clear H
      go_wp2
      go_meet
      case rel => exact ⟨_, (true), rs, H', ⟨by first | omega | exact Nat.le_refl _⟩, ⟨bw HB⟩⟩
    · rw [if_neg c7] at H
      have c7b0 : (a4 == 0) = false := beq_eq_false_iff_ne.mpr c7
      have c7b1 : (a4 != 0) = true := bne_iff_ne.mpr c7
      (first | rw [c7b0] | (simp only [i64_w, i32_w]; rw [c7b0]) | skip)
      by_cases c8 : a0 = 0
      · rw [if_pos c8] at H
        have c8b0 : (a0 == 0) = true := beq_iff_eq.mpr c8
        have c8b1 : (a0 != 0) = false := bne_eq_false_iff_eq.mpr c8
        clear c8
        have H' := Aside0.mk H
        clear H
        go_wp2
        go_meet
        case rel => exact ⟨_, (true), rs, H', ⟨by first | omega | exact Nat.le_refl _⟩, ⟨bw HB⟩⟩
      · rw [if_neg c8] at H
        have c8b0 : (a0 == 0) = false := beq_eq_false_iff_ne.mpr c8
        have c8b1 : (a0 != 0) = true := bne_iff_ne.mpr c8
        obtain ⟨ji9, hji9⟩ : ∃ j_ : Int, (mx a2 a3) = j_ := ⟨_, rfl⟩
        replace H : ((gcra_room.f a0 (ji9) a4).bind fun t148 => (gcra_Retry.j0 k a0 a1 a2 a3 a4 (!t148))) = some r := by first | (rw [hji9] at H; exact H) | (simp only [hji9] at H ⊢; exact H)
        have hji9_ : (if a2 < a3 then a3 else a2) = ji9 := hji9
        replace H := Option.bind_eq_some_iff.mp H
        obtain ⟨t148, A100, H⟩ := H
        replace H : (gcra_Retry.j0 k a0 a1 a2 a3 a4 (!t148)) = some r := H
        have A10 := Aside0.mk A100
        clear A100
        have H' := Aside0.mk H
        clear H
        go_wp2_with (first | (go_at_call 74; (with_reducible refine (gcra_room.calls a0 ji9 a4 t148 _ A10.out).mono ?_); rintro e w11 ⟨rfl, hb⟩; have n0_ := bs HB hb; clear HB; have HB := n0_; clear n0_; (try clear hb); (try clear hb2); (try clear hk); (try clear hi)))
        go_meet
        case rel => exact ⟨_, (!t148), rs, H', ⟨by first | omega | exact Nat.le_refl _⟩, ⟨bw HB⟩⟩
  case rest =>
    clear HC6
    try clear p2
    try clear c6
    try clear c7
    try clear c7b0
    try clear c7b1
    try clear c8
    try clear c8b0
    try clear c8b1
    obtain ⟨kq, x27_5, rfl, HA, HJ5, HB⟩ := hcut
    cases kq with
    | zero => exact absurd HA.out (by simp [gcra_Retry.j0])
    | succ kj5 =>
      have H := HA.out
      clear HA
      simp only [gcra_Retry.j0] at H
      by_cases c12 : x27_5 = true
      · subst c12
        have H1 : (some 18446744073709551615) = some r := by rw [if_pos rfl] at H; exact H
        clear H
        have H := H1
        clear H1
        obtain rfl := Option.some.inj H
        go_wp2
        go_ret
        exact ⟨re, bw HB⟩
      · replace c12 := Bool.eq_false_iff.mpr c12
        subst c12
        have H1 : ((sat_Product.f (IntKind.u64.wrap (a4 - 1)) a0).bind fun bt149 => ((sat_Wide_Narrow.f bt149.1 bt149.2).bind fun bt151 => (if bt151.2 = true then (if bt151.1 > a1 then (some 18446744073709551615) else ((sat_Sub.f a2 (IntKind.u64.wrap (a1 - bt151.1))).bind fun t153 => (some (mx a3 t153)))) else (some 18446744073709551615)))) = some r := by rw [if_neg (show ¬ (false = true) by decide)] at H; exact H
        clear H
        have H := H1
        clear H1
        replace H := Option.bind_eq_some_iff.mp H
        obtain ⟨⟨t149, t150⟩, A130, H⟩ := H
        replace H : ((sat_Wide_Narrow.f t149 t150).bind fun bt151 => (if bt151.2 = true then (if bt151.1 > a1 then (some 18446744073709551615) else ((sat_Sub.f a2 (IntKind.u64.wrap (a1 - bt151.1))).bind fun t153 => (some (mx a3 t153)))) else (some 18446744073709551615))) = some r := H
        have A13 := Aside0.mk A130
        clear A130
        replace H := Option.bind_eq_some_iff.mp H
        obtain ⟨⟨t151, t152⟩, A140, H⟩ := H
        replace H : (if t152 = true then (if t151 > a1 then (some 18446744073709551615) else ((sat_Sub.f a2 (IntKind.u64.wrap (a1 - t151))).bind fun t153 => (some (mx a3 t153)))) else (some 18446744073709551615)) = some r := H
        have A14 := Aside0.mk A140
        clear A140
        by_cases c15 : t152 = true
        · subst c15
          have H1 : (if t151 > a1 then (some 18446744073709551615) else ((sat_Sub.f a2 (IntKind.u64.wrap (a1 - t151))).bind fun t153 => (some (mx a3 t153)))) = some r := by rw [if_pos rfl] at H; exact H
          clear H
          have H := H1
          clear H1
          by_cases c16 : t151 > a1
          · rw [if_pos c16] at H
            have c16b0 : decide (a1 < t151) = true := decide_eq_true c16
            clear c16
            obtain rfl := Option.some.inj H
            go_wp2_with (first | ((with_reducible refine gate_callee (f := 20) rfl ?_); refine gm (some 32) Try.func20 #[.int .u64 (IntKind.u64.wrap (a4 - 1)), .int .u64 a0] (sat_Product.calls (IntKind.u64.wrap (a4 - 1)) a0 t149 t150 _ A13.out) ?_; intro w17 hb; have n0_ := bs HB hb; clear HB; have HB := n0_; clear n0_; (try clear hb); (try clear hb2); (try clear hk); (try clear hi)) | ((with_reducible refine gate_callee (f := 75) rfl ?_); refine gm (some 33) Try.func75 #[.agg #[.int .u64 t149, .int .u64 t150]] (sat_Wide_Narrow.calls t149 t150 t151 true _ A14.out) ?_; intro w18 hb; have n0_ := bs HB hb; clear HB; have HB := n0_; clear n0_; (try clear hb); (try clear hb2); (try clear hk); (try clear hi)))
            go_ret
            exact ⟨re, bw HB⟩
          · rw [if_neg c16] at H
            have c16b0 : decide (a1 < t151) = false := decide_eq_false c16
            clear c16
            replace H := Option.bind_eq_some_iff.mp H
            obtain ⟨t153, A190, H⟩ := H
            replace H : (some (mx a3 t153)) = some r := H
            have A19 := Aside0.mk A190
            clear A190
            obtain ⟨ji20, hji20⟩ : ∃ j_ : Int, (mx a3 t153) = j_ := ⟨_, rfl⟩
            replace H : (some ji20) = some r := by first | (rw [hji20] at H; exact H) | (simp only [hji20] at H ⊢; exact H)
            (try rw [hji20] at A13)
            (try rw [hji20] at A14)
            (try rw [hji20] at A19)
            have hji20_ : (if a3 < t153 then t153 else a3) = ji20 := hji20
            obtain rfl := Option.some.inj H
            go_wp2_with (first | ((with_reducible refine gate_callee (f := 20) rfl ?_); refine gm (some 32) Try.func20 #[.int .u64 (IntKind.u64.wrap (a4 - 1)), .int .u64 a0] (sat_Product.calls (IntKind.u64.wrap (a4 - 1)) a0 t149 t150 _ A13.out) ?_; intro w21 hb; have n0_ := bs HB hb; clear HB; have HB := n0_; clear n0_; (try clear hb); (try clear hb2); (try clear hk); (try clear hi)) | ((with_reducible refine gate_callee (f := 75) rfl ?_); refine gm (some 33) Try.func75 #[.agg #[.int .u64 t149, .int .u64 t150]] (sat_Wide_Narrow.calls t149 t150 t151 true _ A14.out) ?_; intro w22 hb; have n0_ := bs HB hb; clear HB; have HB := n0_; clear n0_; (try clear hb); (try clear hb2); (try clear hk); (try clear hi)) | ((with_reducible refine gate_callee (f := 23) rfl ?_); refine gl (some 48) Try.func23 #[.int .u64 a2, .int .u64 (IntKind.u64.wrap (a1 - t151))] ?_; (with_reducible refine (sat_Sub.calls a2 (IntKind.u64.wrap (a1 - t151)) t153 _ A19.out).mono ?_); rintro e w' ⟨rfl, ⟨nd, rfl⟩⟩; refine ⟨_, rfl, ?_⟩))
            go_ret
            exact ⟨by first | rfl | (simp [errW_none, errW_some] <;> rfl) | (simp only [← hji20]; first | rfl | (simp [errW_none, errW_some] <;> rfl)) | (simp [*, errW_none, errW_some] <;> rfl), bw HB⟩
        · replace c15 := Bool.eq_false_iff.mpr c15
          subst c15
          have H1 : (some 18446744073709551615) = some r := by rw [if_neg (show ¬ (false = true) by decide)] at H; exact H
          clear H
          have H := H1
          clear H1
          obtain rfl := Option.some.inj H
          go_wp2_with (first | ((with_reducible refine gate_callee (f := 20) rfl ?_); refine gm (some 32) Try.func20 #[.int .u64 (IntKind.u64.wrap (a4 - 1)), .int .u64 a0] (sat_Product.calls (IntKind.u64.wrap (a4 - 1)) a0 t149 t150 _ A13.out) ?_; intro w23 hb; have n0_ := bs HB hb; clear HB; have HB := n0_; clear n0_; (try clear hb); (try clear hb2); (try clear hk); (try clear hi)) | ((with_reducible refine gate_callee (f := 75) rfl ?_); refine gm (some 33) Try.func75 #[.agg #[.int .u64 t149, .int .u64 t150]] (sat_Wide_Narrow.calls t149 t150 t151 false _ A14.out) ?_; intro w24 hb; have n0_ := bs HB hb; clear HB; have HB := n0_; clear n0_; (try clear hb); (try clear hb2); (try clear hk); (try clear hi)))
          go_ret
          exact ⟨re, bw HB⟩

end Go.Proofs.Ytdoifmefhofnnaa.D
