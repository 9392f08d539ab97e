/- Written by the session's own program hyb.py: what functions of the program compute; Lean checks it. -/
import Derived.Test.YthnpgilknoiaaaaQx0
import Derived.Test.YthnpgilknoiaaaaQx1
import Derived.Test.YthnpgilknoiaaaaQx4
namespace Go.Proofs.Ythnpgilknoiaaaa.Q
open Go.RowKit Go.Proofs.YthnpgilknoiaaaaW.PrintWords Go.Proofs.YthnpgilknoiaaaaW.PrintLast Go.Proofs.YthnpgilknoiaaaaW.PrintMore Go.Proofs.YthnpgilknoiaaaaW.PrintShort
attribute [local go_sem] run_Add64 run_Sub64
attribute [local go_sem] max2_int min2_int max_two min_two max_three min_three max_four min_four   -- for this text's walks alone
set_option linter.unusedVariables false
set_option linter.unusedSimpArgs false

attribute [local go_sem high] eqA24
/-! ### sat_Wide_Narrow: function 18 -/
def sat_Wide_Narrow.f (a0_0 : Int) (a0_1 : Int) : Option (Int × Bool) := (sat_Of.f a0_1).bind fun bt123 => (if (!(a0_0 == bt123.1) || (!(a0_1 == bt123.2))) = true then (some (0, false)) else (some (a0_1, true)))
set_option maxHeartbeats 8000000 in
set_option maxRecDepth 100000 in
theorem sat_Wide_Narrow.calls (a0_0 : Int) (a0_1 : Int) (r1 : Int) (r2 : Bool) (w : World) (h : sat_Wide_Narrow.f a0_0 a0_1 = some (r1, r2)) :
    Calls Try.prog 18 #[.agg #[.int .u64 a0_0, .int .u64 a0_1]] w fun e w' => e = .returned (.tuple #[.int .u64 r1, .bool r2]) ∧ Below w.heap.size w w' := by
  have hu24 := Try.underlying24
  have HB := Aside0.mk (Below.refl w.heap.size w)
  have H : ((sat_Of.f a0_1).bind fun bt123 => (if (!(a0_0 == bt123.1) || (!(a0_1 == bt123.2))) = true then (some (0, false)) else (some (a0_1, true)))) = some (r1, r2) := h
  clear h
  replace H := Option.bind_eq_some_iff.mp H
  obtain ⟨⟨t123, t124⟩, A20, H⟩ := H
  replace H : (if (!(a0_0 == t123) || (!(a0_1 == t124))) = true then (some (0, false)) else (some (a0_1, true))) = some (r1, r2) := H
  have A2 := Aside0.mk A20
  clear A20
  by_cases c3 : (!(a0_0 == t123) || (!(a0_1 == t124))) = true
  · rw [if_pos c3] at H
    have c3b0 : (!(a0_0 == t123) || (!(a0_1 == t124))) = true := c3
    clear c3
    simp only [Option.some.injEq, Prod.mk.injEq] at H
    obtain ⟨rfl, rfl⟩ := H
    go_enter Try.func18, Try.ntmps18
    try go_wp2_with (first | ((with_reducible refine gate_dst (N := 1) rfl ?_); refine bx 1 #[.int .u64 a0_0, .int .u64 a0_1] 24 ?_; intro gb122 hg w4 hbox hb; have n0_ := bs HB hb; have n1_ := Aside0.mk (hbox); have n2_ := sz HB hg; have n3_ := sz HB hg; clear HB; have HB := n0_; have BK122 := n1_; have GW122 := n2_; have GE122 := n3_; clear n0_ n1_ n2_ n3_; clear hb hbox hg))
    have n0_ := Aside0.mk (blk_drew BK122.out)
    have n1_ := Aside0.mk (below_drew1 HB.out)
    clear BK122
    clear HB
    have BK122 := n0_
    have HB := n1_
    clear n0_ n1_
    refine start_ (n := 5) (S := fun w' => w'.cell? ⟨gb122, 0, none⟩ = some (.int .u64 a0_0) ∧ w'.cell? ⟨gb122, 1, none⟩ = some (.int .u64 a0_1)) (ds := []) #[false, false, false, false, false] (by kernel_rfl) rfl rfl ⟨(blk_cell BK122.out 0).trans rfl, (blk_cell BK122.out 1).trans rfl⟩ (fun hHeld => ?_)
    generalize w4.drew = w5 at BK122 HB hHeld ⊢
    refine pure_ (i := 1) (N := some 5) (v := ?_) (a' := ?_) #[false, true, false, false, false] rfl rfl (by kernel_rfl) (fun _ _ _ h => h) (Or.inl ⟨by rfl, ?_⟩) ?_ ?_
    rotate_left
    · intro w'
      go_simp
      with_reducible rfl
    rotate_left
    · simp only [Act.put, List.setIfInBounds_toArray, List.set_cons_zero, List.set_cons_succ, i64_w, i32_w]
      rfl
    refine take_ (i := 0) (N := some 4) (v := ?_) (a' := ?_) #[true, true, false, false, false] rfl rfl (by kernel_rfl) (fun _ _ _ h => h) (Or.inl ⟨by rfl, ?_⟩) hHeld ?_ ?_
    rotate_left
    · rintro w' ⟨s0, s1⟩
      go_simp
      with_reducible rfl
    rotate_left
    · simp only [Act.put, List.setIfInBounds_toArray, List.set_cons_zero, List.set_cons_succ, i64_w, i32_w]
      rfl
    refine take_ (i := 2) (N := some 6) (v := ?_) (a' := ?_) #[true, true, true, false, false] rfl rfl (by kernel_rfl) (fun _ _ _ h => h) (Or.inl ⟨by rfl, ?_⟩) hHeld ?_ ?_
    rotate_left
    · rintro w' ⟨s0, s1⟩
      go_simp
      with_reducible rfl
    rotate_left
    · simp only [Act.put, List.setIfInBounds_toArray, List.set_cons_zero, List.set_cons_succ, i64_w, i32_w]
      rfl
    refine one_ (i := 3) (N := some 7) #[true, true, true, true, false] rfl rfl (by kernel_rfl) (by decide) (fun K hK => ?_)
    refine ge Try.func20 #[.int .u64 a0_1] ?_
    with_reducible refine (sat_Of.calls a0_1 t123 t124 _ A2.out).mono ?_
    rintro e w6 ⟨rfl, hb⟩
    refine ⟨_, rfl, ?_⟩
    have n0_ := bb BK122 hb
    have n1_ := bs HB hb
    clear BK122
    clear HB
    have BK122 := n0_
    have HB := n1_
    clear n0_ n1_
    (try clear hb)
    (try clear hb2)
    (try clear hk)
    (try clear hi)
    refine hK.out _ _ ⟨(blk_cell BK122.out 0).trans rfl, (blk_cell BK122.out 1).trans rfl⟩ (fun hHeld => ?_)
    clear hK K
    refine norm_ (a' := ?_) ?_ ?_
    rotate_left
    · show Act.put _ (some 7) _ = _
      simp only [Act.put, List.setIfInBounds_toArray, List.set_cons_zero, List.set_cons_succ, i64_w, i32_w]
      rfl
    refine pure_ (i := 4) (N := some 8) (v := ?_) (a' := ?_) #[true, true, true, true, true] rfl rfl (by kernel_rfl) (fun _ _ _ h => h) (Or.inl ⟨by rfl, ?_⟩) ?_ ?_
    rotate_left
    · intro w'
      go_simp
      with_reducible rfl
    rotate_left
    · simp only [Act.put, List.setIfInBounds_toArray, List.set_cons_zero, List.set_cons_succ, i64_w, i32_w]
      rfl
    refine done_ (by kernel_rfl) ?_
    try go_wp2
    go_ret2
    exact ⟨re, bw HB⟩
  · rw [if_neg c3] at H
    have c3b0 : (!(a0_0 == t123) || (!(a0_1 == t124))) = false := by simpa using c3
    clear c3
    simp only [Option.some.injEq, Prod.mk.injEq] at H
    obtain ⟨rfl, rfl⟩ := H
    go_enter Try.func18, Try.ntmps18
    try go_wp2_with (first | ((with_reducible refine gate_dst (N := 1) rfl ?_); refine bx 1 #[.int .u64 a0_0, .int .u64 a0_1] 24 ?_; intro gb122 hg w7 hbox hb; have n0_ := bs HB hb; have n1_ := Aside0.mk (hbox); have n2_ := sz HB hg; have n3_ := sz HB hg; clear HB; have HB := n0_; have BK122 := n1_; have GW122 := n2_; have GE122 := n3_; clear n0_ n1_ n2_ n3_; clear hb hbox hg))
    have n0_ := Aside0.mk (blk_drew BK122.out)
    have n1_ := Aside0.mk (below_drew1 HB.out)
    clear BK122
    clear HB
    have BK122 := n0_
    have HB := n1_
    clear n0_ n1_
    refine start_ (n := 5) (S := fun w' => w'.cell? ⟨gb122, 0, none⟩ = some (.int .u64 a0_0) ∧ w'.cell? ⟨gb122, 1, none⟩ = some (.int .u64 a0_1)) (ds := []) #[false, false, false, false, false] (by kernel_rfl) rfl rfl ⟨(blk_cell BK122.out 0).trans rfl, (blk_cell BK122.out 1).trans rfl⟩ (fun hHeld => ?_)
    generalize w7.drew = w8 at BK122 HB hHeld ⊢
    refine pure_ (i := 1) (N := some 5) (v := ?_) (a' := ?_) #[false, true, false, false, false] rfl rfl (by kernel_rfl) (fun _ _ _ h => h) (Or.inl ⟨by rfl, ?_⟩) ?_ ?_
    rotate_left
    · intro w'
      go_simp
      with_reducible rfl
    rotate_left
    · simp only [Act.put, List.setIfInBounds_toArray, List.set_cons_zero, List.set_cons_succ, i64_w, i32_w]
      rfl
    refine take_ (i := 0) (N := some 4) (v := ?_) (a' := ?_) #[true, true, false, false, false] rfl rfl (by kernel_rfl) (fun _ _ _ h => h) (Or.inl ⟨by rfl, ?_⟩) hHeld ?_ ?_
    rotate_left
    · rintro w' ⟨s0, s1⟩
      go_simp
      with_reducible rfl
    rotate_left
    · simp only [Act.put, List.setIfInBounds_toArray, List.set_cons_zero, List.set_cons_succ, i64_w, i32_w]
      rfl
    refine take_ (i := 2) (N := some 6) (v := ?_) (a' := ?_) #[true, true, true, false, false] rfl rfl (by kernel_rfl) (fun _ _ _ h => h) (Or.inl ⟨by rfl, ?_⟩) hHeld ?_ ?_
    rotate_left
    · rintro w' ⟨s0, s1⟩
      go_simp
      with_reducible rfl
    rotate_left
    · simp only [Act.put, List.setIfInBounds_toArray, List.set_cons_zero, List.set_cons_succ, i64_w, i32_w]
      rfl
    refine one_ (i := 3) (N := some 7) #[true, true, true, true, false] rfl rfl (by kernel_rfl) (by decide) (fun K hK => ?_)
    refine ge Try.func20 #[.int .u64 a0_1] ?_
    with_reducible refine (sat_Of.calls a0_1 t123 t124 _ A2.out).mono ?_
    rintro e w9 ⟨rfl, hb⟩
    refine ⟨_, rfl, ?_⟩
    have n0_ := bb BK122 hb
    have n1_ := bs HB hb
    clear BK122
    clear HB
    have BK122 := n0_
    have HB := n1_
    clear n0_ n1_
    (try clear hb)
    (try clear hb2)
    (try clear hk)
    (try clear hi)
    refine hK.out _ _ ⟨(blk_cell BK122.out 0).trans rfl, (blk_cell BK122.out 1).trans rfl⟩ (fun hHeld => ?_)
    clear hK K
    refine norm_ (a' := ?_) ?_ ?_
    rotate_left
    · show Act.put _ (some 7) _ = _
      simp only [Act.put, List.setIfInBounds_toArray, List.set_cons_zero, List.set_cons_succ, i64_w, i32_w]
      rfl
    refine pure_ (i := 4) (N := some 8) (v := ?_) (a' := ?_) #[true, true, true, true, true] rfl rfl (by kernel_rfl) (fun _ _ _ h => h) (Or.inl ⟨by rfl, ?_⟩) ?_ ?_
    rotate_left
    · intro w'
      go_simp
      with_reducible rfl
    rotate_left
    · simp only [Act.put, List.setIfInBounds_toArray, List.set_cons_zero, List.set_cons_succ, i64_w, i32_w]
      rfl
    refine done_ (by kernel_rfl) ?_
    obtain ⟨hcz10_0, hcz10_1, hfz10_0, hfz10_1⟩ := bc2 BK122
    try go_wp2
    go_ret2
    exact ⟨re, bw HB⟩

/-! ### sat_greatest: function 41 -/
def sat_greatest.f  : Option (Int × Int) := some (18446744073709551615, 18446744073709551615)
set_option maxHeartbeats 8000000 in
set_option maxRecDepth 100000 in
theorem sat_greatest.calls  (r1 : Int) (r2 : Int) (w : World) (h : sat_greatest.f  = some (r1, r2)) :
    Calls Try.prog 41 #[] w fun e w' => e = .returned (.agg #[.int .u64 r1, .int .u64 r2]) ∧ Below w.heap.size w w' := by
  have hu24 := Try.underlying24
  have HB := Aside0.mk (Below.refl w.heap.size w)
  have H : (some (18446744073709551615, 18446744073709551615)) = some (r1, r2) := h
  clear h
  simp only [Option.some.injEq, Prod.mk.injEq] at H
  obtain ⟨rfl, rfl⟩ := H
  go_enter Try.func41, Try.ntmps41
  go_wp2_with (first | ((with_reducible refine gate_dst (N := 0) rfl ?_); refine bx 0 #[.int .u64 0, .int .u64 0] 24 ?_; intro gb125 hg w1 hbox hb; have n0_ := bs HB hb; have n1_ := Aside0.mk (hbox); have n2_ := sz HB hg; have n3_ := sz HB hg; clear HB; have HB := n0_; have BK125 := n1_; have GW125 := n2_; have GE125 := n3_; clear n0_ n1_ n2_ n3_; clear hb hbox hg; obtain ⟨hcz2_0, hcz2_1, hfz2_0, hfz2_1⟩ := bc2 BK125))
  refine bodyPost_ret (results_cell_row rfl _ _ gb125 24 #[.int .u64 18446744073709551615, .int .u64 18446744073709551615] (0, 0) _ rfl (bk BK125) Try.underlying24 rfl (by kernel_rfl)) rfl ?_
  exact ⟨re, bw HB⟩

/-! ### sat_Wide_Plus: function 19 -/
def sat_Wide_Plus.f (a0_0 : Int) (a0_1 : Int) (a1_0 : Int) (a1_1 : Int) : Option (Int × Int) := if (add64c a0_1 a1_1 0) ≤ 1 then (if (add64c a0_0 a1_0 (add64c a0_1 a1_1 0)) = 0 then (some (add64s a0_0 a1_0 (add64c a0_1 a1_1 0), add64s a0_1 a1_1 0)) else ((sat_greatest.f).bind fun bt129 => (some (bt129.1, bt129.2)))) else (none)
set_option maxHeartbeats 8000000 in
set_option maxRecDepth 100000 in
theorem sat_Wide_Plus.calls (a0_0 : Int) (a0_1 : Int) (a1_0 : Int) (a1_1 : Int) (r1 : Int) (r2 : Int) (w : World) (h : sat_Wide_Plus.f a0_0 a0_1 a1_0 a1_1 = some (r1, r2)) :
    Calls Try.prog 19 #[.agg #[.int .u64 a0_0, .int .u64 a0_1], .agg #[.int .u64 a1_0, .int .u64 a1_1]] w fun e w' => e = .returned (.agg #[.int .u64 r1, .int .u64 r2]) ∧ Below w.heap.size w w' := by
  have hu24 := Try.underlying24
  have HB := Aside0.mk (Below.refl w.heap.size w)
  have H : (if (add64c a0_1 a1_1 0) ≤ 1 then (if (add64c a0_0 a1_0 (add64c a0_1 a1_1 0)) = 0 then (some (add64s a0_0 a1_0 (add64c a0_1 a1_1 0), add64s a0_1 a1_1 0)) else ((sat_greatest.f).bind fun bt129 => (some (bt129.1, bt129.2)))) else (none)) = some (r1, r2) := h
  clear h
  by_cases c3 : (add64c a0_1 a1_1 0) ≤ 1
  · rw [if_pos c3] at H
    have c3b0 := eq_true c3
    have c3b1 : decide ((add64c a0_1 a1_1 0) ≤ 1) = true := decide_eq_true c3
    clear c3
    by_cases c4 : (add64c a0_0 a1_0 (add64c a0_1 a1_1 0)) = 0
    · rw [if_pos c4] at H
      have c4b0 : ((add64c a0_0 a1_0 (add64c a0_1 a1_1 0)) == 0) = true := beq_iff_eq.mpr c4
      have c4b1 : ((add64c a0_0 a1_0 (add64c a0_1 a1_1 0)) != 0) = false := bne_eq_false_iff_eq.mpr c4
      clear c4
      simp only [Option.some.injEq, Prod.mk.injEq] at H
      obtain ⟨rfl, rfl⟩ := H
      go_enter Try.func19, Try.ntmps19
      go_wp2_with (first | ((with_reducible refine gate_dst (N := 2) rfl ?_); refine bx 2 #[.int .u64 a0_0, .int .u64 a0_1] 24 ?_; intro gb126 hg w5 hbox hb; have n0_ := bs HB hb; have n1_ := Aside0.mk (hbox); have n2_ := sz HB hg; have n3_ := sz HB hg; clear HB; have HB := n0_; have BK126 := n1_; have GW126 := n2_; have GE126 := n3_; clear n0_ n1_ n2_ n3_; clear hb hbox hg) | ((with_reducible refine gate_dst (N := 3) rfl ?_); refine bx 3 #[.int .u64 a1_0, .int .u64 a1_1] 24 ?_; intro gb127 hg w6 hbox hb; have n0_ := bb BK126 hb; have n1_ := bs HB hb; have n2_ := Aside0.mk (hbox); have n3_ := sz HB hg; have n4_ := sz HB hg; have n5_ := nl BK126 hg; have n6_ := nr BK126 hg; clear BK126; clear HB; have BK126 := n0_; have HB := n1_; have BK127 := n2_; have GW127 := n3_; have GE127 := n4_; have NB126_127 := n5_; have NB127_126 := n6_; clear n0_ n1_ n2_ n3_ n4_ n5_ n6_; clear hb hbox hg) | ((with_reducible refine gate_dst (N := 4) rfl ?_); refine bx 4 #[.int .u64 0, .int .u64 0] 24 ?_; intro gb128 hg w7 hbox hb; have n0_ := bb BK126 hb; have n1_ := bb BK127 hb; have n2_ := bs HB hb; have n3_ := Aside0.mk (hbox); have n4_ := sz HB hg; have n5_ := sz HB hg; have n6_ := nl BK126 hg; have n7_ := nr BK126 hg; have n8_ := nl BK127 hg; have n9_ := nr BK127 hg; clear BK126; clear BK127; clear HB; have BK126 := n0_; have BK127 := n1_; have HB := n2_; have BK128 := n3_; have GW128 := n4_; have GE128 := n5_; have NB126_128 := n6_; have NB128_126 := n7_; have NB127_128 := n8_; have NB128_127 := n9_; clear n0_ n1_ n2_ n3_ n4_ n5_ n6_ n7_ n8_ n9_; clear hb hbox hg; have hnb8 := NB126_127.out; have hnc8 := NB127_126.out; have hnb9 := NB126_128.out; have hnc9 := NB128_126.out; obtain ⟨hcz10_0, hcz10_1, hfz10_0, hfz10_1⟩ := bc2 BK126; have hnb11 := NB127_128.out; have hnc11 := NB128_127.out; obtain ⟨hcz12_0, hcz12_1, hfz12_0, hfz12_1⟩ := bc2 BK127; obtain ⟨hcz13_0, hcz13_1, hfz13_0, hfz13_1⟩ := bc2 BK128))
      refine bodyPost_ret (results_cell_row rfl _ _ gb128 24 #[.int .u64 (add64s a0_0 a1_0 (add64c a0_1 a1_1 0)), .int .u64 (add64s a0_1 a1_1 0)] (0, 0) _ rfl (bk BK128) Try.underlying24 rfl (by kernel_rfl)) rfl ?_
      exact ⟨re, bw HB⟩
    · rw [if_neg c4] at H
      have c4b0 : ((add64c a0_0 a1_0 (add64c a0_1 a1_1 0)) == 0) = false := beq_eq_false_iff_ne.mpr c4
      have c4b1 : ((add64c a0_0 a1_0 (add64c a0_1 a1_1 0)) != 0) = true := bne_iff_ne.mpr c4
      replace H := Option.bind_eq_some_iff.mp H
      obtain ⟨⟨t129, t130⟩, A140, H⟩ := H
      replace H : (some (t129, t130)) = some (r1, r2) := H
      have A14 := Aside0.mk A140
      clear A140
      simp only [Option.some.injEq, Prod.mk.injEq] at H
      obtain ⟨rfl, rfl⟩ := H
      go_enter Try.func19, Try.ntmps19
      go_wp2_with (first | ((with_reducible refine gate_dst (N := 2) rfl ?_); refine bx 2 #[.int .u64 a0_0, .int .u64 a0_1] 24 ?_; intro gb126 hg w15 hbox hb; have n0_ := bs HB hb; have n1_ := Aside0.mk (hbox); have n2_ := sz HB hg; have n3_ := sz HB hg; clear HB; have HB := n0_; have BK126 := n1_; have GW126 := n2_; have GE126 := n3_; clear n0_ n1_ n2_ n3_; clear hb hbox hg) | ((with_reducible refine gate_dst (N := 3) rfl ?_); refine bx 3 #[.int .u64 a1_0, .int .u64 a1_1] 24 ?_; intro gb127 hg w16 hbox hb; have n0_ := bb BK126 hb; have n1_ := bs HB hb; have n2_ := Aside0.mk (hbox); have n3_ := sz HB hg; have n4_ := sz HB hg; have n5_ := nl BK126 hg; have n6_ := nr BK126 hg; clear BK126; clear HB; have BK126 := n0_; have HB := n1_; have BK127 := n2_; have GW127 := n3_; have GE127 := n4_; have NB126_127 := n5_; have NB127_126 := n6_; clear n0_ n1_ n2_ n3_ n4_ n5_ n6_; clear hb hbox hg) | ((with_reducible refine gate_dst (N := 4) rfl ?_); refine bx 4 #[.int .u64 0, .int .u64 0] 24 ?_; intro gb128 hg w17 hbox hb; have n0_ := bb BK126 hb; have n1_ := bb BK127 hb; have n2_ := bs HB hb; have n3_ := Aside0.mk (hbox); have n4_ := sz HB hg; have n5_ := sz HB hg; have n6_ := nl BK126 hg; have n7_ := nr BK126 hg; have n8_ := nl BK127 hg; have n9_ := nr BK127 hg; clear BK126; clear BK127; clear HB; have BK126 := n0_; have BK127 := n1_; have HB := n2_; have BK128 := n3_; have GW128 := n4_; have GE128 := n5_; have NB126_128 := n6_; have NB128_126 := n7_; have NB127_128 := n8_; have NB128_127 := n9_; clear n0_ n1_ n2_ n3_ n4_ n5_ n6_ n7_ n8_ n9_; clear hb hbox hg; have hnb18 := NB126_127.out; have hnc18 := NB127_126.out; have hnb19 := NB126_128.out; have hnc19 := NB128_126.out; obtain ⟨hcz20_0, hcz20_1, hfz20_0, hfz20_1⟩ := bc2 BK126; have hnb21 := NB127_128.out; have hnc21 := NB128_127.out; obtain ⟨hcz22_0, hcz22_1, hfz22_0, hfz22_1⟩ := bc2 BK127) | ((with_reducible refine gate_callee (f := 41) rfl ?_); refine gm (some 27) Try.func41 #[] (sat_greatest.calls  t129 t130 _ A14.out) ?_; intro w23 hb; have n0_ := bb BK126 hb; have n1_ := bb BK127 hb; have n2_ := bb BK128 hb; have n3_ := bs HB hb; clear BK126; clear BK127; clear BK128; clear HB; have BK126 := n0_; have BK127 := n1_; have BK128 := n2_; have HB := n3_; clear n0_ n1_ n2_ n3_; (try clear hb); (try clear hb2); (try clear hk); (try clear hi); obtain ⟨hcz24_0, hcz24_1, hfz24_0, hfz24_1⟩ := bc2 BK128))
      refine bodyPost_ret (results_cell_row rfl _ _ gb128 24 #[.int .u64 t129, .int .u64 t130] (0, 0) _ rfl (bk BK128) Try.underlying24 rfl (by kernel_rfl)) rfl ?_
      exact ⟨re, bw HB⟩
  · rw [if_neg c3] at H
    exact absurd H (by simp)

/-! ### turnstilelaw03_SatDivides: function 3 -/
def turnstilelaw03_SatDivides.f (k : Nat) (a0_0 : Int) (a0_1 : Int) (a1 : Int) : Option (Bool) := (turnstilelaw03_awake.f k).bind fun t132 => (if t132 = true then ((sat_Wide_DivMod.f k a0_0 a0_1 a1).bind fun bt133 => (if a1 = 0 then (if (bt133.1 == 0 && (bt133.2.1 == 0)) = true then (some (bt133.2.2 == 0)) else (some false)) else ((sat_Product.f bt133.1 a1).bind fun bt137 => ((sat_Wide_Narrow.f bt137.1 bt137.2).bind fun bt139 => ((sat_Product.f bt133.2.1 a1).bind fun bt141 => ((sat_Wide_Plus.f bt141.1 bt141.2 bt139.1 0).bind fun bt143 => ((sat_Of.f bt133.2.2).bind fun bt145 => ((sat_Wide_Plus.f bt143.1 bt143.2 bt145.1 bt145.2).bind fun bt147 => (if bt139.2 = true then (if bt133.2.2 < a1 then (some (bt147.1 == a0_0 && (bt147.2 == a0_1))) else (some false)) else (some false)))))))))) else (some false))
theorem turnstilelaw03_SatDivides.mono : ∀ a0 a1 a2 k, LeO (turnstilelaw03_SatDivides.f k a0 a1 a2) (turnstilelaw03_SatDivides.f (k + 1) a0 a1 a2) := by
  intro a0 a1 a2 k
  unfold turnstilelaw03_SatDivides.f
  repeat' first
      | (with_reducible exact sat_Wide_DivMod.mono _ _ _ _)
      | (with_reducible exact turnstilelaw03_awake.mono _)
      | (with_reducible exact LeO.refl _)
      | (with_reducible exact LeO.none _)
      | (with_reducible refine LeO.ite ?_ ?_)
      | (with_reducible refine LeO.bind ?_ (fun _ => ?_))
      | exact sat_Wide_DivMod.mono _ _ _ _
      | exact turnstilelaw03_awake.mono _
      | exact LeO.none _
      | refine LeO.ite ?_ ?_
      | refine LeO.bind ?_ (fun _ => ?_)
set_option maxHeartbeats 8000000 in
set_option maxRecDepth 100000 in
theorem turnstilelaw03_SatDivides.calls (k : Nat) (a0_0 : Int) (a0_1 : Int) (a1 : Int) (r : Bool) (w : World) (h : turnstilelaw03_SatDivides.f k a0_0 a0_1 a1 = some r) :
    Calls Try.prog 3 #[.agg #[.int .u64 a0_0, .int .u64 a0_1], .int .u64 a1] w fun e w' => e = .returned (.bool r) ∧ Below w.heap.size w w' := by
  have hu24 := Try.underlying24
  have HB := Aside0.mk (Below.refl w.heap.size w)
  have H : ((turnstilelaw03_awake.f k).bind fun t132 => (if t132 = true then ((sat_Wide_DivMod.f k a0_0 a0_1 a1).bind fun bt133 => (if a1 = 0 then (if (bt133.1 == 0 && (bt133.2.1 == 0)) = true then (some (bt133.2.2 == 0)) else (some false)) else ((sat_Product.f bt133.1 a1).bind fun bt137 => ((sat_Wide_Narrow.f bt137.1 bt137.2).bind fun bt139 => ((sat_Product.f bt133.2.1 a1).bind fun bt141 => ((sat_Wide_Plus.f bt141.1 bt141.2 bt139.1 0).bind fun bt143 => ((sat_Of.f bt133.2.2).bind fun bt145 => ((sat_Wide_Plus.f bt143.1 bt143.2 bt145.1 bt145.2).bind fun bt147 => (if bt139.2 = true then (if bt133.2.2 < a1 then (some (bt147.1 == a0_0 && (bt147.2 == a0_1))) else (some false)) else (some false)))))))))) else (some false))) = some r := h
  clear h
  replace H := Option.bind_eq_some_iff.mp H
  obtain ⟨t132, A30, H⟩ := H
  replace H : (if t132 = true then ((sat_Wide_DivMod.f k a0_0 a0_1 a1).bind fun bt133 => (if a1 = 0 then (if (bt133.1 == 0 && (bt133.2.1 == 0)) = true then (some (bt133.2.2 == 0)) else (some false)) else ((sat_Product.f bt133.1 a1).bind fun bt137 => ((sat_Wide_Narrow.f bt137.1 bt137.2).bind fun bt139 => ((sat_Product.f bt133.2.1 a1).bind fun bt141 => ((sat_Wide_Plus.f bt141.1 bt141.2 bt139.1 0).bind fun bt143 => ((sat_Of.f bt133.2.2).bind fun bt145 => ((sat_Wide_Plus.f bt143.1 bt143.2 bt145.1 bt145.2).bind fun bt147 => (if bt139.2 = true then (if bt133.2.2 < a1 then (some (bt147.1 == a0_0 && (bt147.2 == a0_1))) else (some false)) else (some false)))))))))) else (some false)) = some r := H
  have A3 := Aside0.mk A30
  clear A30
  by_cases c4 : t132 = true
  · subst c4
    have H1 : ((sat_Wide_DivMod.f k a0_0 a0_1 a1).bind fun bt133 => (if a1 = 0 then (if (bt133.1 == 0 && (bt133.2.1 == 0)) = true then (some (bt133.2.2 == 0)) else (some false)) else ((sat_Product.f bt133.1 a1).bind fun bt137 => ((sat_Wide_Narrow.f bt137.1 bt137.2).bind fun bt139 => ((sat_Product.f bt133.2.1 a1).bind fun bt141 => ((sat_Wide_Plus.f bt141.1 bt141.2 bt139.1 0).bind fun bt143 => ((sat_Of.f bt133.2.2).bind fun bt145 => ((sat_Wide_Plus.f bt143.1 bt143.2 bt145.1 bt145.2).bind fun bt147 => (if bt139.2 = true then (if bt133.2.2 < a1 then (some (bt147.1 == a0_0 && (bt147.2 == a0_1))) else (some false)) else (some false)))))))))) = some r := by rw [if_pos rfl] at H; exact H
    clear H
    have H := H1
    clear H1
    replace H := Option.bind_eq_some_iff.mp H
    obtain ⟨⟨t133, t134, t135⟩, A50, H⟩ := H
    replace H : (if a1 = 0 then (if (t133 == 0 && (t134 == 0)) = true then (some (t135 == 0)) else (some false)) else ((sat_Product.f t133 a1).bind fun bt137 => ((sat_Wide_Narrow.f bt137.1 bt137.2).bind fun bt139 => ((sat_Product.f t134 a1).bind fun bt141 => ((sat_Wide_Plus.f bt141.1 bt141.2 bt139.1 0).bind fun bt143 => ((sat_Of.f t135).bind fun bt145 => ((sat_Wide_Plus.f bt143.1 bt143.2 bt145.1 bt145.2).bind fun bt147 => (if bt139.2 = true then (if t135 < a1 then (some (bt147.1 == a0_0 && (bt147.2 == a0_1))) else (some false)) else (some false))))))))) = some r := H
    have A5 := Aside0.mk A50
    clear A50
    by_cases c6 : a1 = 0
    · rw [if_pos c6] at H
      have c6b0 : (a1 == 0) = true := beq_iff_eq.mpr c6
      have c6b1 : (a1 != 0) = false := bne_eq_false_iff_eq.mpr c6
      clear c6
      by_cases c7 : (t133 == 0 && (t134 == 0)) = true
      · rw [if_pos c7] at H
        have c7b0 : (t133 == 0 && (t134 == 0)) = true := c7
        (try (have c7b1 : decide (t133 = 0 && (t134 == 0)) = true := by simpa using c7))
        (try (have c7b2 : (t133 == 0 && (t134 == 0)) = true := by simpa using c7))
        clear c7
        obtain rfl := Option.some.inj H
        go_enter Try.func3, Try.ntmps3
        go_wp2_with (first | ((with_reducible refine gate_dst (N := 2) rfl ?_); refine bx 2 #[.int .u64 a0_0, .int .u64 a0_1] 24 ?_; intro gb131 hg w8 hbox hb; have n0_ := bs HB hb; have n1_ := Aside0.mk (hbox); have n2_ := sz HB hg; have n3_ := sz HB hg; clear HB; have HB := n0_; have BK131 := n1_; have GW131 := n2_; have GE131 := n3_; clear n0_ n1_ n2_ n3_; clear hb hbox hg) | ((with_reducible refine gate_callee (f := 15) rfl ?_); refine gm (some 10) Try.func15 #[] (turnstilelaw03_awake.calls k  true _ A3.out) ?_; intro w9 hb; have n0_ := bb BK131 hb; have n1_ := bs HB hb; clear BK131; clear HB; have BK131 := n0_; have HB := n1_; clear n0_ n1_; (try clear hb); (try clear hb2); (try clear hk); (try clear hi); obtain ⟨hcz10_0, hcz10_1, hfz10_0, hfz10_1⟩ := bc2 BK131) | ((with_reducible refine gate_callee (f := 16) rfl ?_); refine gm (some 15) Try.func16 #[.agg #[.int .u64 a0_0, .int .u64 a0_1], .int .u64 a1] (sat_Wide_DivMod.calls k a0_0 a0_1 a1 t133 t134 t135 _ A5.out) ?_; intro w11 hb; have n0_ := bb BK131 hb; have n1_ := bs HB hb; clear BK131; clear HB; have BK131 := n0_; have HB := n1_; clear n0_ n1_; (try clear hb); (try clear hb2); (try clear hk); (try clear hi)) | ((with_reducible refine gate_dst (N := 5) rfl ?_); refine bx 5 #[.int .u64 0, .int .u64 0] 24 ?_; intro gb136 hg w12 hbox hb; have n0_ := bb BK131 hb; have n1_ := bs HB hb; have n2_ := Aside0.mk (hbox); have n3_ := sz HB hg; have n4_ := sz HB hg; have n5_ := nl BK131 hg; have n6_ := nr BK131 hg; clear BK131; clear HB; have BK131 := n0_; have HB := n1_; have BK136 := n2_; have GW136 := n3_; have GE136 := n4_; have NB131_136 := n5_; have NB136_131 := n6_; clear n0_ n1_ n2_ n3_ n4_ n5_ n6_; clear hb hbox hg; have hnb13 := NB136_131.out; have hnc13 := NB131_136.out; obtain ⟨hcz14_0, hcz14_1, hfz14_0, hfz14_1⟩ := bc2 BK136))
        go_ret
        exact ⟨re, bw HB⟩
      · rw [if_neg c7] at H
        have c7b0 : (t133 == 0 && (t134 == 0)) = false := by simpa using c7
        (try (have c7b1 : decide (t133 = 0 && (t134 == 0)) = false := by simpa using c7))
        (try (have c7b2 : (t133 == 0 && (t134 == 0)) = false := by simpa using c7))
        (try (have c7b3 : ¬ (t133 = 0 && (t134 == 0)) := by simpa using c7))
        clear c7
        obtain rfl := Option.some.inj H
        go_enter Try.func3, Try.ntmps3
        go_wp2_with (first | ((with_reducible refine gate_dst (N := 2) rfl ?_); refine bx 2 #[.int .u64 a0_0, .int .u64 a0_1] 24 ?_; intro gb131 hg w15 hbox hb; have n0_ := bs HB hb; have n1_ := Aside0.mk (hbox); have n2_ := sz HB hg; have n3_ := sz HB hg; clear HB; have HB := n0_; have BK131 := n1_; have GW131 := n2_; have GE131 := n3_; clear n0_ n1_ n2_ n3_; clear hb hbox hg) | ((with_reducible refine gate_callee (f := 15) rfl ?_); refine gm (some 10) Try.func15 #[] (turnstilelaw03_awake.calls k  true _ A3.out) ?_; intro w16 hb; have n0_ := bb BK131 hb; have n1_ := bs HB hb; clear BK131; clear HB; have BK131 := n0_; have HB := n1_; clear n0_ n1_; (try clear hb); (try clear hb2); (try clear hk); (try clear hi); obtain ⟨hcz17_0, hcz17_1, hfz17_0, hfz17_1⟩ := bc2 BK131) | ((with_reducible refine gate_callee (f := 16) rfl ?_); refine gm (some 15) Try.func16 #[.agg #[.int .u64 a0_0, .int .u64 a0_1], .int .u64 a1] (sat_Wide_DivMod.calls k a0_0 a0_1 a1 t133 t134 t135 _ A5.out) ?_; intro w18 hb; have n0_ := bb BK131 hb; have n1_ := bs HB hb; clear BK131; clear HB; have BK131 := n0_; have HB := n1_; clear n0_ n1_; (try clear hb); (try clear hb2); (try clear hk); (try clear hi)) | ((with_reducible refine gate_dst (N := 5) rfl ?_); refine bx 5 #[.int .u64 0, .int .u64 0] 24 ?_; intro gb136 hg w19 hbox hb; have n0_ := bb BK131 hb; have n1_ := bs HB hb; have n2_ := Aside0.mk (hbox); have n3_ := sz HB hg; have n4_ := sz HB hg; have n5_ := nl BK131 hg; have n6_ := nr BK131 hg; clear BK131; clear HB; have BK131 := n0_; have HB := n1_; have BK136 := n2_; have GW136 := n3_; have GE136 := n4_; have NB131_136 := n5_; have NB136_131 := n6_; clear n0_ n1_ n2_ n3_ n4_ n5_ n6_; clear hb hbox hg; have hnb20 := NB136_131.out; have hnc20 := NB131_136.out; obtain ⟨hcz21_0, hcz21_1, hfz21_0, hfz21_1⟩ := bc2 BK136))
        go_ret
        exact ⟨re, bw HB⟩
    · rw [if_neg c6] at H
      have c6b0 : (a1 == 0) = false := beq_eq_false_iff_ne.mpr c6
      have c6b1 : (a1 != 0) = true := bne_iff_ne.mpr c6
      replace H := Option.bind_eq_some_iff.mp H
      obtain ⟨⟨t137, t138⟩, A220, H⟩ := H
      replace H : ((sat_Wide_Narrow.f t137 t138).bind fun bt139 => ((sat_Product.f t134 a1).bind fun bt141 => ((sat_Wide_Plus.f bt141.1 bt141.2 bt139.1 0).bind fun bt143 => ((sat_Of.f t135).bind fun bt145 => ((sat_Wide_Plus.f bt143.1 bt143.2 bt145.1 bt145.2).bind fun bt147 => (if bt139.2 = true then (if t135 < a1 then (some (bt147.1 == a0_0 && (bt147.2 == a0_1))) else (some false)) else (some false))))))) = some r := H
      have A22 := Aside0.mk A220
      clear A220
      replace H := Option.bind_eq_some_iff.mp H
      obtain ⟨⟨t139, t140⟩, A230, H⟩ := H
      replace H : ((sat_Product.f t134 a1).bind fun bt141 => ((sat_Wide_Plus.f bt141.1 bt141.2 t139 0).bind fun bt143 => ((sat_Of.f t135).bind fun bt145 => ((sat_Wide_Plus.f bt143.1 bt143.2 bt145.1 bt145.2).bind fun bt147 => (if t140 = true then (if t135 < a1 then (some (bt147.1 == a0_0 && (bt147.2 == a0_1))) else (some false)) else (some false)))))) = some r := H
      have A23 := Aside0.mk A230
      clear A230
      replace H := Option.bind_eq_some_iff.mp H
      obtain ⟨⟨t141, t142⟩, A240, H⟩ := H
      replace H : ((sat_Wide_Plus.f t141 t142 t139 0).bind fun bt143 => ((sat_Of.f t135).bind fun bt145 => ((sat_Wide_Plus.f bt143.1 bt143.2 bt145.1 bt145.2).bind fun bt147 => (if t140 = true then (if t135 < a1 then (some (bt147.1 == a0_0 && (bt147.2 == a0_1))) else (some false)) else (some false))))) = some r := H
      have A24 := Aside0.mk A240
      clear A240
      replace H := Option.bind_eq_some_iff.mp H
      obtain ⟨⟨t143, t144⟩, A250, H⟩ := H
      replace H : ((sat_Of.f t135).bind fun bt145 => ((sat_Wide_Plus.f t143 t144 bt145.1 bt145.2).bind fun bt147 => (if t140 = true then (if t135 < a1 then (some (bt147.1 == a0_0 && (bt147.2 == a0_1))) else (some false)) else (some false)))) = some r := H
      have A25 := Aside0.mk A250
      clear A250
      replace H := Option.bind_eq_some_iff.mp H
      obtain ⟨⟨t145, t146⟩, A260, H⟩ := H
      replace H : ((sat_Wide_Plus.f t143 t144 t145 t146).bind fun bt147 => (if t140 = true then (if t135 < a1 then (some (bt147.1 == a0_0 && (bt147.2 == a0_1))) else (some false)) else (some false))) = some r := H
      have A26 := Aside0.mk A260
      clear A260
      replace H := Option.bind_eq_some_iff.mp H
      obtain ⟨⟨t147, t148⟩, A270, H⟩ := H
      replace H : (if t140 = true then (if t135 < a1 then (some (t147 == a0_0 && (t148 == a0_1))) else (some false)) else (some false)) = some r := H
      have A27 := Aside0.mk A270
      clear A270
      by_cases c28 : t140 = true
      · subst c28
        have H1 : (if t135 < a1 then (some (t147 == a0_0 && (t148 == a0_1))) else (some false)) = some r := by rw [if_pos rfl] at H; exact H
        clear H
        have H := H1
        clear H1
        by_cases c29 : t135 < a1
        · rw [if_pos c29] at H
          have c29b0 : decide (t135 < a1) = true := decide_eq_true c29
          clear c29
          obtain rfl := Option.some.inj H
          go_enter Try.func3, Try.ntmps3
          go_wp2_with (first | ((with_reducible refine gate_dst (N := 2) rfl ?_); refine bx 2 #[.int .u64 a0_0, .int .u64 a0_1] 24 ?_; intro gb131 hg w30 hbox hb; have n0_ := bs HB hb; have n1_ := Aside0.mk (hbox); have n2_ := sz HB hg; have n3_ := sz HB hg; clear HB; have HB := n0_; have BK131 := n1_; have GW131 := n2_; have GE131 := n3_; clear n0_ n1_ n2_ n3_; clear hb hbox hg) | ((with_reducible refine gate_callee (f := 15) rfl ?_); refine gm (some 10) Try.func15 #[] (turnstilelaw03_awake.calls k  true _ A3.out) ?_; intro w31 hb; have n0_ := bb BK131 hb; have n1_ := bs HB hb; clear BK131; clear HB; have BK131 := n0_; have HB := n1_; clear n0_ n1_; (try clear hb); (try clear hb2); (try clear hk); (try clear hi); obtain ⟨hcz32_0, hcz32_1, hfz32_0, hfz32_1⟩ := bc2 BK131) | ((with_reducible refine gate_callee (f := 16) rfl ?_); refine gm (some 15) Try.func16 #[.agg #[.int .u64 a0_0, .int .u64 a0_1], .int .u64 a1] (sat_Wide_DivMod.calls k a0_0 a0_1 a1 t133 t134 t135 _ A5.out) ?_; intro w33 hb; have n0_ := bb BK131 hb; have n1_ := bs HB hb; clear BK131; clear HB; have BK131 := n0_; have HB := n1_; clear n0_ n1_; (try clear hb); (try clear hb2); (try clear hk); (try clear hi)) | ((with_reducible refine gate_dst (N := 5) rfl ?_); refine bx 5 #[.int .u64 0, .int .u64 0] 24 ?_; intro gb136 hg w34 hbox hb; have n0_ := bb BK131 hb; have n1_ := bs HB hb; have n2_ := Aside0.mk (hbox); have n3_ := sz HB hg; have n4_ := sz HB hg; have n5_ := nl BK131 hg; have n6_ := nr BK131 hg; clear BK131; clear HB; have BK131 := n0_; have HB := n1_; have BK136 := n2_; have GW136 := n3_; have GE136 := n4_; have NB131_136 := n5_; have NB136_131 := n6_; clear n0_ n1_ n2_ n3_ n4_ n5_ n6_; clear hb hbox hg; have hnb35 := NB136_131.out; have hnc35 := NB131_136.out; obtain ⟨hcz36_0, hcz36_1, hfz36_0, hfz36_1⟩ := bc2 BK136) | ((with_reducible refine gate_callee (f := 17) rfl ?_); refine gm (some 31) Try.func17 #[.int .u64 t133, .int .u64 a1] (sat_Product.calls t133 a1 t137 t138 _ A22.out) ?_; intro w37 hb; have n0_ := bb BK131 hb; have n1_ := bbp (.cells #[.int .u64 t133, .int .u64 t134] 24 (0, 0)) BK136 hb; have n2_ := bs HB hb; clear BK131; clear BK136; clear HB; have BK131 := n0_; have BK136 := n1_; have HB := n2_; clear n0_ n1_ n2_; (try clear hb); (try clear hb2); (try clear hk); (try clear hi)) | ((with_reducible refine gate_callee (f := 18) rfl ?_); refine gm (some 32) Try.func18 #[.agg #[.int .u64 t137, .int .u64 t138]] (sat_Wide_Narrow.calls t137 t138 t139 true _ A23.out) ?_; intro w38 hb; have n0_ := bb BK131 hb; have n1_ := bb BK136 hb; have n2_ := bs HB hb; clear BK131; clear BK136; clear HB; have BK131 := n0_; have BK136 := n1_; have HB := n2_; clear n0_ n1_ n2_; (try clear hb); (try clear hb2); (try clear hk); (try clear hi); obtain ⟨hcz39_0, hcz39_1, hfz39_0, hfz39_1⟩ := bc2 BK136) | ((with_reducible refine gate_callee (f := 17) rfl ?_); refine gm (some 38) Try.func17 #[.int .u64 t134, .int .u64 a1] (sat_Product.calls t134 a1 t141 t142 _ A24.out) ?_; intro w40 hb; have n0_ := bb BK131 hb; have n1_ := bb BK136 hb; have n2_ := bs HB hb; clear BK131; clear BK136; clear HB; have BK131 := n0_; have BK136 := n1_; have HB := n2_; clear n0_ n1_ n2_; (try clear hb); (try clear hb2); (try clear hk); (try clear hi)) | ((with_reducible refine gate_callee (f := 19) rfl ?_); refine gm (some 41) Try.func19 #[.agg #[.int .u64 t141, .int .u64 t142], .agg #[.int .u64 t139, .int .u64 0]] (sat_Wide_Plus.calls t141 t142 t139 0 t143 t144 _ A25.out) ?_; intro w41 hb; have n0_ := bb BK131 hb; have n1_ := bb BK136 hb; have n2_ := bs HB hb; clear BK131; clear BK136; clear HB; have BK131 := n0_; have BK136 := n1_; have HB := n2_; clear n0_ n1_ n2_; (try clear hb); (try clear hb2); (try clear hk); (try clear hi)) | ((with_reducible refine gate_callee (f := 20) rfl ?_); refine gm (some 43) Try.func20 #[.int .u64 t135] (sat_Of.calls t135 t145 t146 _ A26.out) ?_; intro w42 hb; have n0_ := bb BK131 hb; have n1_ := bb BK136 hb; have n2_ := bs HB hb; clear BK131; clear BK136; clear HB; have BK131 := n0_; have BK136 := n1_; have HB := n2_; clear n0_ n1_ n2_; (try clear hb); (try clear hb2); (try clear hk); (try clear hi)) | ((with_reducible refine gate_callee (f := 19) rfl ?_); refine gm (some 44) Try.func19 #[.agg #[.int .u64 t143, .int .u64 t144], .agg #[.int .u64 t145, .int .u64 t146]] (sat_Wide_Plus.calls t143 t144 t145 t146 t147 t148 _ A27.out) ?_; intro w43 hb; have n0_ := bb BK131 hb; have n1_ := bb BK136 hb; have n2_ := bs HB hb; clear BK131; clear BK136; clear HB; have BK131 := n0_; have BK136 := n1_; have HB := n2_; clear n0_ n1_ n2_; (try clear hb); (try clear hb2); (try clear hk); (try clear hi)) | ((with_reducible refine gate_dst (N := 9) rfl ?_); refine bx 9 #[.int .u64 0, .int .u64 0] 24 ?_; intro gb149 hg w44 hbox hb; have n0_ := bb BK131 hb; have n1_ := bb BK136 hb; have n2_ := bs HB hb; have n3_ := Aside0.mk (hbox); have n4_ := sz HB hg; have n5_ := sz HB hg; have n6_ := nl BK131 hg; have n7_ := nr BK131 hg; have n8_ := nl BK136 hg; have n9_ := nr BK136 hg; clear BK131; clear BK136; clear HB; have BK131 := n0_; have BK136 := n1_; have HB := n2_; have BK149 := n3_; have GW149 := n4_; have GE149 := n5_; have NB131_149 := n6_; have NB149_131 := n7_; have NB136_149 := n8_; have NB149_136 := n9_; clear n0_ n1_ n2_ n3_ n4_ n5_ n6_ n7_ n8_ n9_; clear hb hbox hg; have hnb45 := NB149_131.out; have hnc45 := NB131_149.out; have hnb46 := NB149_136.out; have hnc46 := NB136_149.out; obtain ⟨hcz47_0, hcz47_1, hfz47_0, hfz47_1⟩ := bc2 BK149; obtain ⟨hcz48_0, hcz48_1, hfz48_0, hfz48_1⟩ := bc2 BK131))
          go_ret
          exact ⟨re, bw HB⟩
        · rw [if_neg c29] at H
          have c29b0 : decide (t135 < a1) = false := decide_eq_false c29
          clear c29
          obtain rfl := Option.some.inj H
          go_enter Try.func3, Try.ntmps3
          go_wp2_with (first | ((with_reducible refine gate_dst (N := 2) rfl ?_); refine bx 2 #[.int .u64 a0_0, .int .u64 a0_1] 24 ?_; intro gb131 hg w49 hbox hb; have n0_ := bs HB hb; have n1_ := Aside0.mk (hbox); have n2_ := sz HB hg; have n3_ := sz HB hg; clear HB; have HB := n0_; have BK131 := n1_; have GW131 := n2_; have GE131 := n3_; clear n0_ n1_ n2_ n3_; clear hb hbox hg) | ((with_reducible refine gate_callee (f := 15) rfl ?_); refine gm (some 10) Try.func15 #[] (turnstilelaw03_awake.calls k  true _ A3.out) ?_; intro w50 hb; have n0_ := bb BK131 hb; have n1_ := bs HB hb; clear BK131; clear HB; have BK131 := n0_; have HB := n1_; clear n0_ n1_; (try clear hb); (try clear hb2); (try clear hk); (try clear hi); obtain ⟨hcz51_0, hcz51_1, hfz51_0, hfz51_1⟩ := bc2 BK131) | ((with_reducible refine gate_callee (f := 16) rfl ?_); refine gm (some 15) Try.func16 #[.agg #[.int .u64 a0_0, .int .u64 a0_1], .int .u64 a1] (sat_Wide_DivMod.calls k a0_0 a0_1 a1 t133 t134 t135 _ A5.out) ?_; intro w52 hb; have n0_ := bb BK131 hb; have n1_ := bs HB hb; clear BK131; clear HB; have BK131 := n0_; have HB := n1_; clear n0_ n1_; (try clear hb); (try clear hb2); (try clear hk); (try clear hi)) | ((with_reducible refine gate_dst (N := 5) rfl ?_); refine bx 5 #[.int .u64 0, .int .u64 0] 24 ?_; intro gb136 hg w53 hbox hb; have n0_ := bb BK131 hb; have n1_ := bs HB hb; have n2_ := Aside0.mk (hbox); have n3_ := sz HB hg; have n4_ := sz HB hg; have n5_ := nl BK131 hg; have n6_ := nr BK131 hg; clear BK131; clear HB; have BK131 := n0_; have HB := n1_; have BK136 := n2_; have GW136 := n3_; have GE136 := n4_; have NB131_136 := n5_; have NB136_131 := n6_; clear n0_ n1_ n2_ n3_ n4_ n5_ n6_; clear hb hbox hg; have hnb54 := NB136_131.out; have hnc54 := NB131_136.out; obtain ⟨hcz55_0, hcz55_1, hfz55_0, hfz55_1⟩ := bc2 BK136) | ((with_reducible refine gate_callee (f := 17) rfl ?_); refine gm (some 31) Try.func17 #[.int .u64 t133, .int .u64 a1] (sat_Product.calls t133 a1 t137 t138 _ A22.out) ?_; intro w56 hb; have n0_ := bb BK131 hb; have n1_ := bbp (.cells #[.int .u64 t133, .int .u64 t134] 24 (0, 0)) BK136 hb; have n2_ := bs HB hb; clear BK131; clear BK136; clear HB; have BK131 := n0_; have BK136 := n1_; have HB := n2_; clear n0_ n1_ n2_; (try clear hb); (try clear hb2); (try clear hk); (try clear hi)) | ((with_reducible refine gate_callee (f := 18) rfl ?_); refine gm (some 32) Try.func18 #[.agg #[.int .u64 t137, .int .u64 t138]] (sat_Wide_Narrow.calls t137 t138 t139 true _ A23.out) ?_; intro w57 hb; have n0_ := bb BK131 hb; have n1_ := bb BK136 hb; have n2_ := bs HB hb; clear BK131; clear BK136; clear HB; have BK131 := n0_; have BK136 := n1_; have HB := n2_; clear n0_ n1_ n2_; (try clear hb); (try clear hb2); (try clear hk); (try clear hi); obtain ⟨hcz58_0, hcz58_1, hfz58_0, hfz58_1⟩ := bc2 BK136) | ((with_reducible refine gate_callee (f := 17) rfl ?_); refine gm (some 38) Try.func17 #[.int .u64 t134, .int .u64 a1] (sat_Product.calls t134 a1 t141 t142 _ A24.out) ?_; intro w59 hb; have n0_ := bb BK131 hb; have n1_ := bb BK136 hb; have n2_ := bs HB hb; clear BK131; clear BK136; clear HB; have BK131 := n0_; have BK136 := n1_; have HB := n2_; clear n0_ n1_ n2_; (try clear hb); (try clear hb2); (try clear hk); (try clear hi)) | ((with_reducible refine gate_callee (f := 19) rfl ?_); refine gm (some 41) Try.func19 #[.agg #[.int .u64 t141, .int .u64 t142], .agg #[.int .u64 t139, .int .u64 0]] (sat_Wide_Plus.calls t141 t142 t139 0 t143 t144 _ A25.out) ?_; intro w60 hb; have n0_ := bb BK131 hb; have n1_ := bb BK136 hb; have n2_ := bs HB hb; clear BK131; clear BK136; clear HB; have BK131 := n0_; have BK136 := n1_; have HB := n2_; clear n0_ n1_ n2_; (try clear hb); (try clear hb2); (try clear hk); (try clear hi)) | ((with_reducible refine gate_callee (f := 20) rfl ?_); refine gm (some 43) Try.func20 #[.int .u64 t135] (sat_Of.calls t135 t145 t146 _ A26.out) ?_; intro w61 hb; have n0_ := bb BK131 hb; have n1_ := bb BK136 hb; have n2_ := bs HB hb; clear BK131; clear BK136; clear HB; have BK131 := n0_; have BK136 := n1_; have HB := n2_; clear n0_ n1_ n2_; (try clear hb); (try clear hb2); (try clear hk); (try clear hi)) | ((with_reducible refine gate_callee (f := 19) rfl ?_); refine gm (some 44) Try.func19 #[.agg #[.int .u64 t143, .int .u64 t144], .agg #[.int .u64 t145, .int .u64 t146]] (sat_Wide_Plus.calls t143 t144 t145 t146 t147 t148 _ A27.out) ?_; intro w62 hb; have n0_ := bb BK131 hb; have n1_ := bb BK136 hb; have n2_ := bs HB hb; clear BK131; clear BK136; clear HB; have BK131 := n0_; have BK136 := n1_; have HB := n2_; clear n0_ n1_ n2_; (try clear hb); (try clear hb2); (try clear hk); (try clear hi)) | ((with_reducible refine gate_dst (N := 9) rfl ?_); refine bx 9 #[.int .u64 0, .int .u64 0] 24 ?_; intro gb149 hg w63 hbox hb; have n0_ := bb BK131 hb; have n1_ := bb BK136 hb; have n2_ := bs HB hb; have n3_ := Aside0.mk (hbox); have n4_ := sz HB hg; have n5_ := sz HB hg; have n6_ := nl BK131 hg; have n7_ := nr BK131 hg; have n8_ := nl BK136 hg; have n9_ := nr BK136 hg; clear BK131; clear BK136; clear HB; have BK131 := n0_; have BK136 := n1_; have HB := n2_; have BK149 := n3_; have GW149 := n4_; have GE149 := n5_; have NB131_149 := n6_; have NB149_131 := n7_; have NB136_149 := n8_; have NB149_136 := n9_; clear n0_ n1_ n2_ n3_ n4_ n5_ n6_ n7_ n8_ n9_; clear hb hbox hg; have hnb64 := NB149_131.out; have hnc64 := NB131_149.out; have hnb65 := NB149_136.out; have hnc65 := NB136_149.out; obtain ⟨hcz66_0, hcz66_1, hfz66_0, hfz66_1⟩ := bc2 BK149))
          go_ret
          exact ⟨re, bw HB⟩
      · replace c28 := Bool.eq_false_iff.mpr c28
        subst c28
        have H1 : (some false) = some r := by rw [if_neg (show ¬ (false = true) by decide)] at H; exact H
        clear H
        have H := H1
        clear H1
        obtain rfl := Option.some.inj H
        go_enter Try.func3, Try.ntmps3
        go_wp2_with (first | ((with_reducible refine gate_dst (N := 2) rfl ?_); refine bx 2 #[.int .u64 a0_0, .int .u64 a0_1] 24 ?_; intro gb131 hg w67 hbox hb; have n0_ := bs HB hb; have n1_ := Aside0.mk (hbox); have n2_ := sz HB hg; have n3_ := sz HB hg; clear HB; have HB := n0_; have BK131 := n1_; have GW131 := n2_; have GE131 := n3_; clear n0_ n1_ n2_ n3_; clear hb hbox hg) | ((with_reducible refine gate_callee (f := 15) rfl ?_); refine gm (some 10) Try.func15 #[] (turnstilelaw03_awake.calls k  true _ A3.out) ?_; intro w68 hb; have n0_ := bb BK131 hb; have n1_ := bs HB hb; clear BK131; clear HB; have BK131 := n0_; have HB := n1_; clear n0_ n1_; (try clear hb); (try clear hb2); (try clear hk); (try clear hi); obtain ⟨hcz69_0, hcz69_1, hfz69_0, hfz69_1⟩ := bc2 BK131) | ((with_reducible refine gate_callee (f := 16) rfl ?_); refine gm (some 15) Try.func16 #[.agg #[.int .u64 a0_0, .int .u64 a0_1], .int .u64 a1] (sat_Wide_DivMod.calls k a0_0 a0_1 a1 t133 t134 t135 _ A5.out) ?_; intro w70 hb; have n0_ := bb BK131 hb; have n1_ := bs HB hb; clear BK131; clear HB; have BK131 := n0_; have HB := n1_; clear n0_ n1_; (try clear hb); (try clear hb2); (try clear hk); (try clear hi)) | ((with_reducible refine gate_dst (N := 5) rfl ?_); refine bx 5 #[.int .u64 0, .int .u64 0] 24 ?_; intro gb136 hg w71 hbox hb; have n0_ := bb BK131 hb; have n1_ := bs HB hb; have n2_ := Aside0.mk (hbox); have n3_ := sz HB hg; have n4_ := sz HB hg; have n5_ := nl BK131 hg; have n6_ := nr BK131 hg; clear BK131; clear HB; have BK131 := n0_; have HB := n1_; have BK136 := n2_; have GW136 := n3_; have GE136 := n4_; have NB131_136 := n5_; have NB136_131 := n6_; clear n0_ n1_ n2_ n3_ n4_ n5_ n6_; clear hb hbox hg; have hnb72 := NB136_131.out; have hnc72 := NB131_136.out; obtain ⟨hcz73_0, hcz73_1, hfz73_0, hfz73_1⟩ := bc2 BK136) | ((with_reducible refine gate_callee (f := 17) rfl ?_); refine gm (some 31) Try.func17 #[.int .u64 t133, .int .u64 a1] (sat_Product.calls t133 a1 t137 t138 _ A22.out) ?_; intro w74 hb; have n0_ := bb BK131 hb; have n1_ := bbp (.cells #[.int .u64 t133, .int .u64 t134] 24 (0, 0)) BK136 hb; have n2_ := bs HB hb; clear BK131; clear BK136; clear HB; have BK131 := n0_; have BK136 := n1_; have HB := n2_; clear n0_ n1_ n2_; (try clear hb); (try clear hb2); (try clear hk); (try clear hi)) | ((with_reducible refine gate_callee (f := 18) rfl ?_); refine gm (some 32) Try.func18 #[.agg #[.int .u64 t137, .int .u64 t138]] (sat_Wide_Narrow.calls t137 t138 t139 false _ A23.out) ?_; intro w75 hb; have n0_ := bb BK131 hb; have n1_ := bb BK136 hb; have n2_ := bs HB hb; clear BK131; clear BK136; clear HB; have BK131 := n0_; have BK136 := n1_; have HB := n2_; clear n0_ n1_ n2_; (try clear hb); (try clear hb2); (try clear hk); (try clear hi); obtain ⟨hcz76_0, hcz76_1, hfz76_0, hfz76_1⟩ := bc2 BK136) | ((with_reducible refine gate_callee (f := 17) rfl ?_); refine gm (some 38) Try.func17 #[.int .u64 t134, .int .u64 a1] (sat_Product.calls t134 a1 t141 t142 _ A24.out) ?_; intro w77 hb; have n0_ := bb BK131 hb; have n1_ := bb BK136 hb; have n2_ := bs HB hb; clear BK131; clear BK136; clear HB; have BK131 := n0_; have BK136 := n1_; have HB := n2_; clear n0_ n1_ n2_; (try clear hb); (try clear hb2); (try clear hk); (try clear hi)) | ((with_reducible refine gate_callee (f := 19) rfl ?_); refine gm (some 41) Try.func19 #[.agg #[.int .u64 t141, .int .u64 t142], .agg #[.int .u64 t139, .int .u64 0]] (sat_Wide_Plus.calls t141 t142 t139 0 t143 t144 _ A25.out) ?_; intro w78 hb; have n0_ := bb BK131 hb; have n1_ := bb BK136 hb; have n2_ := bs HB hb; clear BK131; clear BK136; clear HB; have BK131 := n0_; have BK136 := n1_; have HB := n2_; clear n0_ n1_ n2_; (try clear hb); (try clear hb2); (try clear hk); (try clear hi)) | ((with_reducible refine gate_callee (f := 20) rfl ?_); refine gm (some 43) Try.func20 #[.int .u64 t135] (sat_Of.calls t135 t145 t146 _ A26.out) ?_; intro w79 hb; have n0_ := bb BK131 hb; have n1_ := bb BK136 hb; have n2_ := bs HB hb; clear BK131; clear BK136; clear HB; have BK131 := n0_; have BK136 := n1_; have HB := n2_; clear n0_ n1_ n2_; (try clear hb); (try clear hb2); (try clear hk); (try clear hi)) | ((with_reducible refine gate_callee (f := 19) rfl ?_); refine gm (some 44) Try.func19 #[.agg #[.int .u64 t143, .int .u64 t144], .agg #[.int .u64 t145, .int .u64 t146]] (sat_Wide_Plus.calls t143 t144 t145 t146 t147 t148 _ A27.out) ?_; intro w80 hb; have n0_ := bb BK131 hb; have n1_ := bb BK136 hb; have n2_ := bs HB hb; clear BK131; clear BK136; clear HB; have BK131 := n0_; have BK136 := n1_; have HB := n2_; clear n0_ n1_ n2_; (try clear hb); (try clear hb2); (try clear hk); (try clear hi)) | ((with_reducible refine gate_dst (N := 9) rfl ?_); refine bx 9 #[.int .u64 0, .int .u64 0] 24 ?_; intro gb149 hg w81 hbox hb; have n0_ := bb BK131 hb; have n1_ := bb BK136 hb; have n2_ := bs HB hb; have n3_ := Aside0.mk (hbox); have n4_ := sz HB hg; have n5_ := sz HB hg; have n6_ := nl BK131 hg; have n7_ := nr BK131 hg; have n8_ := nl BK136 hg; have n9_ := nr BK136 hg; clear BK131; clear BK136; clear HB; have BK131 := n0_; have BK136 := n1_; have HB := n2_; have BK149 := n3_; have GW149 := n4_; have GE149 := n5_; have NB131_149 := n6_; have NB149_131 := n7_; have NB136_149 := n8_; have NB149_136 := n9_; clear n0_ n1_ n2_ n3_ n4_ n5_ n6_ n7_ n8_ n9_; clear hb hbox hg; have hnb82 := NB149_131.out; have hnc82 := NB131_149.out; have hnb83 := NB149_136.out; have hnc83 := NB136_149.out; obtain ⟨hcz84_0, hcz84_1, hfz84_0, hfz84_1⟩ := bc2 BK149))
        go_ret
        exact ⟨re, bw HB⟩
  · replace c4 := Bool.eq_false_iff.mpr c4
    subst c4
    have H1 : (some false) = some r := by rw [if_neg (show ¬ (false = true) by decide)] at H; exact H
    clear H
    have H := H1
    clear H1
    obtain rfl := Option.some.inj H
    go_enter Try.func3, Try.ntmps3
    go_wp2_with (first | ((with_reducible refine gate_dst (N := 2) rfl ?_); refine bx 2 #[.int .u64 a0_0, .int .u64 a0_1] 24 ?_; intro gb131 hg w85 hbox hb; have n0_ := bs HB hb; have n1_ := Aside0.mk (hbox); have n2_ := sz HB hg; have n3_ := sz HB hg; clear HB; have HB := n0_; have BK131 := n1_; have GW131 := n2_; have GE131 := n3_; clear n0_ n1_ n2_ n3_; clear hb hbox hg) | ((with_reducible refine gate_callee (f := 15) rfl ?_); refine gm (some 10) Try.func15 #[] (turnstilelaw03_awake.calls k  false _ A3.out) ?_; intro w86 hb; have n0_ := bb BK131 hb; have n1_ := bs HB hb; clear BK131; clear HB; have BK131 := n0_; have HB := n1_; clear n0_ n1_; (try clear hb); (try clear hb2); (try clear hk); (try clear hi)))
    go_ret
    exact ⟨re, bw HB⟩


end Go.Proofs.Ythnpgilknoiaaaa.Q
