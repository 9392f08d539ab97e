/- Written by the session's own program hyb.py: what functions of the program compute; Lean checks it. -/
import Derived.Test.YthnpgilknoiaaaaQx0
import Derived.Test.YthnpgilknoiaaaaQx1
import Derived.Test.YthnpgilknoiaaaaQx4
import Derived.Test.YthnpgilknoiaaaaQx5
import Derived.Test.YthnpgilknoiaaaaQx6
namespace Go.Proofs.Ythnpgilknoiaaaa.Q
open Go.RowKit Go.Proofs.YthnpgilknoiaaaaW.PrintWords Go.Proofs.YthnpgilknoiaaaaW.PrintLast Go.Proofs.YthnpgilknoiaaaaW.PrintMore Go.Proofs.YthnpgilknoiaaaaW.PrintShort
attribute [local go_sem] run_Add64 run_Sub64
attribute [local go_sem] max2_int min2_int max_two min_two max_three min_three max_four min_four   -- for this text's walks alone
set_option linter.unusedVariables false
set_option linter.unusedSimpArgs false

attribute [local go_sem high] eqA24
/-! ### turnstilelaw03_SatOrder: function 5 -/
mutual
def turnstilelaw03_SatOrder.j0 : Nat → Int → Bool → Int → Int → Int → Int → Option (Bool)
  | 0, _, _, _, _, _, _ => none
  | k + 1, x5, x6, x178000, x178001, x179000, x179001 => if ((decide (x5 < 0)) != x6) = true then (turnstilelaw03_SatOrder.j1 k x5 true x178000 x178001 x179000 x179001) else (if ((x5 == 0) != (x178000 == x179000 && (x178001 == x179001))) = true then (turnstilelaw03_SatOrder.j1 k x5 true x178000 x178001 x179000 x179001) else (if x5 < (-1) then (turnstilelaw03_SatOrder.j1 k x5 true x178000 x178001 x179000 x179001) else (if x5 > 1 then (turnstilelaw03_SatOrder.j1 k x5 true x178000 x178001 x179000 x179001) else ((sat_Wide_Cmp.f x179000 x179001 x178000 x178001).bind fun t181 => (turnstilelaw03_SatOrder.j1 k x5 (t181 != (wrap64 (-x5))) x178000 x178001 x179000 x179001)))))
def turnstilelaw03_SatOrder.j1 : Nat → Int → Bool → Int → Int → Int → Int → Option (Bool)
  | 0, _, _, _, _, _, _ => none
  | k + 1, x5, x62, x178000, x178001, x179000, x179001 => if x62 = true then (some false) else ((sat_Wide_Minus.f x178000 x178001 x179000 x179001).bind fun bt182 => (if ((bt182.1 == 0 && (bt182.2 == 0)) != (decide (x5 ≤ 0))) = true then (turnstilelaw03_SatOrder.j2 k true x178000 x178001 x179000 x179001) else (if x5 > 0 then ((sat_Wide_Plus.f bt182.1 bt182.2 x179000 x179001).bind fun bt185 => (turnstilelaw03_SatOrder.j2 k (!(bt185.1 == x178000) || (!(bt185.2 == x178001))) x178000 x178001 x179000 x179001)) else (turnstilelaw03_SatOrder.j2 k false x178000 x178001 x179000 x179001))))
def turnstilelaw03_SatOrder.j2 : Nat → Bool → Int → Int → Int → Int → Option (Bool)
  | 0, _, _, _, _, _ => none
  | k + 1, x82, x178000, x178001, x179000, x179001 => if x82 = true then (some false) else ((sat_Wide_Minus.f 18446744073709551615 18446744073709551615 x179000 x179001).bind fun bt188 => ((sat_Wide_Plus.f x178000 x178001 x179000 x179001).bind fun bt191 => ((sat_Wide_Cmp.f x178000 x178001 bt188.1 bt188.2).bind fun t194 => (if ((bt191.1 == 18446744073709551615 && (bt191.2 == 18446744073709551615)) == (decide (t194 ≥ 0))) = true then (if (bt191.1 == 18446744073709551615 && (bt191.2 == 18446744073709551615)) = true then (some true) else ((sat_Wide_Minus.f bt191.1 bt191.2 x178000 x178001).bind fun bt195 => (some (bt195.1 == x179000 && (bt195.2 == x179001))))) else (some false)))))
end
def turnstilelaw03_SatOrder.f (k : Nat) (a0_0 : Int) (a0_1 : Int) (a1_0 : Int) (a1_1 : Int) : Option (Bool) := (turnstilelaw03_awake.f k).bind fun t179 => (if t179 = true then ((sat_Wide_Cmp.f a0_0 a0_1 a1_0 a1_1).bind fun t180 => (if a0_0 < a1_0 then (turnstilelaw03_SatOrder.j0 k t180 true a0_0 a0_1 a1_0 a1_1) else (if a0_0 = a1_0 then (turnstilelaw03_SatOrder.j0 k t180 (decide (a0_1 < a1_1)) a0_0 a0_1 a1_0 a1_1) else (turnstilelaw03_SatOrder.j0 k t180 false a0_0 a0_1 a1_0 a1_1)))) else (some false))
theorem turnstilelaw03_SatOrder.mono_l : ∀ k, (∀ y0 y1 y2 y3 y4 y5, LeO (turnstilelaw03_SatOrder.j0 k y0 y1 y2 y3 y4 y5) (turnstilelaw03_SatOrder.j0 (k + 1) y0 y1 y2 y3 y4 y5)) ∧ (∀ y0 y1 y2 y3 y4 y5, LeO (turnstilelaw03_SatOrder.j1 k y0 y1 y2 y3 y4 y5) (turnstilelaw03_SatOrder.j1 (k + 1) y0 y1 y2 y3 y4 y5)) ∧ (∀ y0 y1 y2 y3 y4, LeO (turnstilelaw03_SatOrder.j2 k y0 y1 y2 y3 y4) (turnstilelaw03_SatOrder.j2 (k + 1) y0 y1 y2 y3 y4))
  | 0 => ⟨fun _ _ _ _ _ _ r h => by simp [turnstilelaw03_SatOrder.j0] at h, fun _ _ _ _ _ _ r h => by simp [turnstilelaw03_SatOrder.j1] at h, fun _ _ _ _ _ r h => by simp [turnstilelaw03_SatOrder.j2] at h⟩
  | k + 1 => by
    obtain ⟨ih0, ih1, ih2⟩ := turnstilelaw03_SatOrder.mono_l k
    refine ⟨?_, ?_, ?_⟩
    · intro y0 y1 y2 y3 y4 y5
      unfold turnstilelaw03_SatOrder.j0
      repeat' first
      | (with_reducible exact ih0 _ _ _ _ _ _)
      | (with_reducible exact ih1 _ _ _ _ _ _)
      | (with_reducible exact ih2 _ _ _ _ _)
      | (with_reducible exact turnstilelaw03_awake.mono _)
      | (with_reducible exact LeO.refl _)
      | (with_reducible exact LeO.none _)
      | (with_reducible refine LeO.ite ?_ ?_)
      | (with_reducible refine LeO.bind ?_ (fun _ => ?_))
      | exact ih0 _ _ _ _ _ _
      | exact ih1 _ _ _ _ _ _
      | exact ih2 _ _ _ _ _
      | exact turnstilelaw03_awake.mono _
      | exact LeO.none _
      | refine LeO.ite ?_ ?_
      | refine LeO.bind ?_ (fun _ => ?_)
    · intro y0 y1 y2 y3 y4 y5
      unfold turnstilelaw03_SatOrder.j1
      repeat' first
      | (with_reducible exact ih0 _ _ _ _ _ _)
      | (with_reducible exact ih1 _ _ _ _ _ _)
      | (with_reducible exact ih2 _ _ _ _ _)
      | (with_reducible exact turnstilelaw03_awake.mono _)
      | (with_reducible exact LeO.refl _)
      | (with_reducible exact LeO.none _)
      | (with_reducible refine LeO.ite ?_ ?_)
      | (with_reducible refine LeO.bind ?_ (fun _ => ?_))
      | exact ih0 _ _ _ _ _ _
      | exact ih1 _ _ _ _ _ _
      | exact ih2 _ _ _ _ _
      | exact turnstilelaw03_awake.mono _
      | exact LeO.none _
      | refine LeO.ite ?_ ?_
      | refine LeO.bind ?_ (fun _ => ?_)
    · intro y0 y1 y2 y3 y4
      unfold turnstilelaw03_SatOrder.j2
      repeat' first
      | (with_reducible exact ih0 _ _ _ _ _ _)
      | (with_reducible exact ih1 _ _ _ _ _ _)
      | (with_reducible exact ih2 _ _ _ _ _)
      | (with_reducible exact turnstilelaw03_awake.mono _)
      | (with_reducible exact LeO.refl _)
      | (with_reducible exact LeO.none _)
      | (with_reducible refine LeO.ite ?_ ?_)
      | (with_reducible refine LeO.bind ?_ (fun _ => ?_))
      | exact ih0 _ _ _ _ _ _
      | exact ih1 _ _ _ _ _ _
      | exact ih2 _ _ _ _ _
      | exact turnstilelaw03_awake.mono _
      | exact LeO.none _
      | refine LeO.ite ?_ ?_
      | refine LeO.bind ?_ (fun _ => ?_)
theorem turnstilelaw03_SatOrder.mono : ∀ a0 a1 a2 a3 k, LeO (turnstilelaw03_SatOrder.f k a0 a1 a2 a3) (turnstilelaw03_SatOrder.f (k + 1) a0 a1 a2 a3) := by
  intro a0 a1 a2 a3 k
  obtain ⟨ih0, ih1, ih2⟩ := turnstilelaw03_SatOrder.mono_l k
  unfold turnstilelaw03_SatOrder.f
  repeat' first
      | (with_reducible exact ih0 _ _ _ _ _ _)
      | (with_reducible exact ih1 _ _ _ _ _ _)
      | (with_reducible exact ih2 _ _ _ _ _)
      | (with_reducible exact turnstilelaw03_awake.mono _)
      | (with_reducible exact LeO.refl _)
      | (with_reducible exact LeO.none _)
      | (with_reducible refine LeO.ite ?_ ?_)
      | (with_reducible refine LeO.bind ?_ (fun _ => ?_))
      | exact ih0 _ _ _ _ _ _
      | exact ih1 _ _ _ _ _ _
      | exact ih2 _ _ _ _ _
      | exact turnstilelaw03_awake.mono _
      | exact LeO.none _
      | refine LeO.ite ?_ ?_
      | refine LeO.bind ?_ (fun _ => ?_)
def turnstilelaw03_SatOrder.T8 : Bool × List (List Nat × List Nat) := (true, [([], []), ([], []), ([0, 1], [0, 1]), ([], []), ([3], [3]), ([2, 4], [2, 4]), ([5], [5]), ([6], [6]), ([7, 6], [6, 7]), ([8, 6, 6], [6, 8]), ([9], [9]), ([9], [9]), ([10, 11, 9, 9], [9, 10, 11]), ([9], [9]), ([12, 13, 9], [9, 12, 13]), ([9, 14, 6], [6, 9, 14]), ([6, 15], [6, 15])])
def turnstilelaw03_SatOrder.B8 : List Nat := [0, 0, 3, 0, 8, 31, 63, 127, 255, 511, 1023, 1023, 4095, 1023, 16383, 32767, 65535]
theorem turnstilelaw03_SatOrder.tab8 : rtab .any (opsOf Try.f5 8) = turnstilelaw03_SatOrder.T8 := by kernel_rfl
theorem turnstilelaw03_SatOrder.bits8 : waitsOk turnstilelaw03_SatOrder.T8.2 turnstilelaw03_SatOrder.B8 = true := by kernel_rfl
def turnstilelaw03_SatOrder.T13 : Bool × List (List Nat × List Nat) := (true, [([], []), ([], []), ([0, 1], [0, 1]), ([], []), ([], []), ([3, 4], [3, 4]), ([5], [5]), ([2, 6], [2, 6]), ([7, 5], [7]), ([8], [8]), ([8], [8]), ([9, 10, 8], [8, 9, 10]), ([11, 8, 8], [8, 11]), ([12], [12]), ([12], [12]), ([13, 14, 12, 12], [12, 13, 14]), ([12], [12]), ([15, 16, 12], [12, 15, 16]), ([12, 17, 8], [8, 12, 17]), ([8, 18], [8, 18]), ([19, 15, 0, 1, 2, 3, 4, 5, 6, 7, 8, 9, 10, 11, 12, 13, 14, 15, 16, 17, 18, 19], [19])])
def turnstilelaw03_SatOrder.B13 : List Nat := [0, 0, 3, 0, 0, 24, 56, 127, 255, 511, 511, 2047, 4095, 8191, 8191, 32767, 8191, 131071, 262143, 524287, 1048575]
theorem turnstilelaw03_SatOrder.tab13 : rtab .any (opsOf Try.f5 13) = turnstilelaw03_SatOrder.T13 := by kernel_rfl
theorem turnstilelaw03_SatOrder.bits13 : waitsOk turnstilelaw03_SatOrder.T13.2 turnstilelaw03_SatOrder.B13 = true := by kernel_rfl
set_option maxHeartbeats 8000000 in
set_option maxRecDepth 100000 in
theorem turnstilelaw03_SatOrder.calls (k : Nat) (a0_0 : Int) (a0_1 : Int) (a1_0 : Int) (a1_1 : Int) (r : Bool) (w : World) (h : turnstilelaw03_SatOrder.f k a0_0 a0_1 a1_0 a1_1 = some r) :
    Calls Try.prog 5 #[.agg #[.int .u64 a0_0, .int .u64 a0_1], .agg #[.int .u64 a1_0, .int .u64 a1_1]] w fun e w' => e = .returned (.bool r) ∧ Below w.heap.size w w' := by
  have hu24 := Try.underlying24
  have HB := Aside0.mk (Below.refl w.heap.size w)
  have H : ((turnstilelaw03_awake.f k).bind fun t179 => (if t179 = true then ((sat_Wide_Cmp.f a0_0 a0_1 a1_0 a1_1).bind fun t180 => (if a0_0 < a1_0 then (turnstilelaw03_SatOrder.j0 k t180 true a0_0 a0_1 a1_0 a1_1) else (if a0_0 = a1_0 then (turnstilelaw03_SatOrder.j0 k t180 (decide (a0_1 < a1_1)) a0_0 a0_1 a1_0 a1_1) else (turnstilelaw03_SatOrder.j0 k t180 false a0_0 a0_1 a1_0 a1_1)))) else (some false))) = some r := h
  clear h
  replace H := Option.bind_eq_some_iff.mp H
  obtain ⟨t179, A30, H⟩ := H
  replace H : (if t179 = true then ((sat_Wide_Cmp.f a0_0 a0_1 a1_0 a1_1).bind fun t180 => (if a0_0 < a1_0 then (turnstilelaw03_SatOrder.j0 k t180 true a0_0 a0_1 a1_0 a1_1) else (if a0_0 = a1_0 then (turnstilelaw03_SatOrder.j0 k t180 (decide (a0_1 < a1_1)) a0_0 a0_1 a1_0 a1_1) else (turnstilelaw03_SatOrder.j0 k t180 false a0_0 a0_1 a1_0 a1_1)))) else (some false)) = some r := H
  have A3 := Aside0.mk A30
  clear A30
  by_cases c4 : t179 = true
  · subst c4
    have H1 : ((sat_Wide_Cmp.f a0_0 a0_1 a1_0 a1_1).bind fun t180 => (if a0_0 < a1_0 then (turnstilelaw03_SatOrder.j0 k t180 true a0_0 a0_1 a1_0 a1_1) else (if a0_0 = a1_0 then (turnstilelaw03_SatOrder.j0 k t180 (decide (a0_1 < a1_1)) a0_0 a0_1 a1_0 a1_1) else (turnstilelaw03_SatOrder.j0 k t180 false a0_0 a0_1 a1_0 a1_1)))) = some r := by rw [if_pos rfl] at H; exact H
    clear H
    have H := H1
    clear H1
    replace H := Option.bind_eq_some_iff.mp H
    obtain ⟨t180, A50, H⟩ := H
    replace H : (if a0_0 < a1_0 then (turnstilelaw03_SatOrder.j0 k t180 true a0_0 a0_1 a1_0 a1_1) else (if a0_0 = a1_0 then (turnstilelaw03_SatOrder.j0 k t180 (decide (a0_1 < a1_1)) a0_0 a0_1 a1_0 a1_1) else (turnstilelaw03_SatOrder.j0 k t180 false a0_0 a0_1 a1_0 a1_1))) = some r := H
    have A5 := Aside0.mk A50
    clear A50
    have HC6 := Aside0.mk H
    clear H
    go_enter Try.func5, Try.ntmps5
    go_upto_region 4 with (first | ((with_reducible refine gate_dst (N := 2) rfl ?_); refine bx 2 #[.int .u64 a0_0, .int .u64 a0_1] 24 ?_; intro gb177 hg w7 hbox hb; have n0_ := bs HB hb; have n1_ := Aside0.mk (hbox); have n2_ := sz HB hg; have n3_ := sz HB hg; clear HB; have HB := n0_; have BK177 := n1_; have GW177 := n2_; have GE177 := n3_; clear n0_ n1_ n2_ n3_; clear hb hbox hg) | ((with_reducible refine gate_dst (N := 3) rfl ?_); refine bx 3 #[.int .u64 a1_0, .int .u64 a1_1] 24 ?_; intro gb178 hg w8 hbox hb; have n0_ := bb BK177 hb; have n1_ := bs HB hb; have n2_ := Aside0.mk (hbox); have n3_ := sz HB hg; have n4_ := sz HB hg; have n5_ := nl BK177 hg; have n6_ := nr BK177 hg; clear BK177; clear HB; have BK177 := n0_; have HB := n1_; have BK178 := n2_; have GW178 := n3_; have GE178 := n4_; have NB177_178 := n5_; have NB178_177 := n6_; clear n0_ n1_ n2_ n3_ n4_ n5_ n6_; clear hb hbox hg) | ((with_reducible refine gate_callee (f := 15) rfl ?_); refine gm (some 11) Try.func15 #[] (turnstilelaw03_awake.calls k  true _ A3.out) ?_; intro w9 hb; have n0_ := bb BK177 hb; have n1_ := bb BK178 hb; have n2_ := bs HB hb; clear BK177; clear BK178; clear HB; have BK177 := n0_; have BK178 := n1_; have HB := n2_; clear n0_ n1_ n2_; (try clear hb); (try clear hb2); (try clear hk); (try clear hi); have hnb10 := NB177_178.out; have hnc10 := NB178_177.out; obtain ⟨hcz11_0, hcz11_1, hfz11_0, hfz11_1⟩ := bc2 BK177; obtain ⟨hcz12_0, hcz12_1, hfz12_0, hfz12_1⟩ := bc2 BK178) | ((with_reducible refine gate_callee (f := 21) rfl ?_); refine gm (some 15) Try.func21 #[.agg #[.int .u64 a0_0, .int .u64 a0_1], .agg #[.int .u64 a1_0, .int .u64 a1_1]] (sat_Wide_Cmp.calls a0_0 a0_1 a1_0 a1_1 t180 _ A5.out) ?_; intro w13 hb; have n0_ := bb BK177 hb; have n1_ := bb BK178 hb; have n2_ := bs HB hb; clear BK177; clear BK178; clear HB; have BK177 := n0_; have BK178 := n1_; have HB := n2_; clear n0_ n1_ n2_; (try clear hb); (try clear hb2); (try clear hk); (try clear hi)))
    (try simp only [Act.put, List.setIfInBounds_toArray, List.set_cons_zero, List.set_cons_succ])
    go_cut [6] (fun v6 wc => ∃ (kq : Nat) (x6_5 : Bool), v6 = .bool x6_5 ∧ Aside0 (turnstilelaw03_SatOrder.j0 kq t180 x6_5 a0_0 a0_1 a1_0 a1_1 = some r) ∧ Aside0 (kq ≤ k) ∧ Aside0 (wc.heap[gb177]? = some (.cells #[.int .u64 a0_0, .int .u64 a0_1] 24 (0, 0))) ∧ Aside0 (wc.heap[gb178]? = some (.cells #[.int .u64 a1_0, .int .u64 a1_1] 24 (0, 0))) ∧ Aside0 (Below w.heap.size w wc))
    case first =>
      have H := HC6.out
      clear HC6
      by_cases c14 : a0_0 < a1_0
      · rw [if_pos c14] at H
        have c14b0 : decide (a0_0 < a1_0) = true := decide_eq_true c14
        clear c14
        (first | rw [c14b0] | (simp only [i64_w, i32_w]; rw [c14b0]) | skip)
        have H' := Aside0.mk H
        clear H
        have hnb15 := NB177_178.out
        have hnc15 := NB178_177.out
        obtain ⟨hcz16_0, hcz16_1, hfz16_0, hfz16_1⟩ := bc2 BK177
        obtain ⟨hcz17_0, hcz17_1, hfz17_0, hfz17_1⟩ := bc2 BK178
        go_wp2
        go_meet
        case rel => exact ⟨_, (true), rs, H', ⟨by first | omega | exact Nat.le_refl _⟩, ⟨bk BK177⟩, ⟨bk BK178⟩, ⟨bw HB⟩⟩
      · rw [if_neg c14] at H
        have c14b0 : decide (a0_0 < a1_0) = false := decide_eq_false c14
        clear c14
        (first | rw [c14b0] | (simp only [i64_w, i32_w]; rw [c14b0]) | skip)
        by_cases c18 : a0_0 = a1_0
        · rw [if_pos c18] at H
          have c18b0 : (a0_0 == a1_0) = true := beq_iff_eq.mpr c18
          have c18b1 : (a0_0 != a1_0) = false := bne_eq_false_iff_eq.mpr c18
          clear c18
          have H' := Aside0.mk H
          clear H
          have hnb19 := NB177_178.out
          have hnc19 := NB178_177.out
          obtain ⟨hcz20_0, hcz20_1, hfz20_0, hfz20_1⟩ := bc2 BK177
          obtain ⟨hcz21_0, hcz21_1, hfz21_0, hfz21_1⟩ := bc2 BK178
          go_wp2
          go_meet
          case rel => exact ⟨_, (decide (a0_1 < a1_1)), rs, H', ⟨by first | omega | exact Nat.le_refl _⟩, ⟨bk BK177⟩, ⟨bk BK178⟩, ⟨bw HB⟩⟩
        · rw [if_neg c18] at H
          have c18b0 : (a0_0 == a1_0) = false := beq_eq_false_iff_ne.mpr c18
          have c18b1 : (a0_0 != a1_0) = true := bne_iff_ne.mpr c18
          have H' := Aside0.mk H
          clear H
          have hnb22 := NB177_178.out
          have hnc22 := NB178_177.out
          obtain ⟨hcz23_0, hcz23_1, hfz23_0, hfz23_1⟩ := bc2 BK177
          obtain ⟨hcz24_0, hcz24_1, hfz24_0, hfz24_1⟩ := bc2 BK178
          go_wp2
          go_meet
          case rel => exact ⟨_, (false), rs, H', ⟨by first | omega | exact Nat.le_refl _⟩, ⟨bk BK177⟩, ⟨bk BK178⟩, ⟨bw HB⟩⟩
    case rest =>
      clear HC6
      try clear c1
      try clear c2
      try clear p2
      try clear c4
      try clear c5
      try clear c10
      try clear c14
      try clear c14b0
      try clear c15
      try clear c18
      try clear c18b0
      try clear c18b1
      try clear c19
      try clear c21
      try clear c22
      try clear hcz11_0
      try clear hcz11_1
      try clear hcz12_0
      try clear hcz12_1
      try clear hcz16_0
      try clear hcz16_1
      try clear hcz17_0
      try clear hcz17_1
      try clear hcz20_0
      try clear hcz20_1
      try clear hcz21_0
      try clear hcz21_1
      try clear hcz23_0
      try clear hcz23_1
      try clear hcz24_0
      try clear hcz24_1
      try clear hfz11_0
      try clear hfz11_1
      try clear hfz12_0
      try clear hfz12_1
      try clear hfz16_0
      try clear hfz16_1
      try clear hfz17_0
      try clear hfz17_1
      try clear hfz20_0
      try clear hfz20_1
      try clear hfz21_0
      try clear hfz21_1
      try clear hfz23_0
      try clear hfz23_1
      try clear hfz24_0
      try clear hfz24_1
      obtain ⟨kq, x6_5, rfl, HA, HJ5, BK177, BK178, HB⟩ := hcut
      cases kq with
      | zero => exact absurd HA.out (by simp [turnstilelaw03_SatOrder.j0])
      | succ kj5 =>
        have H := HA.out
        clear HA
        simp only [turnstilelaw03_SatOrder.j0] at H
        have HC25 := Aside0.mk H
        clear H
        go_upto_region 5 with (fail)
        go_cut [62] (fun v62 wc => ∃ (kq : Nat) (x62_24 : Bool), v62 = .bool x62_24 ∧ Aside0 (turnstilelaw03_SatOrder.j1 kq t180 x62_24 a0_0 a0_1 a1_0 a1_1 = some r) ∧ Aside0 (kq ≤ kj5) ∧ Aside0 (wc.heap[gb177]? = some (.cells #[.int .u64 a0_0, .int .u64 a0_1] 24 (0, 0))) ∧ Aside0 (wc.heap[gb178]? = some (.cells #[.int .u64 a1_0, .int .u64 a1_1] 24 (0, 0))) ∧ Aside0 (Below w.heap.size w wc))
        case first =>
          have H := HC25.out
          clear HC25
          by_cases c26 : ((decide (t180 < 0)) != x6_5) = true
          · rw [if_pos c26] at H
            have c26b0 : ((decide (t180 < 0)) != x6_5) = true := c26
            (try (have c26b1 : decide ((decide (t180 < 0)) = x6_5) = false := by simpa using c26))
            (try (have c26b2 : ((decide (t180 < 0)) == x6_5) = false := by simpa using c26))
            (try (have c26b3 : ¬ ((decide (t180 < 0)) = x6_5) := by simpa using c26))
            clear c26
            (first | rw [c26b0] | (simp only [i64_w, i32_w]; rw [c26b0]) | skip)
            have H' := Aside0.mk H
            clear H
            go_wp2
            go_meet
            case rel => exact ⟨_, (true), rs, H', ⟨by have := HJ5.out; first | omega | exact Nat.le_refl _⟩, ⟨bk BK177⟩, ⟨bk BK178⟩, ⟨bw HB⟩⟩
          · rw [if_neg c26] at H
            have c26b0 : ((decide (t180 < 0)) != x6_5) = false := by simpa using c26
            (try (have c26b1 : decide ((decide (t180 < 0)) = x6_5) = true := by simpa using c26))
            (try (have c26b2 : ((decide (t180 < 0)) == x6_5) = true := by simpa using c26))
            clear c26
            (first | rw [c26b0] | (simp only [i64_w, i32_w]; rw [c26b0]) | skip)
            by_cases c27 : ((t180 == 0) != (a0_0 == a1_0 && (a0_1 == a1_1))) = true
            · rw [if_pos c27] at H
              have c27b0 : ((t180 == 0) != (a0_0 == a1_0 && (a0_1 == a1_1))) = true := c27
              (try (have c27b1 : decide ((t180 == 0) = (a0_0 == a1_0 && (a0_1 == a1_1))) = false := by simpa using c27))
              (try (have c27b2 : ((t180 == 0) == (a0_0 == a1_0 && (a0_1 == a1_1))) = false := by simpa using c27))
              (try (have c27b3 : ¬ ((t180 == 0) = (a0_0 == a1_0 && (a0_1 == a1_1))) := by simpa using c27))
              clear c27
              have H' := Aside0.mk H
              clear H
              have hnb28 := NB177_178.out
              have hnc28 := NB178_177.out
              obtain ⟨hcz29_0, hcz29_1, hfz29_0, hfz29_1⟩ := bc2 BK177
              obtain ⟨hcz30_0, hcz30_1, hfz30_0, hfz30_1⟩ := bc2 BK178
              go_wp2
              go_meet
              case rel => exact ⟨_, (true), rs, H', ⟨by have := HJ5.out; first | omega | exact Nat.le_refl _⟩, ⟨bk BK177⟩, ⟨bk BK178⟩, ⟨bw HB⟩⟩
            · rw [if_neg c27] at H
              have c27b0 : ((t180 == 0) != (a0_0 == a1_0 && (a0_1 == a1_1))) = false := by simpa using c27
              (try (have c27b1 : decide ((t180 == 0) = (a0_0 == a1_0 && (a0_1 == a1_1))) = true := by simpa using c27))
              (try (have c27b2 : ((t180 == 0) == (a0_0 == a1_0 && (a0_1 == a1_1))) = true := by simpa using c27))
              clear c27
              by_cases c31 : t180 < (-1)
              · rw [if_pos c31] at H
                have c31b0 : decide (t180 < (-1)) = true := decide_eq_true c31
                clear c31
                have H' := Aside0.mk H
                clear H
                have hnb32 := NB177_178.out
                have hnc32 := NB178_177.out
                obtain ⟨hcz33_0, hcz33_1, hfz33_0, hfz33_1⟩ := bc2 BK177
                obtain ⟨hcz34_0, hcz34_1, hfz34_0, hfz34_1⟩ := bc2 BK178
                go_wp2
                go_meet
                case rel => exact ⟨_, (true), rs, H', ⟨by have := HJ5.out; first | omega | exact Nat.le_refl _⟩, ⟨bk BK177⟩, ⟨bk BK178⟩, ⟨bw HB⟩⟩
              · rw [if_neg c31] at H
                have c31b0 : decide (t180 < (-1)) = false := decide_eq_false c31
                clear c31
                by_cases c35 : t180 > 1
                · rw [if_pos c35] at H
                  have c35b0 : decide (1 < t180) = true := decide_eq_true c35
                  clear c35
                  have H' := Aside0.mk H
                  clear H
                  have hnb36 := NB177_178.out
                  have hnc36 := NB178_177.out
                  obtain ⟨hcz37_0, hcz37_1, hfz37_0, hfz37_1⟩ := bc2 BK177
                  obtain ⟨hcz38_0, hcz38_1, hfz38_0, hfz38_1⟩ := bc2 BK178
                  go_wp2
                  go_meet
                  case rel => exact ⟨_, (true), rs, H', ⟨by have := HJ5.out; first | omega | exact Nat.le_refl _⟩, ⟨bk BK177⟩, ⟨bk BK178⟩, ⟨bw HB⟩⟩
                · rw [if_neg c35] at H
                  have c35b0 : decide (1 < t180) = false := decide_eq_false c35
                  clear c35
                  replace H := Option.bind_eq_some_iff.mp H
                  obtain ⟨t181, A390, H⟩ := H
                  replace H : (turnstilelaw03_SatOrder.j1 kj5 t180 (t181 != (wrap64 (-t180))) a0_0 a0_1 a1_0 a1_1) = some r := H
                  have A39 := Aside0.mk A390
                  clear A390
                  have H' := Aside0.mk H
                  clear H
                  have hnb40 := NB177_178.out
                  have hnc40 := NB178_177.out
                  obtain ⟨hcz41_0, hcz41_1, hfz41_0, hfz41_1⟩ := bc2 BK177
                  obtain ⟨hcz42_0, hcz42_1, hfz42_0, hfz42_1⟩ := bc2 BK178
                  go_wp2_with (first | (go_at_call 21; (with_reducible refine (sat_Wide_Cmp.calls a1_0 a1_1 a0_0 a0_1 t181 _ A39.out).mono ?_); rintro e w43 ⟨rfl, hb⟩; have n0_ := bb BK177 hb; have n1_ := bb BK178 hb; have n2_ := bs HB hb; clear BK177; clear BK178; clear HB; have BK177 := n0_; have BK178 := n1_; have HB := n2_; clear n0_ n1_ n2_; (try clear hb); (try clear hb2); (try clear hk); (try clear hi)))
                  go_meet
                  case rel => exact ⟨_, ((t181 != (wrap64 (-t180)))), rs, H', ⟨by have := HJ5.out; first | omega | exact Nat.le_refl _⟩, ⟨bk BK177⟩, ⟨bk BK178⟩, ⟨bw HB⟩⟩
        case rest =>
          clear HC25
          try clear c1
          try clear c2
          try clear p2
          try clear c3
          try clear c4
          try clear c5
          try clear p6
          try clear c10
          try clear c14
          try clear c14b0
          try clear c15
          try clear c18
          try clear c18b0
          try clear c18b1
          try clear c19
          try clear c21
          try clear c22
          try clear c26
          try clear c26b0
          try clear c26b1
          try clear c26b2
          try clear c27
          try clear c27b0
          try clear c27b1
          try clear c27b2
          try clear c28
          try clear c31
          try clear c31b0
          try clear c32
          try clear c35
          try clear c35b0
          try clear c36
          try clear c40
          try clear hcz11_0
          try clear hcz11_1
          try clear hcz12_0
          try clear hcz12_1
          try clear hcz16_0
          try clear hcz16_1
          try clear hcz17_0
          try clear hcz17_1
          try clear hcz20_0
          try clear hcz20_1
          try clear hcz21_0
          try clear hcz21_1
          try clear hcz23_0
          try clear hcz23_1
          try clear hcz24_0
          try clear hcz24_1
          try clear hcz29_0
          try clear hcz29_1
          try clear hcz30_0
          try clear hcz30_1
          try clear hcz33_0
          try clear hcz33_1
          try clear hcz34_0
          try clear hcz34_1
          try clear hcz37_0
          try clear hcz37_1
          try clear hcz38_0
          try clear hcz38_1
          try clear hcz41_0
          try clear hcz41_1
          try clear hcz42_0
          try clear hcz42_1
          try clear hfz11_0
          try clear hfz11_1
          try clear hfz12_0
          try clear hfz12_1
          try clear hfz16_0
          try clear hfz16_1
          try clear hfz17_0
          try clear hfz17_1
          try clear hfz20_0
          try clear hfz20_1
          try clear hfz21_0
          try clear hfz21_1
          try clear hfz23_0
          try clear hfz23_1
          try clear hfz24_0
          try clear hfz24_1
          try clear hfz29_0
          try clear hfz29_1
          try clear hfz30_0
          try clear hfz30_1
          try clear hfz33_0
          try clear hfz33_1
          try clear hfz34_0
          try clear hfz34_1
          try clear hfz37_0
          try clear hfz37_1
          try clear hfz38_0
          try clear hfz38_1
          try clear hfz41_0
          try clear hfz41_1
          try clear hfz42_0
          try clear hfz42_1
          try clear p2
          obtain ⟨kq, x62_24, rfl, HA, HJ24, BK177, BK178, HB⟩ := hcut
          cases kq with
          | zero => exact absurd HA.out (by simp [turnstilelaw03_SatOrder.j1])
          | succ kj24 =>
            have H := HA.out
            clear HA
            simp only [turnstilelaw03_SatOrder.j1] at H
            by_cases c44 : x62_24 = true
            · subst c44
              have H1 : (some false) = some r := by rw [if_pos rfl] at H; exact H
              clear H
              have H := H1
              clear H1
              obtain rfl := Option.some.inj H
              go_wp2
              go_ret
              exact ⟨re, bw HB⟩
            · replace c44 := Bool.eq_false_iff.mpr c44
              subst c44
              have H1 : ((sat_Wide_Minus.f a0_0 a0_1 a1_0 a1_1).bind fun bt182 => (if ((bt182.1 == 0 && (bt182.2 == 0)) != (decide (t180 ≤ 0))) = true then (turnstilelaw03_SatOrder.j2 kj24 true a0_0 a0_1 a1_0 a1_1) else (if t180 > 0 then ((sat_Wide_Plus.f bt182.1 bt182.2 a1_0 a1_1).bind fun bt185 => (turnstilelaw03_SatOrder.j2 kj24 (!(bt185.1 == a0_0) || (!(bt185.2 == a0_1))) a0_0 a0_1 a1_0 a1_1)) else (turnstilelaw03_SatOrder.j2 kj24 false a0_0 a0_1 a1_0 a1_1)))) = some r := by rw [if_neg (show ¬ (false = true) by decide)] at H; exact H
              clear H
              have H := H1
              clear H1
              replace H := Option.bind_eq_some_iff.mp H
              obtain ⟨⟨t182, t183⟩, A450, H⟩ := H
              replace H : (if ((t182 == 0 && (t183 == 0)) != (decide (t180 ≤ 0))) = true then (turnstilelaw03_SatOrder.j2 kj24 true a0_0 a0_1 a1_0 a1_1) else (if t180 > 0 then ((sat_Wide_Plus.f t182 t183 a1_0 a1_1).bind fun bt185 => (turnstilelaw03_SatOrder.j2 kj24 (!(bt185.1 == a0_0) || (!(bt185.2 == a0_1))) a0_0 a0_1 a1_0 a1_1)) else (turnstilelaw03_SatOrder.j2 kj24 false a0_0 a0_1 a1_0 a1_1))) = some r := H
              have A45 := Aside0.mk A450
              clear A450
              have HC46 := Aside0.mk H
              clear H
              have hnb47 := NB177_178.out
              have hnc47 := NB178_177.out
              obtain ⟨hcz48_0, hcz48_1, hfz48_0, hfz48_1⟩ := bc2 BK177
              obtain ⟨hcz49_0, hcz49_1, hfz49_0, hfz49_1⟩ := bc2 BK178
              go_upto_region 8 with (first | ((with_reducible refine gate_callee (f := 22) rfl ?_); refine gm (some 65) Try.func22 #[.agg #[.int .u64 a0_0, .int .u64 a0_1], .agg #[.int .u64 a1_0, .int .u64 a1_1]] (sat_Wide_Minus.calls a0_0 a0_1 a1_0 a1_1 t182 t183 _ A45.out) ?_; intro w50 hb; have n0_ := bb BK177 hb; have n1_ := bb BK178 hb; have n2_ := bs HB hb; clear BK177; clear BK178; clear HB; have BK177 := n0_; have BK178 := n1_; have HB := n2_; clear n0_ n1_ n2_; (try clear hb); (try clear hb2); (try clear hk); (try clear hi)) | ((with_reducible refine gate_dst (N := 7) rfl ?_); refine bx 7 #[.int .u64 0, .int .u64 0] 24 ?_; intro gb184 hg w51 hbox hb; have n0_ := bb BK177 hb; have n1_ := bb BK178 hb; have n2_ := bs HB hb; have n3_ := Aside0.mk (hbox); have n4_ := sz HB hg; have n5_ := sz HB hg; have n6_ := nl BK177 hg; have n7_ := nr BK177 hg; have n8_ := nl BK178 hg; have n9_ := nr BK178 hg; clear BK177; clear BK178; clear HB; have BK177 := n0_; have BK178 := n1_; have HB := n2_; have BK184 := n3_; have GW184 := n4_; have GE184 := n5_; have NB177_184 := n6_; have NB184_177 := n7_; have NB178_184 := n8_; have NB184_178 := n9_; clear n0_ n1_ n2_ n3_ n4_ n5_ n6_ n7_ n8_ n9_; clear hb hbox hg; have hnb52 := NB184_177.out; have hnc52 := NB177_184.out; have hnb53 := NB184_178.out; have hnc53 := NB178_184.out; obtain ⟨hcz54_0, hcz54_1, hfz54_0, hfz54_1⟩ := bc2 BK184))
              (try simp only [Act.put, List.setIfInBounds_toArray, List.set_cons_zero, List.set_cons_succ])
              go_cut [82] (fun v82 wc => ∃ (kq : Nat) (x82_45 : Bool), v82 = .bool x82_45 ∧ Aside0 (turnstilelaw03_SatOrder.j2 kq x82_45 a0_0 a0_1 a1_0 a1_1 = some r) ∧ Aside0 (kq ≤ kj24) ∧ Aside0 (wc.heap[gb177]? = some (.cells #[.int .u64 a0_0, .int .u64 a0_1] 24 (0, 0))) ∧ Aside0 (wc.heap[gb178]? = some (.cells #[.int .u64 a1_0, .int .u64 a1_1] 24 (0, 0))) ∧ Aside0 (wc.heap[gb184]? = some (.cells #[.int .u64 t182, .int .u64 t183] 24 (0, 0))) ∧ Aside0 (Below w.heap.size w wc))
              case first =>
                have H := HC46.out
                clear HC46
                by_cases c55 : ((t182 == 0 && (t183 == 0)) != (decide (t180 ≤ 0))) = true
                · rw [if_pos c55] at H
                  have c55b0 : ((t182 == 0 && (t183 == 0)) != (decide (t180 ≤ 0))) = true := c55
                  (try (have c55b1 : decide ((t182 == 0 && (t183 == 0)) = (decide (t180 ≤ 0))) = false := by simpa using c55))
                  (try (have c55b2 : ((t182 == 0 && (t183 == 0)) == (decide (t180 ≤ 0))) = false := by simpa using c55))
                  (try (have c55b3 : ¬ ((t182 == 0 && (t183 == 0)) = (decide (t180 ≤ 0))) := by simpa using c55))
                  clear c55
                  (first | rw [c55b0] | (simp only [i64_w, i32_w]; rw [c55b0]) | skip)
                  have H' := Aside0.mk H
                  clear H
                  try go_wp2
                  have n0_ : Aside0 (((w51.setCell ⟨gb184, 0, none⟩ (.int .u64 t182)).setCell ⟨gb184, 1, none⟩ (.int .u64 t183)).heap[gb177]? = some (.cells #[.int .u64 a0_0, .int .u64 a0_1] 24 (0, 0))) := ⟨bk BK177⟩
                  have n1_ : Aside0 (((w51.setCell ⟨gb184, 0, none⟩ (.int .u64 t182)).setCell ⟨gb184, 1, none⟩ (.int .u64 t183)).heap[gb178]? = some (.cells #[.int .u64 a1_0, .int .u64 a1_1] 24 (0, 0))) := ⟨bk BK178⟩
                  have n2_ : Aside0 (((w51.setCell ⟨gb184, 0, none⟩ (.int .u64 t182)).setCell ⟨gb184, 1, none⟩ (.int .u64 t183)).heap[gb184]? = some (.cells #[.int .u64 t182, .int .u64 t183] 24 (0, 0))) := ⟨bk BK184⟩
                  have n3_ : Aside0 (Below w.heap.size w ((w51.setCell ⟨gb184, 0, none⟩ (.int .u64 t182)).setCell ⟨gb184, 1, none⟩ (.int .u64 t183))) := ⟨bw HB⟩
                  (try clear BK177)
                  (try clear BK178)
                  (try clear BK184)
                  (try clear HB)
                  generalize ((w51.setCell ⟨gb184, 0, none⟩ (.int .u64 t182)).setCell ⟨gb184, 1, none⟩ (.int .u64 t183)) = w56 at n0_ n1_ n2_ n3_ ⊢
                  have BK177 := n0_
                  have BK178 := n1_
                  have BK184 := n2_
                  have HB := n3_
                  clear n0_ n1_ n2_ n3_
                  have n0_ := Aside0.mk (blk_drew BK177.out)
                  have n1_ := Aside0.mk (blk_drew BK178.out)
                  have n2_ := Aside0.mk (blk_drew BK184.out)
                  have n3_ := Aside0.mk (below_drew1 HB.out)
                  clear BK177
                  clear BK178
                  clear BK184
                  clear HB
                  have BK177 := n0_
                  have BK178 := n1_
                  have BK184 := n2_
                  have HB := n3_
                  clear n0_ n1_ n2_ n3_
                  refine start_ (n := 17) (S := fun w' => w'.cell? ⟨gb184, 0, none⟩ = some (.int .u64 t182) ∧ w'.cell? ⟨gb184, 1, none⟩ = some (.int .u64 t183)) (ds := []) #[false, false, false, false, false, false, false, false, false, false, false, false, false, false, false, false, false] (by kernel_rfl) rfl rfl ⟨(blk_cell BK184.out 0).trans rfl, (blk_cell BK184.out 1).trans rfl⟩ (fun hHeld => ?_); refine with_tabW turnstilelaw03_SatOrder.tab8 turnstilelaw03_SatOrder.bits8 (fun HT_ HW_ => ?_)
                  generalize w56.drew = w57 at BK177 BK178 BK184 HB hHeld ⊢
                  refine chain_ (fuel := 0) [(1, 0, some 67), (3, 0, some 69), (4, 0, some 70), (0, 1, some 66), (2, 0, some 68), (5, 0, some 71), (6, 0, some 72), (7, 2, some 73), (8, 2, some 74), (9, 2, some 75), (10, 2, some 76), (11, 2, some 77), (12, 2, some 78), (13, 2, some 79), (14, 2, some 80), (15, 2, some 81), (16, 0, some 82)] #[true, true, true, true, true, true, true, true, true, true, true, true, true, true, true, true, true] HT_.out HW_.out (by kernel_rfl) (fun _ _ _ _ _ h => h) (Or.inr hHeld) rfl ?_
                  (iterate 3 refine lkP ?_); refine lkT ?_; (iterate 3 refine lkP ?_); (iterate 9 refine lkO ?_); refine lkP ?_; refine .nil ?_
                  refine done_ (done_of HT_.out (by kernel_rfl)) ?_
                  try go_wp2
                  go_meet
                  case rel => exact ⟨_, (true), rs, H', ⟨by have := HJ5.out; have := HJ24.out; first | omega | exact Nat.le_refl _⟩, ⟨bk BK177⟩, ⟨bk BK178⟩, ⟨bk BK184⟩, ⟨bw HB⟩⟩
                · rw [if_neg c55] at H
                  have c55b0 : ((t182 == 0 && (t183 == 0)) != (decide (t180 ≤ 0))) = false := by simpa using c55
                  (try (have c55b1 : decide ((t182 == 0 && (t183 == 0)) = (decide (t180 ≤ 0))) = true := by simpa using c55))
                  (try (have c55b2 : ((t182 == 0 && (t183 == 0)) == (decide (t180 ≤ 0))) = true := by simpa using c55))
                  clear c55
                  (first | rw [c55b0] | (simp only [i64_w, i32_w]; rw [c55b0]) | skip)
                  by_cases c58 : t180 > 0
                  · rw [if_pos c58] at H
                    have c58b0 : decide (0 < t180) = true := decide_eq_true c58
                    clear c58
                    replace H := Option.bind_eq_some_iff.mp H
                    obtain ⟨⟨t185, t186⟩, A590, H⟩ := H
                    replace H : (turnstilelaw03_SatOrder.j2 kj24 (!(t185 == a0_0) || (!(t186 == a0_1))) a0_0 a0_1 a1_0 a1_1) = some r := H
                    have A59 := Aside0.mk A590
                    clear A590
                    have H' := Aside0.mk H
                    clear H
                    try go_wp2
                    have n0_ : Aside0 (((w51.setCell ⟨gb184, 0, none⟩ (.int .u64 t182)).setCell ⟨gb184, 1, none⟩ (.int .u64 t183)).heap[gb177]? = some (.cells #[.int .u64 a0_0, .int .u64 a0_1] 24 (0, 0))) := ⟨bk BK177⟩
                    have n1_ : Aside0 (((w51.setCell ⟨gb184, 0, none⟩ (.int .u64 t182)).setCell ⟨gb184, 1, none⟩ (.int .u64 t183)).heap[gb178]? = some (.cells #[.int .u64 a1_0, .int .u64 a1_1] 24 (0, 0))) := ⟨bk BK178⟩
                    have n2_ : Aside0 (((w51.setCell ⟨gb184, 0, none⟩ (.int .u64 t182)).setCell ⟨gb184, 1, none⟩ (.int .u64 t183)).heap[gb184]? = some (.cells #[.int .u64 t182, .int .u64 t183] 24 (0, 0))) := ⟨bk BK184⟩
                    have n3_ : Aside0 (Below w.heap.size w ((w51.setCell ⟨gb184, 0, none⟩ (.int .u64 t182)).setCell ⟨gb184, 1, none⟩ (.int .u64 t183))) := ⟨bw HB⟩
                    (try clear BK177)
                    (try clear BK178)
                    (try clear BK184)
                    (try clear HB)
                    generalize ((w51.setCell ⟨gb184, 0, none⟩ (.int .u64 t182)).setCell ⟨gb184, 1, none⟩ (.int .u64 t183)) = w60 at n0_ n1_ n2_ n3_ ⊢
                    have BK177 := n0_
                    have BK178 := n1_
                    have BK184 := n2_
                    have HB := n3_
                    clear n0_ n1_ n2_ n3_
                    have n0_ := Aside0.mk (blk_drew BK177.out)
                    have n1_ := Aside0.mk (blk_drew BK178.out)
                    have n2_ := Aside0.mk (blk_drew BK184.out)
                    have n3_ := Aside0.mk (below_drew1 HB.out)
                    clear BK177
                    clear BK178
                    clear BK184
                    clear HB
                    have BK177 := n0_
                    have BK178 := n1_
                    have BK184 := n2_
                    have HB := n3_
                    clear n0_ n1_ n2_ n3_
                    refine start_ (n := 17) (S := fun w' => w'.cell? ⟨gb184, 0, none⟩ = some (.int .u64 t182) ∧ w'.cell? ⟨gb184, 1, none⟩ = some (.int .u64 t183) ∧ w'.cell? ⟨gb178, 0, none⟩ = some (.int .u64 a1_0) ∧ w'.cell? ⟨gb178, 1, none⟩ = some (.int .u64 a1_1) ∧ w'.cell? ⟨gb177, 0, none⟩ = some (.int .u64 a0_0) ∧ w'.cell? ⟨gb177, 1, none⟩ = some (.int .u64 a0_1)) (ds := []) #[false, false, false, false, false, false, false, false, false, false, false, false, false, false, false, false, false] (by kernel_rfl) rfl rfl ⟨(blk_cell BK184.out 0).trans rfl, (blk_cell BK184.out 1).trans rfl, (blk_cell BK178.out 0).trans rfl, (blk_cell BK178.out 1).trans rfl, (blk_cell BK177.out 0).trans rfl, (blk_cell BK177.out 1).trans rfl⟩ (fun hHeld => ?_); refine with_tabW turnstilelaw03_SatOrder.tab8 turnstilelaw03_SatOrder.bits8 (fun HT_ HW_ => ?_)
                    generalize w60.drew = w61 at BK177 BK178 BK184 HB hHeld ⊢
                    refine chain_ (fuel := 4) [(1, 0, some 67), (3, 0, some 69), (4, 0, some 70), (0, 1, some 66), (2, 0, some 68), (5, 0, some 71), (6, 0, some 72), (7, 0, some 73), (8, 0, some 74), (9, 0, some 75), (10, 1, some 76), (11, 1, some 77), (13, 1, some 79)] #[true, true, true, true, true, true, true, true, true, true, true, true, false, true, false, false, false] HT_.out HW_.out (by kernel_rfl) (fun _ _ _ _ _ h => h) (Or.inr hHeld) rfl ?_
                    (iterate 3 refine lkP ?_); refine lkT ?_; (iterate 6 refine lkP ?_); (iterate 3 refine lkT ?_); refine .nil ?_
                    refine one_ (i := 12) (N := some 78) #[true, true, true, true, true, true, true, true, true, true, true, true, true, true, false, false, false] rfl rfl (one_of HT_.out (by kernel_rfl)) (by decide) (fun K hK => ?_)
                    refine ge Try.func19 #[.agg #[.int .u64 t182, .int .u64 t183], .agg #[.int .u64 a1_0, .int .u64 a1_1]] ?_
                    with_reducible refine (sat_Wide_Plus.calls t182 t183 a1_0 a1_1 t185 t186 _ A59.out).mono ?_
                    rintro e w62 ⟨rfl, hb⟩
                    refine ⟨_, rfl, ?_⟩
                    have n0_ := bb BK177 hb
                    have n1_ := bb BK178 hb
                    have n2_ := bb BK184 hb
                    have n3_ := bs HB hb
                    clear BK177
                    clear BK178
                    clear BK184
                    clear HB
                    have BK177 := n0_
                    have BK178 := n1_
                    have BK184 := n2_
                    have HB := n3_
                    clear n0_ n1_ n2_ n3_
                    (try clear hb)
                    (try clear hb2)
                    (try clear hk)
                    (try clear hi)
                    refine hK.out _ _ ⟨(blk_cell BK184.out 0).trans rfl, (blk_cell BK184.out 1).trans rfl, (blk_cell BK178.out 0).trans rfl, (blk_cell BK178.out 1).trans rfl, (blk_cell BK177.out 0).trans rfl, (blk_cell BK177.out 1).trans rfl⟩ (fun hHeld => ?_)
                    clear hK K
                    refine norm_ (a' := ?_) ?_ ?_
                    rotate_left
                    · show Act.put _ (some 78) _ = _
                      simp only [Act.put, List.setIfInBounds_toArray, List.set_cons_zero, List.set_cons_succ, i64_w, i32_w]
                      rfl
                    refine chain_ (fuel := 0) [(14, 0, some 80), (15, 0, some 81), (16, 0, some 82)] #[true, true, true, true, true, true, true, true, true, true, true, true, true, true, true, true, true] HT_.out HW_.out (by kernel_rfl) (fun _ _ _ _ _ h => h) (Or.inl (by decide)) rfl ?_
                    (iterate 3 refine lkP ?_); refine .nil ?_
                    refine done_ (done_of HT_.out (by kernel_rfl)) ?_
                    try go_wp2
                    go_meet
                    case rel => exact ⟨_, ((!(t185 == a0_0) || (!(t186 == a0_1)))), rs, H', ⟨by have := HJ5.out; have := HJ24.out; first | omega | exact Nat.le_refl _⟩, ⟨bk BK177⟩, ⟨bk BK178⟩, ⟨bk BK184⟩, ⟨bw HB⟩⟩
                  · rw [if_neg c58] at H
                    have c58b0 : decide (0 < t180) = false := decide_eq_false c58
                    clear c58
                    have H' := Aside0.mk H
                    clear H
                    try go_wp2
                    have n0_ : Aside0 (((w51.setCell ⟨gb184, 0, none⟩ (.int .u64 t182)).setCell ⟨gb184, 1, none⟩ (.int .u64 t183)).heap[gb177]? = some (.cells #[.int .u64 a0_0, .int .u64 a0_1] 24 (0, 0))) := ⟨bk BK177⟩
                    have n1_ : Aside0 (((w51.setCell ⟨gb184, 0, none⟩ (.int .u64 t182)).setCell ⟨gb184, 1, none⟩ (.int .u64 t183)).heap[gb178]? = some (.cells #[.int .u64 a1_0, .int .u64 a1_1] 24 (0, 0))) := ⟨bk BK178⟩
                    have n2_ : Aside0 (((w51.setCell ⟨gb184, 0, none⟩ (.int .u64 t182)).setCell ⟨gb184, 1, none⟩ (.int .u64 t183)).heap[gb184]? = some (.cells #[.int .u64 t182, .int .u64 t183] 24 (0, 0))) := ⟨bk BK184⟩
                    have n3_ : Aside0 (Below w.heap.size w ((w51.setCell ⟨gb184, 0, none⟩ (.int .u64 t182)).setCell ⟨gb184, 1, none⟩ (.int .u64 t183))) := ⟨bw HB⟩
                    (try clear BK177)
                    (try clear BK178)
                    (try clear BK184)
                    (try clear HB)
                    generalize ((w51.setCell ⟨gb184, 0, none⟩ (.int .u64 t182)).setCell ⟨gb184, 1, none⟩ (.int .u64 t183)) = w63 at n0_ n1_ n2_ n3_ ⊢
                    have BK177 := n0_
                    have BK178 := n1_
                    have BK184 := n2_
                    have HB := n3_
                    clear n0_ n1_ n2_ n3_
                    have n0_ := Aside0.mk (blk_drew BK177.out)
                    have n1_ := Aside0.mk (blk_drew BK178.out)
                    have n2_ := Aside0.mk (blk_drew BK184.out)
                    have n3_ := Aside0.mk (below_drew1 HB.out)
                    clear BK177
                    clear BK178
                    clear BK184
                    clear HB
                    have BK177 := n0_
                    have BK178 := n1_
                    have BK184 := n2_
                    have HB := n3_
                    clear n0_ n1_ n2_ n3_
                    refine start_ (n := 17) (S := fun w' => w'.cell? ⟨gb184, 0, none⟩ = some (.int .u64 t182) ∧ w'.cell? ⟨gb184, 1, none⟩ = some (.int .u64 t183)) (ds := []) #[false, false, false, false, false, false, false, false, false, false, false, false, false, false, false, false, false] (by kernel_rfl) rfl rfl ⟨(blk_cell BK184.out 0).trans rfl, (blk_cell BK184.out 1).trans rfl⟩ (fun hHeld => ?_); refine with_tabW turnstilelaw03_SatOrder.tab8 turnstilelaw03_SatOrder.bits8 (fun HT_ HW_ => ?_)
                    generalize w63.drew = w64 at BK177 BK178 BK184 HB hHeld ⊢
                    refine chain_ (fuel := 0) [(1, 0, some 67), (3, 0, some 69), (4, 0, some 70), (0, 1, some 66), (2, 0, some 68), (5, 0, some 71), (6, 0, some 72), (7, 0, some 73), (8, 0, some 74), (9, 0, some 75), (10, 2, some 76), (11, 2, some 77), (12, 2, some 78), (13, 2, some 79), (14, 2, some 80), (15, 0, some 81), (16, 0, some 82)] #[true, true, true, true, true, true, true, true, true, true, true, true, true, true, true, true, true] HT_.out HW_.out (by kernel_rfl) (fun _ _ _ _ _ h => h) (Or.inr hHeld) rfl ?_
                    (iterate 3 refine lkP ?_); refine lkT ?_; (iterate 6 refine lkP ?_); (iterate 5 refine lkO ?_); (iterate 2 refine lkP ?_); refine .nil ?_
                    refine done_ (done_of HT_.out (by kernel_rfl)) ?_
                    try go_wp2
                    go_meet
                    case rel => exact ⟨_, (false), rs, H', ⟨by have := HJ5.out; have := HJ24.out; first | omega | exact Nat.le_refl _⟩, ⟨bk BK177⟩, ⟨bk BK178⟩, ⟨bk BK184⟩, ⟨bw HB⟩⟩
              case rest =>
                clear HC46
                try clear c1
                try clear c2
                try clear p2
                try clear c4
                try clear c5
                try clear c19
                try clear c22
                try clear c44
                try clear c47
                try clear c52
                try clear c53
                try clear c55
                try clear c55b0
                try clear c55b1
                try clear c55b2
                try clear c58
                try clear c58b0
                try clear hcz33_0
                try clear hcz33_1
                try clear hcz34_0
                try clear hcz34_1
                try clear hcz37_0
                try clear hcz37_1
                try clear hcz38_0
                try clear hcz38_1
                try clear hcz41_0
                try clear hcz41_1
                try clear hcz42_0
                try clear hcz42_1
                try clear hcz48_0
                try clear hcz48_1
                try clear hcz49_0
                try clear hcz49_1
                try clear hcz54_0
                try clear hcz54_1
                try clear hfz11_0
                try clear hfz11_1
                try clear hfz12_0
                try clear hfz12_1
                try clear hfz16_0
                try clear hfz16_1
                try clear hfz17_0
                try clear hfz17_1
                try clear hfz20_0
                try clear hfz20_1
                try clear hfz21_0
                try clear hfz21_1
                try clear hfz23_0
                try clear hfz23_1
                try clear hfz24_0
                try clear hfz24_1
                try clear hfz29_0
                try clear hfz29_1
                try clear hfz30_0
                try clear hfz30_1
                try clear hfz33_0
                try clear hfz33_1
                try clear hfz34_0
                try clear hfz34_1
                try clear hfz37_0
                try clear hfz37_1
                try clear hfz38_0
                try clear hfz38_1
                try clear hfz41_0
                try clear hfz41_1
                try clear hfz42_0
                try clear hfz42_1
                try clear hfz48_0
                try clear hfz48_1
                try clear hfz49_0
                try clear hfz49_1
                try clear hfz54_0
                try clear hfz54_1
                try clear p2
                obtain ⟨kq, x82_45, rfl, HA, HJ45, BK177, BK178, BK184, HB⟩ := hcut
                cases kq with
                | zero => exact absurd HA.out (by simp [turnstilelaw03_SatOrder.j2])
                | succ kj45 =>
                  have H := HA.out
                  clear HA
                  simp only [turnstilelaw03_SatOrder.j2] at H
                  by_cases c65 : x82_45 = true
                  · subst c65
                    have H1 : (some false) = some r := by rw [if_pos rfl] at H; exact H
                    clear H
                    have H := H1
                    clear H1
                    obtain rfl := Option.some.inj H
                    go_wp2
                    go_ret
                    exact ⟨re, bw HB⟩
                  · replace c65 := Bool.eq_false_iff.mpr c65
                    subst c65
                    have H1 : ((sat_Wide_Minus.f 18446744073709551615 18446744073709551615 a1_0 a1_1).bind fun bt188 => ((sat_Wide_Plus.f a0_0 a0_1 a1_0 a1_1).bind fun bt191 => ((sat_Wide_Cmp.f a0_0 a0_1 bt188.1 bt188.2).bind fun t194 => (if ((bt191.1 == 18446744073709551615 && (bt191.2 == 18446744073709551615)) == (decide (t194 ≥ 0))) = true then (if (bt191.1 == 18446744073709551615 && (bt191.2 == 18446744073709551615)) = true then (some true) else ((sat_Wide_Minus.f bt191.1 bt191.2 a0_0 a0_1).bind fun bt195 => (some (bt195.1 == a1_0 && (bt195.2 == a1_1))))) else (some false))))) = some r := by rw [if_neg (show ¬ (false = true) by decide)] at H; exact H
                    clear H
                    have H := H1
                    clear H1
                    replace H := Option.bind_eq_some_iff.mp H
                    obtain ⟨⟨t188, t189⟩, A660, H⟩ := H
                    replace H : ((sat_Wide_Plus.f a0_0 a0_1 a1_0 a1_1).bind fun bt191 => ((sat_Wide_Cmp.f a0_0 a0_1 t188 t189).bind fun t194 => (if ((bt191.1 == 18446744073709551615 && (bt191.2 == 18446744073709551615)) == (decide (t194 ≥ 0))) = true then (if (bt191.1 == 18446744073709551615 && (bt191.2 == 18446744073709551615)) = true then (some true) else ((sat_Wide_Minus.f bt191.1 bt191.2 a0_0 a0_1).bind fun bt195 => (some (bt195.1 == a1_0 && (bt195.2 == a1_1))))) else (some false)))) = some r := H
                    have A66 := Aside0.mk A660
                    clear A660
                    replace H := Option.bind_eq_some_iff.mp H
                    obtain ⟨⟨t191, t192⟩, A670, H⟩ := H
                    replace H : ((sat_Wide_Cmp.f a0_0 a0_1 t188 t189).bind fun t194 => (if ((t191 == 18446744073709551615 && (t192 == 18446744073709551615)) == (decide (t194 ≥ 0))) = true then (if (t191 == 18446744073709551615 && (t192 == 18446744073709551615)) = true then (some true) else ((sat_Wide_Minus.f t191 t192 a0_0 a0_1).bind fun bt195 => (some (bt195.1 == a1_0 && (bt195.2 == a1_1))))) else (some false))) = some r := H
                    have A67 := Aside0.mk A670
                    clear A670
                    replace H := Option.bind_eq_some_iff.mp H
                    obtain ⟨t194, A680, H⟩ := H
                    replace H : (if ((t191 == 18446744073709551615 && (t192 == 18446744073709551615)) == (decide (t194 ≥ 0))) = true then (if (t191 == 18446744073709551615 && (t192 == 18446744073709551615)) = true then (some true) else ((sat_Wide_Minus.f t191 t192 a0_0 a0_1).bind fun bt195 => (some (bt195.1 == a1_0 && (bt195.2 == a1_1))))) else (some false)) = some r := H
                    have A68 := Aside0.mk A680
                    clear A680
                    by_cases c69 : ((t191 == 18446744073709551615 && (t192 == 18446744073709551615)) == (decide (t194 ≥ 0))) = true
                    · rw [if_pos c69] at H
                      have c69b0 : ((t191 == 18446744073709551615 && (t192 == 18446744073709551615)) == (decide (t194 ≥ 0))) = true := c69
                      (try (have c69b1 : decide ((t191 == 18446744073709551615 && (t192 == 18446744073709551615)) = (decide (t194 ≥ 0))) = true := by simpa using c69))
                      (try (have c69b2 : ((t191 == 18446744073709551615 && (t192 == 18446744073709551615)) == (decide (t194 ≥ 0))) = true := by simpa using c69))
                      clear c69
                      by_cases c70 : (t191 == 18446744073709551615 && (t192 == 18446744073709551615)) = true
                      · rw [if_pos c70] at H
                        have c70b0 : (t191 == 18446744073709551615 && (t192 == 18446744073709551615)) = true := c70
                        (try (have c70b1 : decide (t191 = 18446744073709551615 && (t192 == 18446744073709551615)) = true := by simpa using c70))
                        (try (have c70b2 : (t191 == 18446744073709551615 && (t192 == 18446744073709551615)) = true := by simpa using c70))
                        clear c70
                        (try (have hd71 := c69b0; rw [c70b0] at hd71))
                        (try (have hd72 := hd71; simp only [Bool.true_beq, Bool.false_beq, Bool.beq_true, Bool.beq_false, Bool.not_eq_eq_eq_not] at hd72))
                        (try (have hd73 := c69b2; rw [c70b0] at hd73))
                        (try (have hd74 := hd73; simp only [Bool.true_beq, Bool.false_beq, Bool.beq_true, Bool.beq_false, Bool.not_eq_eq_eq_not] at hd74))
                        obtain rfl := Option.some.inj H
                        try go_wp2_with (first | ((with_reducible refine gate_dst (N := 8) rfl ?_); refine bx 8 #[.int .u64 0, .int .u64 0] 24 ?_; intro gb187 hg w75 hbox hb; have n0_ := bb BK177 hb; have n1_ := bb BK178 hb; have n2_ := bb BK184 hb; have n3_ := bs HB hb; have n4_ := Aside0.mk (hbox); have n5_ := sz HB hg; have n6_ := sz HB hg; have n7_ := nl BK177 hg; have n8_ := nr BK177 hg; have n9_ := nl BK178 hg; have n10_ := nr BK178 hg; have n11_ := nl BK184 hg; have n12_ := nr BK184 hg; clear BK177; clear BK178; clear BK184; clear HB; have BK177 := n0_; have BK178 := n1_; have BK184 := n2_; have HB := n3_; have BK187 := n4_; have GW187 := n5_; have GE187 := n6_; have NB177_187 := n7_; have NB187_177 := n8_; have NB178_187 := n9_; have NB187_178 := n10_; have NB184_187 := n11_; have NB187_184 := n12_; clear n0_ n1_ n2_ n3_ n4_ n5_ n6_ n7_ n8_ n9_ n10_ n11_ n12_; clear hb hbox hg; have hnb76 := NB187_177.out; have hnc76 := NB177_187.out; have hnb77 := NB187_178.out; have hnc77 := NB178_187.out; have hnb78 := NB187_184.out; have hnc78 := NB184_187.out; obtain ⟨hcz79_0, hcz79_1, hfz79_0, hfz79_1⟩ := bc2 BK187; have hnb80 := NB178_177.out; have hnc80 := NB177_178.out; have hnb81 := NB178_184.out; have hnc81 := NB184_178.out; obtain ⟨hcz82_0, hcz82_1, hfz82_0, hfz82_1⟩ := bc2 BK178) | ((with_reducible refine gate_callee (f := 22) rfl ?_); refine gm (some 86) Try.func22 #[.agg #[.int .u64 18446744073709551615, .int .u64 18446744073709551615], .agg #[.int .u64 a1_0, .int .u64 a1_1]] (sat_Wide_Minus.calls 18446744073709551615 18446744073709551615 a1_0 a1_1 t188 t189 _ A66.out) ?_; intro w83 hb; have n0_ := bb BK177 hb; have n1_ := bb BK178 hb; have n2_ := bb BK184 hb; have n3_ := bbp (.cells #[.int .u64 18446744073709551615, .int .u64 18446744073709551615] 24 (0, 0)) BK187 hb; have n4_ := bs HB hb; clear BK177; clear BK178; clear BK184; clear BK187; clear HB; have BK177 := n0_; have BK178 := n1_; have BK184 := n2_; have BK187 := n3_; have HB := n4_; clear n0_ n1_ n2_ n3_ n4_; (try clear hb); (try clear hb2); (try clear hk); (try clear hi)) | ((with_reducible refine gate_dst (N := 9) rfl ?_); refine bx 9 #[.int .u64 0, .int .u64 0] 24 ?_; intro gb190 hg w84 hbox hb; have n0_ := bb BK177 hb; have n1_ := bb BK178 hb; have n2_ := bb BK184 hb; have n3_ := bb BK187 hb; have n4_ := bs HB hb; have n5_ := Aside0.mk (hbox); have n6_ := sz HB hg; have n7_ := sz HB hg; have n8_ := nl BK177 hg; have n9_ := nr BK177 hg; have n10_ := nl BK178 hg; have n11_ := nr BK178 hg; have n12_ := nl BK184 hg; have n13_ := nr BK184 hg; have n14_ := nl BK187 hg; have n15_ := nr BK187 hg; clear BK177; clear BK178; clear BK184; clear BK187; clear HB; have BK177 := n0_; have BK178 := n1_; have BK184 := n2_; have BK187 := n3_; have HB := n4_; have BK190 := n5_; have GW190 := n6_; have GE190 := n7_; have NB177_190 := n8_; have NB190_177 := n9_; have NB178_190 := n10_; have NB190_178 := n11_; have NB184_190 := n12_; have NB190_184 := n13_; have NB187_190 := n14_; have NB190_187 := n15_; clear n0_ n1_ n2_ n3_ n4_ n5_ n6_ n7_ n8_ n9_ n10_ n11_ n12_ n13_ n14_ n15_; clear hb hbox hg; have hnb85 := NB190_177.out; have hnc85 := NB177_190.out; have hnb86 := NB190_178.out; have hnc86 := NB178_190.out; have hnb87 := NB190_184.out; have hnc87 := NB184_190.out; have hnb88 := NB190_187.out; have hnc88 := NB187_190.out; obtain ⟨hcz89_0, hcz89_1, hfz89_0, hfz89_1⟩ := bc2 BK190; have hnb90 := NB177_184.out; have hnc90 := NB184_177.out; obtain ⟨hcz91_0, hcz91_1, hfz91_0, hfz91_1⟩ := bc2 BK177; obtain ⟨hcz92_0, hcz92_1, hfz92_0, hfz92_1⟩ := bc2 BK178) | ((with_reducible refine gate_callee (f := 19) rfl ?_); refine gm (some 89) Try.func19 #[.agg #[.int .u64 a0_0, .int .u64 a0_1], .agg #[.int .u64 a1_0, .int .u64 a1_1]] (sat_Wide_Plus.calls a0_0 a0_1 a1_0 a1_1 t191 t192 _ A67.out) ?_; intro w93 hb; have n0_ := bb BK177 hb; have n1_ := bb BK178 hb; have n2_ := bb BK184 hb; have n3_ := bb BK187 hb; have n4_ := bbp (.cells #[.int .u64 t188, .int .u64 t189] 24 (0, 0)) BK190 hb; have n5_ := bs HB hb; clear BK177; clear BK178; clear BK184; clear BK187; clear BK190; clear HB; have BK177 := n0_; have BK178 := n1_; have BK184 := n2_; have BK187 := n3_; have BK190 := n4_; have HB := n5_; clear n0_ n1_ n2_ n3_ n4_ n5_; (try clear hb); (try clear hb2); (try clear hk); (try clear hi)) | ((with_reducible refine gate_dst (N := 10) rfl ?_); refine bx 10 #[.int .u64 0, .int .u64 0] 24 ?_; intro gb193 hg w94 hbox hb; have n0_ := bb BK177 hb; have n1_ := bb BK178 hb; have n2_ := bb BK184 hb; have n3_ := bb BK187 hb; have n4_ := bb BK190 hb; have n5_ := bs HB hb; have n6_ := Aside0.mk (hbox); have n7_ := sz HB hg; have n8_ := sz HB hg; have n9_ := nl BK177 hg; have n10_ := nr BK177 hg; have n11_ := nl BK178 hg; have n12_ := nr BK178 hg; have n13_ := nl BK184 hg; have n14_ := nr BK184 hg; have n15_ := nl BK187 hg; have n16_ := nr BK187 hg; have n17_ := nl BK190 hg; have n18_ := nr BK190 hg; clear BK177; clear BK178; clear BK184; clear BK187; clear BK190; clear HB; have BK177 := n0_; have BK178 := n1_; have BK184 := n2_; have BK187 := n3_; have BK190 := n4_; have HB := n5_; have BK193 := n6_; have GW193 := n7_; have GE193 := n8_; have NB177_193 := n9_; have NB193_177 := n10_; have NB178_193 := n11_; have NB193_178 := n12_; have NB184_193 := n13_; have NB193_184 := n14_; have NB187_193 := n15_; have NB193_187 := n16_; have NB190_193 := n17_; have NB193_190 := n18_; clear n0_ n1_ n2_ n3_ n4_ n5_ n6_ n7_ n8_ n9_ n10_ n11_ n12_ n13_ n14_ n15_ n16_ n17_ n18_; clear hb hbox hg; have hnb95 := NB193_177.out; have hnc95 := NB177_193.out; have hnb96 := NB193_178.out; have hnc96 := NB178_193.out; have hnb97 := NB193_184.out; have hnc97 := NB184_193.out; have hnb98 := NB193_187.out; have hnc98 := NB187_193.out; have hnb99 := NB193_190.out; have hnc99 := NB190_193.out; obtain ⟨hcz100_0, hcz100_1, hfz100_0, hfz100_1⟩ := bc2 BK193))
                        have n0_ : Aside0 (((w94.setCell ⟨gb193, 0, none⟩ (.int .u64 t191)).setCell ⟨gb193, 1, none⟩ (.int .u64 t192)).heap[gb177]? = some (.cells #[.int .u64 a0_0, .int .u64 a0_1] 24 (0, 0))) := ⟨bk BK177⟩
                        have n1_ : Aside0 (((w94.setCell ⟨gb193, 0, none⟩ (.int .u64 t191)).setCell ⟨gb193, 1, none⟩ (.int .u64 t192)).heap[gb178]? = some (.cells #[.int .u64 a1_0, .int .u64 a1_1] 24 (0, 0))) := ⟨bk BK178⟩
                        have n2_ : Aside0 (((w94.setCell ⟨gb193, 0, none⟩ (.int .u64 t191)).setCell ⟨gb193, 1, none⟩ (.int .u64 t192)).heap[gb184]? = some (.cells #[.int .u64 t182, .int .u64 t183] 24 (0, 0))) := ⟨bk BK184⟩
                        have n3_ : Aside0 (((w94.setCell ⟨gb193, 0, none⟩ (.int .u64 t191)).setCell ⟨gb193, 1, none⟩ (.int .u64 t192)).heap[gb187]? = some (.cells #[.int .u64 18446744073709551615, .int .u64 18446744073709551615] 24 (0, 0))) := ⟨bk BK187⟩
                        have n4_ : Aside0 (((w94.setCell ⟨gb193, 0, none⟩ (.int .u64 t191)).setCell ⟨gb193, 1, none⟩ (.int .u64 t192)).heap[gb190]? = some (.cells #[.int .u64 t188, .int .u64 t189] 24 (0, 0))) := ⟨bk BK190⟩
                        have n5_ : Aside0 (((w94.setCell ⟨gb193, 0, none⟩ (.int .u64 t191)).setCell ⟨gb193, 1, none⟩ (.int .u64 t192)).heap[gb193]? = some (.cells #[.int .u64 t191, .int .u64 t192] 24 (0, 0))) := ⟨bk BK193⟩
                        have n6_ : Aside0 (Below w.heap.size w ((w94.setCell ⟨gb193, 0, none⟩ (.int .u64 t191)).setCell ⟨gb193, 1, none⟩ (.int .u64 t192))) := ⟨bw HB⟩
                        (try clear BK177)
                        (try clear BK178)
                        (try clear BK184)
                        (try clear BK187)
                        (try clear BK190)
                        (try clear BK193)
                        (try clear HB)
                        generalize ((w94.setCell ⟨gb193, 0, none⟩ (.int .u64 t191)).setCell ⟨gb193, 1, none⟩ (.int .u64 t192)) = w101 at n0_ n1_ n2_ n3_ n4_ n5_ n6_ ⊢
                        have BK177 := n0_
                        have BK178 := n1_
                        have BK184 := n2_
                        have BK187 := n3_
                        have BK190 := n4_
                        have BK193 := n5_
                        have HB := n6_
                        clear n0_ n1_ n2_ n3_ n4_ n5_ n6_
                        have n0_ := Aside0.mk (blk_drew BK177.out)
                        have n1_ := Aside0.mk (blk_drew BK178.out)
                        have n2_ := Aside0.mk (blk_drew BK184.out)
                        have n3_ := Aside0.mk (blk_drew BK187.out)
                        have n4_ := Aside0.mk (blk_drew BK190.out)
                        have n5_ := Aside0.mk (blk_drew BK193.out)
                        have n6_ := Aside0.mk (below_drew1 HB.out)
                        clear BK177
                        clear BK178
                        clear BK184
                        clear BK187
                        clear BK190
                        clear BK193
                        clear HB
                        have BK177 := n0_
                        have BK178 := n1_
                        have BK184 := n2_
                        have BK187 := n3_
                        have BK190 := n4_
                        have BK193 := n5_
                        have HB := n6_
                        clear n0_ n1_ n2_ n3_ n4_ n5_ n6_
                        refine start_ (n := 21) (S := fun w' => w'.cell? ⟨gb193, 0, none⟩ = some (.int .u64 t191) ∧ w'.cell? ⟨gb193, 1, none⟩ = some (.int .u64 t192) ∧ w'.cell? ⟨gb187, 0, none⟩ = some (.int .u64 18446744073709551615) ∧ w'.cell? ⟨gb187, 1, none⟩ = some (.int .u64 18446744073709551615) ∧ w'.cell? ⟨gb177, 0, none⟩ = some (.int .u64 a0_0) ∧ w'.cell? ⟨gb177, 1, none⟩ = some (.int .u64 a0_1) ∧ w'.cell? ⟨gb190, 0, none⟩ = some (.int .u64 t188) ∧ w'.cell? ⟨gb190, 1, none⟩ = some (.int .u64 t189)) (ds := []) #[false, false, false, false, false, false, false, false, false, false, false, false, false, false, false, false, false, false, false, false, false] (by kernel_rfl) rfl rfl ⟨(blk_cell BK193.out 0).trans rfl, (blk_cell BK193.out 1).trans rfl, (blk_cell BK187.out 0).trans rfl, (blk_cell BK187.out 1).trans rfl, (blk_cell BK177.out 0).trans rfl, (blk_cell BK177.out 1).trans rfl, (blk_cell BK190.out 0).trans rfl, (blk_cell BK190.out 1).trans rfl⟩ (fun hHeld => ?_); refine with_tabW turnstilelaw03_SatOrder.tab13 turnstilelaw03_SatOrder.bits13 (fun HT_ HW_ => ?_)
                        generalize w101.drew = w102 at BK177 BK178 BK184 BK187 BK190 BK193 HB hHeld ⊢
                        refine chain_ (fuel := 16) [(0, 1, some 90), (1, 1, some 91), (2, 0, some 92), (3, 1, some 93), (4, 1, some 94)] #[true, true, true, true, true, false, false, false, false, false, false, false, false, false, false, false, false, false, false, false, false] HT_.out HW_.out (by kernel_rfl) (fun _ _ _ _ _ h => h) (Or.inr hHeld) rfl ?_
                        (iterate 2 refine lkT ?_); refine lkP ?_; (iterate 2 refine lkT ?_); refine .nil ?_
                        refine one_ (i := 5) (N := some 95) #[true, true, true, true, true, true, false, false, false, false, false, false, false, false, false, false, false, false, false, false, false] rfl rfl (one_of HT_.out (by kernel_rfl)) (by decide) (fun K hK => ?_)
                        refine ge Try.func21 #[.agg #[.int .u64 a0_0, .int .u64 a0_1], .agg #[.int .u64 t188, .int .u64 t189]] ?_
                        with_reducible refine (sat_Wide_Cmp.calls a0_0 a0_1 t188 t189 t194 _ A68.out).mono ?_
                        rintro e w103 ⟨rfl, hb⟩
                        refine ⟨_, rfl, ?_⟩
                        have n0_ := bb BK177 hb
                        have n1_ := bb BK178 hb
                        have n2_ := bb BK184 hb
                        have n3_ := bb BK187 hb
                        have n4_ := bb BK190 hb
                        have n5_ := bb BK193 hb
                        have n6_ := bs HB hb
                        clear BK177
                        clear BK178
                        clear BK184
                        clear BK187
                        clear BK190
                        clear BK193
                        clear HB
                        have BK177 := n0_
                        have BK178 := n1_
                        have BK184 := n2_
                        have BK187 := n3_
                        have BK190 := n4_
                        have BK193 := n5_
                        have HB := n6_
                        clear n0_ n1_ n2_ n3_ n4_ n5_ n6_
                        (try clear hb)
                        (try clear hb2)
                        (try clear hk)
                        (try clear hi)
                        refine hK.out _ _ ⟨(blk_cell BK193.out 0).trans rfl, (blk_cell BK193.out 1).trans rfl, (blk_cell BK187.out 0).trans rfl, (blk_cell BK187.out 1).trans rfl, (blk_cell BK177.out 0).trans rfl, (blk_cell BK177.out 1).trans rfl, (blk_cell BK190.out 0).trans rfl, (blk_cell BK190.out 1).trans rfl⟩ (fun hHeld => ?_)
                        clear hK K
                        refine norm_ (a' := ?_) ?_ ?_
                        rotate_left
                        · show Act.put _ (some 95) _ = _
                          simp only [Act.put, List.setIfInBounds_toArray, List.set_cons_zero, List.set_cons_succ, i64_w, i32_w]
                          rfl
                        refine chain_ (fuel := 0) [(6, 0, some 96), (7, 0, some 97), (8, 0, some 98), (9, 1, some 99), (10, 1, some 100), (11, 0, some 101), (12, 0, some 102), (13, 2, some 103), (14, 2, some 104), (15, 2, some 105), (16, 2, some 106), (17, 2, some 107), (18, 0, some 108), (19, 0, some 109), (20, 0, some 4)] #[true, true, true, true, true, true, true, true, true, true, true, true, true, true, true, true, true, true, true, true, true] HT_.out HW_.out (by kernel_rfl) (fun _ _ _ _ _ h => h) (Or.inr hHeld) rfl ?_
                        (iterate 3 refine lkP ?_); (iterate 2 refine lkT ?_); (iterate 2 refine lkP ?_); (iterate 5 refine lkO ?_); (iterate 3 refine lkP ?_); refine .nil ?_
                        refine done_ (done_of HT_.out (by kernel_rfl)) ?_
                        try go_wp2
                        go_ret
                        exact ⟨re, bw HB⟩
                      · rw [if_neg c70] at H
                        have c70b0 : (t191 == 18446744073709551615 && (t192 == 18446744073709551615)) = false := by simpa using c70
                        (try (have c70b1 : decide (t191 = 18446744073709551615 && (t192 == 18446744073709551615)) = false := by simpa using c70))
                        (try (have c70b2 : (t191 == 18446744073709551615 && (t192 == 18446744073709551615)) = false := by simpa using c70))
                        (try (have c70b3 : ¬ (t191 = 18446744073709551615 && (t192 == 18446744073709551615)) := by simpa using c70))
                        clear c70
                        (try (have hd104 := c69b0; rw [c70b0] at hd104))
                        (try (have hd105 := hd104; simp only [Bool.true_beq, Bool.false_beq, Bool.beq_true, Bool.beq_false, Bool.not_eq_eq_eq_not] at hd105))
                        (try (have hd106 := c69b2; rw [c70b0] at hd106))
                        (try (have hd107 := hd106; simp only [Bool.true_beq, Bool.false_beq, Bool.beq_true, Bool.beq_false, Bool.not_eq_eq_eq_not] at hd107))
                        replace H := Option.bind_eq_some_iff.mp H
                        obtain ⟨⟨t195, t196⟩, A1080, H⟩ := H
                        replace H : (some (t195 == a1_0 && (t196 == a1_1))) = some r := H
                        have A108 := Aside0.mk A1080
                        clear A1080
                        obtain rfl := Option.some.inj H
                        try go_wp2_with (first | ((with_reducible refine gate_dst (N := 8) rfl ?_); refine bx 8 #[.int .u64 0, .int .u64 0] 24 ?_; intro gb187 hg w109 hbox hb; have n0_ := bb BK177 hb; have n1_ := bb BK178 hb; have n2_ := bb BK184 hb; have n3_ := bs HB hb; have n4_ := Aside0.mk (hbox); have n5_ := sz HB hg; have n6_ := sz HB hg; have n7_ := nl BK177 hg; have n8_ := nr BK177 hg; have n9_ := nl BK178 hg; have n10_ := nr BK178 hg; have n11_ := nl BK184 hg; have n12_ := nr BK184 hg; clear BK177; clear BK178; clear BK184; clear HB; have BK177 := n0_; have BK178 := n1_; have BK184 := n2_; have HB := n3_; have BK187 := n4_; have GW187 := n5_; have GE187 := n6_; have NB177_187 := n7_; have NB187_177 := n8_; have NB178_187 := n9_; have NB187_178 := n10_; have NB184_187 := n11_; have NB187_184 := n12_; clear n0_ n1_ n2_ n3_ n4_ n5_ n6_ n7_ n8_ n9_ n10_ n11_ n12_; clear hb hbox hg; have hnb110 := NB187_177.out; have hnc110 := NB177_187.out; have hnb111 := NB187_178.out; have hnc111 := NB178_187.out; have hnb112 := NB187_184.out; have hnc112 := NB184_187.out; obtain ⟨hcz113_0, hcz113_1, hfz113_0, hfz113_1⟩ := bc2 BK187; have hnb114 := NB178_177.out; have hnc114 := NB177_178.out; have hnb115 := NB178_184.out; have hnc115 := NB184_178.out; obtain ⟨hcz116_0, hcz116_1, hfz116_0, hfz116_1⟩ := bc2 BK178) | ((with_reducible refine gate_callee (f := 22) rfl ?_); refine gm (some 86) Try.func22 #[.agg #[.int .u64 18446744073709551615, .int .u64 18446744073709551615], .agg #[.int .u64 a1_0, .int .u64 a1_1]] (sat_Wide_Minus.calls 18446744073709551615 18446744073709551615 a1_0 a1_1 t188 t189 _ A66.out) ?_; intro w117 hb; have n0_ := bb BK177 hb; have n1_ := bb BK178 hb; have n2_ := bb BK184 hb; have n3_ := bbp (.cells #[.int .u64 18446744073709551615, .int .u64 18446744073709551615] 24 (0, 0)) BK187 hb; have n4_ := bs HB hb; clear BK177; clear BK178; clear BK184; clear BK187; clear HB; have BK177 := n0_; have BK178 := n1_; have BK184 := n2_; have BK187 := n3_; have HB := n4_; clear n0_ n1_ n2_ n3_ n4_; (try clear hb); (try clear hb2); (try clear hk); (try clear hi)) | ((with_reducible refine gate_dst (N := 9) rfl ?_); refine bx 9 #[.int .u64 0, .int .u64 0] 24 ?_; intro gb190 hg w118 hbox hb; have n0_ := bb BK177 hb; have n1_ := bb BK178 hb; have n2_ := bb BK184 hb; have n3_ := bb BK187 hb; have n4_ := bs HB hb; have n5_ := Aside0.mk (hbox); have n6_ := sz HB hg; have n7_ := sz HB hg; have n8_ := nl BK177 hg; have n9_ := nr BK177 hg; have n10_ := nl BK178 hg; have n11_ := nr BK178 hg; have n12_ := nl BK184 hg; have n13_ := nr BK184 hg; have n14_ := nl BK187 hg; have n15_ := nr BK187 hg; clear BK177; clear BK178; clear BK184; clear BK187; clear HB; have BK177 := n0_; have BK178 := n1_; have BK184 := n2_; have BK187 := n3_; have HB := n4_; have BK190 := n5_; have GW190 := n6_; have GE190 := n7_; have NB177_190 := n8_; have NB190_177 := n9_; have NB178_190 := n10_; have NB190_178 := n11_; have NB184_190 := n12_; have NB190_184 := n13_; have NB187_190 := n14_; have NB190_187 := n15_; clear n0_ n1_ n2_ n3_ n4_ n5_ n6_ n7_ n8_ n9_ n10_ n11_ n12_ n13_ n14_ n15_; clear hb hbox hg; have hnb119 := NB190_177.out; have hnc119 := NB177_190.out; have hnb120 := NB190_178.out; have hnc120 := NB178_190.out; have hnb121 := NB190_184.out; have hnc121 := NB184_190.out; have hnb122 := NB190_187.out; have hnc122 := NB187_190.out; obtain ⟨hcz123_0, hcz123_1, hfz123_0, hfz123_1⟩ := bc2 BK190; have hnb124 := NB177_184.out; have hnc124 := NB184_177.out; obtain ⟨hcz125_0, hcz125_1, hfz125_0, hfz125_1⟩ := bc2 BK177; obtain ⟨hcz126_0, hcz126_1, hfz126_0, hfz126_1⟩ := bc2 BK178) | ((with_reducible refine gate_callee (f := 19) rfl ?_); refine gm (some 89) Try.func19 #[.agg #[.int .u64 a0_0, .int .u64 a0_1], .agg #[.int .u64 a1_0, .int .u64 a1_1]] (sat_Wide_Plus.calls a0_0 a0_1 a1_0 a1_1 t191 t192 _ A67.out) ?_; intro w127 hb; have n0_ := bb BK177 hb; have n1_ := bb BK178 hb; have n2_ := bb BK184 hb; have n3_ := bb BK187 hb; have n4_ := bbp (.cells #[.int .u64 t188, .int .u64 t189] 24 (0, 0)) BK190 hb; have n5_ := bs HB hb; clear BK177; clear BK178; clear BK184; clear BK187; clear BK190; clear HB; have BK177 := n0_; have BK178 := n1_; have BK184 := n2_; have BK187 := n3_; have BK190 := n4_; have HB := n5_; clear n0_ n1_ n2_ n3_ n4_ n5_; (try clear hb); (try clear hb2); (try clear hk); (try clear hi)) | ((with_reducible refine gate_dst (N := 10) rfl ?_); refine bx 10 #[.int .u64 0, .int .u64 0] 24 ?_; intro gb193 hg w128 hbox hb; have n0_ := bb BK177 hb; have n1_ := bb BK178 hb; have n2_ := bb BK184 hb; have n3_ := bb BK187 hb; have n4_ := bb BK190 hb; have n5_ := bs HB hb; have n6_ := Aside0.mk (hbox); have n7_ := sz HB hg; have n8_ := sz HB hg; have n9_ := nl BK177 hg; have n10_ := nr BK177 hg; have n11_ := nl BK178 hg; have n12_ := nr BK178 hg; have n13_ := nl BK184 hg; have n14_ := nr BK184 hg; have n15_ := nl BK187 hg; have n16_ := nr BK187 hg; have n17_ := nl BK190 hg; have n18_ := nr BK190 hg; clear BK177; clear BK178; clear BK184; clear BK187; clear BK190; clear HB; have BK177 := n0_; have BK178 := n1_; have BK184 := n2_; have BK187 := n3_; have BK190 := n4_; have HB := n5_; have BK193 := n6_; have GW193 := n7_; have GE193 := n8_; have NB177_193 := n9_; have NB193_177 := n10_; have NB178_193 := n11_; have NB193_178 := n12_; have NB184_193 := n13_; have NB193_184 := n14_; have NB187_193 := n15_; have NB193_187 := n16_; have NB190_193 := n17_; have NB193_190 := n18_; clear n0_ n1_ n2_ n3_ n4_ n5_ n6_ n7_ n8_ n9_ n10_ n11_ n12_ n13_ n14_ n15_ n16_ n17_ n18_; clear hb hbox hg; have hnb129 := NB193_177.out; have hnc129 := NB177_193.out; have hnb130 := NB193_178.out; have hnc130 := NB178_193.out; have hnb131 := NB193_184.out; have hnc131 := NB184_193.out; have hnb132 := NB193_187.out; have hnc132 := NB187_193.out; have hnb133 := NB193_190.out; have hnc133 := NB190_193.out; obtain ⟨hcz134_0, hcz134_1, hfz134_0, hfz134_1⟩ := bc2 BK193))
                        have n0_ : Aside0 (((w128.setCell ⟨gb193, 0, none⟩ (.int .u64 t191)).setCell ⟨gb193, 1, none⟩ (.int .u64 t192)).heap[gb177]? = some (.cells #[.int .u64 a0_0, .int .u64 a0_1] 24 (0, 0))) := ⟨bk BK177⟩
                        have n1_ : Aside0 (((w128.setCell ⟨gb193, 0, none⟩ (.int .u64 t191)).setCell ⟨gb193, 1, none⟩ (.int .u64 t192)).heap[gb178]? = some (.cells #[.int .u64 a1_0, .int .u64 a1_1] 24 (0, 0))) := ⟨bk BK178⟩
                        have n2_ : Aside0 (((w128.setCell ⟨gb193, 0, none⟩ (.int .u64 t191)).setCell ⟨gb193, 1, none⟩ (.int .u64 t192)).heap[gb184]? = some (.cells #[.int .u64 t182, .int .u64 t183] 24 (0, 0))) := ⟨bk BK184⟩
                        have n3_ : Aside0 (((w128.setCell ⟨gb193, 0, none⟩ (.int .u64 t191)).setCell ⟨gb193, 1, none⟩ (.int .u64 t192)).heap[gb187]? = some (.cells #[.int .u64 18446744073709551615, .int .u64 18446744073709551615] 24 (0, 0))) := ⟨bk BK187⟩
                        have n4_ : Aside0 (((w128.setCell ⟨gb193, 0, none⟩ (.int .u64 t191)).setCell ⟨gb193, 1, none⟩ (.int .u64 t192)).heap[gb190]? = some (.cells #[.int .u64 t188, .int .u64 t189] 24 (0, 0))) := ⟨bk BK190⟩
                        have n5_ : Aside0 (((w128.setCell ⟨gb193, 0, none⟩ (.int .u64 t191)).setCell ⟨gb193, 1, none⟩ (.int .u64 t192)).heap[gb193]? = some (.cells #[.int .u64 t191, .int .u64 t192] 24 (0, 0))) := ⟨bk BK193⟩
                        have n6_ : Aside0 (Below w.heap.size w ((w128.setCell ⟨gb193, 0, none⟩ (.int .u64 t191)).setCell ⟨gb193, 1, none⟩ (.int .u64 t192))) := ⟨bw HB⟩
                        (try clear BK177)
                        (try clear BK178)
                        (try clear BK184)
                        (try clear BK187)
                        (try clear BK190)
                        (try clear BK193)
                        (try clear HB)
                        generalize ((w128.setCell ⟨gb193, 0, none⟩ (.int .u64 t191)).setCell ⟨gb193, 1, none⟩ (.int .u64 t192)) = w135 at n0_ n1_ n2_ n3_ n4_ n5_ n6_ ⊢
                        have BK177 := n0_
                        have BK178 := n1_
                        have BK184 := n2_
                        have BK187 := n3_
                        have BK190 := n4_
                        have BK193 := n5_
                        have HB := n6_
                        clear n0_ n1_ n2_ n3_ n4_ n5_ n6_
                        have n0_ := Aside0.mk (blk_drew BK177.out)
                        have n1_ := Aside0.mk (blk_drew BK178.out)
                        have n2_ := Aside0.mk (blk_drew BK184.out)
                        have n3_ := Aside0.mk (blk_drew BK187.out)
                        have n4_ := Aside0.mk (blk_drew BK190.out)
                        have n5_ := Aside0.mk (blk_drew BK193.out)
                        have n6_ := Aside0.mk (below_drew1 HB.out)
                        clear BK177
                        clear BK178
                        clear BK184
                        clear BK187
                        clear BK190
                        clear BK193
                        clear HB
                        have BK177 := n0_
                        have BK178 := n1_
                        have BK184 := n2_
                        have BK187 := n3_
                        have BK190 := n4_
                        have BK193 := n5_
                        have HB := n6_
                        clear n0_ n1_ n2_ n3_ n4_ n5_ n6_
                        refine start_ (n := 21) (S := fun w' => w'.cell? ⟨gb193, 0, none⟩ = some (.int .u64 t191) ∧ w'.cell? ⟨gb193, 1, none⟩ = some (.int .u64 t192) ∧ w'.cell? ⟨gb187, 0, none⟩ = some (.int .u64 18446744073709551615) ∧ w'.cell? ⟨gb187, 1, none⟩ = some (.int .u64 18446744073709551615) ∧ w'.cell? ⟨gb177, 0, none⟩ = some (.int .u64 a0_0) ∧ w'.cell? ⟨gb177, 1, none⟩ = some (.int .u64 a0_1) ∧ w'.cell? ⟨gb190, 0, none⟩ = some (.int .u64 t188) ∧ w'.cell? ⟨gb190, 1, none⟩ = some (.int .u64 t189) ∧ w'.cell? ⟨gb178, 0, none⟩ = some (.int .u64 a1_0) ∧ w'.cell? ⟨gb178, 1, none⟩ = some (.int .u64 a1_1)) (ds := []) #[false, false, false, false, false, false, false, false, false, false, false, false, false, false, false, false, false, false, false, false, false] (by kernel_rfl) rfl rfl ⟨(blk_cell BK193.out 0).trans rfl, (blk_cell BK193.out 1).trans rfl, (blk_cell BK187.out 0).trans rfl, (blk_cell BK187.out 1).trans rfl, (blk_cell BK177.out 0).trans rfl, (blk_cell BK177.out 1).trans rfl, (blk_cell BK190.out 0).trans rfl, (blk_cell BK190.out 1).trans rfl, (blk_cell BK178.out 0).trans rfl, (blk_cell BK178.out 1).trans rfl⟩ (fun hHeld => ?_); refine with_tabW turnstilelaw03_SatOrder.tab13 turnstilelaw03_SatOrder.bits13 (fun HT_ HW_ => ?_)
                        generalize w135.drew = w136 at BK177 BK178 BK184 BK187 BK190 BK193 HB hHeld ⊢
                        refine chain_ (fuel := 16) [(0, 1, some 90), (1, 1, some 91), (2, 0, some 92), (3, 1, some 93), (4, 1, some 94)] #[true, true, true, true, true, false, false, false, false, false, false, false, false, false, false, false, false, false, false, false, false] HT_.out HW_.out (by kernel_rfl) (fun _ _ _ _ _ h => h) (Or.inr hHeld) rfl ?_
                        (iterate 2 refine lkT ?_); refine lkP ?_; (iterate 2 refine lkT ?_); refine .nil ?_
                        refine one_ (i := 5) (N := some 95) #[true, true, true, true, true, true, false, false, false, false, false, false, false, false, false, false, false, false, false, false, false] rfl rfl (one_of HT_.out (by kernel_rfl)) (by decide) (fun K hK => ?_)
                        refine ge Try.func21 #[.agg #[.int .u64 a0_0, .int .u64 a0_1], .agg #[.int .u64 t188, .int .u64 t189]] ?_
                        with_reducible refine (sat_Wide_Cmp.calls a0_0 a0_1 t188 t189 t194 _ A68.out).mono ?_
                        rintro e w137 ⟨rfl, hb⟩
                        refine ⟨_, rfl, ?_⟩
                        have n0_ := bb BK177 hb
                        have n1_ := bb BK178 hb
                        have n2_ := bb BK184 hb
                        have n3_ := bb BK187 hb
                        have n4_ := bb BK190 hb
                        have n5_ := bb BK193 hb
                        have n6_ := bs HB hb
                        clear BK177
                        clear BK178
                        clear BK184
                        clear BK187
                        clear BK190
                        clear BK193
                        clear HB
                        have BK177 := n0_
                        have BK178 := n1_
                        have BK184 := n2_
                        have BK187 := n3_
                        have BK190 := n4_
                        have BK193 := n5_
                        have HB := n6_
                        clear n0_ n1_ n2_ n3_ n4_ n5_ n6_
                        (try clear hb)
                        (try clear hb2)
                        (try clear hk)
                        (try clear hi)
                        refine hK.out _ _ ⟨(blk_cell BK193.out 0).trans rfl, (blk_cell BK193.out 1).trans rfl, (blk_cell BK187.out 0).trans rfl, (blk_cell BK187.out 1).trans rfl, (blk_cell BK177.out 0).trans rfl, (blk_cell BK177.out 1).trans rfl, (blk_cell BK190.out 0).trans rfl, (blk_cell BK190.out 1).trans rfl, (blk_cell BK178.out 0).trans rfl, (blk_cell BK178.out 1).trans rfl⟩ (fun hHeld => ?_)
                        clear hK K
                        refine norm_ (a' := ?_) ?_ ?_
                        rotate_left
                        · show Act.put _ (some 95) _ = _
                          simp only [Act.put, List.setIfInBounds_toArray, List.set_cons_zero, List.set_cons_succ, i64_w, i32_w]
                          rfl
                        refine chain_ (fuel := 5) [(6, 0, some 96), (7, 0, some 97), (8, 0, some 98), (9, 1, some 99), (10, 1, some 100), (11, 0, some 101), (12, 0, some 102), (13, 1, some 103), (14, 1, some 104), (16, 1, some 106)] #[true, true, true, true, true, true, true, true, true, true, true, true, true, true, true, false, true, false, false, false, false] HT_.out HW_.out (by kernel_rfl) (fun _ _ _ _ _ h => h) (Or.inr hHeld) rfl ?_
                        (iterate 3 refine lkP ?_); (iterate 2 refine lkT ?_); (iterate 2 refine lkP ?_); (iterate 3 refine lkT ?_); refine .nil ?_
                        refine one_ (i := 15) (N := some 105) #[true, true, true, true, true, true, true, true, true, true, true, true, true, true, true, true, true, false, false, false, false] rfl rfl (one_of HT_.out (by kernel_rfl)) (by decide) (fun K hK => ?_)
                        refine ge Try.func22 #[.agg #[.int .u64 t191, .int .u64 t192], .agg #[.int .u64 a0_0, .int .u64 a0_1]] ?_
                        with_reducible refine (sat_Wide_Minus.calls t191 t192 a0_0 a0_1 t195 t196 _ A108.out).mono ?_
                        rintro e w138 ⟨rfl, hb⟩
                        refine ⟨_, rfl, ?_⟩
                        have n0_ := bb BK177 hb
                        have n1_ := bb BK178 hb
                        have n2_ := bb BK184 hb
                        have n3_ := bb BK187 hb
                        have n4_ := bb BK190 hb
                        have n5_ := bb BK193 hb
                        have n6_ := bs HB hb
                        clear BK177
                        clear BK178
                        clear BK184
                        clear BK187
                        clear BK190
                        clear BK193
                        clear HB
                        have BK177 := n0_
                        have BK178 := n1_
                        have BK184 := n2_
                        have BK187 := n3_
                        have BK190 := n4_
                        have BK193 := n5_
                        have HB := n6_
                        clear n0_ n1_ n2_ n3_ n4_ n5_ n6_
                        (try clear hb)
                        (try clear hb2)
                        (try clear hk)
                        (try clear hi)
                        refine hK.out _ _ ⟨(blk_cell BK193.out 0).trans rfl, (blk_cell BK193.out 1).trans rfl, (blk_cell BK187.out 0).trans rfl, (blk_cell BK187.out 1).trans rfl, (blk_cell BK177.out 0).trans rfl, (blk_cell BK177.out 1).trans rfl, (blk_cell BK190.out 0).trans rfl, (blk_cell BK190.out 1).trans rfl, (blk_cell BK178.out 0).trans rfl, (blk_cell BK178.out 1).trans rfl⟩ (fun hHeld => ?_)
                        clear hK K
                        refine norm_ (a' := ?_) ?_ ?_
                        rotate_left
                        · show Act.put _ (some 105) _ = _
                          simp only [Act.put, List.setIfInBounds_toArray, List.set_cons_zero, List.set_cons_succ, i64_w, i32_w]
                          rfl
                        refine chain_ (fuel := 0) [(17, 0, some 107), (18, 0, some 108), (19, 0, some 109), (20, 0, some 4)] #[true, true, true, true, true, true, true, true, true, true, true, true, true, true, true, true, true, true, true, true, true] HT_.out HW_.out (by kernel_rfl) (fun _ _ _ _ _ h => h) (Or.inl (by decide)) rfl ?_
                        (iterate 4 refine lkP ?_); refine .nil ?_
                        refine done_ (done_of HT_.out (by kernel_rfl)) ?_
                        try go_wp2
                        go_ret
                        exact ⟨re, bw HB⟩
                    · rw [if_neg c69] at H
                      have c69b0 : ((t191 == 18446744073709551615 && (t192 == 18446744073709551615)) == (decide (t194 ≥ 0))) = false := by simpa using c69
                      (try (have c69b1 : decide ((t191 == 18446744073709551615 && (t192 == 18446744073709551615)) = (decide (t194 ≥ 0))) = false := by simpa using c69))
                      (try (have c69b2 : ((t191 == 18446744073709551615 && (t192 == 18446744073709551615)) == (decide (t194 ≥ 0))) = false := by simpa using c69))
                      (try (have c69b3 : ¬ ((t191 == 18446744073709551615 && (t192 == 18446744073709551615)) = (decide (t194 ≥ 0))) := by simpa using c69))
                      clear c69
                      obtain rfl := Option.some.inj H
                      try go_wp2_with (first | ((with_reducible refine gate_dst (N := 8) rfl ?_); refine bx 8 #[.int .u64 0, .int .u64 0] 24 ?_; intro gb187 hg w139 hbox hb; have n0_ := bb BK177 hb; have n1_ := bb BK178 hb; have n2_ := bb BK184 hb; have n3_ := bs HB hb; have n4_ := Aside0.mk (hbox); have n5_ := sz HB hg; have n6_ := sz HB hg; have n7_ := nl BK177 hg; have n8_ := nr BK177 hg; have n9_ := nl BK178 hg; have n10_ := nr BK178 hg; have n11_ := nl BK184 hg; have n12_ := nr BK184 hg; clear BK177; clear BK178; clear BK184; clear HB; have BK177 := n0_; have BK178 := n1_; have BK184 := n2_; have HB := n3_; have BK187 := n4_; have GW187 := n5_; have GE187 := n6_; have NB177_187 := n7_; have NB187_177 := n8_; have NB178_187 := n9_; have NB187_178 := n10_; have NB184_187 := n11_; have NB187_184 := n12_; clear n0_ n1_ n2_ n3_ n4_ n5_ n6_ n7_ n8_ n9_ n10_ n11_ n12_; clear hb hbox hg; have hnb140 := NB187_177.out; have hnc140 := NB177_187.out; have hnb141 := NB187_178.out; have hnc141 := NB178_187.out; have hnb142 := NB187_184.out; have hnc142 := NB184_187.out; obtain ⟨hcz143_0, hcz143_1, hfz143_0, hfz143_1⟩ := bc2 BK187; have hnb144 := NB178_177.out; have hnc144 := NB177_178.out; have hnb145 := NB178_184.out; have hnc145 := NB184_178.out; obtain ⟨hcz146_0, hcz146_1, hfz146_0, hfz146_1⟩ := bc2 BK178) | ((with_reducible refine gate_callee (f := 22) rfl ?_); refine gm (some 86) Try.func22 #[.agg #[.int .u64 18446744073709551615, .int .u64 18446744073709551615], .agg #[.int .u64 a1_0, .int .u64 a1_1]] (sat_Wide_Minus.calls 18446744073709551615 18446744073709551615 a1_0 a1_1 t188 t189 _ A66.out) ?_; intro w147 hb; have n0_ := bb BK177 hb; have n1_ := bb BK178 hb; have n2_ := bb BK184 hb; have n3_ := bbp (.cells #[.int .u64 18446744073709551615, .int .u64 18446744073709551615] 24 (0, 0)) BK187 hb; have n4_ := bs HB hb; clear BK177; clear BK178; clear BK184; clear BK187; clear HB; have BK177 := n0_; have BK178 := n1_; have BK184 := n2_; have BK187 := n3_; have HB := n4_; clear n0_ n1_ n2_ n3_ n4_; (try clear hb); (try clear hb2); (try clear hk); (try clear hi)) | ((with_reducible refine gate_dst (N := 9) rfl ?_); refine bx 9 #[.int .u64 0, .int .u64 0] 24 ?_; intro gb190 hg w148 hbox hb; have n0_ := bb BK177 hb; have n1_ := bb BK178 hb; have n2_ := bb BK184 hb; have n3_ := bb BK187 hb; have n4_ := bs HB hb; have n5_ := Aside0.mk (hbox); have n6_ := sz HB hg; have n7_ := sz HB hg; have n8_ := nl BK177 hg; have n9_ := nr BK177 hg; have n10_ := nl BK178 hg; have n11_ := nr BK178 hg; have n12_ := nl BK184 hg; have n13_ := nr BK184 hg; have n14_ := nl BK187 hg; have n15_ := nr BK187 hg; clear BK177; clear BK178; clear BK184; clear BK187; clear HB; have BK177 := n0_; have BK178 := n1_; have BK184 := n2_; have BK187 := n3_; have HB := n4_; have BK190 := n5_; have GW190 := n6_; have GE190 := n7_; have NB177_190 := n8_; have NB190_177 := n9_; have NB178_190 := n10_; have NB190_178 := n11_; have NB184_190 := n12_; have NB190_184 := n13_; have NB187_190 := n14_; have NB190_187 := n15_; clear n0_ n1_ n2_ n3_ n4_ n5_ n6_ n7_ n8_ n9_ n10_ n11_ n12_ n13_ n14_ n15_; clear hb hbox hg; have hnb149 := NB190_177.out; have hnc149 := NB177_190.out; have hnb150 := NB190_178.out; have hnc150 := NB178_190.out; have hnb151 := NB190_184.out; have hnc151 := NB184_190.out; have hnb152 := NB190_187.out; have hnc152 := NB187_190.out; obtain ⟨hcz153_0, hcz153_1, hfz153_0, hfz153_1⟩ := bc2 BK190; have hnb154 := NB177_184.out; have hnc154 := NB184_177.out; obtain ⟨hcz155_0, hcz155_1, hfz155_0, hfz155_1⟩ := bc2 BK177; obtain ⟨hcz156_0, hcz156_1, hfz156_0, hfz156_1⟩ := bc2 BK178) | ((with_reducible refine gate_callee (f := 19) rfl ?_); refine gm (some 89) Try.func19 #[.agg #[.int .u64 a0_0, .int .u64 a0_1], .agg #[.int .u64 a1_0, .int .u64 a1_1]] (sat_Wide_Plus.calls a0_0 a0_1 a1_0 a1_1 t191 t192 _ A67.out) ?_; intro w157 hb; have n0_ := bb BK177 hb; have n1_ := bb BK178 hb; have n2_ := bb BK184 hb; have n3_ := bb BK187 hb; have n4_ := bbp (.cells #[.int .u64 t188, .int .u64 t189] 24 (0, 0)) BK190 hb; have n5_ := bs HB hb; clear BK177; clear BK178; clear BK184; clear BK187; clear BK190; clear HB; have BK177 := n0_; have BK178 := n1_; have BK184 := n2_; have BK187 := n3_; have BK190 := n4_; have HB := n5_; clear n0_ n1_ n2_ n3_ n4_ n5_; (try clear hb); (try clear hb2); (try clear hk); (try clear hi)) | ((with_reducible refine gate_dst (N := 10) rfl ?_); refine bx 10 #[.int .u64 0, .int .u64 0] 24 ?_; intro gb193 hg w158 hbox hb; have n0_ := bb BK177 hb; have n1_ := bb BK178 hb; have n2_ := bb BK184 hb; have n3_ := bb BK187 hb; have n4_ := bb BK190 hb; have n5_ := bs HB hb; have n6_ := Aside0.mk (hbox); have n7_ := sz HB hg; have n8_ := sz HB hg; have n9_ := nl BK177 hg; have n10_ := nr BK177 hg; have n11_ := nl BK178 hg; have n12_ := nr BK178 hg; have n13_ := nl BK184 hg; have n14_ := nr BK184 hg; have n15_ := nl BK187 hg; have n16_ := nr BK187 hg; have n17_ := nl BK190 hg; have n18_ := nr BK190 hg; clear BK177; clear BK178; clear BK184; clear BK187; clear BK190; clear HB; have BK177 := n0_; have BK178 := n1_; have BK184 := n2_; have BK187 := n3_; have BK190 := n4_; have HB := n5_; have BK193 := n6_; have GW193 := n7_; have GE193 := n8_; have NB177_193 := n9_; have NB193_177 := n10_; have NB178_193 := n11_; have NB193_178 := n12_; have NB184_193 := n13_; have NB193_184 := n14_; have NB187_193 := n15_; have NB193_187 := n16_; have NB190_193 := n17_; have NB193_190 := n18_; clear n0_ n1_ n2_ n3_ n4_ n5_ n6_ n7_ n8_ n9_ n10_ n11_ n12_ n13_ n14_ n15_ n16_ n17_ n18_; clear hb hbox hg; have hnb159 := NB193_177.out; have hnc159 := NB177_193.out; have hnb160 := NB193_178.out; have hnc160 := NB178_193.out; have hnb161 := NB193_184.out; have hnc161 := NB184_193.out; have hnb162 := NB193_187.out; have hnc162 := NB187_193.out; have hnb163 := NB193_190.out; have hnc163 := NB190_193.out; obtain ⟨hcz164_0, hcz164_1, hfz164_0, hfz164_1⟩ := bc2 BK193))
                      have n0_ : Aside0 (((w158.setCell ⟨gb193, 0, none⟩ (.int .u64 t191)).setCell ⟨gb193, 1, none⟩ (.int .u64 t192)).heap[gb177]? = some (.cells #[.int .u64 a0_0, .int .u64 a0_1] 24 (0, 0))) := ⟨bk BK177⟩
                      have n1_ : Aside0 (((w158.setCell ⟨gb193, 0, none⟩ (.int .u64 t191)).setCell ⟨gb193, 1, none⟩ (.int .u64 t192)).heap[gb178]? = some (.cells #[.int .u64 a1_0, .int .u64 a1_1] 24 (0, 0))) := ⟨bk BK178⟩
                      have n2_ : Aside0 (((w158.setCell ⟨gb193, 0, none⟩ (.int .u64 t191)).setCell ⟨gb193, 1, none⟩ (.int .u64 t192)).heap[gb184]? = some (.cells #[.int .u64 t182, .int .u64 t183] 24 (0, 0))) := ⟨bk BK184⟩
                      have n3_ : Aside0 (((w158.setCell ⟨gb193, 0, none⟩ (.int .u64 t191)).setCell ⟨gb193, 1, none⟩ (.int .u64 t192)).heap[gb187]? = some (.cells #[.int .u64 18446744073709551615, .int .u64 18446744073709551615] 24 (0, 0))) := ⟨bk BK187⟩
                      have n4_ : Aside0 (((w158.setCell ⟨gb193, 0, none⟩ (.int .u64 t191)).setCell ⟨gb193, 1, none⟩ (.int .u64 t192)).heap[gb190]? = some (.cells #[.int .u64 t188, .int .u64 t189] 24 (0, 0))) := ⟨bk BK190⟩
                      have n5_ : Aside0 (((w158.setCell ⟨gb193, 0, none⟩ (.int .u64 t191)).setCell ⟨gb193, 1, none⟩ (.int .u64 t192)).heap[gb193]? = some (.cells #[.int .u64 t191, .int .u64 t192] 24 (0, 0))) := ⟨bk BK193⟩
                      have n6_ : Aside0 (Below w.heap.size w ((w158.setCell ⟨gb193, 0, none⟩ (.int .u64 t191)).setCell ⟨gb193, 1, none⟩ (.int .u64 t192))) := ⟨bw HB⟩
                      (try clear BK177)
                      (try clear BK178)
                      (try clear BK184)
                      (try clear BK187)
                      (try clear BK190)
                      (try clear BK193)
                      (try clear HB)
                      generalize ((w158.setCell ⟨gb193, 0, none⟩ (.int .u64 t191)).setCell ⟨gb193, 1, none⟩ (.int .u64 t192)) = w165 at n0_ n1_ n2_ n3_ n4_ n5_ n6_ ⊢
                      have BK177 := n0_
                      have BK178 := n1_
                      have BK184 := n2_
                      have BK187 := n3_
                      have BK190 := n4_
                      have BK193 := n5_
                      have HB := n6_
                      clear n0_ n1_ n2_ n3_ n4_ n5_ n6_
                      have n0_ := Aside0.mk (blk_drew BK177.out)
                      have n1_ := Aside0.mk (blk_drew BK178.out)
                      have n2_ := Aside0.mk (blk_drew BK184.out)
                      have n3_ := Aside0.mk (blk_drew BK187.out)
                      have n4_ := Aside0.mk (blk_drew BK190.out)
                      have n5_ := Aside0.mk (blk_drew BK193.out)
                      have n6_ := Aside0.mk (below_drew1 HB.out)
                      clear BK177
                      clear BK178
                      clear BK184
                      clear BK187
                      clear BK190
                      clear BK193
                      clear HB
                      have BK177 := n0_
                      have BK178 := n1_
                      have BK184 := n2_
                      have BK187 := n3_
                      have BK190 := n4_
                      have BK193 := n5_
                      have HB := n6_
                      clear n0_ n1_ n2_ n3_ n4_ n5_ n6_
                      refine start_ (n := 21) (S := fun w' => w'.cell? ⟨gb193, 0, none⟩ = some (.int .u64 t191) ∧ w'.cell? ⟨gb193, 1, none⟩ = some (.int .u64 t192) ∧ w'.cell? ⟨gb187, 0, none⟩ = some (.int .u64 18446744073709551615) ∧ w'.cell? ⟨gb187, 1, none⟩ = some (.int .u64 18446744073709551615) ∧ w'.cell? ⟨gb177, 0, none⟩ = some (.int .u64 a0_0) ∧ w'.cell? ⟨gb177, 1, none⟩ = some (.int .u64 a0_1) ∧ w'.cell? ⟨gb190, 0, none⟩ = some (.int .u64 t188) ∧ w'.cell? ⟨gb190, 1, none⟩ = some (.int .u64 t189)) (ds := []) #[false, false, false, false, false, false, false, false, false, false, false, false, false, false, false, false, false, false, false, false, false] (by kernel_rfl) rfl rfl ⟨(blk_cell BK193.out 0).trans rfl, (blk_cell BK193.out 1).trans rfl, (blk_cell BK187.out 0).trans rfl, (blk_cell BK187.out 1).trans rfl, (blk_cell BK177.out 0).trans rfl, (blk_cell BK177.out 1).trans rfl, (blk_cell BK190.out 0).trans rfl, (blk_cell BK190.out 1).trans rfl⟩ (fun hHeld => ?_); refine with_tabW turnstilelaw03_SatOrder.tab13 turnstilelaw03_SatOrder.bits13 (fun HT_ HW_ => ?_)
                      generalize w165.drew = w166 at BK177 BK178 BK184 BK187 BK190 BK193 HB hHeld ⊢
                      refine chain_ (fuel := 16) [(0, 1, some 90), (1, 1, some 91), (2, 0, some 92), (3, 1, some 93), (4, 1, some 94)] #[true, true, true, true, true, false, false, false, false, false, false, false, false, false, false, false, false, false, false, false, false] HT_.out HW_.out (by kernel_rfl) (fun _ _ _ _ _ h => h) (Or.inr hHeld) rfl ?_
                      (iterate 2 refine lkT ?_); refine lkP ?_; (iterate 2 refine lkT ?_); refine .nil ?_
                      refine one_ (i := 5) (N := some 95) #[true, true, true, true, true, true, false, false, false, false, false, false, false, false, false, false, false, false, false, false, false] rfl rfl (one_of HT_.out (by kernel_rfl)) (by decide) (fun K hK => ?_)
                      refine ge Try.func21 #[.agg #[.int .u64 a0_0, .int .u64 a0_1], .agg #[.int .u64 t188, .int .u64 t189]] ?_
                      with_reducible refine (sat_Wide_Cmp.calls a0_0 a0_1 t188 t189 t194 _ A68.out).mono ?_
                      rintro e w167 ⟨rfl, hb⟩
                      refine ⟨_, rfl, ?_⟩
                      have n0_ := bb BK177 hb
                      have n1_ := bb BK178 hb
                      have n2_ := bb BK184 hb
                      have n3_ := bb BK187 hb
                      have n4_ := bb BK190 hb
                      have n5_ := bb BK193 hb
                      have n6_ := bs HB hb
                      clear BK177
                      clear BK178
                      clear BK184
                      clear BK187
                      clear BK190
                      clear BK193
                      clear HB
                      have BK177 := n0_
                      have BK178 := n1_
                      have BK184 := n2_
                      have BK187 := n3_
                      have BK190 := n4_
                      have BK193 := n5_
                      have HB := n6_
                      clear n0_ n1_ n2_ n3_ n4_ n5_ n6_
                      (try clear hb)
                      (try clear hb2)
                      (try clear hk)
                      (try clear hi)
                      refine hK.out _ _ ⟨(blk_cell BK193.out 0).trans rfl, (blk_cell BK193.out 1).trans rfl, (blk_cell BK187.out 0).trans rfl, (blk_cell BK187.out 1).trans rfl, (blk_cell BK177.out 0).trans rfl, (blk_cell BK177.out 1).trans rfl, (blk_cell BK190.out 0).trans rfl, (blk_cell BK190.out 1).trans rfl⟩ (fun hHeld => ?_)
                      clear hK K
                      refine norm_ (a' := ?_) ?_ ?_
                      rotate_left
                      · show Act.put _ (some 95) _ = _
                        simp only [Act.put, List.setIfInBounds_toArray, List.set_cons_zero, List.set_cons_succ, i64_w, i32_w]
                        rfl
                      refine chain_ (fuel := 0) [(6, 0, some 96), (7, 0, some 97), (8, 0, some 98), (9, 2, some 99), (10, 2, some 100), (11, 2, some 101), (12, 2, some 102), (13, 2, some 103), (14, 2, some 104), (15, 2, some 105), (16, 2, some 106), (17, 2, some 107), (18, 2, some 108), (19, 0, some 109), (20, 0, some 4)] #[true, true, true, true, true, true, true, true, true, true, true, true, true, true, true, true, true, true, true, true, true] HT_.out HW_.out (by kernel_rfl) (fun _ _ _ _ _ h => h) (Or.inl (by decide)) rfl ?_
                      (iterate 3 refine lkP ?_); (iterate 10 refine lkO ?_); (iterate 2 refine lkP ?_); refine .nil ?_
                      refine done_ (done_of HT_.out (by kernel_rfl)) ?_
                      try go_wp2
                      go_ret
                      exact ⟨re, bw HB⟩
  · replace c4 := Bool.eq_false_iff.mpr c4
    subst c4
    have H1 : (some false) = some r := by rw [if_neg (show ¬ (false = true) by decide)] at H; exact H
    clear H
    have H := H1
    clear H1
    obtain rfl := Option.some.inj H
    go_enter Try.func5, Try.ntmps5
    go_wp2_with (first | ((with_reducible refine gate_dst (N := 2) rfl ?_); refine bx 2 #[.int .u64 a0_0, .int .u64 a0_1] 24 ?_; intro gb177 hg w168 hbox hb; have n0_ := bs HB hb; have n1_ := Aside0.mk (hbox); have n2_ := sz HB hg; have n3_ := sz HB hg; clear HB; have HB := n0_; have BK177 := n1_; have GW177 := n2_; have GE177 := n3_; clear n0_ n1_ n2_ n3_; clear hb hbox hg) | ((with_reducible refine gate_dst (N := 3) rfl ?_); refine bx 3 #[.int .u64 a1_0, .int .u64 a1_1] 24 ?_; intro gb178 hg w169 hbox hb; have n0_ := bb BK177 hb; have n1_ := bs HB hb; have n2_ := Aside0.mk (hbox); have n3_ := sz HB hg; have n4_ := sz HB hg; have n5_ := nl BK177 hg; have n6_ := nr BK177 hg; clear BK177; clear HB; have BK177 := n0_; have HB := n1_; have BK178 := n2_; have GW178 := n3_; have GE178 := n4_; have NB177_178 := n5_; have NB178_177 := n6_; clear n0_ n1_ n2_ n3_ n4_ n5_ n6_; clear hb hbox hg) | ((with_reducible refine gate_callee (f := 15) rfl ?_); refine gm (some 11) Try.func15 #[] (turnstilelaw03_awake.calls k  false _ A3.out) ?_; intro w170 hb; have n0_ := bb BK177 hb; have n1_ := bb BK178 hb; have n2_ := bs HB hb; clear BK177; clear BK178; clear HB; have BK177 := n0_; have BK178 := n1_; have HB := n2_; clear n0_ n1_ n2_; (try clear hb); (try clear hb2); (try clear hk); (try clear hi)))
    go_ret
    exact ⟨re, bw HB⟩


end Go.Proofs.Ythnpgilknoiaaaa.Q
